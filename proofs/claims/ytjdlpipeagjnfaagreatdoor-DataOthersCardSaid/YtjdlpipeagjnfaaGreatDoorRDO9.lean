/- Pure models of functions of the program, and that its code does what they say: data Part, data Parts, data Stat, data List$1, api Node] at a closure. Written by a program. -/
import Derived.Test.YtjdlpipeagjnfaaGreatDoorRDO6
import Derived.Test.YtjdlpipeagjnfaaGreatDoorRDO7
import Derived.Test.YtjdlpipeagjnfaaGreatDoorRDOB
set_option maxRecDepth 20000
set_option maxHeartbeats 4000000
namespace Go.Proofs
open Go Go.Fhl
set_option linter.unusedVariables false
set_option linter.unusedSimpArgs false
noncomputable def M_data_Part (t0 : Str) (t1 : Int) : Option Str :=
  cond (((decide (t1 < 0)) || (decide (t1 ≥ 4))) || (decide ((t0.length : Int) > 128))) (some []) (Option.bind (M_data_noughts (w64 (128 - (t0.length : Int)))) fun (x2 : Str) => Option.bind (addS t0 x2) fun (x3 : Str) => Option.bind (slL x3 (w64 (t1 * 32)) (x3.length : Int)) fun (x4 : Str) => Option.bind (slL x4 0 32) fun (x5 : Str) => Option.bind (M_data_noughts 32) fun (x6 : Str) => cond (x5 != x6) (some x5) (some []))
theorem ok_data_Part (t0 : Str) (t1 : Int) (r : Str) (h : M_data_Part t0 t1 = some r) : FFn Tryz.prog 19 [(S t0), (I t1)] (S r) := by
  refine FFn.of_body (n := 32) Tryz.func19 rfl Tryz.ntmps19 rfl rfl rfl rfl ?_
  show AWp _ _ _ ⟨32, 0, [(0, (S t0)), (1, (I t1))], [], ⟨0, []⟩⟩
  unfold M_data_Part at h
  refine awp_seq ?_
  refine awr ?_
  refine ado rfl rfl rfl (eas (eV (v := (S [])) rfl)) ?_
  refine ake [0, 1] 0 0 (st' := ⟨32, 0, [(0, (S t0)), (1, (I t1))], [], ⟨0, []⟩⟩) (by kernel_rfl) (by kernel_rfl) ?_
  show AWp _ _ _ _
  refine awp_seq ?_
  refine awp_seq ?_
  refine awr ?_
  refine ado rfl rfl rfl (emv (eV (v := (I t1)) rfl)) ?_
  refine ado rfl rfl rfl (ex_bin (vx := (I t1)) (vy := (I 0)) rfl rfl lssI_ok) ?_
  refine ado rfl rfl rfl (emv (eV (v := (Bo (decide (t1 < 0)))) rfl)) ?_
  refine arun_guard (v := (I t1)) ((decide (t1 < 0)) == false) rfl rfl rfl (fun hc => emv (eV (v := (I t1)) rfl)) ?_
  refine arun_guard (v := (Bo (decide (t1 ≥ 4)))) ((decide (t1 < 0)) == false) rfl rfl rfl (fun hc => ex_bin (vx := (I t1)) (vy := (I 4)) (cond_of hc) rfl geqI_ok) ?_
  refine ado rfl rfl rfl (ex_pick rfl pkOr) ?_
  refine ado rfl rfl rfl (emv (eV (v := (Bo ((decide (t1 < 0)) || (decide (t1 ≥ 4))))) rfl)) ?_
  refine arun_guard (v := (S t0)) (((decide (t1 < 0)) || (decide (t1 ≥ 4))) == false) rfl rfl rfl (fun hc => emv (eV (v := (S t0)) rfl)) ?_
  refine arun_guard (v := (I (t0.length : Int))) (((decide (t1 < 0)) || (decide (t1 ≥ 4))) == false) rfl rfl rfl (fun hc => tx_lenS Tryz.underlying9 (cond_of hc)) ?_
  refine arun_guard (v := (Bo (decide ((t0.length : Int) > 128)))) (((decide (t1 < 0)) || (decide (t1 ≥ 4))) == false) rfl rfl rfl (fun hc => ex_bin (vx := (I (t0.length : Int))) (vy := (I 128)) (cond_of hc) rfl gtrI_ok) ?_
  refine ado rfl rfl rfl (ex_pick rfl pkOr) ?_
  refine ake [0, 1, 16] 0 0 (st' := ⟨32, 0, [(0, (S t0)), (1, (I t1)), (16, (Bo (((decide (t1 < 0)) || (decide (t1 ≥ 4))) || (decide ((t0.length : Int) > 128)))))], [], ⟨0, []⟩⟩) (by kernel_rfl) (by kernel_rfl) ?_
  show AWp _ _ _ _
  rcases Bool.eq_false_or_eq_true (((decide (t1 < 0)) || (decide (t1 ≥ 4))) || (decide ((t0.length : Int) > 128))) with hb1 | hb1
  · rw [condT hb1] at h
    refine awp_condT (boT hb1) ?_
    refine awp_seq ?_
    refine awr ?_
    refine ado rfl rfl rfl (eas (eV (v := (S [])) rfl)) ?_
    refine ake [4] 0 0 (st' := ⟨32, 0, [(4, (S []))], [], ⟨0, []⟩⟩) (by kernel_rfl) (by kernel_rfl) ?_
    show AWp _ _ _ _
    refine awp_ret ?_
    cases h
    exact ares1 (rtmp rfl (eV rfl))
  · rw [condF hb1] at h
    refine awp_condF (boF hb1) ?_
    refine awp_skip ?_
    show AWp _ _ _ _
    refine awp_seq ?_
    refine awr ?_
    refine ado rfl rfl rfl (emv (eV (v := (S t0)) rfl)) ?_
    refine ado rfl rfl rfl (emv (eV (v := (S t0)) rfl)) ?_
    refine ado rfl rfl rfl (tx_lenS Tryz.underlying9 rfl) ?_
    refine ado rfl rfl rfl (ex_bin (vx := (I 128)) (vy := (I (t0.length : Int))) rfl rfl subI_ok) ?_
    obtain ⟨x2, hx2, h⟩ := bindS h
    refine ado rfl rfl rfl (ex_call0 (vs := [(I (w64 (128 - (t0.length : Int))))]) (v := (S x2)) rfl en_26 (cargs (evs rfl evs_nil)) rfl (ok_data_noughts (w64 (128 - (t0.length : Int))) x2 hx2) rfl) ?_
    obtain ⟨x3, hx3, h⟩ := bindS h
    refine ado rfl rfl rfl (ex_bin (vx := (S t0)) (vy := (S x2)) rfl rfl (addS_ok hx3)) ?_
    refine ado rfl rfl rfl (eas (eV (v := (S x3)) rfl)) ?_
    refine ake [0, 1] 0 0 (st' := ⟨32, 0, [(0, (S x3)), (1, (I t1))], [], ⟨0, []⟩⟩) (by kernel_rfl) (by kernel_rfl) ?_
    show AWp _ _ _ _
    refine awp_seq ?_
    refine awp_seq ?_
    refine awr ?_
    refine ado rfl rfl rfl (emv (eV (v := (S x3)) rfl)) ?_
    refine ado rfl rfl rfl (emv (eV (v := (I t1)) rfl)) ?_
    refine ado rfl rfl rfl (ex_bin (vx := (I t1)) (vy := (I 32)) rfl rfl mulI_ok) ?_
    obtain ⟨x4, hx4, h⟩ := bindS h
    refine ado rfl rfl rfl (tx_slS (u := x3) Tryz.underlying9 rfl (loX (l := (w64 (t1 * 32))) rfl) hiN hx4) ?_
    obtain ⟨x5, hx5, h⟩ := bindS h
    refine ado rfl rfl rfl (tx_slS (u := x4) Tryz.underlying9 rfl lo0 (hiX (l := 32) rfl) hx5) ?_
    refine ado rfl rfl rfl (eas (eV (v := (S x5)) rfl)) ?_
    refine ake [5] 0 0 (st' := ⟨32, 0, [(5, (S x5))], [], ⟨0, []⟩⟩) (by kernel_rfl) (by kernel_rfl) ?_
    show AWp _ _ _ _
    refine awp_seq ?_
    refine awr ?_
    refine ado rfl rfl rfl (emv (eV (v := (S x5)) rfl)) ?_
    obtain ⟨x6, hx6, h⟩ := bindS h
    refine ado rfl rfl rfl (ex_call0 (vs := [(I 32)]) (v := (S x6)) rfl en_26 (cargs (evs rfl evs_nil)) rfl (ok_data_noughts 32 x6 hx6) rfl) ?_
    refine ado rfl rfl rfl (ex_bin (vx := (S x5)) (vy := (S x6)) rfl rfl neqS_ok) ?_
    refine ake [5, 30] 0 0 (st' := ⟨32, 0, [(5, (S x5)), (30, (Bo (x5 != x6)))], [], ⟨0, []⟩⟩) (by kernel_rfl) (by kernel_rfl) ?_
    show AWp _ _ _ _
    rcases Bool.eq_false_or_eq_true (x5 != x6) with hb7 | hb7
    · rw [condT hb7] at h
      refine awp_condT (boT hb7) ?_
      refine awp_seq ?_
      refine awr ?_
      refine ado rfl rfl rfl (emv (eV (v := (S x5)) rfl)) ?_
      refine ado rfl rfl rfl (eas (eV (v := (S x5)) rfl)) ?_
      refine ake [4] 0 0 (st' := ⟨32, 0, [(4, (S x5))], [], ⟨0, []⟩⟩) (by kernel_rfl) (by kernel_rfl) ?_
      show AWp _ _ _ _
      refine awp_ret ?_
      cases h
      exact ares1 (rtmp rfl (eV rfl))
    · rw [condF hb7] at h
      refine awp_condF (boF hb7) ?_
      refine awp_skip ?_
      show AWp _ _ _ _
      refine awp_seq ?_
      refine awr ?_
      refine ado rfl rfl rfl (eas (eV (v := (S [])) rfl)) ?_
      refine ake [4] 0 0 (st' := ⟨32, 0, [(4, (S []))], [], ⟨0, []⟩⟩) (by kernel_rfl) (by kernel_rfl) ?_
      show AWp _ _ _ _
      refine awp_ret ?_
      cases h
      exact ares1 (rtmp rfl (eV rfl))

noncomputable def M_data_Parts_k1 (c_1 : (Int → Int → Option Int)) (t0 : Str) (v2 : Int) (y4 : Int) : Option Int :=
  c_1 y4 (w64 (v2 + 1))
noncomputable def M_data_Parts_l1 (t0 : Str) : Nat → Int → Int → Option Int
  | 0, _, _ => none
  | n1 + 1, v1, v2 =>
  cond (decide (v2 < 4)) (Option.bind (M_data_Part t0 v2) fun (x5 : Str) => cond (x5 != []) (M_data_Parts_k1 (M_data_Parts_l1 t0 n1) t0 v2 (w64 (v1 + 1))) (M_data_Parts_k1 (M_data_Parts_l1 t0 n1) t0 v2 v1)) (some v1)
noncomputable def M_data_Parts (t0 : Str) : Option Int :=
  M_data_Parts_l1 t0 fuel 0 0
theorem ok_data_Parts (t0 : Str) (r : Int) (h : M_data_Parts t0 = some r) : FFn Tryz.prog 18 [(S t0)] (I r) := by
  refine FFn.of_body (n := 16) Tryz.func18 rfl Tryz.ntmps18 rfl rfl rfl rfl ?_
  show AWp _ _ _ ⟨16, 0, [(0, (S t0))], [], ⟨0, []⟩⟩
  unfold M_data_Parts at h
  refine awp_seq ?_
  refine awr ?_
  refine ado rfl rfl rfl (eas (eV (v := (I 0)) rfl)) ?_
  refine ake [0] 0 0 (st' := ⟨16, 0, [(0, (S t0))], [], ⟨0, []⟩⟩) (by kernel_rfl) (by kernel_rfl) ?_
  show AWp _ _ _ _
  refine awp_seq ?_
  refine awr ?_
  refine ado rfl rfl rfl (eas (eV (v := (I 0)) rfl)) ?_
  refine ake [0, 3] 0 0 (st' := ⟨16, 0, [(0, (S t0)), (3, (I 0))], [], ⟨0, []⟩⟩) (by kernel_rfl) (by kernel_rfl) ?_
  show AWp _ _ _ _
  refine awp_seq ?_
  refine awp_seq ?_
  refine awr ?_
  refine ado rfl rfl rfl (emv (eV (v := (I 0)) rfl)) ?_
  refine ake [0, 3, 5] 0 0 (st' := ⟨16, 0, [(0, (S t0)), (3, (I 0)), (5, (I 0))], [], ⟨0, []⟩⟩) (by kernel_rfl) (by kernel_rfl) ?_
  show AWp _ _ _ _
  refine awp_block ?_
  refine awp_loop (fun n s => ∃ (v1 : Int) (v2 : Int), s = ⟨16, 0, [(0, (S t0)), (3, (I v1)), (5, (I v2))], [], ⟨0, []⟩⟩ ∧ M_data_Parts_l1 t0 n v1 v2 = some r) fuel (Exists.intro 0 (Exists.intro 0 (And.intro rfl h))) ?_
  rintro n s ⟨v1, v2, rfl, h⟩ -
  cases n with
  | zero => cases h
  | succ n1 =>
    unfold M_data_Parts_l1 at h
    refine awp_seq ?_
    refine awr ?_
    refine ado rfl rfl rfl (ex_bin (vx := (I v2)) (vy := (I 4)) rfl rfl lssI_ok) ?_
    refine ake [0, 3, 5, 6] 0 0 (st' := ⟨16, 0, [(0, (S t0)), (3, (I v1)), (5, (I v2)), (6, (Bo (decide (v2 < 4))))], [], ⟨0, []⟩⟩) (by kernel_rfl) (by kernel_rfl) ?_
    show AWp _ _ _ _
    refine awp_seq ?_
    rcases Bool.eq_false_or_eq_true (decide (v2 < 4)) with hb3 | hb3
    · rw [condT hb3] at h
      refine awp_condT (boT hb3) ?_
      refine awp_skip ?_
      show AWp _ _ _ _
      refine awp_seqJ (fun s => ∃ (y4 : Int), s = ⟨16, 0, [(0, (S t0)), (3, (I y4)), (5, (I v2))], [], ⟨0, []⟩⟩ ∧ M_data_Parts_k1 (M_data_Parts_l1 t0 n1) t0 v2 y4 = some r) ?_ ?_
      · refine awp_block ?_
        refine awp_seq ?_
        refine awr ?_
        refine ado rfl rfl rfl (emv (eV (v := (I v2)) rfl)) ?_
        refine ado rfl rfl rfl (eas (eV (v := (I v2)) rfl)) ?_
        refine ake [0, 3, 4, 5] 0 0 (st' := ⟨16, 0, [(0, (S t0)), (3, (I v1)), (4, (I v2)), (5, (I v2))], [], ⟨0, []⟩⟩) (by kernel_rfl) (by kernel_rfl) ?_
        show AWp _ _ _ _
        refine awp_seq ?_
        refine awr ?_
        refine ado rfl rfl rfl (emv (eV (v := (S t0)) rfl)) ?_
        refine ado rfl rfl rfl (emv (eV (v := (I v2)) rfl)) ?_
        obtain ⟨x5, hx5, h⟩ := bindS h
        refine ado rfl rfl rfl (ex_call0 (vs := [(S t0), (I v2)]) (v := (S x5)) rfl en_19 (cargs (evs rfl (evs rfl evs_nil))) rfl (ok_data_Part t0 v2 x5 hx5) rfl) ?_
        refine ado rfl rfl rfl (ex_bin (vx := (S x5)) (vy := (S [])) rfl rfl neqS_ok) ?_
        refine ake [0, 3, 5, 11] 0 0 (st' := ⟨16, 0, [(0, (S t0)), (3, (I v1)), (5, (I v2)), (11, (Bo (x5 != [])))], [], ⟨0, []⟩⟩) (by kernel_rfl) (by kernel_rfl) ?_
        show AWp _ _ _ _
        rcases Bool.eq_false_or_eq_true (x5 != []) with hb6 | hb6
        · rw [condT hb6] at h
          refine awp_condT (boT hb6) ?_
          refine awr ?_
          refine ado rfl rfl rfl (emv (eV (v := (I v1)) rfl)) ?_
          refine ado rfl rfl rfl (ex_bin (vx := (I v1)) (vy := (I 1)) rfl rfl addI_ok) ?_
          refine ado rfl rfl rfl (eas (eV (v := (I (w64 (v1 + 1)))) rfl)) ?_
          refine ake [0, 3, 5] 0 0 (st' := ⟨16, 0, [(0, (S t0)), (3, (I (w64 (v1 + 1)))), (5, (I v2))], [], ⟨0, []⟩⟩) (by kernel_rfl) (by kernel_rfl) ?_
          exact (Exists.intro (w64 (v1 + 1)) (And.intro rfl h))
        · rw [condF hb6] at h
          refine awp_condF (boF hb6) ?_
          refine awp_keepE [0, 3, 5] 0 0 (st' := ⟨16, 0, [(0, (S t0)), (3, (I v1)), (5, (I v2))], [], ⟨0, []⟩⟩) (by kernel_rfl) (by kernel_rfl) ?_
          refine awp_skip ?_
          exact (Exists.intro v1 (And.intro rfl h))
      · rintro s ⟨y4, rfl, h⟩
        unfold M_data_Parts_k1 at h
        refine awr ?_
        refine ado rfl rfl rfl (ex_bin (vx := (I v2)) (vy := (I 1)) rfl rfl addI_ok) ?_
        refine ado rfl rfl rfl (emv (eV (v := (I (w64 (v2 + 1)))) rfl)) ?_
        refine ake [0, 3, 5] 0 0 (st' := ⟨16, 0, [(0, (S t0)), (3, (I y4)), (5, (I (w64 (v2 + 1))))], [], ⟨0, []⟩⟩) (by kernel_rfl) (by kernel_rfl) ?_
        exact Exists.intro n1 (And.intro (Nat.lt_succ_self _) (Exists.intro y4 (Exists.intro (w64 (v2 + 1)) (And.intro rfl h))))
    · rw [condF hb3] at h
      refine awp_condF (boF hb3) ?_
      refine awp_exit ?_
      show AWp _ _ _ _
      refine awp_seq ?_
      refine awr ?_
      refine ado rfl rfl rfl (emv (eV (v := (I v1)) rfl)) ?_
      refine ado rfl rfl rfl (eas (eV (v := (I v1)) rfl)) ?_
      refine ake [2] 0 0 (st' := ⟨16, 0, [(2, (I v1))], [], ⟨0, []⟩⟩) (by kernel_rfl) (by kernel_rfl) ?_
      show AWp _ _ _ _
      refine awp_ret ?_
      cases h
      exact ares1 (rtmp rfl (eV rfl))

noncomputable def M_data_Stat_l1 (x1 : (G_data_file × Int)) : Nat → Int → Int → Option (G_api_Stat × Int)
  | 0, _, _ => none
  | n1 + 1, v4, v5 =>
  cond (decide (v5 < 4)) (Option.bind (shrI x1.1.Node.Bad v5) fun (x7 : Int) => (M_data_Stat_l1 x1 n1) (w64 (v4 + (andI x7 1))) (w64 (v5 + 1))) (some ((G_api_Stat.mk x1.1.n x1.1.Node.Kind (x1.1.Node.Body.length : Int) v4), 0))
noncomputable def M_data_Stat (t0 : (List G_api_Node)) (t1 : Str) : Option (G_api_Stat × Int) :=
  Option.bind (M_data_open t0 t1) fun (x1 : (G_data_file × Int)) => cond ((x1.2 != 0) && (x1.2 != 4)) (some ((G_api_Stat.mk 0 0 0 0), x1.2)) (Option.bind (M_data_Parts x1.1.Node.Body) fun (x3 : Int) => M_data_Stat_l1 x1 fuel x3 0)
theorem ok_data_Stat (t0 : (List G_api_Node)) (t1 : Str) (r : (G_api_Stat × Int)) (h : M_data_Stat t0 t1 = some r) : FFn Tryz.prog 16 [(SL 5 cNd t0), (S t1)] (Value.tuple #[(Value.agg (c_api_Stat r.1).toArray), (I r.2)]) := by
  refine FFn.of_body (n := 51) Tryz.func16 rfl Tryz.ntmps16 rfl rfl rfl rfl ?_
  show AWp _ _ _ ⟨51, 0, [(0, (SL 5 cNd t0)), (1, (S t1))], [], ⟨0, []⟩⟩
  unfold M_data_Stat at h
  refine awp_seq ?_
  refine awr ?_
  refine ado rfl rfl rfl (ex_alloc (k := 0) (zs := (c_api_Stat (G_api_Stat.mk 0 0 0 0))) (L' := [(c_api_Stat (G_api_Stat.mk 0 0 0 0))]) z_45 rfl rfl rfl rfl) ?_
  refine ado rfl rfl rfl (eas (eV (v := (I 0)) rfl)) ?_
  refine ake [0, 1, 4] 1 0 (st' := ⟨51, 0, [(0, (SL 5 cNd t0)), (1, (S t1)), (4, (LP 0 0))], [(c_api_Stat (G_api_Stat.mk 0 0 0 0))], ⟨0, []⟩⟩) (by kernel_rfl) (by kernel_rfl) ?_
  show AWp _ _ _ _
  refine awp_seq ?_
  refine awr ?_
  refine ado rfl rfl rfl (emv (eV (v := (SL 5 cNd t0)) rfl)) ?_
  refine ado rfl rfl rfl (emv (eV (v := (S t1)) rfl)) ?_
  obtain ⟨x1, hx1, h⟩ := bindS h
  refine ado rfl rfl rfl (ex_call0 (vs := [(SL 5 cNd t0), (S t1)]) (v := (Value.tuple #[(Value.agg (c_data_file x1.1).toArray), (I x1.2)])) rfl en_24 (cargs (evs rfl (evs rfl evs_nil))) rfl (ok_data_open t0 t1 x1 hx1) rfl) ?_
  refine ado rfl rfl rfl (emv (eV (v := (Value.tuple #[(Value.agg (c_data_file x1.1).toArray), (I x1.2)])) rfl)) ?_
  refine ado rfl rfl rfl (ex_extract (vx := (Value.tuple #[(Value.agg (c_data_file x1.1).toArray), (I x1.2)])) (v := (Value.agg (c_data_file x1.1).toArray)) rfl rfl) ?_
  refine ado rfl rfl rfl (ex_extract (vx := (Value.tuple #[(Value.agg (c_data_file x1.1).toArray), (I x1.2)])) (v := (I x1.2)) rfl rfl) ?_
  refine ado rfl rfl rfl (ex_alloc (k := 1) (zs := (c_data_file (G_data_file.mk (G_api_Node.mk 0 0 [] [] 0) 0))) (L' := [(c_api_Stat (G_api_Stat.mk 0 0 0 0)), (c_data_file (G_data_file.mk (G_api_Node.mk 0 0 [] [] 0) 0))]) z_61 rfl rfl rfl rfl) ?_
  refine arun_do0 rfl rfl (ex_storeL (vy := (Value.agg (c_data_file x1.1).toArray)) (cs := (c_data_file (G_data_file.mk (G_api_Node.mk 0 0 [] [] 0) 0))) (vs := (c_data_file x1.1)) (L' := [(c_api_Stat (G_api_Stat.mk 0 0 0 0)), (c_data_file x1.1)]) rfl (eV (v := (Value.agg (c_data_file x1.1).toArray)) rfl) rfl s_61 rfl (Nat.le_of_ble_eq_true rfl) (by kernel_rfl)) ?_
  refine ado rfl rfl rfl (eas (eV (v := (I x1.2)) rfl)) ?_
  refine ake [4, 6, 7] 2 0 (st' := ⟨51, 0, [(4, (LP 0 0)), (6, (LP 1 0)), (7, (I x1.2))], [(c_api_Stat (G_api_Stat.mk 0 0 0 0)), (c_data_file x1.1)], ⟨0, []⟩⟩) (by kernel_rfl) (by kernel_rfl) ?_
  show AWp _ _ _ _
  refine awp_seq ?_
  refine awp_seq ?_
  refine awr ?_
  refine ado rfl rfl rfl (emv (eV (v := (I x1.2)) rfl)) ?_
  refine ado rfl rfl rfl (ex_bin (vx := (I x1.2)) (vy := (I 0)) rfl rfl neqI_ok) ?_
  refine ado rfl rfl rfl (emv (eV (v := (Bo (x1.2 != 0))) rfl)) ?_
  refine arun_guard (v := (I x1.2)) ((x1.2 != 0) == true) rfl rfl rfl (fun hc => emv (eV (v := (I x1.2)) rfl)) ?_
  refine arun_guard (v := (Bo (x1.2 != 4))) ((x1.2 != 0) == true) rfl rfl rfl (fun hc => ex_bin (vx := (I x1.2)) (vy := (I 4)) (cond_of hc) rfl neqI_ok) ?_
  refine ado rfl rfl rfl (ex_pick rfl pkAnd) ?_
  refine ake [4, 6, 7, 21] 2 0 (st' := ⟨51, 0, [(4, (LP 0 0)), (6, (LP 1 0)), (7, (I x1.2)), (21, (Bo ((x1.2 != 0) && (x1.2 != 4))))], [(c_api_Stat (G_api_Stat.mk 0 0 0 0)), (c_data_file x1.1)], ⟨0, []⟩⟩) (by kernel_rfl) (by kernel_rfl) ?_
  show AWp _ _ _ _
  rcases Bool.eq_false_or_eq_true ((x1.2 != 0) && (x1.2 != 4)) with hb2 | hb2
  · rw [condT hb2] at h
    refine awp_condT (boT hb2) ?_
    refine awp_seq ?_
    refine awr ?_
    refine ado rfl rfl rfl (ex_build (qs := []) (v := (Value.agg (c_api_Stat (G_api_Stat.mk 0 0 0 0)).toArray)) evp_nil (by kernel_rfl)) ?_
    refine ado rfl rfl rfl (emv (eV (v := (I x1.2)) rfl)) ?_
    refine arun_do0 rfl rfl (ex_storeL (vy := (Value.agg (c_api_Stat (G_api_Stat.mk 0 0 0 0)).toArray)) (cs := (c_api_Stat (G_api_Stat.mk 0 0 0 0))) (vs := (c_api_Stat (G_api_Stat.mk 0 0 0 0))) (L' := [(c_api_Stat (G_api_Stat.mk 0 0 0 0)), (c_data_file x1.1)]) rfl (eV (v := (Value.agg (c_api_Stat (G_api_Stat.mk 0 0 0 0)).toArray)) rfl) rfl s_45 rfl (Nat.le_of_ble_eq_true rfl) (by kernel_rfl)) ?_
    refine ado rfl rfl rfl (eas (eV (v := (I x1.2)) rfl)) ?_
    refine ake [4, 5] 1 0 (st' := ⟨51, 0, [(4, (LP 0 0)), (5, (I x1.2))], [(c_api_Stat (G_api_Stat.mk 0 0 0 0))], ⟨0, []⟩⟩) (by kernel_rfl) (by kernel_rfl) ?_
    show AWp _ _ _ _
    refine awp_ret ?_
    cases h
    exact aresN rfl (L2.cons (rcellL rfl rfl rfl (partA Tryz.underlying45 rfl s_45 (by decide) (Nat.le_of_ble_eq_true rfl) rfl)) (L2.cons (rtmp rfl (eV rfl)) L2.nil)) rfl
  · rw [condF hb2] at h
    refine awp_condF (boF hb2) ?_
    refine awp_skip ?_
    show AWp _ _ _ _
    refine awp_seq ?_
    refine awr ?_
    refine ado rfl rfl rfl (ex_fieldAddr (v := (LP 1 0)) Tryz.underlying61 rfl s_38 (by decide) rfl rfl) ?_
    refine ado rfl rfl rfl (ex_fieldAddr (v := (LP 1 3)) Tryz.underlying38 rfl s_9 (by decide) rfl rfl) ?_
    refine ado rfl rfl rfl (tx_ldL1 (v := (S x1.1.Node.Body)) Tryz.underlying9 rfl rfl rfl rfl) ?_
    obtain ⟨x3, hx3, h⟩ := bindS h
    refine ado rfl rfl rfl (ex_call0 (vs := [(S x1.1.Node.Body)]) (v := (I x3)) rfl en_18 (cargs (evs rfl evs_nil)) rfl (ok_data_Parts x1.1.Node.Body x3 hx3) rfl) ?_
    refine ado rfl rfl rfl (eas (eV (v := (I x3)) rfl)) ?_
    refine ake [4, 6, 8] 2 0 (st' := ⟨51, 0, [(4, (LP 0 0)), (6, (LP 1 0)), (8, (I x3))], [(c_api_Stat (G_api_Stat.mk 0 0 0 0)), (c_data_file x1.1)], ⟨0, []⟩⟩) (by kernel_rfl) (by kernel_rfl) ?_
    show AWp _ _ _ _
    refine awp_seq ?_
    refine awp_seq ?_
    refine awr ?_
    refine ado rfl rfl rfl (emv (eV (v := (I 0)) rfl)) ?_
    refine ake [4, 6, 8, 28] 2 0 (st' := ⟨51, 0, [(4, (LP 0 0)), (6, (LP 1 0)), (8, (I x3)), (28, (I 0))], [(c_api_Stat (G_api_Stat.mk 0 0 0 0)), (c_data_file x1.1)], ⟨0, []⟩⟩) (by kernel_rfl) (by kernel_rfl) ?_
    show AWp _ _ _ _
    refine awp_block ?_
    refine awp_loop (fun n s => ∃ (v4 : Int) (v5 : Int), s = ⟨51, 0, [(4, (LP 0 0)), (6, (LP 1 0)), (8, (I v4)), (28, (I v5))], [(c_api_Stat (G_api_Stat.mk 0 0 0 0)), (c_data_file x1.1)], ⟨0, []⟩⟩ ∧ M_data_Stat_l1 x1 n v4 v5 = some r) fuel (Exists.intro x3 (Exists.intro 0 (And.intro rfl h))) ?_
    rintro n s ⟨v4, v5, rfl, h⟩ -
    cases n with
    | zero => cases h
    | succ n1 =>
      unfold M_data_Stat_l1 at h
      refine awp_seq ?_
      refine awr ?_
      refine ado rfl rfl rfl (ex_bin (vx := (I v5)) (vy := (I 4)) rfl rfl lssI_ok) ?_
      refine ake [4, 6, 8, 28, 29] 2 0 (st' := ⟨51, 0, [(4, (LP 0 0)), (6, (LP 1 0)), (8, (I v4)), (28, (I v5)), (29, (Bo (decide (v5 < 4))))], [(c_api_Stat (G_api_Stat.mk 0 0 0 0)), (c_data_file x1.1)], ⟨0, []⟩⟩) (by kernel_rfl) (by kernel_rfl) ?_
      show AWp _ _ _ _
      refine awp_seq ?_
      rcases Bool.eq_false_or_eq_true (decide (v5 < 4)) with hb6 | hb6
      · rw [condT hb6] at h
        refine awp_condT (boT hb6) ?_
        refine awp_skip ?_
        show AWp _ _ _ _
        refine awp_seq ?_
        refine awp_block ?_
        refine awp_seq ?_
        refine awr ?_
        refine ado rfl rfl rfl (emv (eV (v := (I v5)) rfl)) ?_
        refine ado rfl rfl rfl (eas (eV (v := (I v5)) rfl)) ?_
        refine ake [4, 6, 8, 9, 28] 2 0 (st' := ⟨51, 0, [(4, (LP 0 0)), (6, (LP 1 0)), (8, (I v4)), (9, (I v5)), (28, (I v5))], [(c_api_Stat (G_api_Stat.mk 0 0 0 0)), (c_data_file x1.1)], ⟨0, []⟩⟩) (by kernel_rfl) (by kernel_rfl) ?_
        show AWp _ _ _ _
        refine awr ?_
        refine ado rfl rfl rfl (emv (eV (v := (I v4)) rfl)) ?_
        refine ado rfl rfl rfl (ex_fieldAddr (v := (LP 1 0)) Tryz.underlying61 rfl s_38 (by decide) rfl rfl) ?_
        refine ado rfl rfl rfl (ex_fieldAddr (v := (LP 1 4)) Tryz.underlying38 rfl s_3 (by decide) rfl rfl) ?_
        refine ado rfl rfl rfl (tx_ldL1 (v := (I x1.1.Node.Bad)) Tryz.underlying3 rfl rfl rfl rfl) ?_
        refine ado rfl rfl rfl (emv (eV (v := (I v5)) rfl)) ?_
        obtain ⟨x7, hx7, h⟩ := bindS h
        refine ado rfl rfl rfl (ex_bin (vx := (I x1.1.Node.Bad)) (vy := (I v5)) rfl rfl (shrI_ok hx7)) ?_
        refine ado rfl rfl rfl (ex_bin (vx := (I x7)) (vy := (I 1)) rfl rfl andI_ok) ?_
        refine ado rfl rfl rfl (ex_bin (vx := (I v4)) (vy := (I (andI x7 1))) rfl rfl addI_ok) ?_
        refine ado rfl rfl rfl (eas (eV (v := (I (w64 (v4 + (andI x7 1))))) rfl)) ?_
        refine ake [4, 6, 8, 28] 2 0 (st' := ⟨51, 0, [(4, (LP 0 0)), (6, (LP 1 0)), (8, (I (w64 (v4 + (andI x7 1))))), (28, (I v5))], [(c_api_Stat (G_api_Stat.mk 0 0 0 0)), (c_data_file x1.1)], ⟨0, []⟩⟩) (by kernel_rfl) (by kernel_rfl) ?_
        show AWp _ _ _ _
        refine awr ?_
        refine ado rfl rfl rfl (ex_bin (vx := (I v5)) (vy := (I 1)) rfl rfl addI_ok) ?_
        refine ado rfl rfl rfl (emv (eV (v := (I (w64 (v5 + 1)))) rfl)) ?_
        refine ake [4, 6, 8, 28] 2 0 (st' := ⟨51, 0, [(4, (LP 0 0)), (6, (LP 1 0)), (8, (I (w64 (v4 + (andI x7 1))))), (28, (I (w64 (v5 + 1))))], [(c_api_Stat (G_api_Stat.mk 0 0 0 0)), (c_data_file x1.1)], ⟨0, []⟩⟩) (by kernel_rfl) (by kernel_rfl) ?_
        exact Exists.intro n1 (And.intro (Nat.lt_succ_self _) (Exists.intro (w64 (v4 + (andI x7 1))) (Exists.intro (w64 (v5 + 1)) (And.intro rfl h))))
      · rw [condF hb6] at h
        refine awp_condF (boF hb6) ?_
        refine awp_exit ?_
        show AWp _ _ _ _
        refine awp_seq ?_
        refine awr ?_
        refine ado rfl rfl rfl (ex_fieldAddr (v := (LP 1 5)) Tryz.underlying61 rfl s_3 (by decide) rfl rfl) ?_
        refine ado rfl rfl rfl (tx_ldL1 (v := (I x1.1.n)) Tryz.underlying3 rfl rfl rfl rfl) ?_
        refine ado rfl rfl rfl (ex_fieldAddr (v := (LP 1 0)) Tryz.underlying61 rfl s_38 (by decide) rfl rfl) ?_
        refine ado rfl rfl rfl (ex_fieldAddr (v := (LP 1 0)) Tryz.underlying38 rfl s_3 (by decide) rfl rfl) ?_
        refine ado rfl rfl rfl (tx_ldL1 (v := (I x1.1.Node.Kind)) Tryz.underlying3 rfl rfl rfl rfl) ?_
        refine ado rfl rfl rfl (ex_fieldAddr (v := (LP 1 0)) Tryz.underlying61 rfl s_38 (by decide) rfl rfl) ?_
        refine ado rfl rfl rfl (ex_fieldAddr (v := (LP 1 3)) Tryz.underlying38 rfl s_9 (by decide) rfl rfl) ?_
        refine ado rfl rfl rfl (tx_ldL1 (v := (S x1.1.Node.Body)) Tryz.underlying9 rfl rfl rfl rfl) ?_
        refine ado rfl rfl rfl (tx_lenS Tryz.underlying9 rfl) ?_
        refine ado rfl rfl rfl (emv (eV (v := (I v4)) rfl)) ?_
        refine ado rfl rfl rfl (ex_build (qs := [(0, (I x1.1.n)), (1, (I x1.1.Node.Kind)), (2, (I (x1.1.Node.Body.length : Int))), (3, (I v4))]) (v := (Value.agg (c_api_Stat (G_api_Stat.mk x1.1.n x1.1.Node.Kind (x1.1.Node.Body.length : Int) v4)).toArray)) (evp rfl (evp rfl (evp rfl (evp rfl evp_nil)))) (by kernel_rfl)) ?_
        refine arun_do0 rfl rfl (ex_storeL (vy := (Value.agg (c_api_Stat (G_api_Stat.mk x1.1.n x1.1.Node.Kind (x1.1.Node.Body.length : Int) v4)).toArray)) (cs := (c_api_Stat (G_api_Stat.mk 0 0 0 0))) (vs := (c_api_Stat (G_api_Stat.mk x1.1.n x1.1.Node.Kind (x1.1.Node.Body.length : Int) v4))) (L' := [(c_api_Stat (G_api_Stat.mk x1.1.n x1.1.Node.Kind (x1.1.Node.Body.length : Int) v4)), (c_data_file x1.1)]) rfl (eV (v := (Value.agg (c_api_Stat (G_api_Stat.mk x1.1.n x1.1.Node.Kind (x1.1.Node.Body.length : Int) v4)).toArray)) rfl) rfl s_45 rfl (Nat.le_of_ble_eq_true rfl) (by kernel_rfl)) ?_
        refine ado rfl rfl rfl (eas (eV (v := (I 0)) rfl)) ?_
        refine ake [4, 5] 1 0 (st' := ⟨51, 0, [(4, (LP 0 0)), (5, (I 0))], [(c_api_Stat (G_api_Stat.mk x1.1.n x1.1.Node.Kind (x1.1.Node.Body.length : Int) v4))], ⟨0, []⟩⟩) (by kernel_rfl) (by kernel_rfl) ?_
        show AWp _ _ _ _
        refine awp_ret ?_
        cases h
        exact aresN rfl (L2.cons (rcellL rfl rfl rfl (partA Tryz.underlying45 rfl s_45 (by decide) (Nat.le_of_ble_eq_true rfl) rfl)) (L2.cons (rtmp rfl (eV rfl)) L2.nil)) rfl

noncomputable def M_data_List_1 (t0 : G_api_Node) : Option Bool :=
  some (t0.Kind == 3)
theorem ok_data_List_1 (t0 : G_api_Node) (r : Bool) (h : M_data_List_1 t0 = some r) : FFn Tryz.prog 36 [(Value.agg (cNd t0).toArray)] (Bo r) := by
  refine FFn.of_body (n := 6) Tryz.func36 rfl Tryz.ntmps36 rfl rfl rfl rfl ?_
  show AWp _ _ _ ⟨6, 0, [(0, (Value.agg (cNd t0).toArray))], [], ⟨0, []⟩⟩
  unfold M_data_List_1 at h
  refine awp_seq ?_
  refine awr ?_
  refine ado rfl rfl rfl (ex_box (vx := (Value.agg (cNd t0).toArray)) (cs := (cNd t0)) (k := 0) (L' := [(cNd t0)]) (eV (v := (Value.agg (cNd t0).toArray)) rfl) rfl rfl rfl) ?_
  refine ado rfl rfl rfl (eas (eV (v := (Bo false)) rfl)) ?_
  refine ake [1] 1 0 (st' := ⟨6, 0, [(1, (LP 0 0))], [(cNd t0)], ⟨0, []⟩⟩) (by kernel_rfl) (by kernel_rfl) ?_
  show AWp _ _ _ _
  refine awp_seq ?_
  refine awr ?_
  refine ado rfl rfl rfl (ex_fieldAddr (v := (LP 0 0)) Tryz.underlying38 rfl s_3 (by decide) rfl rfl) ?_
  refine ado rfl rfl rfl (tx_ldL1 (v := (I t0.Kind)) Tryz.underlying3 rfl rfl rfl rfl) ?_
  refine ado rfl rfl rfl (ex_bin (vx := (I t0.Kind)) (vy := (I 3)) rfl rfl eqlI_ok) ?_
  refine ado rfl rfl rfl (eas (eV (v := (Bo (t0.Kind == 3))) rfl)) ?_
  refine ake [2] 0 0 (st' := ⟨6, 0, [(2, (Bo (t0.Kind == 3)))], [], ⟨0, []⟩⟩) (by kernel_rfl) (by kernel_rfl) ?_
  show AWp _ _ _ _
  refine awp_ret ?_
  cases h
  exact ares1 (rtmp rfl (eV rfl))

noncomputable def M_slices_IndexFunc_api_Set_api_Node_c36_l1 (t0 : (List G_api_Node)) : Nat → Int → Option Int
  | 0, _ => none
  | n1 + 1, v1 =>
  cond (decide (v1 < (t0.length : Int))) (Option.bind (getI t0 v1) fun (x3 : G_api_Node) => Option.bind (M_data_List_1 x3) fun (x4 : Bool) => cond x4 (some v1) ((M_slices_IndexFunc_api_Set_api_Node_c36_l1 t0 n1) (w64 (v1 + 1)))) (some (-1))
noncomputable def M_slices_IndexFunc_api_Set_api_Node_c36 (t0 : (List G_api_Node)) : Option Int :=
  M_slices_IndexFunc_api_Set_api_Node_c36_l1 t0 fuel 0
theorem ok_slices_IndexFunc_api_Set_api_Node_c36 (t0 : (List G_api_Node)) (r : Int) (h : M_slices_IndexFunc_api_Set_api_Node_c36 t0 = some r) : FFn Tryz.prog 48 [(SL 5 cNd t0), (Value.func (Fn.func 36) #[] #[])] (I r) := by
  refine FFn.of_body (n := 19) Tryz.func48 rfl Tryz.ntmps48 rfl rfl rfl rfl ?_
  show AWp _ _ _ ⟨19, 0, [(0, (SL 5 cNd t0)), (1, (Value.func (Fn.func 36) #[] #[]))], [], ⟨0, []⟩⟩
  unfold M_slices_IndexFunc_api_Set_api_Node_c36 at h
  refine awp_seq ?_
  refine awr ?_
  refine ado rfl rfl rfl (eas (eV (v := (I 0)) rfl)) ?_
  refine ake [0, 1] 0 0 (st' := ⟨19, 0, [(0, (SL 5 cNd t0)), (1, (Value.func (Fn.func 36) #[] #[]))], [], ⟨0, []⟩⟩) (by kernel_rfl) (by kernel_rfl) ?_
  show AWp _ _ _ _
  refine awp_seq ?_
  refine awp_seq ?_
  refine awr ?_
  refine ado rfl rfl rfl (emv (eV (v := (SL 5 cNd t0)) rfl)) ?_
  refine ado rfl rfl rfl (tx_lenD (xs := t0) ce_api_Node Tryz.underlying25 rfl) ?_
  refine ado rfl rfl rfl (emv (eV (v := (I 0)) rfl)) ?_
  refine ake [0, 1, 7, 8] 0 0 (st' := ⟨19, 0, [(0, (SL 5 cNd t0)), (1, (Value.func (Fn.func 36) #[] #[])), (7, (I (t0.length : Int))), (8, (I 0))], [], ⟨0, []⟩⟩) (by kernel_rfl) (by kernel_rfl) ?_
  show AWp _ _ _ _
  refine awp_block ?_
  refine awp_loop (fun n s => ∃ (v1 : Int), s = ⟨19, 0, [(0, (SL 5 cNd t0)), (1, (Value.func (Fn.func 36) #[] #[])), (7, (I (t0.length : Int))), (8, (I v1))], [], ⟨0, []⟩⟩ ∧ M_slices_IndexFunc_api_Set_api_Node_c36_l1 t0 n v1 = some r) fuel (Exists.intro 0 (And.intro rfl h)) ?_
  rintro n s ⟨v1, rfl, h⟩ -
  cases n with
  | zero => cases h
  | succ n1 =>
    unfold M_slices_IndexFunc_api_Set_api_Node_c36_l1 at h
    refine awp_seq ?_
    refine awr ?_
    refine ado rfl rfl rfl (ex_bin (vx := (I v1)) (vy := (I (t0.length : Int))) rfl rfl lssI_ok) ?_
    refine ake [0, 1, 7, 8, 9] 0 0 (st' := ⟨19, 0, [(0, (SL 5 cNd t0)), (1, (Value.func (Fn.func 36) #[] #[])), (7, (I (t0.length : Int))), (8, (I v1)), (9, (Bo (decide (v1 < (t0.length : Int)))))], [], ⟨0, []⟩⟩) (by kernel_rfl) (by kernel_rfl) ?_
    show AWp _ _ _ _
    refine awp_seq ?_
    rcases Bool.eq_false_or_eq_true (decide (v1 < (t0.length : Int))) with hb2 | hb2
    · rw [condT hb2] at h
      refine awp_condT (boT hb2) ?_
      refine awp_skip ?_
      show AWp _ _ _ _
      refine awp_seq ?_
      refine awp_block ?_
      refine awp_seq ?_
      refine awr ?_
      refine ado rfl rfl rfl (emv (eV (v := (I v1)) rfl)) ?_
      refine ado rfl rfl rfl (eas (eV (v := (I v1)) rfl)) ?_
      refine ake [0, 1, 5, 7, 8] 0 0 (st' := ⟨19, 0, [(0, (SL 5 cNd t0)), (1, (Value.func (Fn.func 36) #[] #[])), (5, (I v1)), (7, (I (t0.length : Int))), (8, (I v1))], [], ⟨0, []⟩⟩) (by kernel_rfl) (by kernel_rfl) ?_
      show AWp _ _ _ _
      refine awp_seq ?_
      refine awr ?_
      refine ado rfl rfl rfl (emv (eV (v := (Value.func (Fn.func 36) #[] #[])) rfl)) ?_
      refine ado rfl rfl rfl (emv (eV (v := (SL 5 cNd t0)) rfl)) ?_
      refine ado rfl rfl rfl (emv (eV (v := (I v1)) rfl)) ?_
      obtain ⟨x3, hx3, h⟩ := bindS h
      refine ado rfl rfl rfl (tx_idxD (c := cNd) (xs := t0) (i := v1) ce_api_Node Tryz.underlying25 s_38 rfl rfl hx3) ?_
      refine ado rfl rfl rfl (tx_ldDA (vs := (cNd x3)) Tryz.underlying38 rfl s_38 (by decide) rfl (Nat.le_of_ble_eq_true rfl) rfl) ?_
      obtain ⟨x4, hx4, h⟩ := bindS h
      refine ado rfl rfl rfl (ex_call0 (vs := [(Value.agg (cNd x3).toArray)]) (v := (Bo x4)) rfl en_36 (cargs (evs rfl evs_nil)) rfl (ok_data_List_1 x3 x4 hx4) rfl) ?_
      refine ake [0, 1, 5, 7, 8, 16] 0 0 (st' := ⟨19, 0, [(0, (SL 5 cNd t0)), (1, (Value.func (Fn.func 36) #[] #[])), (5, (I v1)), (7, (I (t0.length : Int))), (8, (I v1)), (16, (Bo x4))], [], ⟨0, []⟩⟩) (by kernel_rfl) (by kernel_rfl) ?_
      show AWp _ _ _ _
      rcases Bool.eq_false_or_eq_true x4 with hb5 | hb5
      · rw [condT hb5] at h
        refine awp_condT (boT hb5) ?_
        refine awp_seq ?_
        refine awr ?_
        refine ado rfl rfl rfl (emv (eV (v := (I v1)) rfl)) ?_
        refine ado rfl rfl rfl (eas (eV (v := (I v1)) rfl)) ?_
        refine ake [4] 0 0 (st' := ⟨19, 0, [(4, (I v1))], [], ⟨0, []⟩⟩) (by kernel_rfl) (by kernel_rfl) ?_
        show AWp _ _ _ _
        refine awp_ret ?_
        cases h
        exact ares1 (rtmp rfl (eV rfl))
      · rw [condF hb5] at h
        refine awp_condF (boF hb5) ?_
        refine awp_skip ?_
        show AWp _ _ _ _
        refine awr ?_
        refine ado rfl rfl rfl (ex_bin (vx := (I v1)) (vy := (I 1)) rfl rfl addI_ok) ?_
        refine ado rfl rfl rfl (emv (eV (v := (I (w64 (v1 + 1)))) rfl)) ?_
        refine ake [0, 1, 7, 8] 0 0 (st' := ⟨19, 0, [(0, (SL 5 cNd t0)), (1, (Value.func (Fn.func 36) #[] #[])), (7, (I (t0.length : Int))), (8, (I (w64 (v1 + 1))))], [], ⟨0, []⟩⟩) (by kernel_rfl) (by kernel_rfl) ?_
        exact Exists.intro n1 (And.intro (Nat.lt_succ_self _) (Exists.intro (w64 (v1 + 1)) (And.intro rfl h)))
    · rw [condF hb2] at h
      refine awp_condF (boF hb2) ?_
      refine awp_exit ?_
      show AWp _ _ _ _
      refine awp_seq ?_
      refine awr ?_
      refine ado rfl rfl rfl (eas (eV (v := (I (-1))) rfl)) ?_
      refine ake [4] 0 0 (st' := ⟨19, 0, [(4, (I (-1)))], [], ⟨0, []⟩⟩) (by kernel_rfl) (by kernel_rfl) ?_
      show AWp _ _ _ _
      refine awp_ret ?_
      cases h
      exact ares1 (rtmp rfl (eV rfl))

end Go.Proofs
