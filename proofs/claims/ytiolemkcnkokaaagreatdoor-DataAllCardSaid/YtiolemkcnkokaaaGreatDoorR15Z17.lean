/- Pure models of functions of the program, and that its code does what they say: palimpref11 Count, palimpref11 Stat, palimpref11 List. Written by a program. -/
import Derived.Test.YtiolemkcnkokaaaGreatDoorR15Z0
import Derived.Test.YtiolemkcnkokaaaGreatDoorR15Z1
import Derived.Test.YtiolemkcnkokaaaGreatDoorR15Z13
import Derived.Test.YtiolemkcnkokaaaGreatDoorR15Z16
import Derived.Test.YtiolemkcnkokaaaGreatDoorR15ZB
set_option maxRecDepth 20000
set_option maxHeartbeats 4000000
namespace Go.Proofs
open Go Go.Fhl
set_option linter.unusedVariables false
set_option linter.unusedSimpArgs false
noncomputable def M_ref11_Count_k1 (c_1 : (Int → Int → Option Int)) (t0 : Str) (v2 : Int) (y4 : Int) : Option Int :=
  c_1 y4 (w64 (v2 + 1))
noncomputable def M_ref11_Count_l1 (t0 : Str) : Nat → Int → Int → Option Int
  | 0, _, _ => none
  | n1 + 1, v1, v2 =>
  cond (decide (v2 < 4)) (Option.bind (M_ref11_Part t0 v2) fun (x5 : Str) => cond (x5 != []) (M_ref11_Count_k1 (M_ref11_Count_l1 t0 n1) t0 v2 (w64 (v1 + 1))) (M_ref11_Count_k1 (M_ref11_Count_l1 t0 n1) t0 v2 v1)) (some v1)
noncomputable def M_ref11_Count (t0 : Str) : Option Int :=
  M_ref11_Count_l1 t0 fuel 0 0
theorem ok_ref11_Count (t0 : Str) (r : Int) (h : M_ref11_Count t0 = some r) : FFn Tryz.prog 27 [(S t0)] (I r) := by
  refine FFn.of_body (n := 16) Tryz.func27 rfl Tryz.ntmps27 rfl rfl rfl rfl ?_
  show AWp _ _ _ ⟨16, 0, [(0, (S t0))], [], ⟨0, []⟩⟩
  unfold M_ref11_Count at h
  refine awp_seq ?_
  refine awr ?_
  refine ado rfl rfl rfl (eas (eV (v := (I 0)) rfl)) ?_
  refine ake [0] 0 0 (st' := ⟨16, 0, [(0, (S t0))], [], ⟨0, []⟩⟩) (by kernel_rfl) (by kernel_rfl) ?_
  show AWp _ _ _ _
  refine awp_seq ?_
  refine awr ?_
  refine ado rfl rfl rfl (eas (eV (v := (I 0)) rfl)) ?_
  refine ake [0, 3] 0 0 (st' := ⟨16, 0, [(0, (S t0)), (3, (I 0))], [], ⟨0, []⟩⟩) (by kernel_rfl) (by kernel_rfl) ?_
  show AWp _ _ _ _
  refine awp_seq ?_
  refine awp_seq ?_
  refine awr ?_
  refine ado rfl rfl rfl (eas (eV (v := (I 0)) rfl)) ?_
  refine ake [0, 3, 4] 0 0 (st' := ⟨16, 0, [(0, (S t0)), (3, (I 0)), (4, (I 0))], [], ⟨0, []⟩⟩) (by kernel_rfl) (by kernel_rfl) ?_
  show AWp _ _ _ _
  refine awp_block ?_
  refine awp_loop (fun n s => ∃ (v1 : Int) (v2 : Int), s = ⟨16, 0, [(0, (S t0)), (3, (I v1)), (4, (I v2))], [], ⟨0, []⟩⟩ ∧ M_ref11_Count_l1 t0 n v1 v2 = some r) fuel (Exists.intro 0 (Exists.intro 0 (And.intro rfl h))) ?_
  rintro n s ⟨v1, v2, rfl, h⟩ -
  cases n with
  | zero => cases h
  | succ n1 =>
    unfold M_ref11_Count_l1 at h
    refine awp_seq ?_
    refine awp_seq ?_
    refine awr ?_
    refine ado rfl rfl rfl (emv (eV (v := (I v2)) rfl)) ?_
    refine ado rfl rfl rfl (ex_bin (vx := (I v2)) (vy := (I 4)) rfl rfl lssI_ok) ?_
    refine ake [0, 3, 4, 6] 0 0 (st' := ⟨16, 0, [(0, (S t0)), (3, (I v1)), (4, (I v2)), (6, (Bo (decide (v2 < 4))))], [], ⟨0, []⟩⟩) (by kernel_rfl) (by kernel_rfl) ?_
    show AWp _ _ _ _
    rcases Bool.eq_false_or_eq_true (decide (v2 < 4)) with hb3 | hb3
    · rw [condT hb3] at h
      refine awp_condT (boT hb3) ?_
      refine awp_skip ?_
      show AWp _ _ _ _
      refine awp_seqJ (fun s => ∃ (y4 : Int), s = ⟨16, 0, [(0, (S t0)), (3, (I y4)), (4, (I v2))], [], ⟨0, []⟩⟩ ∧ M_ref11_Count_k1 (M_ref11_Count_l1 t0 n1) t0 v2 y4 = some r) ?_ ?_
      · refine awp_block ?_
        refine awp_seq ?_
        refine awr ?_
        refine ado rfl rfl rfl (emv (eV (v := (S t0)) rfl)) ?_
        refine ado rfl rfl rfl (emv (eV (v := (I v2)) rfl)) ?_
        obtain ⟨x5, hx5, h⟩ := bindS h
        refine ado rfl rfl rfl (ex_call0 (vs := [(S t0), (I v2)]) (v := (S x5)) rfl en_25 (cargs (evs rfl (evs rfl evs_nil))) rfl (ok_ref11_Part t0 v2 x5 hx5) rfl) ?_
        refine ado rfl rfl rfl (ex_bin (vx := (S x5)) (vy := (S [])) rfl rfl neqS_ok) ?_
        refine ake [0, 3, 4, 12] 0 0 (st' := ⟨16, 0, [(0, (S t0)), (3, (I v1)), (4, (I v2)), (12, (Bo (x5 != [])))], [], ⟨0, []⟩⟩) (by kernel_rfl) (by kernel_rfl) ?_
        show AWp _ _ _ _
        rcases Bool.eq_false_or_eq_true (x5 != []) with hb6 | hb6
        · rw [condT hb6] at h
          refine awp_condT (boT hb6) ?_
          refine awr ?_
          refine ado rfl rfl rfl (emv (eV (v := (I v1)) rfl)) ?_
          refine ado rfl rfl rfl (ex_bin (vx := (I v1)) (vy := (I 1)) rfl rfl addI_ok) ?_
          refine ado rfl rfl rfl (eas (eV (v := (I (w64 (v1 + 1)))) rfl)) ?_
          refine ake [0, 3, 4] 0 0 (st' := ⟨16, 0, [(0, (S t0)), (3, (I (w64 (v1 + 1)))), (4, (I v2))], [], ⟨0, []⟩⟩) (by kernel_rfl) (by kernel_rfl) ?_
          exact (Exists.intro (w64 (v1 + 1)) (And.intro rfl h))
        · rw [condF hb6] at h
          refine awp_condF (boF hb6) ?_
          refine awp_keepE [0, 3, 4] 0 0 (st' := ⟨16, 0, [(0, (S t0)), (3, (I v1)), (4, (I v2))], [], ⟨0, []⟩⟩) (by kernel_rfl) (by kernel_rfl) ?_
          refine awp_skip ?_
          exact (Exists.intro v1 (And.intro rfl h))
      · rintro s ⟨y4, rfl, h⟩
        unfold M_ref11_Count_k1 at h
        refine awr ?_
        refine ado rfl rfl rfl (emv (eV (v := (I v2)) rfl)) ?_
        refine ado rfl rfl rfl (ex_bin (vx := (I v2)) (vy := (I 1)) rfl rfl addI_ok) ?_
        refine ado rfl rfl rfl (eas (eV (v := (I (w64 (v2 + 1)))) rfl)) ?_
        refine ake [0, 3, 4] 0 0 (st' := ⟨16, 0, [(0, (S t0)), (3, (I y4)), (4, (I (w64 (v2 + 1))))], [], ⟨0, []⟩⟩) (by kernel_rfl) (by kernel_rfl) ?_
        exact Exists.intro n1 (And.intro (Nat.lt_succ_self _) (Exists.intro y4 (Exists.intro (w64 (v2 + 1)) (And.intro rfl h))))
    · rw [condF hb3] at h
      refine awp_condF (boF hb3) ?_
      refine awp_exit ?_
      show AWp _ _ _ _
      refine awp_seq ?_
      refine awr ?_
      refine ado rfl rfl rfl (emv (eV (v := (I v1)) rfl)) ?_
      refine ado rfl rfl rfl (eas (eV (v := (I v1)) rfl)) ?_
      refine ake [2] 0 0 (st' := ⟨16, 0, [(2, (I v1))], [], ⟨0, []⟩⟩) (by kernel_rfl) (by kernel_rfl) ?_
      show AWp _ _ _ _
      refine awp_ret ?_
      cases h
      exact ares1 (rtmp rfl (eV rfl))

noncomputable def M_ref11_Stat_l1 (t0 : (List G_api_Node)) (x1 : (Int × Int)) : Nat → Int → Int → Option (G_api_Stat × Int)
  | 0, _, _ => none
  | n1 + 1, v5, v6 =>
  cond (decide (v6 < 4)) (Option.bind (getI t0 x1.1) fun (x8 : G_api_Node) => Option.bind (shrI x8.Bad v6) fun (x9 : Int) => (M_ref11_Stat_l1 t0 x1 n1) (w64 (v5 + (andI x9 1))) (w64 (v6 + 1))) (Option.bind (getI t0 x1.1) fun (x10 : G_api_Node) => Option.bind (getI t0 x1.1) fun (x11 : G_api_Node) => some ((G_api_Stat.mk x1.1 x10.Kind (x11.Body.length : Int) v5), 0))
noncomputable def M_ref11_Stat (t0 : (List G_api_Node)) (t1 : Str) : Option (G_api_Stat × Int) :=
  Option.bind (M_ref11_Find t0 t1) fun (x1 : (Int × Int)) => cond (x1.2 != 0) (some ((G_api_Stat.mk 0 0 0 0), x1.2)) (Option.bind (getI t0 x1.1) fun (x3 : G_api_Node) => Option.bind (M_ref11_Count x3.Body) fun (x4 : Int) => M_ref11_Stat_l1 t0 x1 fuel x4 0)
theorem ok_ref11_Stat (t0 : (List G_api_Node)) (t1 : Str) (r : (G_api_Stat × Int)) (h : M_ref11_Stat t0 t1 = some r) : FFn Tryz.prog 20 [(SL 5 cNd t0), (S t1)] (Value.tuple #[(Value.agg (c_api_Stat r.1).toArray), (I r.2)]) := by
  refine FFn.of_body (n := 54) Tryz.func20 rfl Tryz.ntmps20 rfl rfl rfl rfl ?_
  show AWp _ _ _ ⟨54, 0, [(0, (SL 5 cNd t0)), (1, (S t1))], [], ⟨0, []⟩⟩
  unfold M_ref11_Stat at h
  refine awp_seq ?_
  refine awr ?_
  refine ado rfl rfl rfl (ex_alloc (k := 0) (zs := (c_api_Stat (G_api_Stat.mk 0 0 0 0))) (L' := [(c_api_Stat (G_api_Stat.mk 0 0 0 0))]) z_42 rfl rfl rfl rfl) ?_
  refine ado rfl rfl rfl (eas (eV (v := (I 0)) rfl)) ?_
  refine ake [0, 1, 4] 1 0 (st' := ⟨54, 0, [(0, (SL 5 cNd t0)), (1, (S t1)), (4, (LP 0 0))], [(c_api_Stat (G_api_Stat.mk 0 0 0 0))], ⟨0, []⟩⟩) (by kernel_rfl) (by kernel_rfl) ?_
  show AWp _ _ _ _
  refine awp_seq ?_
  refine awr ?_
  refine ado rfl rfl rfl (emv (eV (v := (SL 5 cNd t0)) rfl)) ?_
  refine ado rfl rfl rfl (emv (eV (v := (S t1)) rfl)) ?_
  obtain ⟨x1, hx1, h⟩ := bindS h
  refine ado rfl rfl rfl (ex_call0 (vs := [(SL 5 cNd t0), (S t1)]) (v := (Value.tuple #[(I x1.1), (I x1.2)])) rfl en_28 (cargs (evs rfl (evs rfl evs_nil))) rfl (ok_ref11_Find t0 t1 x1 hx1) rfl) ?_
  refine ado rfl rfl rfl (emv (eV (v := (Value.tuple #[(I x1.1), (I x1.2)])) rfl)) ?_
  refine ado rfl rfl rfl (ex_extract (vx := (Value.tuple #[(I x1.1), (I x1.2)])) (v := (I x1.1)) rfl rfl) ?_
  refine ado rfl rfl rfl (ex_extract (vx := (Value.tuple #[(I x1.1), (I x1.2)])) (v := (I x1.2)) rfl rfl) ?_
  refine ado rfl rfl rfl (eas (eV (v := (I x1.1)) rfl)) ?_
  refine ado rfl rfl rfl (eas (eV (v := (I x1.2)) rfl)) ?_
  refine ake [0, 4, 6, 7] 1 0 (st' := ⟨54, 0, [(0, (SL 5 cNd t0)), (4, (LP 0 0)), (6, (I x1.1)), (7, (I x1.2))], [(c_api_Stat (G_api_Stat.mk 0 0 0 0))], ⟨0, []⟩⟩) (by kernel_rfl) (by kernel_rfl) ?_
  show AWp _ _ _ _
  refine awp_seq ?_
  refine awp_seq ?_
  refine awr ?_
  refine ado rfl rfl rfl (emv (eV (v := (I x1.2)) rfl)) ?_
  refine ado rfl rfl rfl (ex_bin (vx := (I x1.2)) (vy := (I 0)) rfl rfl neqI_ok) ?_
  refine ake [0, 4, 6, 7, 17] 1 0 (st' := ⟨54, 0, [(0, (SL 5 cNd t0)), (4, (LP 0 0)), (6, (I x1.1)), (7, (I x1.2)), (17, (Bo (x1.2 != 0)))], [(c_api_Stat (G_api_Stat.mk 0 0 0 0))], ⟨0, []⟩⟩) (by kernel_rfl) (by kernel_rfl) ?_
  show AWp _ _ _ _
  rcases Bool.eq_false_or_eq_true (x1.2 != 0) with hb2 | hb2
  · rw [condT hb2] at h
    refine awp_condT (boT hb2) ?_
    refine awp_seq ?_
    refine awr ?_
    refine ado rfl rfl rfl (ex_build (qs := []) (v := (Value.agg (c_api_Stat (G_api_Stat.mk 0 0 0 0)).toArray)) evp_nil (by kernel_rfl)) ?_
    refine ado rfl rfl rfl (emv (eV (v := (I x1.2)) rfl)) ?_
    refine arun_do0 rfl rfl (ex_storeL (vy := (Value.agg (c_api_Stat (G_api_Stat.mk 0 0 0 0)).toArray)) (cs := (c_api_Stat (G_api_Stat.mk 0 0 0 0))) (vs := (c_api_Stat (G_api_Stat.mk 0 0 0 0))) (L' := [(c_api_Stat (G_api_Stat.mk 0 0 0 0))]) rfl (eV (v := (Value.agg (c_api_Stat (G_api_Stat.mk 0 0 0 0)).toArray)) rfl) rfl s_42 rfl (Nat.le_of_ble_eq_true rfl) (by kernel_rfl)) ?_
    refine ado rfl rfl rfl (eas (eV (v := (I x1.2)) rfl)) ?_
    refine ake [4, 5] 1 0 (st' := ⟨54, 0, [(4, (LP 0 0)), (5, (I x1.2))], [(c_api_Stat (G_api_Stat.mk 0 0 0 0))], ⟨0, []⟩⟩) (by kernel_rfl) (by kernel_rfl) ?_
    show AWp _ _ _ _
    refine awp_ret ?_
    cases h
    exact aresN rfl (L2.cons (rcellL rfl rfl rfl (partA Tryz.underlying42 rfl s_42 (by decide) (Nat.le_of_ble_eq_true rfl) rfl)) (L2.cons (rtmp rfl (eV rfl)) L2.nil)) rfl
  · rw [condF hb2] at h
    refine awp_condF (boF hb2) ?_
    refine awp_skip ?_
    show AWp _ _ _ _
    refine awp_seq ?_
    refine awr ?_
    refine ado rfl rfl rfl (emv (eV (v := (SL 5 cNd t0)) rfl)) ?_
    refine ado rfl rfl rfl (emv (eV (v := (I x1.1)) rfl)) ?_
    obtain ⟨x3, hx3, h⟩ := bindS h
    refine ado rfl rfl rfl (tx_idxD (c := cNd) (xs := t0) (i := x1.1) ce_api_Node Tryz.underlying25 s_54 rfl rfl hx3) ?_
    refine ado rfl rfl rfl (ex_fieldAddrD (vs := (List.drop 3 (cNd x3))) Tryz.underlying54 rfl s_9 (by decide) rfl rfl) ?_
    refine ado rfl rfl rfl (tx_ldD1 (v := (S x3.Body)) Tryz.underlying9 rfl rfl rfl) ?_
    obtain ⟨x4, hx4, h⟩ := bindS h
    refine ado rfl rfl rfl (ex_call0 (vs := [(S x3.Body)]) (v := (I x4)) rfl en_27 (cargs (evs rfl evs_nil)) rfl (ok_ref11_Count x3.Body x4 hx4) rfl) ?_
    refine ado rfl rfl rfl (eas (eV (v := (I x4)) rfl)) ?_
    refine ake [0, 4, 6, 8] 1 0 (st' := ⟨54, 0, [(0, (SL 5 cNd t0)), (4, (LP 0 0)), (6, (I x1.1)), (8, (I x4))], [(c_api_Stat (G_api_Stat.mk 0 0 0 0))], ⟨0, []⟩⟩) (by kernel_rfl) (by kernel_rfl) ?_
    show AWp _ _ _ _
    refine awp_seq ?_
    refine awp_seq ?_
    refine awr ?_
    refine ado rfl rfl rfl (eas (eV (v := (I 0)) rfl)) ?_
    refine ake [0, 4, 6, 8, 9] 1 0 (st' := ⟨54, 0, [(0, (SL 5 cNd t0)), (4, (LP 0 0)), (6, (I x1.1)), (8, (I x4)), (9, (I 0))], [(c_api_Stat (G_api_Stat.mk 0 0 0 0))], ⟨0, []⟩⟩) (by kernel_rfl) (by kernel_rfl) ?_
    show AWp _ _ _ _
    refine awp_block ?_
    refine awp_loop (fun n s => ∃ (v5 : Int) (v6 : Int), s = ⟨54, 0, [(0, (SL 5 cNd t0)), (4, (LP 0 0)), (6, (I x1.1)), (8, (I v5)), (9, (I v6))], [(c_api_Stat (G_api_Stat.mk 0 0 0 0))], ⟨0, []⟩⟩ ∧ M_ref11_Stat_l1 t0 x1 n v5 v6 = some r) fuel (Exists.intro x4 (Exists.intro 0 (And.intro rfl h))) ?_
    rintro n s ⟨v5, v6, rfl, h⟩ -
    cases n with
    | zero => cases h
    | succ n1 =>
      unfold M_ref11_Stat_l1 at h
      refine awp_seq ?_
      refine awp_seq ?_
      refine awr ?_
      refine ado rfl rfl rfl (emv (eV (v := (I v6)) rfl)) ?_
      refine ado rfl rfl rfl (ex_bin (vx := (I v6)) (vy := (I 4)) rfl rfl lssI_ok) ?_
      refine ake [0, 4, 6, 8, 9, 27] 1 0 (st' := ⟨54, 0, [(0, (SL 5 cNd t0)), (4, (LP 0 0)), (6, (I x1.1)), (8, (I v5)), (9, (I v6)), (27, (Bo (decide (v6 < 4))))], [(c_api_Stat (G_api_Stat.mk 0 0 0 0))], ⟨0, []⟩⟩) (by kernel_rfl) (by kernel_rfl) ?_
      show AWp _ _ _ _
      rcases Bool.eq_false_or_eq_true (decide (v6 < 4)) with hb7 | hb7
      · rw [condT hb7] at h
        refine awp_condT (boT hb7) ?_
        refine awp_skip ?_
        show AWp _ _ _ _
        refine awp_seq ?_
        refine awp_block ?_
        refine awr ?_
        refine ado rfl rfl rfl (emv (eV (v := (I v5)) rfl)) ?_
        refine ado rfl rfl rfl (emv (eV (v := (SL 5 cNd t0)) rfl)) ?_
        refine ado rfl rfl rfl (emv (eV (v := (I x1.1)) rfl)) ?_
        obtain ⟨x8, hx8, h⟩ := bindS h
        refine ado rfl rfl rfl (tx_idxD (c := cNd) (xs := t0) (i := x1.1) ce_api_Node Tryz.underlying25 s_54 rfl rfl hx8) ?_
        refine ado rfl rfl rfl (ex_fieldAddrD (vs := (List.drop 4 (cNd x8))) Tryz.underlying54 rfl s_3 (by decide) rfl rfl) ?_
        refine ado rfl rfl rfl (tx_ldD1 (v := (I x8.Bad)) Tryz.underlying3 rfl rfl rfl) ?_
        refine ado rfl rfl rfl (emv (eV (v := (I v6)) rfl)) ?_
        obtain ⟨x9, hx9, h⟩ := bindS h
        refine ado rfl rfl rfl (ex_bin (vx := (I x8.Bad)) (vy := (I v6)) rfl rfl (shrI_ok hx9)) ?_
        refine ado rfl rfl rfl (ex_bin (vx := (I x9)) (vy := (I 1)) rfl rfl andI_ok) ?_
        refine ado rfl rfl rfl (ex_bin (vx := (I v5)) (vy := (I (andI x9 1))) rfl rfl addI_ok) ?_
        refine ado rfl rfl rfl (eas (eV (v := (I (w64 (v5 + (andI x9 1))))) rfl)) ?_
        refine ake [0, 4, 6, 8, 9] 1 0 (st' := ⟨54, 0, [(0, (SL 5 cNd t0)), (4, (LP 0 0)), (6, (I x1.1)), (8, (I (w64 (v5 + (andI x9 1))))), (9, (I v6))], [(c_api_Stat (G_api_Stat.mk 0 0 0 0))], ⟨0, []⟩⟩) (by kernel_rfl) (by kernel_rfl) ?_
        show AWp _ _ _ _
        refine awr ?_
        refine ado rfl rfl rfl (emv (eV (v := (I v6)) rfl)) ?_
        refine ado rfl rfl rfl (ex_bin (vx := (I v6)) (vy := (I 1)) rfl rfl addI_ok) ?_
        refine ado rfl rfl rfl (eas (eV (v := (I (w64 (v6 + 1)))) rfl)) ?_
        refine ake [0, 4, 6, 8, 9] 1 0 (st' := ⟨54, 0, [(0, (SL 5 cNd t0)), (4, (LP 0 0)), (6, (I x1.1)), (8, (I (w64 (v5 + (andI x9 1))))), (9, (I (w64 (v6 + 1))))], [(c_api_Stat (G_api_Stat.mk 0 0 0 0))], ⟨0, []⟩⟩) (by kernel_rfl) (by kernel_rfl) ?_
        exact Exists.intro n1 (And.intro (Nat.lt_succ_self _) (Exists.intro (w64 (v5 + (andI x9 1))) (Exists.intro (w64 (v6 + 1)) (And.intro rfl h))))
      · rw [condF hb7] at h
        refine awp_condF (boF hb7) ?_
        refine awp_exit ?_
        show AWp _ _ _ _
        refine awp_seq ?_
        obtain ⟨x10, hx10, h⟩ := bindS h
        obtain ⟨x11, hx11, h⟩ := bindS h
        refine awp_kn [4, 5] 1 0 (st' := ⟨54, 0, [(4, (LP 0 0)), (5, (I 0))], [(c_api_Stat (G_api_Stat.mk x1.1 x10.Kind (x11.Body.length : Int) v5))], ⟨0, []⟩⟩) (awp_draw (T := [(I x1.1), (SL 5 cNd t0), (I x1.1), (DP (cNd x10)), (DP (List.drop 0 (cNd x10))), (I x10.Kind), (SL 5 cNd t0), (I x1.1), (DP (cNd x11)), (DP (List.drop 3 (cNd x11))), (S x11.Body), (I (x11.Body.length : Int)), (I v5), (Value.agg (c_api_Stat (G_api_Stat.mk x1.1 x10.Kind (x11.Body.length : Int) v5)).toArray), undef, (I 0)]) (LH := [([(c_api_Stat (G_api_Stat.mk 0 0 0 0))], ⟨0, []⟩), ([(c_api_Stat (G_api_Stat.mk x1.1 x10.Kind (x11.Body.length : Int) v5))], ⟨0, []⟩)]) (D := [⟨[(6, none)], [], [0], false⟩, ⟨[(0, none)], [], [0], false⟩, ⟨[(6, none)], [], [0], false⟩, ⟨[(41, some 1), (42, some 2)], [1, 2], [0], false⟩, ⟨[(43, some 3)], [1, 2, 3], [0], false⟩, ⟨[(44, some 4)], [1, 2, 3, 4], [0], false⟩, ⟨[(0, none)], [], [0], false⟩, ⟨[(6, none)], [], [0], false⟩, ⟨[(46, some 6), (47, some 7)], [6, 7], [0], false⟩, ⟨[(48, some 8)], [6, 7, 8], [0], false⟩, ⟨[(49, some 9)], [6, 7, 8, 9], [0], false⟩, ⟨[(50, some 10)], [6, 7, 8, 9, 10], [0], false⟩, ⟨[(8, none)], [], [0], false⟩, ⟨[(40, some 0), (45, some 5), (51, some 11), (52, some 12)], [0, 1, 2, 3, 4, 5, 6, 7, 8, 9, 10, 11, 12], [0], false⟩, ⟨[(4, none), (53, some 13)], [0, 1, 2, 3, 4, 5, 6, 7, 8, 9, 10, 11, 12, 13], [0], true⟩, ⟨[], [0, 1, 2, 3, 4, 5, 6, 7, 8, 9, 10, 11, 12, 13, 14], [1], false⟩]) (S := [14]) (plan := [0, 1, 2, 3, 4, 5, 6, 7, 8, 9, 10, 11, 12, 13, 14, 15]) mo (by kernel_rfl) rfl rfl rfl (dcons (dstep1 (Tm := [(6, (I x1.1))]) (L := [(c_api_Stat (G_api_Stat.mk 0 0 0 0))]) (H := ⟨0, []⟩) rfl rfl rfl rfl rfl (astep_do rfl (emv (eV (v := (I x1.1)) rfl)))) (dcons (dstep1 (Tm := [(0, (SL 5 cNd t0))]) (L := [(c_api_Stat (G_api_Stat.mk 0 0 0 0))]) (H := ⟨0, []⟩) rfl rfl rfl rfl rfl (astep_do rfl (emv (eV (v := (SL 5 cNd t0)) rfl)))) (dcons (dstep1 (Tm := [(6, (I x1.1))]) (L := [(c_api_Stat (G_api_Stat.mk 0 0 0 0))]) (H := ⟨0, []⟩) rfl rfl rfl rfl rfl (astep_do rfl (emv (eV (v := (I x1.1)) rfl)))) (dcons (dstep1 (Tm := [(41, (SL 5 cNd t0)), (42, (I x1.1))]) (L := [(c_api_Stat (G_api_Stat.mk 0 0 0 0))]) (H := ⟨0, []⟩) rfl rfl rfl rfl rfl (astep_do rfl (tx_idxD (c := cNd) (xs := t0) (i := x1.1) ce_api_Node Tryz.underlying25 s_54 rfl rfl hx10))) (dcons (dstep1 (Tm := [(43, (DP (cNd x10)))]) (L := [(c_api_Stat (G_api_Stat.mk 0 0 0 0))]) (H := ⟨0, []⟩) rfl rfl rfl rfl rfl (astep_do rfl (ex_fieldAddrD (vs := (List.drop 0 (cNd x10))) Tryz.underlying54 rfl s_3 (by decide) rfl rfl))) (dcons (dstep1 (Tm := [(44, (DP (List.drop 0 (cNd x10))))]) (L := [(c_api_Stat (G_api_Stat.mk 0 0 0 0))]) (H := ⟨0, []⟩) rfl rfl rfl rfl rfl (astep_do rfl (tx_ldD1 (v := (I x10.Kind)) Tryz.underlying3 rfl rfl rfl))) (dcons (dstep1 (Tm := [(0, (SL 5 cNd t0))]) (L := [(c_api_Stat (G_api_Stat.mk 0 0 0 0))]) (H := ⟨0, []⟩) rfl rfl rfl rfl rfl (astep_do rfl (emv (eV (v := (SL 5 cNd t0)) rfl)))) (dcons (dstep1 (Tm := [(6, (I x1.1))]) (L := [(c_api_Stat (G_api_Stat.mk 0 0 0 0))]) (H := ⟨0, []⟩) rfl rfl rfl rfl rfl (astep_do rfl (emv (eV (v := (I x1.1)) rfl)))) (dcons (dstep1 (Tm := [(46, (SL 5 cNd t0)), (47, (I x1.1))]) (L := [(c_api_Stat (G_api_Stat.mk 0 0 0 0))]) (H := ⟨0, []⟩) rfl rfl rfl rfl rfl (astep_do rfl (tx_idxD (c := cNd) (xs := t0) (i := x1.1) ce_api_Node Tryz.underlying25 s_54 rfl rfl hx11))) (dcons (dstep1 (Tm := [(48, (DP (cNd x11)))]) (L := [(c_api_Stat (G_api_Stat.mk 0 0 0 0))]) (H := ⟨0, []⟩) rfl rfl rfl rfl rfl (astep_do rfl (ex_fieldAddrD (vs := (List.drop 3 (cNd x11))) Tryz.underlying54 rfl s_9 (by decide) rfl rfl))) (dcons (dstep1 (Tm := [(49, (DP (List.drop 3 (cNd x11))))]) (L := [(c_api_Stat (G_api_Stat.mk 0 0 0 0))]) (H := ⟨0, []⟩) rfl rfl rfl rfl rfl (astep_do rfl (tx_ldD1 (v := (S x11.Body)) Tryz.underlying9 rfl rfl rfl))) (dcons (dstep1 (Tm := [(50, (S x11.Body))]) (L := [(c_api_Stat (G_api_Stat.mk 0 0 0 0))]) (H := ⟨0, []⟩) rfl rfl rfl rfl rfl (astep_do rfl (tx_lenS Tryz.underlying9 rfl))) (dcons (dstep1 (Tm := [(8, (I v5))]) (L := [(c_api_Stat (G_api_Stat.mk 0 0 0 0))]) (H := ⟨0, []⟩) rfl rfl rfl rfl rfl (astep_do rfl (emv (eV (v := (I v5)) rfl)))) (dcons (dstep1 (Tm := [(40, (I x1.1)), (45, (I x10.Kind)), (51, (I (x11.Body.length : Int))), (52, (I v5))]) (L := [(c_api_Stat (G_api_Stat.mk 0 0 0 0))]) (H := ⟨0, []⟩) rfl rfl rfl rfl rfl (astep_do rfl (ex_build (qs := [(0, (I x1.1)), (1, (I x10.Kind)), (2, (I (x11.Body.length : Int))), (3, (I v5))]) (v := (Value.agg (c_api_Stat (G_api_Stat.mk x1.1 x10.Kind (x11.Body.length : Int) v5)).toArray)) (evp rfl (evp rfl (evp rfl (evp rfl evp_nil)))) (by kernel_rfl)))) (dcons (dstep1 (Tm := [(4, (LP 0 0)), (53, (Value.agg (c_api_Stat (G_api_Stat.mk x1.1 x10.Kind (x11.Body.length : Int) v5)).toArray))]) (L := [(c_api_Stat (G_api_Stat.mk 0 0 0 0))]) (H := ⟨0, []⟩) rfl rfl rfl rfl rfl (astep_do rfl (ex_storeL (vy := (Value.agg (c_api_Stat (G_api_Stat.mk x1.1 x10.Kind (x11.Body.length : Int) v5)).toArray)) (cs := (c_api_Stat (G_api_Stat.mk 0 0 0 0))) (vs := (c_api_Stat (G_api_Stat.mk x1.1 x10.Kind (x11.Body.length : Int) v5))) (L' := [(c_api_Stat (G_api_Stat.mk x1.1 x10.Kind (x11.Body.length : Int) v5))]) rfl (eV (v := (Value.agg (c_api_Stat (G_api_Stat.mk x1.1 x10.Kind (x11.Body.length : Int) v5)).toArray)) rfl) rfl s_42 rfl (Nat.le_of_ble_eq_true rfl) (by kernel_rfl)))) (dcons (dstep1 (Tm := []) (L := [(c_api_Stat (G_api_Stat.mk x1.1 x10.Kind (x11.Body.length : Int) v5))]) (H := ⟨0, []⟩) rfl rfl rfl rfl rfl (astep_do rfl (eas (eV (v := (I 0)) rfl)))) dnil)))))))))))))))) ⟨rfl, rfl⟩) (by kernel_rfl) (by kernel_rfl) ?_
        show AWp _ _ _ _
        refine awp_ret ?_
        cases h
        exact aresN rfl (L2.cons (rcellL rfl rfl rfl (partA Tryz.underlying42 rfl s_42 (by decide) (Nat.le_of_ble_eq_true rfl) rfl)) (L2.cons (rtmp rfl (eV rfl)) L2.nil)) rfl

noncomputable def M_ref11_List_l1 (t0 : (List G_api_Node)) (x7 : (List Int)) : Nat → Int → List Str → Option ((List Str) × Int)
  | 0, _, _ => none
  | n1 + 1, v8, v9 =>
  cond (decide (v8 < (x7.length : Int))) (Option.bind (getI x7 v8) fun (x11 : Int) => Option.bind (getI t0 x11) fun (x12 : G_api_Node) => Option.bind (appL 16 v9 ([x12.Name] : List Str)) fun (x13 : List Str) => (M_ref11_List_l1 t0 x7 n1) (w64 (v8 + 1)) x13) (some (v9, 0))
noncomputable def M_ref11_List (t0 : (List G_api_Node)) (t1 : Str) : Option ((List Str) × Int) :=
  Option.bind (M_ref11_Find t0 t1) fun (x1 : (Int × Int)) => cond (x1.2 != 0) (some ([], x1.2)) (Option.bind (getI t0 x1.1) fun (x3 : G_api_Node) => cond (x3.Kind != 2) (some ([], 5)) (Option.bind (M_ref11_lost t0) fun (x5 : Bool) => cond x5 (some ([], 12)) (Option.bind (M_ref11_Kids t0 x1.1) fun (x7 : (List Int)) => M_ref11_List_l1 t0 x7 fuel 0 ([] : List Str))))
theorem ok_ref11_List (t0 : (List G_api_Node)) (t1 : Str) (r : ((List Str) × Int)) (h : M_ref11_List t0 t1 = some r) : FFn Tryz.prog 22 [(SL 5 cNd t0), (S t1)] (Value.tuple #[(SL 1 cS r.1), (I r.2)]) := by
  refine FFn.of_body (n := 49) Tryz.func22 rfl Tryz.ntmps22 rfl rfl rfl rfl ?_
  show AWp _ _ _ ⟨49, 0, [(0, (SL 5 cNd t0)), (1, (S t1))], [], ⟨0, []⟩⟩
  unfold M_ref11_List at h
  refine awp_seq ?_
  refine awr ?_
  refine ado rfl rfl rfl (eas (eV (v := (Value.slice none 0 0)) rfl)) ?_
  refine ado rfl rfl rfl (eas (eV (v := (I 0)) rfl)) ?_
  refine ake [0, 1] 0 0 (st' := ⟨49, 0, [(0, (SL 5 cNd t0)), (1, (S t1))], [], ⟨0, []⟩⟩) (by kernel_rfl) (by kernel_rfl) ?_
  show AWp _ _ _ _
  refine awp_seq ?_
  refine awr ?_
  refine ado rfl rfl rfl (emv (eV (v := (SL 5 cNd t0)) rfl)) ?_
  refine ado rfl rfl rfl (emv (eV (v := (S t1)) rfl)) ?_
  obtain ⟨x1, hx1, h⟩ := bindS h
  refine ado rfl rfl rfl (ex_call0 (vs := [(SL 5 cNd t0), (S t1)]) (v := (Value.tuple #[(I x1.1), (I x1.2)])) rfl en_28 (cargs (evs rfl (evs rfl evs_nil))) rfl (ok_ref11_Find t0 t1 x1 hx1) rfl) ?_
  refine ado rfl rfl rfl (emv (eV (v := (Value.tuple #[(I x1.1), (I x1.2)])) rfl)) ?_
  refine ado rfl rfl rfl (ex_extract (vx := (Value.tuple #[(I x1.1), (I x1.2)])) (v := (I x1.1)) rfl rfl) ?_
  refine ado rfl rfl rfl (ex_extract (vx := (Value.tuple #[(I x1.1), (I x1.2)])) (v := (I x1.2)) rfl rfl) ?_
  refine ado rfl rfl rfl (eas (eV (v := (I x1.1)) rfl)) ?_
  refine ado rfl rfl rfl (eas (eV (v := (I x1.2)) rfl)) ?_
  refine ake [0, 6, 7] 0 0 (st' := ⟨49, 0, [(0, (SL 5 cNd t0)), (6, (I x1.1)), (7, (I x1.2))], [], ⟨0, []⟩⟩) (by kernel_rfl) (by kernel_rfl) ?_
  show AWp _ _ _ _
  refine awp_seq ?_
  refine awp_seq ?_
  refine awr ?_
  refine ado rfl rfl rfl (emv (eV (v := (I x1.2)) rfl)) ?_
  refine ado rfl rfl rfl (ex_bin (vx := (I x1.2)) (vy := (I 0)) rfl rfl neqI_ok) ?_
  refine ake [0, 6, 7, 18] 0 0 (st' := ⟨49, 0, [(0, (SL 5 cNd t0)), (6, (I x1.1)), (7, (I x1.2)), (18, (Bo (x1.2 != 0)))], [], ⟨0, []⟩⟩) (by kernel_rfl) (by kernel_rfl) ?_
  show AWp _ _ _ _
  rcases Bool.eq_false_or_eq_true (x1.2 != 0) with hb2 | hb2
  · rw [condT hb2] at h
    refine awp_condT (boT hb2) ?_
    refine awp_seq ?_
    refine awr ?_
    refine ado rfl rfl rfl (emv (eV (v := (I x1.2)) rfl)) ?_
    refine ado rfl rfl rfl (eas (eV (v := (Value.slice none 0 0)) rfl)) ?_
    refine ado rfl rfl rfl (eas (eV (v := (I x1.2)) rfl)) ?_
    refine ake [4, 5] 0 0 (st' := ⟨49, 0, [(4, (Value.slice none 0 0)), (5, (I x1.2))], [], ⟨0, []⟩⟩) (by kernel_rfl) (by kernel_rfl) ?_
    show AWp _ _ _ _
    refine awp_ret ?_
    cases h
    exact aresN rfl (L2.cons (rtmp rfl (eN rfl)) (L2.cons (rtmp rfl (eV rfl)) L2.nil)) rfl
  · rw [condF hb2] at h
    refine awp_condF (boF hb2) ?_
    refine awp_skip ?_
    show AWp _ _ _ _
    refine awp_seq ?_
    refine awp_seq ?_
    refine awr ?_
    refine ado rfl rfl rfl (emv (eV (v := (SL 5 cNd t0)) rfl)) ?_
    refine ado rfl rfl rfl (emv (eV (v := (I x1.1)) rfl)) ?_
    obtain ⟨x3, hx3, h⟩ := bindS h
    refine ado rfl rfl rfl (tx_idxD (c := cNd) (xs := t0) (i := x1.1) ce_api_Node Tryz.underlying25 s_54 rfl rfl hx3) ?_
    refine ado rfl rfl rfl (ex_fieldAddrD (vs := (List.drop 0 (cNd x3))) Tryz.underlying54 rfl s_3 (by decide) rfl rfl) ?_
    refine ado rfl rfl rfl (tx_ldD1 (v := (I x3.Kind)) Tryz.underlying3 rfl rfl rfl) ?_
    refine ado rfl rfl rfl (ex_bin (vx := (I x3.Kind)) (vy := (I 2)) rfl rfl neqI_ok) ?_
    refine ake [0, 6, 25] 0 0 (st' := ⟨49, 0, [(0, (SL 5 cNd t0)), (6, (I x1.1)), (25, (Bo (x3.Kind != 2)))], [], ⟨0, []⟩⟩) (by kernel_rfl) (by kernel_rfl) ?_
    show AWp _ _ _ _
    rcases Bool.eq_false_or_eq_true (x3.Kind != 2) with hb4 | hb4
    · rw [condT hb4] at h
      refine awp_condT (boT hb4) ?_
      refine awp_seq ?_
      refine awr ?_
      refine ado rfl rfl rfl (eas (eV (v := (Value.slice none 0 0)) rfl)) ?_
      refine ado rfl rfl rfl (eas (eV (v := (I 5)) rfl)) ?_
      refine ake [4, 5] 0 0 (st' := ⟨49, 0, [(4, (Value.slice none 0 0)), (5, (I 5))], [], ⟨0, []⟩⟩) (by kernel_rfl) (by kernel_rfl) ?_
      show AWp _ _ _ _
      refine awp_ret ?_
      cases h
      exact aresN rfl (L2.cons (rtmp rfl (eN rfl)) (L2.cons (rtmp rfl (eV rfl)) L2.nil)) rfl
    · rw [condF hb4] at h
      refine awp_condF (boF hb4) ?_
      refine awp_skip ?_
      show AWp _ _ _ _
      refine awp_seq ?_
      refine awp_seq ?_
      refine awr ?_
      refine ado rfl rfl rfl (emv (eV (v := (SL 5 cNd t0)) rfl)) ?_
      obtain ⟨x5, hx5, h⟩ := bindS h
      refine ado rfl rfl rfl (ex_call0 (vs := [(SL 5 cNd t0)]) (v := (Bo x5)) rfl en_44 (cargs (evs rfl evs_nil)) rfl (ok_ref11_lost t0 x5 hx5) rfl) ?_
      refine ake [0, 6, 27] 0 0 (st' := ⟨49, 0, [(0, (SL 5 cNd t0)), (6, (I x1.1)), (27, (Bo x5))], [], ⟨0, []⟩⟩) (by kernel_rfl) (by kernel_rfl) ?_
      show AWp _ _ _ _
      rcases Bool.eq_false_or_eq_true x5 with hb6 | hb6
      · rw [condT hb6] at h
        refine awp_condT (boT hb6) ?_
        refine awp_seq ?_
        refine awr ?_
        refine ado rfl rfl rfl (eas (eV (v := (Value.slice none 0 0)) rfl)) ?_
        refine ado rfl rfl rfl (eas (eV (v := (I 12)) rfl)) ?_
        refine ake [4, 5] 0 0 (st' := ⟨49, 0, [(4, (Value.slice none 0 0)), (5, (I 12))], [], ⟨0, []⟩⟩) (by kernel_rfl) (by kernel_rfl) ?_
        show AWp _ _ _ _
        refine awp_ret ?_
        cases h
        exact aresN rfl (L2.cons (rtmp rfl (eN rfl)) (L2.cons (rtmp rfl (eV rfl)) L2.nil)) rfl
      · rw [condF hb6] at h
        refine awp_condF (boF hb6) ?_
        refine awp_skip ?_
        show AWp _ _ _ _
        refine awp_seq ?_
        refine awr ?_
        refine ado rfl rfl rfl (eas (eV (v := (Value.slice none 0 0)) rfl)) ?_
        refine ake [0, 6, 8] 0 0 (st' := ⟨49, 0, [(0, (SL 5 cNd t0)), (6, (I x1.1)), (8, (Value.slice none 0 0))], [], ⟨0, []⟩⟩) (by kernel_rfl) (by kernel_rfl) ?_
        show AWp _ _ _ _
        refine awp_seq ?_
        refine awr ?_
        refine ado rfl rfl rfl (emv (eV (v := (SL 5 cNd t0)) rfl)) ?_
        refine ado rfl rfl rfl (emv (eV (v := (I x1.1)) rfl)) ?_
        obtain ⟨x7, hx7, h⟩ := bindS h
        refine ado rfl rfl rfl (ex_call0 (vs := [(SL 5 cNd t0), (I x1.1)]) (v := (SL 1 cI x7)) rfl en_45 (cargs (evs rfl (evs rfl evs_nil))) rfl (ok_ref11_Kids t0 x1.1 x7 hx7) rfl) ?_
        refine ado rfl rfl rfl (eas (eV (v := (SL 1 cI x7)) rfl)) ?_
        refine ake [0, 8, 9] 0 0 (st' := ⟨49, 0, [(0, (SL 5 cNd t0)), (8, (Value.slice none 0 0)), (9, (SL 1 cI x7))], [], ⟨0, []⟩⟩) (by kernel_rfl) (by kernel_rfl) ?_
        show AWp _ _ _ _
        refine awp_seq ?_
        refine awp_seq ?_
        refine awr ?_
        refine ado rfl rfl rfl (eas (eV (v := (I 0)) rfl)) ?_
        refine ake [0, 8, 9, 10] 0 0 (st' := ⟨49, 0, [(0, (SL 5 cNd t0)), (8, (Value.slice none 0 0)), (9, (SL 1 cI x7)), (10, (I 0))], [], ⟨0, []⟩⟩) (by kernel_rfl) (by kernel_rfl) ?_
        show AWp _ _ _ _
        refine awp_block ?_
        refine awp_nilGro 8 1 rfl (by decide) ?_
        refine awp_keepE [0, 8, 9, 10] 0 1 (st' := ⟨49, 0, [(0, (SL 5 cNd t0)), (8, (GV 0 0)), (9, (SL 1 cI x7)), (10, (I 0))], [], ⟨1, [(0, ⟨1, (([] : List Str).flatMap cS), true⟩)]⟩⟩) (by kernel_rfl) (by kernel_rfl) ?_
        refine awp_loop (fun n s => ∃ (v8 : Int) (v9 : List Str), s = ⟨49, 0, [(0, (SL 5 cNd t0)), (8, (GV 0 v9.length)), (9, (SL 1 cI x7)), (10, (I v8))], [], ⟨1, [(0, ⟨1, ((v9).flatMap cS), true⟩)]⟩⟩ ∧ M_ref11_List_l1 t0 x7 n v8 v9 = some r) fuel (Exists.intro 0 (Exists.intro ([] : List Str) (And.intro rfl h))) ?_
        rintro n s ⟨v8, v9, rfl, h⟩ -
        cases n with
        | zero => cases h
        | succ n1 =>
          unfold M_ref11_List_l1 at h
          refine awp_seq ?_
          refine awp_seq ?_
          refine awr ?_
          refine ado rfl rfl rfl (emv (eV (v := (I v8)) rfl)) ?_
          refine ado rfl rfl rfl (emv (eV (v := (SL 1 cI x7)) rfl)) ?_
          refine ado rfl rfl rfl (tx_lenD (xs := x7) ceI Tryz.underlying32 rfl) ?_
          refine ado rfl rfl rfl (ex_bin (vx := (I v8)) (vy := (I (x7.length : Int))) rfl rfl lssI_ok) ?_
          refine ake [0, 8, 9, 10, 34] 0 1 (st' := ⟨49, 0, [(0, (SL 5 cNd t0)), (8, (GV 0 v9.length)), (9, (SL 1 cI x7)), (10, (I v8)), (34, (Bo (decide (v8 < (x7.length : Int)))))], [], ⟨1, [(0, ⟨1, ((v9).flatMap cS), true⟩)]⟩⟩) (by kernel_rfl) (by kernel_rfl) ?_
          show AWp _ _ _ _
          rcases Bool.eq_false_or_eq_true (decide (v8 < (x7.length : Int))) with hb10 | hb10
          · rw [condT hb10] at h
            refine awp_condT (boT hb10) ?_
            refine awp_skip ?_
            show AWp _ _ _ _
            refine awp_seq ?_
            refine awp_block ?_
            refine awr ?_
            refine ado rfl rfl rfl (emv (eV (v := (GV 0 v9.length)) rfl)) ?_
            refine ado rfl rfl rfl (emv (eV (v := (SL 5 cNd t0)) rfl)) ?_
            refine ado rfl rfl rfl (emv (eV (v := (SL 1 cI x7)) rfl)) ?_
            refine ado rfl rfl rfl (emv (eV (v := (I v8)) rfl)) ?_
            obtain ⟨x11, hx11, h⟩ := bindS h
            refine ado rfl rfl rfl (tx_idxD (c := cI) (xs := x7) (i := v8) ceI Tryz.underlying32 s_3 rfl rfl hx11) ?_
            refine ado rfl rfl rfl (tx_ldD1 (v := (I x11)) Tryz.underlying3 rfl rfl rfl) ?_
            obtain ⟨x12, hx12, h⟩ := bindS h
            refine ado rfl rfl rfl (tx_idxD (c := cNd) (xs := t0) (i := x11) ce_api_Node Tryz.underlying25 s_54 rfl rfl hx12) ?_
            refine ado rfl rfl rfl (ex_fieldAddrD (vs := (List.drop 2 (cNd x12))) Tryz.underlying54 rfl s_9 (by decide) rfl rfl) ?_
            refine ado rfl rfl rfl (tx_ldD1 (v := (S x12.Name)) Tryz.underlying9 rfl rfl rfl) ?_
            refine ado rfl rfl rfl (ex_buildSliceD (qs := [(0, (S x12.Name))]) (cells := (([x12.Name] : List Str).flatMap cS)) Tryz.underlying30 s_9 (by decide) (evp rfl evp_nil) rfl (by kernel_rfl) (by kernel_rfl) (by kernel_rfl)) ?_
            obtain ⟨x13, hx13, h⟩ := bindS h
            refine ado rfl rfl rfl (tx_appG (c := cS) (xs := v9) (H' := ⟨1, [(0, ⟨1, ((x13).flatMap cS), true⟩)]⟩) ceS e_9 rfl rfl rfl (tsrcD (ys := ([x12.Name] : List Str)) ceS Tryz.underlying30 s_9 Tryz.underlying30 rfl) hx13 rfl) ?_
            refine ado rfl rfl rfl (eas (eV (v := (GV 0 x13.length)) rfl)) ?_
            refine ake [0, 8, 9, 10] 0 1 (st' := ⟨49, 0, [(0, (SL 5 cNd t0)), (8, (GV 0 x13.length)), (9, (SL 1 cI x7)), (10, (I v8))], [], ⟨1, [(0, ⟨1, ((x13).flatMap cS), true⟩)]⟩⟩) (by kernel_rfl) (by kernel_rfl) ?_
            show AWp _ _ _ _
            refine awr ?_
            refine ado rfl rfl rfl (emv (eV (v := (I v8)) rfl)) ?_
            refine ado rfl rfl rfl (ex_bin (vx := (I v8)) (vy := (I 1)) rfl rfl addI_ok) ?_
            refine ado rfl rfl rfl (eas (eV (v := (I (w64 (v8 + 1)))) rfl)) ?_
            refine ake [0, 8, 9, 10] 0 1 (st' := ⟨49, 0, [(0, (SL 5 cNd t0)), (8, (GV 0 x13.length)), (9, (SL 1 cI x7)), (10, (I (w64 (v8 + 1))))], [], ⟨1, [(0, ⟨1, ((x13).flatMap cS), true⟩)]⟩⟩) (by kernel_rfl) (by kernel_rfl) ?_
            exact Exists.intro n1 (And.intro (Nat.lt_succ_self _) (Exists.intro (w64 (v8 + 1)) (Exists.intro x13 (And.intro rfl h))))
          · rw [condF hb10] at h
            refine awp_condF (boF hb10) ?_
            refine awp_exit ?_
            show AWp _ _ _ _
            refine awp_seq ?_
            refine awr ?_
            refine ado rfl rfl rfl (emv (eV (v := (GV 0 v9.length)) rfl)) ?_
            refine ado rfl rfl rfl (eas (eV (v := (GV 0 v9.length)) rfl)) ?_
            refine ado rfl rfl rfl (eas (eV (v := (I 0)) rfl)) ?_
            refine ake [4, 5] 0 1 (st' := ⟨49, 0, [(4, (GV 0 v9.length)), (5, (I 0))], [], ⟨1, [(0, ⟨1, ((v9).flatMap cS), true⟩)]⟩⟩) (by kernel_rfl) (by kernel_rfl) ?_
            show AWp _ _ _ _
            refine awp_freeze 0 (bk := ⟨1, ((v9).flatMap cS), true⟩) (T' := [(4, (SL 1 cS v9)), (5, (I 0))]) (L' := []) rfl (fzG ceS rfl rfl (FzT.keep (v := (I 0)) rfl FzT.nil)) (FzL.refl _) ?_
            show AWp _ _ _ ⟨49, 0, [(4, (SL 1 cS v9)), (5, (I 0))], [], ⟨1, []⟩⟩
            refine awp_ret ?_
            cases h
            exact aresN rfl (L2.cons (rtmp rfl (eV rfl)) (L2.cons (rtmp rfl (eV rfl)) L2.nil)) rfl

end Go.Proofs
