/- Pure models of functions of the program, and that its code does what they say: data file bad, data Read, data Cut. Written by a program. -/
import Derived.Test.YtjdlpipeagjnfaaGreatDoorRDO6
import Derived.Test.YtjdlpipeagjnfaaGreatDoorRDO7
import Derived.Test.YtjdlpipeagjnfaaGreatDoorRDOB
set_option maxRecDepth 20000
set_option maxHeartbeats 4000000
namespace Go.Proofs
open Go Go.Fhl
set_option linter.unusedVariables false
set_option linter.unusedSimpArgs false
noncomputable def M_data_file_bad_l1 (t0 : G_data_file) (t1 : Int) (t2 : Int) : Nat → Int → Option Bool
  | 0, _ => none
  | n1 + 1, v1 =>
  cond (decide (v1 < 4)) (Option.bind (shrI t0.Node.Bad v1) fun (x3 : Int) => cond (((andI x3 1) == 1) && (decide ((max t1 (w64 (v1 * 32))) < (min t2 (w64 ((w64 (v1 + 1)) * 32)))))) (some true) ((M_data_file_bad_l1 t0 t1 t2 n1) (w64 (v1 + 1)))) (some false)
noncomputable def M_data_file_bad (t0 : G_data_file) (t1 : Int) (t2 : Int) : Option Bool :=
  M_data_file_bad_l1 t0 t1 t2 fuel 0
theorem ok_data_file_bad (t0 : G_data_file) (t1 : Int) (t2 : Int) (r : Bool) (h : M_data_file_bad t0 t1 t2 = some r) : FFn Tryz.prog 34 [(Value.agg (c_data_file t0).toArray), (I t1), (I t2)] (Bo r) := by
  refine FFn.of_body (n := 31) Tryz.func34 rfl Tryz.ntmps34 rfl rfl rfl rfl ?_
  show AWp _ _ _ ⟨31, 0, [(0, (Value.agg (c_data_file t0).toArray)), (1, (I t1)), (2, (I t2))], [], ⟨0, []⟩⟩
  unfold M_data_file_bad at h
  refine awp_seq ?_
  refine awr ?_
  refine ado rfl rfl rfl (ex_box (vx := (Value.agg (c_data_file t0).toArray)) (cs := (c_data_file t0)) (k := 0) (L' := [(c_data_file t0)]) (eV (v := (Value.agg (c_data_file t0).toArray)) rfl) rfl rfl rfl) ?_
  refine ado rfl rfl rfl (eas (eV (v := (Bo false)) rfl)) ?_
  refine ake [1, 2, 3] 1 0 (st' := ⟨31, 0, [(1, (I t1)), (2, (I t2)), (3, (LP 0 0))], [(c_data_file t0)], ⟨0, []⟩⟩) (by kernel_rfl) (by kernel_rfl) ?_
  show AWp _ _ _ _
  refine awp_seq ?_
  refine awp_seq ?_
  refine awr ?_
  refine ado rfl rfl rfl (emv (eV (v := (I 0)) rfl)) ?_
  refine ake [1, 2, 3, 8] 1 0 (st' := ⟨31, 0, [(1, (I t1)), (2, (I t2)), (3, (LP 0 0)), (8, (I 0))], [(c_data_file t0)], ⟨0, []⟩⟩) (by kernel_rfl) (by kernel_rfl) ?_
  show AWp _ _ _ _
  refine awp_block ?_
  refine awp_loop (fun n s => ∃ (v1 : Int), s = ⟨31, 0, [(1, (I t1)), (2, (I t2)), (3, (LP 0 0)), (8, (I v1))], [(c_data_file t0)], ⟨0, []⟩⟩ ∧ M_data_file_bad_l1 t0 t1 t2 n v1 = some r) fuel (Exists.intro 0 (And.intro rfl h)) ?_
  rintro n s ⟨v1, rfl, h⟩ -
  cases n with
  | zero => cases h
  | succ n1 =>
    unfold M_data_file_bad_l1 at h
    refine awp_seq ?_
    refine awr ?_
    refine ado rfl rfl rfl (ex_bin (vx := (I v1)) (vy := (I 4)) rfl rfl lssI_ok) ?_
    refine ake [1, 2, 3, 8, 9] 1 0 (st' := ⟨31, 0, [(1, (I t1)), (2, (I t2)), (3, (LP 0 0)), (8, (I v1)), (9, (Bo (decide (v1 < 4))))], [(c_data_file t0)], ⟨0, []⟩⟩) (by kernel_rfl) (by kernel_rfl) ?_
    show AWp _ _ _ _
    refine awp_seq ?_
    rcases Bool.eq_false_or_eq_true (decide (v1 < 4)) with hb2 | hb2
    · rw [condT hb2] at h
      refine awp_condT (boT hb2) ?_
      refine awp_skip ?_
      show AWp _ _ _ _
      refine awp_seq ?_
      refine awp_block ?_
      refine awp_seq ?_
      refine awr ?_
      refine ado rfl rfl rfl (emv (eV (v := (I v1)) rfl)) ?_
      refine ado rfl rfl rfl (eas (eV (v := (I v1)) rfl)) ?_
      refine ake [1, 2, 3, 7, 8] 1 0 (st' := ⟨31, 0, [(1, (I t1)), (2, (I t2)), (3, (LP 0 0)), (7, (I v1)), (8, (I v1))], [(c_data_file t0)], ⟨0, []⟩⟩) (by kernel_rfl) (by kernel_rfl) ?_
      show AWp _ _ _ _
      refine awp_seq ?_
      refine awr ?_
      refine ado rfl rfl rfl (ex_fieldAddr (v := (LP 0 0)) Tryz.underlying61 rfl s_38 (by decide) rfl rfl) ?_
      refine ado rfl rfl rfl (ex_fieldAddr (v := (LP 0 4)) Tryz.underlying38 rfl s_3 (by decide) rfl rfl) ?_
      refine ado rfl rfl rfl (tx_ldL1 (v := (I t0.Node.Bad)) Tryz.underlying3 rfl rfl rfl rfl) ?_
      refine ado rfl rfl rfl (emv (eV (v := (I v1)) rfl)) ?_
      obtain ⟨x3, hx3, h⟩ := bindS h
      refine ado rfl rfl rfl (ex_bin (vx := (I t0.Node.Bad)) (vy := (I v1)) rfl rfl (shrI_ok hx3)) ?_
      refine ado rfl rfl rfl (ex_bin (vx := (I x3)) (vy := (I 1)) rfl rfl andI_ok) ?_
      refine ado rfl rfl rfl (ex_bin (vx := (I (andI x3 1))) (vy := (I 1)) rfl rfl eqlI_ok) ?_
      refine ado rfl rfl rfl (emv (eV (v := (Bo ((andI x3 1) == 1))) rfl)) ?_
      refine arun_guard (v := (I t1)) (((andI x3 1) == 1) == true) rfl rfl rfl (fun hc => emv (eV (v := (I t1)) rfl)) ?_
      refine arun_guard (v := (I v1)) (((andI x3 1) == 1) == true) rfl rfl rfl (fun hc => emv (eV (v := (I v1)) rfl)) ?_
      refine arun_guard (v := (I (w64 (v1 * 32)))) (((andI x3 1) == 1) == true) rfl rfl rfl (fun hc => ex_bin (vx := (I v1)) (vy := (I 32)) (cond_of hc) rfl mulI_ok) ?_
      refine arun_guard (v := (I (max t1 (w64 (v1 * 32))))) (((andI x3 1) == 1) == true) rfl rfl rfl (fun hc => ex_max (m := t1) (n := (w64 (v1 * 32))) (cond_of hc) (cond_of hc)) ?_
      refine arun_guard (v := (I t2)) (((andI x3 1) == 1) == true) rfl rfl rfl (fun hc => emv (eV (v := (I t2)) rfl)) ?_
      refine arun_guard (v := (I v1)) (((andI x3 1) == 1) == true) rfl rfl rfl (fun hc => emv (eV (v := (I v1)) rfl)) ?_
      refine arun_guard (v := (I (w64 (v1 + 1)))) (((andI x3 1) == 1) == true) rfl rfl rfl (fun hc => ex_bin (vx := (I v1)) (vy := (I 1)) (cond_of hc) rfl addI_ok) ?_
      refine arun_guard (v := (I (w64 ((w64 (v1 + 1)) * 32)))) (((andI x3 1) == 1) == true) rfl rfl rfl (fun hc => ex_bin (vx := (I (w64 (v1 + 1)))) (vy := (I 32)) (cond_of hc) rfl mulI_ok) ?_
      refine arun_guard (v := (I (min t2 (w64 ((w64 (v1 + 1)) * 32))))) (((andI x3 1) == 1) == true) rfl rfl rfl (fun hc => ex_min (m := t2) (n := (w64 ((w64 (v1 + 1)) * 32))) (cond_of hc) (cond_of hc)) ?_
      refine arun_guard (v := (Bo (decide ((max t1 (w64 (v1 * 32))) < (min t2 (w64 ((w64 (v1 + 1)) * 32))))))) (((andI x3 1) == 1) == true) rfl rfl rfl (fun hc => ex_bin (vx := (I (max t1 (w64 (v1 * 32))))) (vy := (I (min t2 (w64 ((w64 (v1 + 1)) * 32))))) (cond_of hc) (cond_of hc) lssI_ok) ?_
      refine ado rfl rfl rfl (ex_pick rfl pkAnd) ?_
      refine ake [1, 2, 3, 8, 29] 1 0 (st' := ⟨31, 0, [(1, (I t1)), (2, (I t2)), (3, (LP 0 0)), (8, (I v1)), (29, (Bo (((andI x3 1) == 1) && (decide ((max t1 (w64 (v1 * 32))) < (min t2 (w64 ((w64 (v1 + 1)) * 32))))))))], [(c_data_file t0)], ⟨0, []⟩⟩) (by kernel_rfl) (by kernel_rfl) ?_
      show AWp _ _ _ _
      rcases Bool.eq_false_or_eq_true (((andI x3 1) == 1) && (decide ((max t1 (w64 (v1 * 32))) < (min t2 (w64 ((w64 (v1 + 1)) * 32)))))) with hb4 | hb4
      · rw [condT hb4] at h
        refine awp_condT (boT hb4) ?_
        refine awp_seq ?_
        refine awr ?_
        refine ado rfl rfl rfl (eas (eV (v := (Bo true)) rfl)) ?_
        refine ake [6] 0 0 (st' := ⟨31, 0, [(6, (Bo true))], [], ⟨0, []⟩⟩) (by kernel_rfl) (by kernel_rfl) ?_
        show AWp _ _ _ _
        refine awp_ret ?_
        cases h
        exact ares1 (rtmp rfl (eV rfl))
      · rw [condF hb4] at h
        refine awp_condF (boF hb4) ?_
        refine awp_skip ?_
        show AWp _ _ _ _
        refine awr ?_
        refine ado rfl rfl rfl (ex_bin (vx := (I v1)) (vy := (I 1)) rfl rfl addI_ok) ?_
        refine ado rfl rfl rfl (emv (eV (v := (I (w64 (v1 + 1)))) rfl)) ?_
        refine ake [1, 2, 3, 8] 1 0 (st' := ⟨31, 0, [(1, (I t1)), (2, (I t2)), (3, (LP 0 0)), (8, (I (w64 (v1 + 1))))], [(c_data_file t0)], ⟨0, []⟩⟩) (by kernel_rfl) (by kernel_rfl) ?_
        exact Exists.intro n1 (And.intro (Nat.lt_succ_self _) (Exists.intro (w64 (v1 + 1)) (And.intro rfl h)))
    · rw [condF hb2] at h
      refine awp_condF (boF hb2) ?_
      refine awp_exit ?_
      show AWp _ _ _ _
      refine awp_seq ?_
      refine awr ?_
      refine ado rfl rfl rfl (eas (eV (v := (Bo false)) rfl)) ?_
      refine ake [6] 0 0 (st' := ⟨31, 0, [(6, (Bo false))], [], ⟨0, []⟩⟩) (by kernel_rfl) (by kernel_rfl) ?_
      show AWp _ _ _ _
      refine awp_ret ?_
      cases h
      exact ares1 (rtmp rfl (eV rfl))

noncomputable def M_data_Read (t0 : (List G_api_Node)) (t1 : Str) (t2 : Int) (t3 : Int) : Option (Str × Int) :=
  Option.bind (M_data_open t0 t1) fun (x1 : (G_data_file × Int)) => cond (x1.2 != 0) (some ([], x1.2)) (cond ((decide (t2 < 0)) || (decide (t3 < 0))) (some ([], 1)) (Option.bind (M_data_file_bad x1.1 (min t2 (x1.1.Node.Body.length : Int)) (w64 ((min t2 (x1.1.Node.Body.length : Int)) + (min t3 (w64 ((x1.1.Node.Body.length : Int) - (min t2 (x1.1.Node.Body.length : Int)))))))) fun (x4 : Bool) => cond x4 (some ([], 12)) (Option.bind (slL x1.1.Node.Body (min t2 (x1.1.Node.Body.length : Int)) (w64 ((min t2 (x1.1.Node.Body.length : Int)) + (min t3 (w64 ((x1.1.Node.Body.length : Int) - (min t2 (x1.1.Node.Body.length : Int)))))))) fun (x6 : Str) => some (x6, 0))))
theorem ok_data_Read (t0 : (List G_api_Node)) (t1 : Str) (t2 : Int) (t3 : Int) (r : (Str × Int)) (h : M_data_Read t0 t1 t2 t3 = some r) : FFn Tryz.prog 15 [(SL 5 cNd t0), (S t1), (I t2), (I t3)] (Value.tuple #[(S r.1), (I r.2)]) := by
  refine FFn.of_body (n := 57) Tryz.func15 rfl Tryz.ntmps15 rfl rfl rfl rfl ?_
  show AWp _ _ _ ⟨57, 0, [(0, (SL 5 cNd t0)), (1, (S t1)), (2, (I t2)), (3, (I t3))], [], ⟨0, []⟩⟩
  unfold M_data_Read at h
  refine awp_seq ?_
  refine awr ?_
  refine ado rfl rfl rfl (eas (eV (v := (S [])) rfl)) ?_
  refine ado rfl rfl rfl (eas (eV (v := (I 0)) rfl)) ?_
  refine ake [0, 1, 2, 3] 0 0 (st' := ⟨57, 0, [(0, (SL 5 cNd t0)), (1, (S t1)), (2, (I t2)), (3, (I t3))], [], ⟨0, []⟩⟩) (by kernel_rfl) (by kernel_rfl) ?_
  show AWp _ _ _ _
  refine awp_seq ?_
  refine awr ?_
  refine ado rfl rfl rfl (emv (eV (v := (SL 5 cNd t0)) rfl)) ?_
  refine ado rfl rfl rfl (emv (eV (v := (S t1)) rfl)) ?_
  obtain ⟨x1, hx1, h⟩ := bindS h
  refine ado rfl rfl rfl (ex_call0 (vs := [(SL 5 cNd t0), (S t1)]) (v := (Value.tuple #[(Value.agg (c_data_file x1.1).toArray), (I x1.2)])) rfl en_24 (cargs (evs rfl (evs rfl evs_nil))) rfl (ok_data_open t0 t1 x1 hx1) rfl) ?_
  refine ado rfl rfl rfl (emv (eV (v := (Value.tuple #[(Value.agg (c_data_file x1.1).toArray), (I x1.2)])) rfl)) ?_
  refine ado rfl rfl rfl (ex_extract (vx := (Value.tuple #[(Value.agg (c_data_file x1.1).toArray), (I x1.2)])) (v := (Value.agg (c_data_file x1.1).toArray)) rfl rfl) ?_
  refine ado rfl rfl rfl (ex_extract (vx := (Value.tuple #[(Value.agg (c_data_file x1.1).toArray), (I x1.2)])) (v := (I x1.2)) rfl rfl) ?_
  refine ado rfl rfl rfl (ex_alloc (k := 0) (zs := (c_data_file (G_data_file.mk (G_api_Node.mk 0 0 [] [] 0) 0))) (L' := [(c_data_file (G_data_file.mk (G_api_Node.mk 0 0 [] [] 0) 0))]) z_61 rfl rfl rfl rfl) ?_
  refine arun_do0 rfl rfl (ex_storeL (vy := (Value.agg (c_data_file x1.1).toArray)) (cs := (c_data_file (G_data_file.mk (G_api_Node.mk 0 0 [] [] 0) 0))) (vs := (c_data_file x1.1)) (L' := [(c_data_file x1.1)]) rfl (eV (v := (Value.agg (c_data_file x1.1).toArray)) rfl) rfl s_61 rfl (Nat.le_of_ble_eq_true rfl) (by kernel_rfl)) ?_
  refine ado rfl rfl rfl (eas (eV (v := (I x1.2)) rfl)) ?_
  refine ake [2, 3, 10, 11] 1 0 (st' := ⟨57, 0, [(2, (I t2)), (3, (I t3)), (10, (LP 0 0)), (11, (I x1.2))], [(c_data_file x1.1)], ⟨0, []⟩⟩) (by kernel_rfl) (by kernel_rfl) ?_
  show AWp _ _ _ _
  refine awp_seq ?_
  refine awp_block ?_
  refine awp_seq ?_
  refine awr ?_
  refine ado rfl rfl rfl (emv (eV (v := (I x1.2)) rfl)) ?_
  refine ado rfl rfl rfl (ex_bin (vx := (I x1.2)) (vy := (I 0)) rfl rfl neqI_ok) ?_
  refine ado rfl rfl rfl (eas (eV (v := (Bo (x1.2 != 0))) rfl)) ?_
  refine ake [2, 3, 10, 11, 20] 1 0 (st' := ⟨57, 0, [(2, (I t2)), (3, (I t3)), (10, (LP 0 0)), (11, (I x1.2)), (20, (Bo (x1.2 != 0)))], [(c_data_file x1.1)], ⟨0, []⟩⟩) (by kernel_rfl) (by kernel_rfl) ?_
  show AWp _ _ _ _
  rcases Bool.eq_false_or_eq_true (x1.2 != 0) with hb2 | hb2
  · rw [condT hb2] at h
    refine awp_condT (boT hb2) ?_
    refine awp_seq ?_
    refine awr ?_
    refine ado rfl rfl rfl (emv (eV (v := (I x1.2)) rfl)) ?_
    refine ado rfl rfl rfl (eas (eV (v := (S [])) rfl)) ?_
    refine ado rfl rfl rfl (eas (eV (v := (I x1.2)) rfl)) ?_
    refine ake [8, 9] 0 0 (st' := ⟨57, 0, [(8, (S [])), (9, (I x1.2))], [], ⟨0, []⟩⟩) (by kernel_rfl) (by kernel_rfl) ?_
    show AWp _ _ _ _
    refine awp_ret ?_
    cases h
    exact aresN rfl (L2.cons (rtmp rfl (eV rfl)) (L2.cons (rtmp rfl (eV rfl)) L2.nil)) rfl
  · rw [condF hb2] at h
    refine awp_condF (boF hb2) ?_
    refine awp_seq ?_
    refine awr ?_
    refine ado rfl rfl rfl (emv (eV (v := (I t2)) rfl)) ?_
    refine ado rfl rfl rfl (ex_bin (vx := (I t2)) (vy := (I 0)) rfl rfl lssI_ok) ?_
    refine ado rfl rfl rfl (emv (eV (v := (Bo (decide (t2 < 0)))) rfl)) ?_
    refine arun_guard (v := (I t3)) ((decide (t2 < 0)) == false) rfl rfl rfl (fun hc => emv (eV (v := (I t3)) rfl)) ?_
    refine arun_guard (v := (Bo (decide (t3 < 0)))) ((decide (t2 < 0)) == false) rfl rfl rfl (fun hc => ex_bin (vx := (I t3)) (vy := (I 0)) (cond_of hc) rfl lssI_ok) ?_
    refine ado rfl rfl rfl (ex_pick rfl pkOr) ?_
    refine ado rfl rfl rfl (eas (eV (v := (Bo ((decide (t2 < 0)) || (decide (t3 < 0))))) rfl)) ?_
    refine ake [2, 3, 10, 24] 1 0 (st' := ⟨57, 0, [(2, (I t2)), (3, (I t3)), (10, (LP 0 0)), (24, (Bo ((decide (t2 < 0)) || (decide (t3 < 0)))))], [(c_data_file x1.1)], ⟨0, []⟩⟩) (by kernel_rfl) (by kernel_rfl) ?_
    show AWp _ _ _ _
    rcases Bool.eq_false_or_eq_true ((decide (t2 < 0)) || (decide (t3 < 0))) with hb3 | hb3
    · rw [condT hb3] at h
      refine awp_condT (boT hb3) ?_
      refine awp_seq ?_
      refine awr ?_
      refine ado rfl rfl rfl (eas (eV (v := (S [])) rfl)) ?_
      refine ado rfl rfl rfl (eas (eV (v := (I 1)) rfl)) ?_
      refine ake [8, 9] 0 0 (st' := ⟨57, 0, [(8, (S [])), (9, (I 1))], [], ⟨0, []⟩⟩) (by kernel_rfl) (by kernel_rfl) ?_
      show AWp _ _ _ _
      refine awp_ret ?_
      cases h
      exact aresN rfl (L2.cons (rtmp rfl (eV rfl)) (L2.cons (rtmp rfl (eV rfl)) L2.nil)) rfl
    · rw [condF hb3] at h
      refine awp_condF (boF hb3) ?_
      refine awp_skip ?_
      show AWp _ _ _ _
      refine awp_seq ?_
      refine awr ?_
      refine ado rfl rfl rfl (emv (eV (v := (I t2)) rfl)) ?_
      refine ado rfl rfl rfl (ex_fieldAddr (v := (LP 0 0)) Tryz.underlying61 rfl s_38 (by decide) rfl rfl) ?_
      refine ado rfl rfl rfl (ex_fieldAddr (v := (LP 0 3)) Tryz.underlying38 rfl s_9 (by decide) rfl rfl) ?_
      refine ado rfl rfl rfl (tx_ldL1 (v := (S x1.1.Node.Body)) Tryz.underlying9 rfl rfl rfl rfl) ?_
      refine ado rfl rfl rfl (tx_lenS Tryz.underlying9 rfl) ?_
      refine ado rfl rfl rfl (ex_min (m := t2) (n := (x1.1.Node.Body.length : Int)) rfl rfl) ?_
      refine ado rfl rfl rfl (eas (eV (v := (I (min t2 (x1.1.Node.Body.length : Int)))) rfl)) ?_
      refine ake [3, 10, 12] 1 0 (st' := ⟨57, 0, [(3, (I t3)), (10, (LP 0 0)), (12, (I (min t2 (x1.1.Node.Body.length : Int))))], [(c_data_file x1.1)], ⟨0, []⟩⟩) (by kernel_rfl) (by kernel_rfl) ?_
      show AWp _ _ _ _
      refine awp_seq ?_
      refine awr ?_
      refine ado rfl rfl rfl (emv (eV (v := (I (min t2 (x1.1.Node.Body.length : Int)))) rfl)) ?_
      refine ado rfl rfl rfl (emv (eV (v := (I t3)) rfl)) ?_
      refine ado rfl rfl rfl (ex_fieldAddr (v := (LP 0 0)) Tryz.underlying61 rfl s_38 (by decide) rfl rfl) ?_
      refine ado rfl rfl rfl (ex_fieldAddr (v := (LP 0 3)) Tryz.underlying38 rfl s_9 (by decide) rfl rfl) ?_
      refine ado rfl rfl rfl (tx_ldL1 (v := (S x1.1.Node.Body)) Tryz.underlying9 rfl rfl rfl rfl) ?_
      refine ado rfl rfl rfl (tx_lenS Tryz.underlying9 rfl) ?_
      refine ado rfl rfl rfl (emv (eV (v := (I (min t2 (x1.1.Node.Body.length : Int)))) rfl)) ?_
      refine ado rfl rfl rfl (ex_bin (vx := (I (x1.1.Node.Body.length : Int))) (vy := (I (min t2 (x1.1.Node.Body.length : Int)))) rfl rfl subI_ok) ?_
      refine ado rfl rfl rfl (ex_min (m := t3) (n := (w64 ((x1.1.Node.Body.length : Int) - (min t2 (x1.1.Node.Body.length : Int))))) rfl rfl) ?_
      refine ado rfl rfl rfl (ex_bin (vx := (I (min t2 (x1.1.Node.Body.length : Int)))) (vy := (I (min t3 (w64 ((x1.1.Node.Body.length : Int) - (min t2 (x1.1.Node.Body.length : Int))))))) rfl rfl addI_ok) ?_
      refine ado rfl rfl rfl (eas (eV (v := (I (w64 ((min t2 (x1.1.Node.Body.length : Int)) + (min t3 (w64 ((x1.1.Node.Body.length : Int) - (min t2 (x1.1.Node.Body.length : Int))))))))) rfl)) ?_
      refine ake [10, 12, 13] 1 0 (st' := ⟨57, 0, [(10, (LP 0 0)), (12, (I (min t2 (x1.1.Node.Body.length : Int)))), (13, (I (w64 ((min t2 (x1.1.Node.Body.length : Int)) + (min t3 (w64 ((x1.1.Node.Body.length : Int) - (min t2 (x1.1.Node.Body.length : Int)))))))))], [(c_data_file x1.1)], ⟨0, []⟩⟩) (by kernel_rfl) (by kernel_rfl) ?_
      show AWp _ _ _ _
      refine awp_seq ?_
      refine awp_seq ?_
      refine awr ?_
      refine ado rfl rfl rfl (tx_ldLA (vs := (c_data_file x1.1)) Tryz.underlying61 rfl s_61 (by decide) rfl rfl rfl rfl) ?_
      refine ado rfl rfl rfl (emv (eV (v := (I (min t2 (x1.1.Node.Body.length : Int)))) rfl)) ?_
      refine ado rfl rfl rfl (emv (eV (v := (I (w64 ((min t2 (x1.1.Node.Body.length : Int)) + (min t3 (w64 ((x1.1.Node.Body.length : Int) - (min t2 (x1.1.Node.Body.length : Int))))))))) rfl)) ?_
      obtain ⟨x4, hx4, h⟩ := bindS h
      refine ado rfl rfl rfl (ex_call0 (vs := [(Value.agg (c_data_file x1.1).toArray), (I (min t2 (x1.1.Node.Body.length : Int))), (I (w64 ((min t2 (x1.1.Node.Body.length : Int)) + (min t3 (w64 ((x1.1.Node.Body.length : Int) - (min t2 (x1.1.Node.Body.length : Int))))))))]) (v := (Bo x4)) rfl en_34 (cargs (evs rfl (evs rfl (evs rfl evs_nil)))) rfl (ok_data_file_bad x1.1 (min t2 (x1.1.Node.Body.length : Int)) (w64 ((min t2 (x1.1.Node.Body.length : Int)) + (min t3 (w64 ((x1.1.Node.Body.length : Int) - (min t2 (x1.1.Node.Body.length : Int))))))) x4 hx4) rfl) ?_
      refine ake [10, 12, 13, 50] 1 0 (st' := ⟨57, 0, [(10, (LP 0 0)), (12, (I (min t2 (x1.1.Node.Body.length : Int)))), (13, (I (w64 ((min t2 (x1.1.Node.Body.length : Int)) + (min t3 (w64 ((x1.1.Node.Body.length : Int) - (min t2 (x1.1.Node.Body.length : Int))))))))), (50, (Bo x4))], [(c_data_file x1.1)], ⟨0, []⟩⟩) (by kernel_rfl) (by kernel_rfl) ?_
      show AWp _ _ _ _
      rcases Bool.eq_false_or_eq_true x4 with hb5 | hb5
      · rw [condT hb5] at h
        refine awp_condT (boT hb5) ?_
        refine awp_seq ?_
        refine awr ?_
        refine ado rfl rfl rfl (eas (eV (v := (S [])) rfl)) ?_
        refine ado rfl rfl rfl (eas (eV (v := (I 12)) rfl)) ?_
        refine ake [8, 9] 0 0 (st' := ⟨57, 0, [(8, (S [])), (9, (I 12))], [], ⟨0, []⟩⟩) (by kernel_rfl) (by kernel_rfl) ?_
        show AWp _ _ _ _
        refine awp_ret ?_
        cases h
        exact aresN rfl (L2.cons (rtmp rfl (eV rfl)) (L2.cons (rtmp rfl (eV rfl)) L2.nil)) rfl
      · rw [condF hb5] at h
        refine awp_condF (boF hb5) ?_
        refine awp_skip ?_
        show AWp _ _ _ _
        refine awp_seq ?_
        refine awr ?_
        refine ado rfl rfl rfl (ex_fieldAddr (v := (LP 0 0)) Tryz.underlying61 rfl s_38 (by decide) rfl rfl) ?_
        refine ado rfl rfl rfl (ex_fieldAddr (v := (LP 0 3)) Tryz.underlying38 rfl s_9 (by decide) rfl rfl) ?_
        refine ado rfl rfl rfl (tx_ldL1 (v := (S x1.1.Node.Body)) Tryz.underlying9 rfl rfl rfl rfl) ?_
        refine ado rfl rfl rfl (emv (eV (v := (I (min t2 (x1.1.Node.Body.length : Int)))) rfl)) ?_
        refine ado rfl rfl rfl (emv (eV (v := (I (w64 ((min t2 (x1.1.Node.Body.length : Int)) + (min t3 (w64 ((x1.1.Node.Body.length : Int) - (min t2 (x1.1.Node.Body.length : Int))))))))) rfl)) ?_
        obtain ⟨x6, hx6, h⟩ := bindS h
        refine ado rfl rfl rfl (tx_slS (u := x1.1.Node.Body) Tryz.underlying9 rfl (loX (l := (min t2 (x1.1.Node.Body.length : Int))) rfl) (hiX (l := (w64 ((min t2 (x1.1.Node.Body.length : Int)) + (min t3 (w64 ((x1.1.Node.Body.length : Int) - (min t2 (x1.1.Node.Body.length : Int)))))))) rfl) hx6) ?_
        refine ado rfl rfl rfl (eas (eV (v := (S x6)) rfl)) ?_
        refine ado rfl rfl rfl (eas (eV (v := (I 0)) rfl)) ?_
        refine ake [8, 9] 0 0 (st' := ⟨57, 0, [(8, (S x6)), (9, (I 0))], [], ⟨0, []⟩⟩) (by kernel_rfl) (by kernel_rfl) ?_
        show AWp _ _ _ _
        refine awp_ret ?_
        cases h
        exact aresN rfl (L2.cons (rtmp rfl (eV rfl)) (L2.cons (rtmp rfl (eV rfl)) L2.nil)) rfl

noncomputable def M_data_Cut_k1 (t0 : (List G_api_Node)) (t2 : Int) (x1 : (G_data_file × Int)) (y2 : Int) : Option ((List G_api_Node) × Int) :=
  cond (y2 != 0) (Option.bind (M_slices_Clone_api_Set_api_Node t0) fun (x7 : (List G_api_Node)) => some (x7, y2)) (Option.bind (M_data_noughts (w64 (t2 - (x1.1.Node.Body.length : Int)))) fun (x8 : Str) => Option.bind (addS x1.1.Node.Body x8) fun (x9 : Str) => Option.bind (slL x9 0 t2) fun (x10 : Str) => Option.bind (M_data_file_with (G_data_file.mk (G_api_Node.mk x1.1.Node.Kind x1.1.Node.Up x1.1.Node.Name x10 x1.1.Node.Bad) x1.1.n) t0) fun (x11 : (List G_api_Node)) => some (x11, 0))
noncomputable def M_data_Cut (t0 : (List G_api_Node)) (t1 : Str) (t2 : Int) : Option ((List G_api_Node) × Int) :=
  Option.bind (M_data_open t0 t1) fun (x1 : (G_data_file × Int)) => cond (x1.2 != 0) (M_data_Cut_k1 t0 t2 x1 x1.2) (cond (decide (t2 < 0)) (M_data_Cut_k1 t0 t2 x1 1) (cond (decide (t2 > 128)) (M_data_Cut_k1 t0 t2 x1 8) (M_data_Cut_k1 t0 t2 x1 x1.2)))
theorem ok_data_Cut (t0 : (List G_api_Node)) (t1 : Str) (t2 : Int) (r : ((List G_api_Node) × Int)) (h : M_data_Cut t0 t1 t2 = some r) : FFn Tryz.prog 10 [(SL 5 cNd t0), (S t1), (I t2)] (Value.tuple #[(SL 5 cNd r.1), (I r.2)]) := by
  refine FFn.of_body (n := 48) Tryz.func10 rfl Tryz.ntmps10 rfl rfl rfl rfl ?_
  show AWp _ _ _ ⟨48, 0, [(0, (SL 5 cNd t0)), (1, (S t1)), (2, (I t2))], [], ⟨0, []⟩⟩
  unfold M_data_Cut at h
  refine awp_seq ?_
  refine awr ?_
  refine ado rfl rfl rfl (eas (eV (v := (Value.slice none 0 0)) rfl)) ?_
  refine ado rfl rfl rfl (eas (eV (v := (I 0)) rfl)) ?_
  refine ake [0, 1, 2] 0 0 (st' := ⟨48, 0, [(0, (SL 5 cNd t0)), (1, (S t1)), (2, (I t2))], [], ⟨0, []⟩⟩) (by kernel_rfl) (by kernel_rfl) ?_
  show AWp _ _ _ _
  refine awp_seq ?_
  refine awr ?_
  refine ado rfl rfl rfl (emv (eV (v := (SL 5 cNd t0)) rfl)) ?_
  refine ado rfl rfl rfl (emv (eV (v := (S t1)) rfl)) ?_
  obtain ⟨x1, hx1, h⟩ := bindS h
  refine ado rfl rfl rfl (ex_call0 (vs := [(SL 5 cNd t0), (S t1)]) (v := (Value.tuple #[(Value.agg (c_data_file x1.1).toArray), (I x1.2)])) rfl en_24 (cargs (evs rfl (evs rfl evs_nil))) rfl (ok_data_open t0 t1 x1 hx1) rfl) ?_
  refine ado rfl rfl rfl (emv (eV (v := (Value.tuple #[(Value.agg (c_data_file x1.1).toArray), (I x1.2)])) rfl)) ?_
  refine ado rfl rfl rfl (ex_extract (vx := (Value.tuple #[(Value.agg (c_data_file x1.1).toArray), (I x1.2)])) (v := (Value.agg (c_data_file x1.1).toArray)) rfl rfl) ?_
  refine ado rfl rfl rfl (ex_extract (vx := (Value.tuple #[(Value.agg (c_data_file x1.1).toArray), (I x1.2)])) (v := (I x1.2)) rfl rfl) ?_
  refine ado rfl rfl rfl (ex_alloc (k := 0) (zs := (c_data_file (G_data_file.mk (G_api_Node.mk 0 0 [] [] 0) 0))) (L' := [(c_data_file (G_data_file.mk (G_api_Node.mk 0 0 [] [] 0) 0))]) z_61 rfl rfl rfl rfl) ?_
  refine arun_do0 rfl rfl (ex_storeL (vy := (Value.agg (c_data_file x1.1).toArray)) (cs := (c_data_file (G_data_file.mk (G_api_Node.mk 0 0 [] [] 0) 0))) (vs := (c_data_file x1.1)) (L' := [(c_data_file x1.1)]) rfl (eV (v := (Value.agg (c_data_file x1.1).toArray)) rfl) rfl s_61 rfl (Nat.le_of_ble_eq_true rfl) (by kernel_rfl)) ?_
  refine ado rfl rfl rfl (eas (eV (v := (I x1.2)) rfl)) ?_
  refine ake [0, 2, 8, 9] 1 0 (st' := ⟨48, 0, [(0, (SL 5 cNd t0)), (2, (I t2)), (8, (LP 0 0)), (9, (I x1.2))], [(c_data_file x1.1)], ⟨0, []⟩⟩) (by kernel_rfl) (by kernel_rfl) ?_
  show AWp _ _ _ _
  refine awp_seqJ (fun s => ∃ (y2 : Int), s = ⟨48, 0, [(0, (SL 5 cNd t0)), (2, (I t2)), (8, (LP 0 0)), (9, (I y2))], [(c_data_file x1.1)], ⟨0, []⟩⟩ ∧ M_data_Cut_k1 t0 t2 x1 y2 = some r) ?_ ?_
  · refine awp_block ?_
    refine awp_seq ?_
    refine awr ?_
    refine ado rfl rfl rfl (emv (eV (v := (I x1.2)) rfl)) ?_
    refine ado rfl rfl rfl (ex_bin (vx := (I x1.2)) (vy := (I 0)) rfl rfl neqI_ok) ?_
    refine ado rfl rfl rfl (eas (eV (v := (Bo (x1.2 != 0))) rfl)) ?_
    refine ake [0, 2, 8, 9, 16] 1 0 (st' := ⟨48, 0, [(0, (SL 5 cNd t0)), (2, (I t2)), (8, (LP 0 0)), (9, (I x1.2)), (16, (Bo (x1.2 != 0)))], [(c_data_file x1.1)], ⟨0, []⟩⟩) (by kernel_rfl) (by kernel_rfl) ?_
    show AWp _ _ _ _
    rcases Bool.eq_false_or_eq_true (x1.2 != 0) with hb3 | hb3
    · rw [condT hb3] at h
      refine awp_condT (boT hb3) ?_
      refine awp_keepE [0, 2, 8, 9] 1 0 (st' := ⟨48, 0, [(0, (SL 5 cNd t0)), (2, (I t2)), (8, (LP 0 0)), (9, (I x1.2))], [(c_data_file x1.1)], ⟨0, []⟩⟩) (by kernel_rfl) (by kernel_rfl) ?_
      refine awp_skip ?_
      exact (Exists.intro x1.2 (And.intro rfl h))
    · rw [condF hb3] at h
      refine awp_condF (boF hb3) ?_
      refine awp_seq ?_
      refine awr ?_
      refine ado rfl rfl rfl (emv (eV (v := (I t2)) rfl)) ?_
      refine ado rfl rfl rfl (ex_bin (vx := (I t2)) (vy := (I 0)) rfl rfl lssI_ok) ?_
      refine ado rfl rfl rfl (eas (eV (v := (Bo (decide (t2 < 0)))) rfl)) ?_
      refine ake [0, 2, 8, 9, 19] 1 0 (st' := ⟨48, 0, [(0, (SL 5 cNd t0)), (2, (I t2)), (8, (LP 0 0)), (9, (I x1.2)), (19, (Bo (decide (t2 < 0))))], [(c_data_file x1.1)], ⟨0, []⟩⟩) (by kernel_rfl) (by kernel_rfl) ?_
      show AWp _ _ _ _
      rcases Bool.eq_false_or_eq_true (decide (t2 < 0)) with hb4 | hb4
      · rw [condT hb4] at h
        refine awp_condT (boT hb4) ?_
        refine awr ?_
        refine ado rfl rfl rfl (eas (eV (v := (I 1)) rfl)) ?_
        refine ake [0, 2, 8, 9] 1 0 (st' := ⟨48, 0, [(0, (SL 5 cNd t0)), (2, (I t2)), (8, (LP 0 0)), (9, (I 1))], [(c_data_file x1.1)], ⟨0, []⟩⟩) (by kernel_rfl) (by kernel_rfl) ?_
        exact (Exists.intro 1 (And.intro rfl h))
      · rw [condF hb4] at h
        refine awp_condF (boF hb4) ?_
        refine awp_seq ?_
        refine awr ?_
        refine ado rfl rfl rfl (emv (eV (v := (I t2)) rfl)) ?_
        refine ado rfl rfl rfl (ex_bin (vx := (I t2)) (vy := (I 128)) rfl rfl gtrI_ok) ?_
        refine ado rfl rfl rfl (eas (eV (v := (Bo (decide (t2 > 128)))) rfl)) ?_
        refine ake [0, 2, 8, 9, 22] 1 0 (st' := ⟨48, 0, [(0, (SL 5 cNd t0)), (2, (I t2)), (8, (LP 0 0)), (9, (I x1.2)), (22, (Bo (decide (t2 > 128))))], [(c_data_file x1.1)], ⟨0, []⟩⟩) (by kernel_rfl) (by kernel_rfl) ?_
        show AWp _ _ _ _
        rcases Bool.eq_false_or_eq_true (decide (t2 > 128)) with hb5 | hb5
        · rw [condT hb5] at h
          refine awp_condT (boT hb5) ?_
          refine awr ?_
          refine ado rfl rfl rfl (eas (eV (v := (I 8)) rfl)) ?_
          refine ake [0, 2, 8, 9] 1 0 (st' := ⟨48, 0, [(0, (SL 5 cNd t0)), (2, (I t2)), (8, (LP 0 0)), (9, (I 8))], [(c_data_file x1.1)], ⟨0, []⟩⟩) (by kernel_rfl) (by kernel_rfl) ?_
          exact (Exists.intro 8 (And.intro rfl h))
        · rw [condF hb5] at h
          refine awp_condF (boF hb5) ?_
          refine awp_keepE [0, 2, 8, 9] 1 0 (st' := ⟨48, 0, [(0, (SL 5 cNd t0)), (2, (I t2)), (8, (LP 0 0)), (9, (I x1.2))], [(c_data_file x1.1)], ⟨0, []⟩⟩) (by kernel_rfl) (by kernel_rfl) ?_
          refine awp_skip ?_
          exact (Exists.intro x1.2 (And.intro rfl h))
  · rintro s ⟨y2, rfl, h⟩
    unfold M_data_Cut_k1 at h
    refine awp_seq ?_
    refine awp_seq ?_
    refine awr ?_
    refine ado rfl rfl rfl (emv (eV (v := (I y2)) rfl)) ?_
    refine ado rfl rfl rfl (ex_bin (vx := (I y2)) (vy := (I 0)) rfl rfl neqI_ok) ?_
    refine ake [0, 2, 8, 9, 26] 1 0 (st' := ⟨48, 0, [(0, (SL 5 cNd t0)), (2, (I t2)), (8, (LP 0 0)), (9, (I y2)), (26, (Bo (y2 != 0)))], [(c_data_file x1.1)], ⟨0, []⟩⟩) (by kernel_rfl) (by kernel_rfl) ?_
    show AWp _ _ _ _
    rcases Bool.eq_false_or_eq_true (y2 != 0) with hb6 | hb6
    · rw [condT hb6] at h
      refine awp_condT (boT hb6) ?_
      refine awp_seq ?_
      refine awr ?_
      refine ado rfl rfl rfl (emv (eV (v := (SL 5 cNd t0)) rfl)) ?_
      obtain ⟨x7, hx7, h⟩ := bindS h
      refine ado rfl rfl rfl (ex_call0 (vs := [(SL 5 cNd t0)]) (v := (SL 5 cNd x7)) rfl en_25 (cargs (evs rfl evs_nil)) rfl (ok_slices_Clone_api_Set_api_Node t0 x7 hx7) rfl) ?_
      refine ado rfl rfl rfl (emv (eV (v := (I y2)) rfl)) ?_
      refine ado rfl rfl rfl (eas (eV (v := (SL 5 cNd x7)) rfl)) ?_
      refine ado rfl rfl rfl (eas (eV (v := (I y2)) rfl)) ?_
      refine ake [6, 7] 0 0 (st' := ⟨48, 0, [(6, (SL 5 cNd x7)), (7, (I y2))], [], ⟨0, []⟩⟩) (by kernel_rfl) (by kernel_rfl) ?_
      show AWp _ _ _ _
      refine awp_ret ?_
      cases h
      exact aresN rfl (L2.cons (rtmp rfl (eV rfl)) (L2.cons (rtmp rfl (eV rfl)) L2.nil)) rfl
    · rw [condF hb6] at h
      refine awp_condF (boF hb6) ?_
      refine awp_skip ?_
      show AWp _ _ _ _
      refine awp_seq ?_
      obtain ⟨x8, hx8, h⟩ := bindS h
      obtain ⟨x9, hx9, h⟩ := bindS h
      obtain ⟨x10, hx10, h⟩ := bindS h
      refine awp_kn [0, 8] 1 0 (st' := ⟨48, 0, [(0, (SL 5 cNd t0)), (8, (LP 0 0))], [(c_data_file (G_data_file.mk (G_api_Node.mk x1.1.Node.Kind x1.1.Node.Up x1.1.Node.Name x10 x1.1.Node.Bad) x1.1.n))], ⟨0, []⟩⟩) (awp_draw (T := [(LP 0 0), (LP 0 3), (S x1.1.Node.Body), (I t2), (LP 0 0), (LP 0 3), (S x1.1.Node.Body), (I (x1.1.Node.Body.length : Int)), (I (w64 (t2 - (x1.1.Node.Body.length : Int)))), (S x8), (S x9), (I t2), (S x10), (LP 0 0), (LP 0 3), undef]) (LH := [([(c_data_file x1.1)], ⟨0, []⟩), ([(c_data_file (G_data_file.mk (G_api_Node.mk x1.1.Node.Kind x1.1.Node.Up x1.1.Node.Name x10 x1.1.Node.Bad) x1.1.n))], ⟨0, []⟩)]) (D := [⟨[(8, none)], [], [0], false⟩, ⟨[(30, some 0)], [0], [0], false⟩, ⟨[(31, some 1)], [0, 1], [0], false⟩, ⟨[(2, none)], [], [0], false⟩, ⟨[(8, none)], [], [0], false⟩, ⟨[(34, some 4)], [4], [0], false⟩, ⟨[(35, some 5)], [4, 5], [0], false⟩, ⟨[(36, some 6)], [4, 5, 6], [0], false⟩, ⟨[(33, some 3), (37, some 7)], [3, 4, 5, 6, 7], [0], false⟩, ⟨[(38, some 8)], [3, 4, 5, 6, 7, 8], [0], false⟩, ⟨[(32, some 2), (39, some 9)], [0, 1, 2, 3, 4, 5, 6, 7, 8, 9], [0], false⟩, ⟨[(2, none)], [], [0], false⟩, ⟨[(40, some 10), (41, some 11)], [0, 1, 2, 3, 4, 5, 6, 7, 8, 9, 10, 11], [0], false⟩, ⟨[(8, none)], [0, 1, 2, 3, 4, 5, 6, 7, 8, 9, 10, 11, 12], [0], false⟩, ⟨[(43, some 13)], [0, 1, 2, 3, 4, 5, 6, 7, 8, 9, 10, 11, 12, 13], [0], false⟩, ⟨[(44, some 14), (42, some 12)], [0, 1, 2, 3, 4, 5, 6, 7, 8, 9, 10, 11, 12, 13, 14], [0], true⟩]) (S := [15]) (plan := [0, 1, 2, 3, 4, 5, 6, 7, 8, 9, 10, 11, 12, 13, 14, 15]) mo (by kernel_rfl) rfl rfl rfl (dcons (dstep1 (Tm := [(8, (LP 0 0))]) (L := [(c_data_file x1.1)]) (H := ⟨0, []⟩) rfl rfl rfl rfl rfl (astep_do rfl (ex_fieldAddr (v := (LP 0 0)) Tryz.underlying61 rfl s_38 (by decide) rfl rfl))) (dcons (dstep1 (Tm := [(30, (LP 0 0))]) (L := [(c_data_file x1.1)]) (H := ⟨0, []⟩) rfl rfl rfl rfl rfl (astep_do rfl (ex_fieldAddr (v := (LP 0 3)) Tryz.underlying38 rfl s_9 (by decide) rfl rfl))) (dcons (dstep1 (Tm := [(31, (LP 0 3))]) (L := [(c_data_file x1.1)]) (H := ⟨0, []⟩) rfl rfl rfl rfl rfl (astep_do rfl (tx_ldL1 (v := (S x1.1.Node.Body)) Tryz.underlying9 rfl rfl rfl rfl))) (dcons (dstep1 (Tm := [(2, (I t2))]) (L := [(c_data_file x1.1)]) (H := ⟨0, []⟩) rfl rfl rfl rfl rfl (astep_do rfl (emv (eV (v := (I t2)) rfl)))) (dcons (dstep1 (Tm := [(8, (LP 0 0))]) (L := [(c_data_file x1.1)]) (H := ⟨0, []⟩) rfl rfl rfl rfl rfl (astep_do rfl (ex_fieldAddr (v := (LP 0 0)) Tryz.underlying61 rfl s_38 (by decide) rfl rfl))) (dcons (dstep1 (Tm := [(34, (LP 0 0))]) (L := [(c_data_file x1.1)]) (H := ⟨0, []⟩) rfl rfl rfl rfl rfl (astep_do rfl (ex_fieldAddr (v := (LP 0 3)) Tryz.underlying38 rfl s_9 (by decide) rfl rfl))) (dcons (dstep1 (Tm := [(35, (LP 0 3))]) (L := [(c_data_file x1.1)]) (H := ⟨0, []⟩) rfl rfl rfl rfl rfl (astep_do rfl (tx_ldL1 (v := (S x1.1.Node.Body)) Tryz.underlying9 rfl rfl rfl rfl))) (dcons (dstep1 (Tm := [(36, (S x1.1.Node.Body))]) (L := [(c_data_file x1.1)]) (H := ⟨0, []⟩) rfl rfl rfl rfl rfl (astep_do rfl (tx_lenS Tryz.underlying9 rfl))) (dcons (dstep1 (Tm := [(33, (I t2)), (37, (I (x1.1.Node.Body.length : Int)))]) (L := [(c_data_file x1.1)]) (H := ⟨0, []⟩) rfl rfl rfl rfl rfl (astep_do rfl (ex_bin (vx := (I t2)) (vy := (I (x1.1.Node.Body.length : Int))) rfl rfl subI_ok))) (dcons (dstep1 (Tm := [(38, (I (w64 (t2 - (x1.1.Node.Body.length : Int)))))]) (L := [(c_data_file x1.1)]) (H := ⟨0, []⟩) rfl rfl rfl rfl rfl (astep_do rfl (ex_call0 (vs := [(I (w64 (t2 - (x1.1.Node.Body.length : Int))))]) (v := (S x8)) rfl en_26 (cargs (evs rfl evs_nil)) rfl (ok_data_noughts (w64 (t2 - (x1.1.Node.Body.length : Int))) x8 hx8) rfl))) (dcons (dstep1 (Tm := [(32, (S x1.1.Node.Body)), (39, (S x8))]) (L := [(c_data_file x1.1)]) (H := ⟨0, []⟩) rfl rfl rfl rfl rfl (astep_do rfl (ex_bin (vx := (S x1.1.Node.Body)) (vy := (S x8)) rfl rfl (addS_ok hx9)))) (dcons (dstep1 (Tm := [(2, (I t2))]) (L := [(c_data_file x1.1)]) (H := ⟨0, []⟩) rfl rfl rfl rfl rfl (astep_do rfl (emv (eV (v := (I t2)) rfl)))) (dcons (dstep1 (Tm := [(40, (S x9)), (41, (I t2))]) (L := [(c_data_file x1.1)]) (H := ⟨0, []⟩) rfl rfl rfl rfl rfl (astep_do rfl (tx_slS (u := x9) Tryz.underlying9 rfl lo0 (hiX (l := t2) rfl) hx10))) (dcons (dstep1 (Tm := [(8, (LP 0 0))]) (L := [(c_data_file x1.1)]) (H := ⟨0, []⟩) rfl rfl rfl rfl rfl (astep_do rfl (ex_fieldAddr (v := (LP 0 0)) Tryz.underlying61 rfl s_38 (by decide) rfl rfl))) (dcons (dstep1 (Tm := [(43, (LP 0 0))]) (L := [(c_data_file x1.1)]) (H := ⟨0, []⟩) rfl rfl rfl rfl rfl (astep_do rfl (ex_fieldAddr (v := (LP 0 3)) Tryz.underlying38 rfl s_9 (by decide) rfl rfl))) (dcons (dstep1 (Tm := [(44, (LP 0 3)), (42, (S x10))]) (L := [(c_data_file x1.1)]) (H := ⟨0, []⟩) rfl rfl rfl rfl rfl (astep_do rfl (ex_storeL (vy := (S x10)) (cs := (c_data_file x1.1)) (vs := [(S x10)]) (L' := [(c_data_file (G_data_file.mk (G_api_Node.mk x1.1.Node.Kind x1.1.Node.Up x1.1.Node.Name x10 x1.1.Node.Bad) x1.1.n))]) rfl (eV (v := (S x10)) rfl) rfl s_9 rfl (Nat.le_of_ble_eq_true rfl) (by kernel_rfl)))) dnil)))))))))))))))) ⟨rfl, rfl⟩) (by kernel_rfl) (by kernel_rfl) ?_
      show AWp _ _ _ _
      refine awp_seq ?_
      refine awr ?_
      refine ado rfl rfl rfl (tx_ldLA (vs := (c_data_file (G_data_file.mk (G_api_Node.mk x1.1.Node.Kind x1.1.Node.Up x1.1.Node.Name x10 x1.1.Node.Bad) x1.1.n))) Tryz.underlying61 rfl s_61 (by decide) rfl rfl rfl rfl) ?_
      refine ado rfl rfl rfl (emv (eV (v := (SL 5 cNd t0)) rfl)) ?_
      obtain ⟨x11, hx11, h⟩ := bindS h
      refine ado rfl rfl rfl (ex_call0 (vs := [(Value.agg (c_data_file (G_data_file.mk (G_api_Node.mk x1.1.Node.Kind x1.1.Node.Up x1.1.Node.Name x10 x1.1.Node.Bad) x1.1.n)).toArray), (SL 5 cNd t0)]) (v := (SL 5 cNd x11)) rfl en_27 (cargs (evs rfl (evs rfl evs_nil))) rfl (ok_data_file_with (G_data_file.mk (G_api_Node.mk x1.1.Node.Kind x1.1.Node.Up x1.1.Node.Name x10 x1.1.Node.Bad) x1.1.n) t0 x11 hx11) rfl) ?_
      refine ado rfl rfl rfl (eas (eV (v := (SL 5 cNd x11)) rfl)) ?_
      refine ado rfl rfl rfl (eas (eV (v := (I 0)) rfl)) ?_
      refine ake [6, 7] 0 0 (st' := ⟨48, 0, [(6, (SL 5 cNd x11)), (7, (I 0))], [], ⟨0, []⟩⟩) (by kernel_rfl) (by kernel_rfl) ?_
      show AWp _ _ _ _
      refine awp_ret ?_
      cases h
      exact aresN rfl (L2.cons (rtmp rfl (eV rfl)) (L2.cons (rtmp rfl (eV rfl)) L2.nil)) rfl

end Go.Proofs
