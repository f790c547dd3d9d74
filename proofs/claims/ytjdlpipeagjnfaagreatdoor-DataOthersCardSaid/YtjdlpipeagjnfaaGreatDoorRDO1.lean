/- Pure models of functions of the program, and that its code does what they say: palimpref11 Kid, palimpref11 lost, palimpref11 down, palimpref11 Place. Written by a program. -/
import Derived.Test.YtjdlpipeagjnfaaGreatDoorRDO0
import Derived.Test.YtjdlpipeagjnfaaGreatDoorRDOB
set_option maxRecDepth 20000
set_option maxHeartbeats 4000000
namespace Go.Proofs
open Go Go.Fhl
set_option linter.unusedVariables false
set_option linter.unusedSimpArgs false
noncomputable def M_ref11_Kid_l1 (t0 : (List G_api_Node)) (t2 : Str) (x1 : (List Int)) : Nat → Int → Option (Int × Bool)
  | 0, _ => none
  | n1 + 1, v2 =>
  cond (decide (v2 < (x1.length : Int))) (Option.bind (getI x1 v2) fun (x4 : Int) => Option.bind (getI t0 x4) fun (x5 : G_api_Node) => cond (x5.Name == t2) (Option.bind (getI x1 v2) fun (x7 : Int) => some (x7, true)) ((M_ref11_Kid_l1 t0 t2 x1 n1) (w64 (v2 + 1)))) (some (0, false))
noncomputable def M_ref11_Kid (t0 : (List G_api_Node)) (t1 : Int) (t2 : Str) : Option (Int × Bool) :=
  Option.bind (M_ref11_Kids t0 t1) fun (x1 : (List Int)) => M_ref11_Kid_l1 t0 t2 x1 fuel 0
theorem ok_ref11_Kid (t0 : (List G_api_Node)) (t1 : Int) (t2 : Str) (r : (Int × Bool)) (h : M_ref11_Kid t0 t1 t2 = some r) : FFn Tryz.prog 31 [(SL 5 cNd t0), (I t1), (S t2)] (Value.tuple #[(I r.1), (Bo r.2)]) := by
  refine FFn.of_body (n := 33) Tryz.func31 rfl Tryz.ntmps31 rfl rfl rfl rfl ?_
  show AWp _ _ _ ⟨33, 0, [(0, (SL 5 cNd t0)), (1, (I t1)), (2, (S t2))], [], ⟨0, []⟩⟩
  unfold M_ref11_Kid at h
  refine awp_seq ?_
  refine awr ?_
  refine ado rfl rfl rfl (eas (eV (v := (I 0)) rfl)) ?_
  refine ado rfl rfl rfl (eas (eV (v := (Bo false)) rfl)) ?_
  refine ake [0, 1, 2] 0 0 (st' := ⟨33, 0, [(0, (SL 5 cNd t0)), (1, (I t1)), (2, (S t2))], [], ⟨0, []⟩⟩) (by kernel_rfl) (by kernel_rfl) ?_
  show AWp _ _ _ _
  refine awp_seq ?_
  refine awr ?_
  refine ado rfl rfl rfl (emv (eV (v := (SL 5 cNd t0)) rfl)) ?_
  refine ado rfl rfl rfl (emv (eV (v := (I t1)) rfl)) ?_
  obtain ⟨x1, hx1, h⟩ := bindS h
  refine ado rfl rfl rfl (ex_call0 (vs := [(SL 5 cNd t0), (I t1)]) (v := (SL 1 cI x1)) rfl en_47 (cargs (evs rfl (evs rfl evs_nil))) rfl (ok_ref11_Kids t0 t1 x1 hx1) rfl) ?_
  refine ado rfl rfl rfl (eas (eV (v := (SL 1 cI x1)) rfl)) ?_
  refine ake [0, 2, 8] 0 0 (st' := ⟨33, 0, [(0, (SL 5 cNd t0)), (2, (S t2)), (8, (SL 1 cI x1))], [], ⟨0, []⟩⟩) (by kernel_rfl) (by kernel_rfl) ?_
  show AWp _ _ _ _
  refine awp_seq ?_
  refine awp_seq ?_
  refine awr ?_
  refine ado rfl rfl rfl (eas (eV (v := (I 0)) rfl)) ?_
  refine ake [0, 2, 8, 9] 0 0 (st' := ⟨33, 0, [(0, (SL 5 cNd t0)), (2, (S t2)), (8, (SL 1 cI x1)), (9, (I 0))], [], ⟨0, []⟩⟩) (by kernel_rfl) (by kernel_rfl) ?_
  show AWp _ _ _ _
  refine awp_block ?_
  refine awp_loop (fun n s => ∃ (v2 : Int), s = ⟨33, 0, [(0, (SL 5 cNd t0)), (2, (S t2)), (8, (SL 1 cI x1)), (9, (I v2))], [], ⟨0, []⟩⟩ ∧ M_ref11_Kid_l1 t0 t2 x1 n v2 = some r) fuel (Exists.intro 0 (And.intro rfl h)) ?_
  rintro n s ⟨v2, rfl, h⟩ -
  cases n with
  | zero => cases h
  | succ n1 =>
    unfold M_ref11_Kid_l1 at h
    refine awp_seq ?_
    refine awp_seq ?_
    refine awr ?_
    refine ado rfl rfl rfl (emv (eV (v := (I v2)) rfl)) ?_
    refine ado rfl rfl rfl (emv (eV (v := (SL 1 cI x1)) rfl)) ?_
    refine ado rfl rfl rfl (tx_lenD (xs := x1) ceI Tryz.underlying75 rfl) ?_
    refine ado rfl rfl rfl (ex_bin (vx := (I v2)) (vy := (I (x1.length : Int))) rfl rfl lssI_ok) ?_
    refine ake [0, 2, 8, 9, 16] 0 0 (st' := ⟨33, 0, [(0, (SL 5 cNd t0)), (2, (S t2)), (8, (SL 1 cI x1)), (9, (I v2)), (16, (Bo (decide (v2 < (x1.length : Int)))))], [], ⟨0, []⟩⟩) (by kernel_rfl) (by kernel_rfl) ?_
    show AWp _ _ _ _
    rcases Bool.eq_false_or_eq_true (decide (v2 < (x1.length : Int))) with hb3 | hb3
    · rw [condT hb3] at h
      refine awp_condT (boT hb3) ?_
      refine awp_skip ?_
      show AWp _ _ _ _
      refine awp_seq ?_
      refine awp_block ?_
      refine awp_seq ?_
      refine awr ?_
      refine ado rfl rfl rfl (emv (eV (v := (SL 5 cNd t0)) rfl)) ?_
      refine ado rfl rfl rfl (emv (eV (v := (SL 1 cI x1)) rfl)) ?_
      refine ado rfl rfl rfl (emv (eV (v := (I v2)) rfl)) ?_
      obtain ⟨x4, hx4, h⟩ := bindS h
      refine ado rfl rfl rfl (tx_idxD (c := cI) (xs := x1) (i := v2) ceI Tryz.underlying75 s_3 rfl rfl hx4) ?_
      refine ado rfl rfl rfl (tx_ldD1 (v := (I x4)) Tryz.underlying3 rfl rfl rfl) ?_
      obtain ⟨x5, hx5, h⟩ := bindS h
      refine ado rfl rfl rfl (tx_idxD (c := cNd) (xs := t0) (i := x4) ce_api_Node Tryz.underlying25 s_38 rfl rfl hx5) ?_
      refine ado rfl rfl rfl (ex_fieldAddrD (vs := (List.drop 2 (cNd x5))) Tryz.underlying38 rfl s_9 (by decide) rfl rfl) ?_
      refine ado rfl rfl rfl (tx_ldD1 (v := (S x5.Name)) Tryz.underlying9 rfl rfl rfl) ?_
      refine ado rfl rfl rfl (emv (eV (v := (S t2)) rfl)) ?_
      refine ado rfl rfl rfl (ex_bin (vx := (S x5.Name)) (vy := (S t2)) rfl rfl eqlS_ok) ?_
      refine ake [0, 2, 8, 9, 28] 0 0 (st' := ⟨33, 0, [(0, (SL 5 cNd t0)), (2, (S t2)), (8, (SL 1 cI x1)), (9, (I v2)), (28, (Bo (x5.Name == t2)))], [], ⟨0, []⟩⟩) (by kernel_rfl) (by kernel_rfl) ?_
      show AWp _ _ _ _
      rcases Bool.eq_false_or_eq_true (x5.Name == t2) with hb6 | hb6
      · rw [condT hb6] at h
        refine awp_condT (boT hb6) ?_
        refine awp_seq ?_
        refine awr ?_
        refine ado rfl rfl rfl (emv (eV (v := (SL 1 cI x1)) rfl)) ?_
        refine ado rfl rfl rfl (emv (eV (v := (I v2)) rfl)) ?_
        obtain ⟨x7, hx7, h⟩ := bindS h
        refine ado rfl rfl rfl (tx_idxD (c := cI) (xs := x1) (i := v2) ceI Tryz.underlying75 s_3 rfl rfl hx7) ?_
        refine ado rfl rfl rfl (tx_ldD1 (v := (I x7)) Tryz.underlying3 rfl rfl rfl) ?_
        refine ado rfl rfl rfl (eas (eV (v := (I x7)) rfl)) ?_
        refine ado rfl rfl rfl (eas (eV (v := (Bo true)) rfl)) ?_
        refine ake [6, 7] 0 0 (st' := ⟨33, 0, [(6, (I x7)), (7, (Bo true))], [], ⟨0, []⟩⟩) (by kernel_rfl) (by kernel_rfl) ?_
        show AWp _ _ _ _
        refine awp_ret ?_
        cases h
        exact aresN rfl (L2.cons (rtmp rfl (eV rfl)) (L2.cons (rtmp rfl (eV rfl)) L2.nil)) rfl
      · rw [condF hb6] at h
        refine awp_condF (boF hb6) ?_
        refine awp_skip ?_
        show AWp _ _ _ _
        refine awr ?_
        refine ado rfl rfl rfl (emv (eV (v := (I v2)) rfl)) ?_
        refine ado rfl rfl rfl (ex_bin (vx := (I v2)) (vy := (I 1)) rfl rfl addI_ok) ?_
        refine ado rfl rfl rfl (eas (eV (v := (I (w64 (v2 + 1)))) rfl)) ?_
        refine ake [0, 2, 8, 9] 0 0 (st' := ⟨33, 0, [(0, (SL 5 cNd t0)), (2, (S t2)), (8, (SL 1 cI x1)), (9, (I (w64 (v2 + 1))))], [], ⟨0, []⟩⟩) (by kernel_rfl) (by kernel_rfl) ?_
        exact Exists.intro n1 (And.intro (Nat.lt_succ_self _) (Exists.intro (w64 (v2 + 1)) (And.intro rfl h)))
    · rw [condF hb3] at h
      refine awp_condF (boF hb3) ?_
      refine awp_exit ?_
      show AWp _ _ _ _
      refine awp_seq ?_
      refine awr ?_
      refine ado rfl rfl rfl (eas (eV (v := (I 0)) rfl)) ?_
      refine ado rfl rfl rfl (eas (eV (v := (Bo false)) rfl)) ?_
      refine ake [6, 7] 0 0 (st' := ⟨33, 0, [(6, (I 0)), (7, (Bo false))], [], ⟨0, []⟩⟩) (by kernel_rfl) (by kernel_rfl) ?_
      show AWp _ _ _ _
      refine awp_ret ?_
      cases h
      exact aresN rfl (L2.cons (rtmp rfl (eV rfl)) (L2.cons (rtmp rfl (eV rfl)) L2.nil)) rfl

noncomputable def M_ref11_lost_l1 (t0 : (List G_api_Node)) : Nat → Int → Option Bool
  | 0, _ => none
  | n1 + 1, v1 =>
  cond (decide (v1 < (t0.length : Int))) (Option.bind (getI t0 v1) fun (x3 : G_api_Node) => cond (x3.Kind == 3) (some true) ((M_ref11_lost_l1 t0 n1) (w64 (v1 + 1)))) (some false)
noncomputable def M_ref11_lost (t0 : (List G_api_Node)) : Option Bool :=
  M_ref11_lost_l1 t0 fuel 0
theorem ok_ref11_lost (t0 : (List G_api_Node)) (r : Bool) (h : M_ref11_lost t0 = some r) : FFn Tryz.prog 42 [(SL 5 cNd t0)] (Bo r) := by
  refine FFn.of_body (n := 16) Tryz.func42 rfl Tryz.ntmps42 rfl rfl rfl rfl ?_
  show AWp _ _ _ ⟨16, 0, [(0, (SL 5 cNd t0))], [], ⟨0, []⟩⟩
  unfold M_ref11_lost at h
  refine awp_seq ?_
  refine awr ?_
  refine ado rfl rfl rfl (eas (eV (v := (Bo false)) rfl)) ?_
  refine ake [0] 0 0 (st' := ⟨16, 0, [(0, (SL 5 cNd t0))], [], ⟨0, []⟩⟩) (by kernel_rfl) (by kernel_rfl) ?_
  show AWp _ _ _ _
  refine awp_seq ?_
  refine awp_seq ?_
  refine awr ?_
  refine ado rfl rfl rfl (eas (eV (v := (I 0)) rfl)) ?_
  refine ake [0, 3] 0 0 (st' := ⟨16, 0, [(0, (SL 5 cNd t0)), (3, (I 0))], [], ⟨0, []⟩⟩) (by kernel_rfl) (by kernel_rfl) ?_
  show AWp _ _ _ _
  refine awp_block ?_
  refine awp_loop (fun n s => ∃ (v1 : Int), s = ⟨16, 0, [(0, (SL 5 cNd t0)), (3, (I v1))], [], ⟨0, []⟩⟩ ∧ M_ref11_lost_l1 t0 n v1 = some r) fuel (Exists.intro 0 (And.intro rfl h)) ?_
  rintro n s ⟨v1, rfl, h⟩ -
  cases n with
  | zero => cases h
  | succ n1 =>
    unfold M_ref11_lost_l1 at h
    refine awp_seq ?_
    refine awp_seq ?_
    refine awr ?_
    refine ado rfl rfl rfl (emv (eV (v := (I v1)) rfl)) ?_
    refine ado rfl rfl rfl (emv (eV (v := (SL 5 cNd t0)) rfl)) ?_
    refine ado rfl rfl rfl (tx_lenD (xs := t0) ce_api_Node Tryz.underlying25 rfl) ?_
    refine ado rfl rfl rfl (ex_bin (vx := (I v1)) (vy := (I (t0.length : Int))) rfl rfl lssI_ok) ?_
    refine ake [0, 3, 7] 0 0 (st' := ⟨16, 0, [(0, (SL 5 cNd t0)), (3, (I v1)), (7, (Bo (decide (v1 < (t0.length : Int)))))], [], ⟨0, []⟩⟩) (by kernel_rfl) (by kernel_rfl) ?_
    show AWp _ _ _ _
    rcases Bool.eq_false_or_eq_true (decide (v1 < (t0.length : Int))) with hb2 | hb2
    · rw [condT hb2] at h
      refine awp_condT (boT hb2) ?_
      refine awp_skip ?_
      show AWp _ _ _ _
      refine awp_seq ?_
      refine awp_block ?_
      refine awp_seq ?_
      refine awr ?_
      refine ado rfl rfl rfl (emv (eV (v := (SL 5 cNd t0)) rfl)) ?_
      refine ado rfl rfl rfl (emv (eV (v := (I v1)) rfl)) ?_
      obtain ⟨x3, hx3, h⟩ := bindS h
      refine ado rfl rfl rfl (tx_idxD (c := cNd) (xs := t0) (i := v1) ce_api_Node Tryz.underlying25 s_38 rfl rfl hx3) ?_
      refine ado rfl rfl rfl (ex_fieldAddrD (vs := (List.drop 0 (cNd x3))) Tryz.underlying38 rfl s_3 (by decide) rfl rfl) ?_
      refine ado rfl rfl rfl (tx_ldD1 (v := (I x3.Kind)) Tryz.underlying3 rfl rfl rfl) ?_
      refine ado rfl rfl rfl (ex_bin (vx := (I x3.Kind)) (vy := (I 3)) rfl rfl eqlI_ok) ?_
      refine ake [0, 3, 15] 0 0 (st' := ⟨16, 0, [(0, (SL 5 cNd t0)), (3, (I v1)), (15, (Bo (x3.Kind == 3)))], [], ⟨0, []⟩⟩) (by kernel_rfl) (by kernel_rfl) ?_
      show AWp _ _ _ _
      rcases Bool.eq_false_or_eq_true (x3.Kind == 3) with hb4 | hb4
      · rw [condT hb4] at h
        refine awp_condT (boT hb4) ?_
        refine awp_seq ?_
        refine awr ?_
        refine ado rfl rfl rfl (eas (eV (v := (Bo true)) rfl)) ?_
        refine ake [2] 0 0 (st' := ⟨16, 0, [(2, (Bo true))], [], ⟨0, []⟩⟩) (by kernel_rfl) (by kernel_rfl) ?_
        show AWp _ _ _ _
        refine awp_ret ?_
        cases h
        exact ares1 (rtmp rfl (eV rfl))
      · rw [condF hb4] at h
        refine awp_condF (boF hb4) ?_
        refine awp_skip ?_
        show AWp _ _ _ _
        refine awr ?_
        refine ado rfl rfl rfl (emv (eV (v := (I v1)) rfl)) ?_
        refine ado rfl rfl rfl (ex_bin (vx := (I v1)) (vy := (I 1)) rfl rfl addI_ok) ?_
        refine ado rfl rfl rfl (eas (eV (v := (I (w64 (v1 + 1)))) rfl)) ?_
        refine ake [0, 3] 0 0 (st' := ⟨16, 0, [(0, (SL 5 cNd t0)), (3, (I (w64 (v1 + 1))))], [], ⟨0, []⟩⟩) (by kernel_rfl) (by kernel_rfl) ?_
        exact Exists.intro n1 (And.intro (Nat.lt_succ_self _) (Exists.intro (w64 (v1 + 1)) (And.intro rfl h)))
    · rw [condF hb2] at h
      refine awp_condF (boF hb2) ?_
      refine awp_exit ?_
      show AWp _ _ _ _
      refine awp_seq ?_
      refine awr ?_
      refine ado rfl rfl rfl (eas (eV (v := (Bo false)) rfl)) ?_
      refine ake [2] 0 0 (st' := ⟨16, 0, [(2, (Bo false))], [], ⟨0, []⟩⟩) (by kernel_rfl) (by kernel_rfl) ?_
      show AWp _ _ _ _
      refine awp_ret ?_
      cases h
      exact ares1 (rtmp rfl (eV rfl))

noncomputable def M_ref11_down_l1 (t0 : (List G_api_Node)) (t1 : (List Str)) : Nat → Int → Int → Option (Int × Int)
  | 0, _, _ => none
  | n1 + 1, v1, v2 =>
  cond (decide (v2 < (t1.length : Int))) (Option.bind (gd ((decide (v1 ≥ (t0.length : Int))) == false) (getI t0 v1)) fun (x4 : G_api_Node) => cond ((decide (v1 ≥ (t0.length : Int))) || (x4.Kind != 2)) (some (0, 5)) (Option.bind (getI t1 v2) fun (x6 : Str) => Option.bind (M_ref11_Kid t0 v1 x6) fun (x7 : (Int × Bool)) => Option.bind (gd ((!x7.2) == true) (M_ref11_lost t0)) fun (x8 : Bool) => cond ((!x7.2) && x8) (some (0, 12)) (cond (!x7.2) (some (0, 2)) ((M_ref11_down_l1 t0 t1 n1) x7.1 (w64 (v2 + 1)))))) (some (v1, 0))
noncomputable def M_ref11_down (t0 : (List G_api_Node)) (t1 : (List Str)) : Option (Int × Int) :=
  M_ref11_down_l1 t0 t1 fuel 0 0
theorem ok_ref11_down (t0 : (List G_api_Node)) (t1 : (List Str)) (r : (Int × Int)) (h : M_ref11_down t0 t1 = some r) : FFn Tryz.prog 23 [(SL 5 cNd t0), (SL 1 cS t1)] (Value.tuple #[(I r.1), (I r.2)]) := by
  refine FFn.of_body (n := 48) Tryz.func23 rfl Tryz.ntmps23 rfl rfl rfl rfl ?_
  show AWp _ _ _ ⟨48, 0, [(0, (SL 5 cNd t0)), (1, (SL 1 cS t1))], [], ⟨0, []⟩⟩
  unfold M_ref11_down at h
  refine awp_seq ?_
  refine awr ?_
  refine ado rfl rfl rfl (eas (eV (v := (I 0)) rfl)) ?_
  refine ado rfl rfl rfl (eas (eV (v := (I 0)) rfl)) ?_
  refine ake [0, 1] 0 0 (st' := ⟨48, 0, [(0, (SL 5 cNd t0)), (1, (SL 1 cS t1))], [], ⟨0, []⟩⟩) (by kernel_rfl) (by kernel_rfl) ?_
  show AWp _ _ _ _
  refine awp_seq ?_
  refine awr ?_
  refine ado rfl rfl rfl (eas (eV (v := (I 0)) rfl)) ?_
  refine ake [0, 1, 6] 0 0 (st' := ⟨48, 0, [(0, (SL 5 cNd t0)), (1, (SL 1 cS t1)), (6, (I 0))], [], ⟨0, []⟩⟩) (by kernel_rfl) (by kernel_rfl) ?_
  show AWp _ _ _ _
  refine awp_seq ?_
  refine awp_seq ?_
  refine awr ?_
  refine ado rfl rfl rfl (eas (eV (v := (I 0)) rfl)) ?_
  refine ake [0, 1, 6, 7] 0 0 (st' := ⟨48, 0, [(0, (SL 5 cNd t0)), (1, (SL 1 cS t1)), (6, (I 0)), (7, (I 0))], [], ⟨0, []⟩⟩) (by kernel_rfl) (by kernel_rfl) ?_
  show AWp _ _ _ _
  refine awp_block ?_
  refine awp_loop (fun n s => ∃ (v1 : Int) (v2 : Int), s = ⟨48, 0, [(0, (SL 5 cNd t0)), (1, (SL 1 cS t1)), (6, (I v1)), (7, (I v2))], [], ⟨0, []⟩⟩ ∧ M_ref11_down_l1 t0 t1 n v1 v2 = some r) fuel (Exists.intro 0 (Exists.intro 0 (And.intro rfl h))) ?_
  rintro n s ⟨v1, v2, rfl, h⟩ -
  cases n with
  | zero => cases h
  | succ n1 =>
    unfold M_ref11_down_l1 at h
    refine awp_seq ?_
    refine awp_seq ?_
    refine awr ?_
    refine ado rfl rfl rfl (emv (eV (v := (I v2)) rfl)) ?_
    refine ado rfl rfl rfl (emv (eV (v := (SL 1 cS t1)) rfl)) ?_
    refine ado rfl rfl rfl (tx_lenD (xs := t1) ceS Tryz.underlying48 rfl) ?_
    refine ado rfl rfl rfl (ex_bin (vx := (I v2)) (vy := (I (t1.length : Int))) rfl rfl lssI_ok) ?_
    refine ake [0, 1, 6, 7, 13] 0 0 (st' := ⟨48, 0, [(0, (SL 5 cNd t0)), (1, (SL 1 cS t1)), (6, (I v1)), (7, (I v2)), (13, (Bo (decide (v2 < (t1.length : Int)))))], [], ⟨0, []⟩⟩) (by kernel_rfl) (by kernel_rfl) ?_
    show AWp _ _ _ _
    rcases Bool.eq_false_or_eq_true (decide (v2 < (t1.length : Int))) with hb3 | hb3
    · rw [condT hb3] at h
      refine awp_condT (boT hb3) ?_
      refine awp_skip ?_
      show AWp _ _ _ _
      refine awp_seq ?_
      refine awp_block ?_
      refine awp_seq ?_
      refine awp_seq ?_
      refine awr ?_
      refine ado rfl rfl rfl (emv (eV (v := (I v1)) rfl)) ?_
      refine ado rfl rfl rfl (emv (eV (v := (SL 5 cNd t0)) rfl)) ?_
      refine ado rfl rfl rfl (tx_lenD (xs := t0) ce_api_Node Tryz.underlying25 rfl) ?_
      refine ado rfl rfl rfl (ex_bin (vx := (I v1)) (vy := (I (t0.length : Int))) rfl rfl geqI_ok) ?_
      refine ado rfl rfl rfl (emv (eV (v := (Bo (decide (v1 ≥ (t0.length : Int))))) rfl)) ?_
      refine arun_guard (v := (SL 5 cNd t0)) ((decide (v1 ≥ (t0.length : Int))) == false) rfl rfl rfl (fun hc => emv (eV (v := (SL 5 cNd t0)) rfl)) ?_
      refine arun_guard (v := (I v1)) ((decide (v1 ≥ (t0.length : Int))) == false) rfl rfl rfl (fun hc => emv (eV (v := (I v1)) rfl)) ?_
      obtain ⟨x4, hx4, h⟩ := bindS h
      refine arun_guard (v := (DP (cNd x4))) ((decide (v1 ≥ (t0.length : Int))) == false) rfl rfl rfl (fun hc => tx_idxD (c := cNd) (xs := t0) (i := v1) ce_api_Node Tryz.underlying25 s_38 (cond_of hc) (cond_of hc) (gd_of hc hx4)) ?_
      refine arun_guard (v := (DP (List.drop 0 (cNd x4)))) ((decide (v1 ≥ (t0.length : Int))) == false) rfl rfl rfl (fun hc => ex_fieldAddrD (vs := (List.drop 0 (cNd x4))) Tryz.underlying38 rfl s_3 (by decide) (cond_of hc) rfl) ?_
      refine arun_guard (v := (I x4.Kind)) ((decide (v1 ≥ (t0.length : Int))) == false) rfl rfl rfl (fun hc => tx_ldD1 (v := (I x4.Kind)) Tryz.underlying3 rfl (cond_of hc) rfl) ?_
      refine arun_guard (v := (Bo (x4.Kind != 2))) ((decide (v1 ≥ (t0.length : Int))) == false) rfl rfl rfl (fun hc => ex_bin (vx := (I x4.Kind)) (vy := (I 2)) (cond_of hc) rfl neqI_ok) ?_
      refine ado rfl rfl rfl (ex_pick rfl pkOr) ?_
      refine ake [0, 1, 6, 7, 27] 0 0 (st' := ⟨48, 0, [(0, (SL 5 cNd t0)), (1, (SL 1 cS t1)), (6, (I v1)), (7, (I v2)), (27, (Bo ((decide (v1 ≥ (t0.length : Int))) || (x4.Kind != 2))))], [], ⟨0, []⟩⟩) (by kernel_rfl) (by kernel_rfl) ?_
      show AWp _ _ _ _
      rcases Bool.eq_false_or_eq_true ((decide (v1 ≥ (t0.length : Int))) || (x4.Kind != 2)) with hb5 | hb5
      · rw [condT hb5] at h
        refine awp_condT (boT hb5) ?_
        refine awp_seq ?_
        refine awr ?_
        refine ado rfl rfl rfl (eas (eV (v := (I 0)) rfl)) ?_
        refine ado rfl rfl rfl (eas (eV (v := (I 5)) rfl)) ?_
        refine ake [4, 5] 0 0 (st' := ⟨48, 0, [(4, (I 0)), (5, (I 5))], [], ⟨0, []⟩⟩) (by kernel_rfl) (by kernel_rfl) ?_
        show AWp _ _ _ _
        refine awp_ret ?_
        cases h
        exact aresN rfl (L2.cons (rtmp rfl (eV rfl)) (L2.cons (rtmp rfl (eV rfl)) L2.nil)) rfl
      · rw [condF hb5] at h
        refine awp_condF (boF hb5) ?_
        refine awp_skip ?_
        show AWp _ _ _ _
        refine awp_seq ?_
        refine awr ?_
        refine ado rfl rfl rfl (emv (eV (v := (SL 5 cNd t0)) rfl)) ?_
        refine ado rfl rfl rfl (emv (eV (v := (I v1)) rfl)) ?_
        refine ado rfl rfl rfl (emv (eV (v := (SL 1 cS t1)) rfl)) ?_
        refine ado rfl rfl rfl (emv (eV (v := (I v2)) rfl)) ?_
        obtain ⟨x6, hx6, h⟩ := bindS h
        refine ado rfl rfl rfl (tx_idxD (c := cS) (xs := t1) (i := v2) ceS Tryz.underlying48 s_9 rfl rfl hx6) ?_
        refine ado rfl rfl rfl (tx_ldD1 (v := (S x6)) Tryz.underlying9 rfl rfl rfl) ?_
        obtain ⟨x7, hx7, h⟩ := bindS h
        refine ado rfl rfl rfl (ex_call0 (vs := [(SL 5 cNd t0), (I v1), (S x6)]) (v := (Value.tuple #[(I x7.1), (Bo x7.2)])) rfl en_31 (cargs (evs rfl (evs rfl (evs rfl evs_nil)))) rfl (ok_ref11_Kid t0 v1 x6 x7 hx7) rfl) ?_
        refine ado rfl rfl rfl (emv (eV (v := (Value.tuple #[(I x7.1), (Bo x7.2)])) rfl)) ?_
        refine ado rfl rfl rfl (ex_extract (vx := (Value.tuple #[(I x7.1), (Bo x7.2)])) (v := (I x7.1)) rfl rfl) ?_
        refine ado rfl rfl rfl (ex_extract (vx := (Value.tuple #[(I x7.1), (Bo x7.2)])) (v := (Bo x7.2)) rfl rfl) ?_
        refine ado rfl rfl rfl (eas (eV (v := (I x7.1)) rfl)) ?_
        refine ado rfl rfl rfl (eas (eV (v := (Bo x7.2)) rfl)) ?_
        refine ake [0, 1, 7, 8, 9] 0 0 (st' := ⟨48, 0, [(0, (SL 5 cNd t0)), (1, (SL 1 cS t1)), (7, (I v2)), (8, (I x7.1)), (9, (Bo x7.2))], [], ⟨0, []⟩⟩) (by kernel_rfl) (by kernel_rfl) ?_
        show AWp _ _ _ _
        refine awp_seq ?_
        refine awp_seq ?_
        refine awr ?_
        refine ado rfl rfl rfl (emv (eV (v := (Bo x7.2)) rfl)) ?_
        refine ado rfl rfl rfl (ex_un (vx := (Bo x7.2)) rfl notB_ok) ?_
        refine ado rfl rfl rfl (emv (eV (v := (Bo (!x7.2))) rfl)) ?_
        refine arun_guard (v := (SL 5 cNd t0)) ((!x7.2) == true) rfl rfl rfl (fun hc => emv (eV (v := (SL 5 cNd t0)) rfl)) ?_
        obtain ⟨x8, hx8, h⟩ := bindS h
        refine arun_guard (v := (Bo x8)) ((!x7.2) == true) rfl rfl rfl (fun hc => ex_call0 (vs := [(SL 5 cNd t0)]) (v := (Bo x8)) rfl en_42 (cargs (evs (cond_of hc) evs_nil)) rfl (ok_ref11_lost t0 x8 (gd_of hc hx8)) rfl) ?_
        refine ado rfl rfl rfl (ex_pick rfl pkAnd) ?_
        refine ake [0, 1, 7, 8, 9, 43] 0 0 (st' := ⟨48, 0, [(0, (SL 5 cNd t0)), (1, (SL 1 cS t1)), (7, (I v2)), (8, (I x7.1)), (9, (Bo x7.2)), (43, (Bo ((!x7.2) && x8)))], [], ⟨0, []⟩⟩) (by kernel_rfl) (by kernel_rfl) ?_
        show AWp _ _ _ _
        rcases Bool.eq_false_or_eq_true ((!x7.2) && x8) with hb9 | hb9
        · rw [condT hb9] at h
          refine awp_condT (boT hb9) ?_
          refine awp_seq ?_
          refine awr ?_
          refine ado rfl rfl rfl (eas (eV (v := (I 0)) rfl)) ?_
          refine ado rfl rfl rfl (eas (eV (v := (I 12)) rfl)) ?_
          refine ake [4, 5] 0 0 (st' := ⟨48, 0, [(4, (I 0)), (5, (I 12))], [], ⟨0, []⟩⟩) (by kernel_rfl) (by kernel_rfl) ?_
          show AWp _ _ _ _
          refine awp_ret ?_
          cases h
          exact aresN rfl (L2.cons (rtmp rfl (eV rfl)) (L2.cons (rtmp rfl (eV rfl)) L2.nil)) rfl
        · rw [condF hb9] at h
          refine awp_condF (boF hb9) ?_
          refine awp_skip ?_
          show AWp _ _ _ _
          refine awp_seq ?_
          refine awp_seq ?_
          refine awr ?_
          refine ado rfl rfl rfl (emv (eV (v := (Bo x7.2)) rfl)) ?_
          refine ado rfl rfl rfl (ex_un (vx := (Bo x7.2)) rfl notB_ok) ?_
          refine ake [0, 1, 7, 8, 45] 0 0 (st' := ⟨48, 0, [(0, (SL 5 cNd t0)), (1, (SL 1 cS t1)), (7, (I v2)), (8, (I x7.1)), (45, (Bo (!x7.2)))], [], ⟨0, []⟩⟩) (by kernel_rfl) (by kernel_rfl) ?_
          show AWp _ _ _ _
          rcases Bool.eq_false_or_eq_true (!x7.2) with hb10 | hb10
          · rw [condT hb10] at h
            refine awp_condT (boT hb10) ?_
            refine awp_seq ?_
            refine awr ?_
            refine ado rfl rfl rfl (eas (eV (v := (I 0)) rfl)) ?_
            refine ado rfl rfl rfl (eas (eV (v := (I 2)) rfl)) ?_
            refine ake [4, 5] 0 0 (st' := ⟨48, 0, [(4, (I 0)), (5, (I 2))], [], ⟨0, []⟩⟩) (by kernel_rfl) (by kernel_rfl) ?_
            show AWp _ _ _ _
            refine awp_ret ?_
            cases h
            exact aresN rfl (L2.cons (rtmp rfl (eV rfl)) (L2.cons (rtmp rfl (eV rfl)) L2.nil)) rfl
          · rw [condF hb10] at h
            refine awp_condF (boF hb10) ?_
            refine awp_skip ?_
            show AWp _ _ _ _
            refine awr ?_
            refine ado rfl rfl rfl (emv (eV (v := (I x7.1)) rfl)) ?_
            refine ado rfl rfl rfl (eas (eV (v := (I x7.1)) rfl)) ?_
            refine ake [0, 1, 6, 7] 0 0 (st' := ⟨48, 0, [(0, (SL 5 cNd t0)), (1, (SL 1 cS t1)), (6, (I x7.1)), (7, (I v2))], [], ⟨0, []⟩⟩) (by kernel_rfl) (by kernel_rfl) ?_
            show AWp _ _ _ _
            refine awr ?_
            refine ado rfl rfl rfl (emv (eV (v := (I v2)) rfl)) ?_
            refine ado rfl rfl rfl (ex_bin (vx := (I v2)) (vy := (I 1)) rfl rfl addI_ok) ?_
            refine ado rfl rfl rfl (eas (eV (v := (I (w64 (v2 + 1)))) rfl)) ?_
            refine ake [0, 1, 6, 7] 0 0 (st' := ⟨48, 0, [(0, (SL 5 cNd t0)), (1, (SL 1 cS t1)), (6, (I x7.1)), (7, (I (w64 (v2 + 1))))], [], ⟨0, []⟩⟩) (by kernel_rfl) (by kernel_rfl) ?_
            exact Exists.intro n1 (And.intro (Nat.lt_succ_self _) (Exists.intro x7.1 (Exists.intro (w64 (v2 + 1)) (And.intro rfl h))))
    · rw [condF hb3] at h
      refine awp_condF (boF hb3) ?_
      refine awp_exit ?_
      show AWp _ _ _ _
      refine awp_seq ?_
      refine awr ?_
      refine ado rfl rfl rfl (emv (eV (v := (I v1)) rfl)) ?_
      refine ado rfl rfl rfl (eas (eV (v := (I v1)) rfl)) ?_
      refine ado rfl rfl rfl (eas (eV (v := (I 0)) rfl)) ?_
      refine ake [4, 5] 0 0 (st' := ⟨48, 0, [(4, (I v1)), (5, (I 0))], [], ⟨0, []⟩⟩) (by kernel_rfl) (by kernel_rfl) ?_
      show AWp _ _ _ _
      refine awp_ret ?_
      cases h
      exact aresN rfl (L2.cons (rtmp rfl (eV rfl)) (L2.cons (rtmp rfl (eV rfl)) L2.nil)) rfl

noncomputable def M_ref11_Place (t0 : (List G_api_Node)) (t1 : Str) : Option (Int × Str × Int) :=
  Option.bind (M_ref11_Parts t1) fun (x1 : ((List Str) × Bool)) => cond ((!x1.2) || ((x1.1.length : Int) == 0)) (some (0, [], 1)) (Option.bind (slL x1.1 0 (w64 ((x1.1.length : Int) - 1))) fun (x3 : (List Str)) => Option.bind (M_ref11_down t0 x3) fun (x4 : (Int × Int)) => cond (x4.2 != 0) (some (0, [], x4.2)) (Option.bind (gd ((decide (x4.1 ≥ (t0.length : Int))) == false) (getI t0 x4.1)) fun (x6 : G_api_Node) => cond ((decide (x4.1 ≥ (t0.length : Int))) || (x6.Kind != 2)) (some (0, [], 5)) (Option.bind (getI x1.1 (w64 ((x1.1.length : Int) - 1))) fun (x8 : Str) => some (x4.1, x8, 0))))
theorem ok_ref11_Place (t0 : (List G_api_Node)) (t1 : Str) (r : (Int × Str × Int)) (h : M_ref11_Place t0 t1 = some r) : FFn Tryz.prog 30 [(SL 5 cNd t0), (S t1)] (Value.tuple #[(I r.1), (S r.2.1), (I r.2.2)]) := by
  refine FFn.of_body (n := 55) Tryz.func30 rfl Tryz.ntmps30 rfl rfl rfl rfl ?_
  show AWp _ _ _ ⟨55, 0, [(0, (SL 5 cNd t0)), (1, (S t1))], [], ⟨0, []⟩⟩
  unfold M_ref11_Place at h
  refine awp_seq ?_
  refine awr ?_
  refine ado rfl rfl rfl (eas (eV (v := (I 0)) rfl)) ?_
  refine ado rfl rfl rfl (eas (eV (v := (S [])) rfl)) ?_
  refine ado rfl rfl rfl (eas (eV (v := (I 0)) rfl)) ?_
  refine ake [0, 1] 0 0 (st' := ⟨55, 0, [(0, (SL 5 cNd t0)), (1, (S t1))], [], ⟨0, []⟩⟩) (by kernel_rfl) (by kernel_rfl) ?_
  show AWp _ _ _ _
  refine awp_seq ?_
  refine awr ?_
  refine ado rfl rfl rfl (emv (eV (v := (S t1)) rfl)) ?_
  obtain ⟨x1, hx1, h⟩ := bindS h
  refine ado rfl rfl rfl (ex_call0 (vs := [(S t1)]) (v := (Value.tuple #[(SL 1 cS x1.1), (Bo x1.2)])) rfl en_22 (cargs (evs rfl evs_nil)) rfl (ok_ref11_Parts t1 x1 hx1) rfl) ?_
  refine ado rfl rfl rfl (emv (eV (v := (Value.tuple #[(SL 1 cS x1.1), (Bo x1.2)])) rfl)) ?_
  refine ado rfl rfl rfl (ex_extract (vx := (Value.tuple #[(SL 1 cS x1.1), (Bo x1.2)])) (v := (SL 1 cS x1.1)) rfl rfl) ?_
  refine ado rfl rfl rfl (ex_extract (vx := (Value.tuple #[(SL 1 cS x1.1), (Bo x1.2)])) (v := (Bo x1.2)) rfl rfl) ?_
  refine ado rfl rfl rfl (eas (eV (v := (SL 1 cS x1.1)) rfl)) ?_
  refine ado rfl rfl rfl (eas (eV (v := (Bo x1.2)) rfl)) ?_
  refine ake [0, 7, 8] 0 0 (st' := ⟨55, 0, [(0, (SL 5 cNd t0)), (7, (SL 1 cS x1.1)), (8, (Bo x1.2))], [], ⟨0, []⟩⟩) (by kernel_rfl) (by kernel_rfl) ?_
  show AWp _ _ _ _
  refine awp_seq ?_
  refine awp_seq ?_
  refine awr ?_
  refine ado rfl rfl rfl (emv (eV (v := (Bo x1.2)) rfl)) ?_
  refine ado rfl rfl rfl (ex_un (vx := (Bo x1.2)) rfl notB_ok) ?_
  refine ado rfl rfl rfl (emv (eV (v := (Bo (!x1.2))) rfl)) ?_
  refine arun_guard (v := (SL 1 cS x1.1)) ((!x1.2) == false) rfl rfl rfl (fun hc => emv (eV (v := (SL 1 cS x1.1)) rfl)) ?_
  refine arun_guard (v := (I (x1.1.length : Int))) ((!x1.2) == false) rfl rfl rfl (fun hc => tx_lenD (xs := x1.1) ceS Tryz.underlying48 (cond_of hc)) ?_
  refine arun_guard (v := (Bo ((x1.1.length : Int) == 0))) ((!x1.2) == false) rfl rfl rfl (fun hc => ex_bin (vx := (I (x1.1.length : Int))) (vy := (I 0)) (cond_of hc) rfl eqlI_ok) ?_
  refine ado rfl rfl rfl (ex_pick rfl pkOr) ?_
  refine ake [0, 7, 22] 0 0 (st' := ⟨55, 0, [(0, (SL 5 cNd t0)), (7, (SL 1 cS x1.1)), (22, (Bo ((!x1.2) || ((x1.1.length : Int) == 0))))], [], ⟨0, []⟩⟩) (by kernel_rfl) (by kernel_rfl) ?_
  show AWp _ _ _ _
  rcases Bool.eq_false_or_eq_true ((!x1.2) || ((x1.1.length : Int) == 0)) with hb2 | hb2
  · rw [condT hb2] at h
    refine awp_condT (boT hb2) ?_
    refine awp_seq ?_
    refine awr ?_
    refine ado rfl rfl rfl (eas (eV (v := (I 0)) rfl)) ?_
    refine ado rfl rfl rfl (eas (eV (v := (S [])) rfl)) ?_
    refine ado rfl rfl rfl (eas (eV (v := (I 1)) rfl)) ?_
    refine ake [4, 5, 6] 0 0 (st' := ⟨55, 0, [(4, (I 0)), (5, (S [])), (6, (I 1))], [], ⟨0, []⟩⟩) (by kernel_rfl) (by kernel_rfl) ?_
    show AWp _ _ _ _
    refine awp_ret ?_
    cases h
    exact aresN rfl (L2.cons (rtmp rfl (eV rfl)) (L2.cons (rtmp rfl (eV rfl)) (L2.cons (rtmp rfl (eV rfl)) L2.nil))) rfl
  · rw [condF hb2] at h
    refine awp_condF (boF hb2) ?_
    refine awp_skip ?_
    show AWp _ _ _ _
    refine awp_seq ?_
    refine awr ?_
    refine ado rfl rfl rfl (emv (eV (v := (SL 5 cNd t0)) rfl)) ?_
    refine ado rfl rfl rfl (emv (eV (v := (SL 1 cS x1.1)) rfl)) ?_
    refine ado rfl rfl rfl (emv (eV (v := (SL 1 cS x1.1)) rfl)) ?_
    refine ado rfl rfl rfl (tx_lenD (xs := x1.1) ceS Tryz.underlying48 rfl) ?_
    refine ado rfl rfl rfl (ex_bin (vx := (I (x1.1.length : Int))) (vy := (I 1)) rfl rfl subI_ok) ?_
    obtain ⟨x3, hx3, h⟩ := bindS h
    refine ado rfl rfl rfl (tx_slD (c := cS) (xs := x1.1) ceS Tryz.underlying48 s_9 rfl lo0 (hiX (l := (w64 ((x1.1.length : Int) - 1))) rfl) hx3) ?_
    obtain ⟨x4, hx4, h⟩ := bindS h
    refine ado rfl rfl rfl (ex_call0 (vs := [(SL 5 cNd t0), (SL 1 cS x3)]) (v := (Value.tuple #[(I x4.1), (I x4.2)])) rfl en_23 (cargs (evs rfl (evs rfl evs_nil))) rfl (ok_ref11_down t0 x3 x4 hx4) rfl) ?_
    refine ado rfl rfl rfl (emv (eV (v := (Value.tuple #[(I x4.1), (I x4.2)])) rfl)) ?_
    refine ado rfl rfl rfl (ex_extract (vx := (Value.tuple #[(I x4.1), (I x4.2)])) (v := (I x4.1)) rfl rfl) ?_
    refine ado rfl rfl rfl (ex_extract (vx := (Value.tuple #[(I x4.1), (I x4.2)])) (v := (I x4.2)) rfl rfl) ?_
    refine ado rfl rfl rfl (eas (eV (v := (I x4.1)) rfl)) ?_
    refine ado rfl rfl rfl (eas (eV (v := (I x4.2)) rfl)) ?_
    refine ake [0, 7, 9, 10] 0 0 (st' := ⟨55, 0, [(0, (SL 5 cNd t0)), (7, (SL 1 cS x1.1)), (9, (I x4.1)), (10, (I x4.2))], [], ⟨0, []⟩⟩) (by kernel_rfl) (by kernel_rfl) ?_
    show AWp _ _ _ _
    refine awp_seq ?_
    refine awp_seq ?_
    refine awr ?_
    refine ado rfl rfl rfl (emv (eV (v := (I x4.2)) rfl)) ?_
    refine ado rfl rfl rfl (ex_bin (vx := (I x4.2)) (vy := (I 0)) rfl rfl neqI_ok) ?_
    refine ake [0, 7, 9, 10, 34] 0 0 (st' := ⟨55, 0, [(0, (SL 5 cNd t0)), (7, (SL 1 cS x1.1)), (9, (I x4.1)), (10, (I x4.2)), (34, (Bo (x4.2 != 0)))], [], ⟨0, []⟩⟩) (by kernel_rfl) (by kernel_rfl) ?_
    show AWp _ _ _ _
    rcases Bool.eq_false_or_eq_true (x4.2 != 0) with hb5 | hb5
    · rw [condT hb5] at h
      refine awp_condT (boT hb5) ?_
      refine awp_seq ?_
      refine awr ?_
      refine ado rfl rfl rfl (emv (eV (v := (I x4.2)) rfl)) ?_
      refine ado rfl rfl rfl (eas (eV (v := (I 0)) rfl)) ?_
      refine ado rfl rfl rfl (eas (eV (v := (S [])) rfl)) ?_
      refine ado rfl rfl rfl (eas (eV (v := (I x4.2)) rfl)) ?_
      refine ake [4, 5, 6] 0 0 (st' := ⟨55, 0, [(4, (I 0)), (5, (S [])), (6, (I x4.2))], [], ⟨0, []⟩⟩) (by kernel_rfl) (by kernel_rfl) ?_
      show AWp _ _ _ _
      refine awp_ret ?_
      cases h
      exact aresN rfl (L2.cons (rtmp rfl (eV rfl)) (L2.cons (rtmp rfl (eV rfl)) (L2.cons (rtmp rfl (eV rfl)) L2.nil))) rfl
    · rw [condF hb5] at h
      refine awp_condF (boF hb5) ?_
      refine awp_skip ?_
      show AWp _ _ _ _
      refine awp_seq ?_
      refine awp_seq ?_
      refine awr ?_
      refine ado rfl rfl rfl (emv (eV (v := (I x4.1)) rfl)) ?_
      refine ado rfl rfl rfl (emv (eV (v := (SL 5 cNd t0)) rfl)) ?_
      refine ado rfl rfl rfl (tx_lenD (xs := t0) ce_api_Node Tryz.underlying25 rfl) ?_
      refine ado rfl rfl rfl (ex_bin (vx := (I x4.1)) (vy := (I (t0.length : Int))) rfl rfl geqI_ok) ?_
      refine ado rfl rfl rfl (emv (eV (v := (Bo (decide (x4.1 ≥ (t0.length : Int))))) rfl)) ?_
      refine arun_guard (v := (SL 5 cNd t0)) ((decide (x4.1 ≥ (t0.length : Int))) == false) rfl rfl rfl (fun hc => emv (eV (v := (SL 5 cNd t0)) rfl)) ?_
      refine arun_guard (v := (I x4.1)) ((decide (x4.1 ≥ (t0.length : Int))) == false) rfl rfl rfl (fun hc => emv (eV (v := (I x4.1)) rfl)) ?_
      obtain ⟨x6, hx6, h⟩ := bindS h
      refine arun_guard (v := (DP (cNd x6))) ((decide (x4.1 ≥ (t0.length : Int))) == false) rfl rfl rfl (fun hc => tx_idxD (c := cNd) (xs := t0) (i := x4.1) ce_api_Node Tryz.underlying25 s_38 (cond_of hc) (cond_of hc) (gd_of hc hx6)) ?_
      refine arun_guard (v := (DP (List.drop 0 (cNd x6)))) ((decide (x4.1 ≥ (t0.length : Int))) == false) rfl rfl rfl (fun hc => ex_fieldAddrD (vs := (List.drop 0 (cNd x6))) Tryz.underlying38 rfl s_3 (by decide) (cond_of hc) rfl) ?_
      refine arun_guard (v := (I x6.Kind)) ((decide (x4.1 ≥ (t0.length : Int))) == false) rfl rfl rfl (fun hc => tx_ldD1 (v := (I x6.Kind)) Tryz.underlying3 rfl (cond_of hc) rfl) ?_
      refine arun_guard (v := (Bo (x6.Kind != 2))) ((decide (x4.1 ≥ (t0.length : Int))) == false) rfl rfl rfl (fun hc => ex_bin (vx := (I x6.Kind)) (vy := (I 2)) (cond_of hc) rfl neqI_ok) ?_
      refine ado rfl rfl rfl (ex_pick rfl pkOr) ?_
      refine ake [7, 9, 47] 0 0 (st' := ⟨55, 0, [(7, (SL 1 cS x1.1)), (9, (I x4.1)), (47, (Bo ((decide (x4.1 ≥ (t0.length : Int))) || (x6.Kind != 2))))], [], ⟨0, []⟩⟩) (by kernel_rfl) (by kernel_rfl) ?_
      show AWp _ _ _ _
      rcases Bool.eq_false_or_eq_true ((decide (x4.1 ≥ (t0.length : Int))) || (x6.Kind != 2)) with hb7 | hb7
      · rw [condT hb7] at h
        refine awp_condT (boT hb7) ?_
        refine awp_seq ?_
        refine awr ?_
        refine ado rfl rfl rfl (eas (eV (v := (I 0)) rfl)) ?_
        refine ado rfl rfl rfl (eas (eV (v := (S [])) rfl)) ?_
        refine ado rfl rfl rfl (eas (eV (v := (I 5)) rfl)) ?_
        refine ake [4, 5, 6] 0 0 (st' := ⟨55, 0, [(4, (I 0)), (5, (S [])), (6, (I 5))], [], ⟨0, []⟩⟩) (by kernel_rfl) (by kernel_rfl) ?_
        show AWp _ _ _ _
        refine awp_ret ?_
        cases h
        exact aresN rfl (L2.cons (rtmp rfl (eV rfl)) (L2.cons (rtmp rfl (eV rfl)) (L2.cons (rtmp rfl (eV rfl)) L2.nil))) rfl
      · rw [condF hb7] at h
        refine awp_condF (boF hb7) ?_
        refine awp_skip ?_
        show AWp _ _ _ _
        refine awp_seq ?_
        obtain ⟨x8, hx8, h⟩ := bindS h
        refine awp_kn [4, 5, 6] 0 0 (st' := ⟨55, 0, [(4, (I x4.1)), (5, (S x8)), (6, (I 0))], [], ⟨0, []⟩⟩) (awp_draw (T := [(I x4.1), (SL 1 cS x1.1), (SL 1 cS x1.1), (I (x1.1.length : Int)), (I (w64 ((x1.1.length : Int) - 1))), (DP (cS x8)), (S x8), (I x4.1), (S x8), (I 0)]) (LH := [([], ⟨0, []⟩)]) (D := [⟨[(9, none)], [], [0], false⟩, ⟨[(7, none)], [], [0], false⟩, ⟨[(7, none)], [], [0], false⟩, ⟨[(50, some 2)], [2], [0], false⟩, ⟨[(51, some 3)], [2, 3], [0], false⟩, ⟨[(49, some 1), (52, some 4)], [1, 2, 3, 4], [0], false⟩, ⟨[(53, some 5)], [1, 2, 3, 4, 5], [0], false⟩, ⟨[(48, some 0)], [0], [0], false⟩, ⟨[(54, some 6)], [0, 1, 2, 3, 4, 5, 6, 7], [0], false⟩, ⟨[], [0, 1, 2, 3, 4, 5, 6, 7, 8], [0], false⟩]) (S := []) (plan := [0, 1, 2, 3, 4, 5, 6, 7, 8, 9]) mo (by kernel_rfl) rfl rfl rfl (dcons (dstep1 (Tm := [(9, (I x4.1))]) (L := []) (H := ⟨0, []⟩) rfl rfl rfl rfl rfl (astep_do rfl (emv (eV (v := (I x4.1)) rfl)))) (dcons (dstep1 (Tm := [(7, (SL 1 cS x1.1))]) (L := []) (H := ⟨0, []⟩) rfl rfl rfl rfl rfl (astep_do rfl (emv (eV (v := (SL 1 cS x1.1)) rfl)))) (dcons (dstep1 (Tm := [(7, (SL 1 cS x1.1))]) (L := []) (H := ⟨0, []⟩) rfl rfl rfl rfl rfl (astep_do rfl (emv (eV (v := (SL 1 cS x1.1)) rfl)))) (dcons (dstep1 (Tm := [(50, (SL 1 cS x1.1))]) (L := []) (H := ⟨0, []⟩) rfl rfl rfl rfl rfl (astep_do rfl (tx_lenD (xs := x1.1) ceS Tryz.underlying48 rfl))) (dcons (dstep1 (Tm := [(51, (I (x1.1.length : Int)))]) (L := []) (H := ⟨0, []⟩) rfl rfl rfl rfl rfl (astep_do rfl (ex_bin (vx := (I (x1.1.length : Int))) (vy := (I 1)) rfl rfl subI_ok))) (dcons (dstep1 (Tm := [(49, (SL 1 cS x1.1)), (52, (I (w64 ((x1.1.length : Int) - 1))))]) (L := []) (H := ⟨0, []⟩) rfl rfl rfl rfl rfl (astep_do rfl (tx_idxD (c := cS) (xs := x1.1) (i := (w64 ((x1.1.length : Int) - 1))) ceS Tryz.underlying48 s_9 rfl rfl hx8))) (dcons (dstep1 (Tm := [(53, (DP (cS x8)))]) (L := []) (H := ⟨0, []⟩) rfl rfl rfl rfl rfl (astep_do rfl (tx_ldD1 (v := (S x8)) Tryz.underlying9 rfl rfl rfl))) (dcons (dstep1 (Tm := [(48, (I x4.1))]) (L := []) (H := ⟨0, []⟩) rfl rfl rfl rfl rfl (astep_do rfl (eas (eV (v := (I x4.1)) rfl)))) (dcons (dstep1 (Tm := [(54, (S x8))]) (L := []) (H := ⟨0, []⟩) rfl rfl rfl rfl rfl (astep_do rfl (eas (eV (v := (S x8)) rfl)))) (dcons (dstep1 (Tm := []) (L := []) (H := ⟨0, []⟩) rfl rfl rfl rfl rfl (astep_do rfl (eas (eV (v := (I 0)) rfl)))) dnil)))))))))) ⟨rfl, rfl⟩) (by kernel_rfl) (by kernel_rfl) ?_
        show AWp _ _ _ _
        refine awp_ret ?_
        cases h
        exact aresN rfl (L2.cons (rtmp rfl (eV rfl)) (L2.cons (rtmp rfl (eV rfl)) (L2.cons (rtmp rfl (eV rfl)) L2.nil))) rfl

end Go.Proofs
