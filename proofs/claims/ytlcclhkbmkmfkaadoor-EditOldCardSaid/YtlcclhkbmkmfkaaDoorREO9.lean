/- Pure models of functions of the program, and that its code does what they say: palimpref11 Kid, palimpref11 lost, palimpref11 down, palimpref11 Find, palimplaw14 begun. Written by a program. -/
import Derived.Test.YtlcclhkbmkmfkaaDoorREO0
import Derived.Test.YtlcclhkbmkmfkaaDoorREO5
import Derived.Test.YtlcclhkbmkmfkaaDoorREO6
import Derived.Test.YtlcclhkbmkmfkaaDoorREO7
import Derived.Test.YtlcclhkbmkmfkaaDoorREO8
import Derived.Test.YtlcclhkbmkmfkaaDoorREOB
set_option maxRecDepth 20000
set_option maxHeartbeats 4000000
namespace Go.Proofs
open Go Go.Fhl
set_option linter.unusedVariables false
set_option linter.unusedSimpArgs false
noncomputable def M_ref11_Kid_l1 (t0 : (List G_api_Node)) (t2 : Str) (x1 : (List Int)) : Nat → Int → Option (Int × Bool)
  | 0, _ => none
  | n1 + 1, v2 =>
  cond (decide (v2 < (x1.length : Int))) (Option.bind (getI x1 v2) fun (x4 : Int) => Option.bind (getI t0 x4) fun (x5 : G_api_Node) => cond (x5.Name == t2) (Option.bind (getI x1 v2) fun (x7 : Int) => some (x7, true)) ((M_ref11_Kid_l1 t0 t2 x1 n1) (w64 (v2 + 1)))) (some (0, false))
noncomputable def M_ref11_Kid (t0 : (List G_api_Node)) (t1 : Int) (t2 : Str) : Option (Int × Bool) :=
  Option.bind (M_ref11_Kids t0 t1) fun (x1 : (List Int)) => M_ref11_Kid_l1 t0 t2 x1 fuel 0
theorem ok_ref11_Kid (t0 : (List G_api_Node)) (t1 : Int) (t2 : Str) (r : (Int × Bool)) (h : M_ref11_Kid t0 t1 t2 = some r) : FFn Tryd.prog 43 [(SL 5 c_api_Node t0), (I t1), (S t2)] (Value.tuple #[(I r.1), (Bo r.2)]) := by
  refine FFn.of_body (n := 33) Tryd.func43 rfl Tryd.ntmps43 rfl rfl rfl rfl ?_
  show AWp _ _ _ ⟨33, 0, [(0, (SL 5 c_api_Node t0)), (1, (I t1)), (2, (S t2))], [], ⟨0, []⟩⟩
  unfold M_ref11_Kid at h
  refine awp_seq ?_
  refine awp_region ?_
  refine arun_do rfl rfl rfl (ex_assign (eV (v := (I 0)) rfl)) ?_
  refine arun_do rfl rfl rfl (ex_assign (eV (v := (Bo false)) rfl)) ?_
  refine arun_keepE [0, 1, 2] 0 0 (st' := ⟨33, 0, [(0, (SL 5 c_api_Node t0)), (1, (I t1)), (2, (S t2))], [], ⟨0, []⟩⟩) (by kernel_rfl) (by kernel_rfl) ?_
  show AWp _ _ _ _
  refine awp_seq ?_
  refine awp_region ?_
  refine arun_do rfl rfl rfl (ex_move (eV (v := (SL 5 c_api_Node t0)) rfl)) ?_
  refine arun_do rfl rfl rfl (ex_move (eV (v := (I t1)) rfl)) ?_
  obtain ⟨x1, hx1, h⟩ := bindS h
  refine arun_do rfl rfl rfl (ex_call0 (vs := [(SL 5 c_api_Node t0), (I t1)]) (v := (SL 1 cI x1)) rfl en_57 (cargs (evs rfl (evs rfl evs_nil))) rfl (ok_ref11_Kids t0 t1 x1 hx1) rfl) ?_
  refine arun_do rfl rfl rfl (ex_assign (eV (v := (SL 1 cI x1)) rfl)) ?_
  refine arun_keepE [0, 2, 8] 0 0 (st' := ⟨33, 0, [(0, (SL 5 c_api_Node t0)), (2, (S t2)), (8, (SL 1 cI x1))], [], ⟨0, []⟩⟩) (by kernel_rfl) (by kernel_rfl) ?_
  show AWp _ _ _ _
  refine awp_seq ?_
  refine awp_seq ?_
  refine awp_region ?_
  refine arun_do rfl rfl rfl (ex_assign (eV (v := (I 0)) rfl)) ?_
  refine arun_keepE [0, 2, 8, 9] 0 0 (st' := ⟨33, 0, [(0, (SL 5 c_api_Node t0)), (2, (S t2)), (8, (SL 1 cI x1)), (9, (I 0))], [], ⟨0, []⟩⟩) (by kernel_rfl) (by kernel_rfl) ?_
  show AWp _ _ _ _
  refine awp_block ?_
  refine awp_loop (fun n s => ∃ (v2 : Int), s = ⟨33, 0, [(0, (SL 5 c_api_Node t0)), (2, (S t2)), (8, (SL 1 cI x1)), (9, (I v2))], [], ⟨0, []⟩⟩ ∧ M_ref11_Kid_l1 t0 t2 x1 n v2 = some r) fuel (Exists.intro 0 (And.intro rfl h)) ?_
  rintro n s ⟨v2, rfl, h⟩ -
  cases n with
  | zero => cases h
  | succ n1 =>
    unfold M_ref11_Kid_l1 at h
    refine awp_seq ?_
    refine awp_seq ?_
    refine awp_region ?_
    refine arun_do rfl rfl rfl (ex_move (eV (v := (I v2)) rfl)) ?_
    refine arun_do rfl rfl rfl (ex_move (eV (v := (SL 1 cI x1)) rfl)) ?_
    refine arun_do rfl rfl rfl (tx_lenD (xs := x1) ceI Tryd.underlying29 rfl) ?_
    refine arun_do rfl rfl rfl (ex_bin (vx := (I v2)) (vy := (I (x1.length : Int))) rfl rfl lssI_ok) ?_
    refine arun_keepE [0, 2, 8, 9, 16] 0 0 (st' := ⟨33, 0, [(0, (SL 5 c_api_Node t0)), (2, (S t2)), (8, (SL 1 cI x1)), (9, (I v2)), (16, (Bo (decide (v2 < (x1.length : Int)))))], [], ⟨0, []⟩⟩) (by kernel_rfl) (by kernel_rfl) ?_
    show AWp _ _ _ _
    rcases Bool.eq_false_or_eq_true (decide (v2 < (x1.length : Int))) with hb3 | hb3
    · rw [condT hb3] at h
      refine awp_condT (boT hb3) ?_
      refine awp_skip ?_
      show AWp _ _ _ _
      refine awp_seq ?_
      refine awp_block ?_
      refine awp_seq ?_
      refine awp_region ?_
      refine arun_do rfl rfl rfl (ex_move (eV (v := (SL 5 c_api_Node t0)) rfl)) ?_
      refine arun_do rfl rfl rfl (ex_move (eV (v := (SL 1 cI x1)) rfl)) ?_
      refine arun_do rfl rfl rfl (ex_move (eV (v := (I v2)) rfl)) ?_
      obtain ⟨x4, hx4, h⟩ := bindS h
      refine arun_do rfl rfl rfl (tx_idxD (c := cI) (xs := x1) (i := v2) ceI Tryd.underlying29 s_3 rfl rfl hx4) ?_
      refine arun_do rfl rfl rfl (tx_ldD1 (v := (I x4)) Tryd.underlying3 rfl rfl rfl) ?_
      obtain ⟨x5, hx5, h⟩ := bindS h
      refine arun_do rfl rfl rfl (tx_idxD (c := c_api_Node) (xs := t0) (i := x4) ce_api_Node Tryd.underlying25 s_39 rfl rfl hx5) ?_
      refine arun_do rfl rfl rfl (ex_fieldAddrD (vs := (List.drop 2 (c_api_Node x5))) Tryd.underlying39 rfl s_9 (by decide) rfl rfl) ?_
      refine arun_do rfl rfl rfl (tx_ldD1 (v := (S x5.Name)) Tryd.underlying9 rfl rfl rfl) ?_
      refine arun_do rfl rfl rfl (ex_move (eV (v := (S t2)) rfl)) ?_
      refine arun_do rfl rfl rfl (ex_bin (vx := (S x5.Name)) (vy := (S t2)) rfl rfl eqlS_ok) ?_
      refine arun_keepE [0, 2, 8, 9, 28] 0 0 (st' := ⟨33, 0, [(0, (SL 5 c_api_Node t0)), (2, (S t2)), (8, (SL 1 cI x1)), (9, (I v2)), (28, (Bo (x5.Name == t2)))], [], ⟨0, []⟩⟩) (by kernel_rfl) (by kernel_rfl) ?_
      show AWp _ _ _ _
      rcases Bool.eq_false_or_eq_true (x5.Name == t2) with hb6 | hb6
      · rw [condT hb6] at h
        refine awp_condT (boT hb6) ?_
        refine awp_seq ?_
        refine awp_region ?_
        refine arun_do rfl rfl rfl (ex_move (eV (v := (SL 1 cI x1)) rfl)) ?_
        refine arun_do rfl rfl rfl (ex_move (eV (v := (I v2)) rfl)) ?_
        obtain ⟨x7, hx7, h⟩ := bindS h
        refine arun_do rfl rfl rfl (tx_idxD (c := cI) (xs := x1) (i := v2) ceI Tryd.underlying29 s_3 rfl rfl hx7) ?_
        refine arun_do rfl rfl rfl (tx_ldD1 (v := (I x7)) Tryd.underlying3 rfl rfl rfl) ?_
        refine arun_do rfl rfl rfl (ex_assign (eV (v := (I x7)) rfl)) ?_
        refine arun_do rfl rfl rfl (ex_assign (eV (v := (Bo true)) rfl)) ?_
        refine arun_keepE [6, 7] 0 0 (st' := ⟨33, 0, [(6, (I x7)), (7, (Bo true))], [], ⟨0, []⟩⟩) (by kernel_rfl) (by kernel_rfl) ?_
        show AWp _ _ _ _
        refine awp_ret ?_
        cases h
        exact aresN rfl (L2.cons (rtmp rfl (eV rfl)) (L2.cons (rtmp rfl (eV rfl)) L2.nil)) rfl
      · rw [condF hb6] at h
        refine awp_condF (boF hb6) ?_
        refine awp_skip ?_
        show AWp _ _ _ _
        refine awp_region ?_
        refine arun_do rfl rfl rfl (ex_move (eV (v := (I v2)) rfl)) ?_
        refine arun_do rfl rfl rfl (ex_bin (vx := (I v2)) (vy := (I 1)) rfl rfl addI_ok) ?_
        refine arun_do rfl rfl rfl (ex_assign (eV (v := (I (w64 (v2 + 1)))) rfl)) ?_
        refine arun_keepE [0, 2, 8, 9] 0 0 (st' := ⟨33, 0, [(0, (SL 5 c_api_Node t0)), (2, (S t2)), (8, (SL 1 cI x1)), (9, (I (w64 (v2 + 1))))], [], ⟨0, []⟩⟩) (by kernel_rfl) (by kernel_rfl) ?_
        exact Exists.intro n1 (And.intro (Nat.lt_succ_self _) (Exists.intro (w64 (v2 + 1)) (And.intro rfl h)))
    · rw [condF hb3] at h
      refine awp_condF (boF hb3) ?_
      refine awp_exit ?_
      show AWp _ _ _ _
      refine awp_seq ?_
      refine awp_region ?_
      refine arun_do rfl rfl rfl (ex_assign (eV (v := (I 0)) rfl)) ?_
      refine arun_do rfl rfl rfl (ex_assign (eV (v := (Bo false)) rfl)) ?_
      refine arun_keepE [6, 7] 0 0 (st' := ⟨33, 0, [(6, (I 0)), (7, (Bo false))], [], ⟨0, []⟩⟩) (by kernel_rfl) (by kernel_rfl) ?_
      show AWp _ _ _ _
      refine awp_ret ?_
      cases h
      exact aresN rfl (L2.cons (rtmp rfl (eV rfl)) (L2.cons (rtmp rfl (eV rfl)) L2.nil)) rfl

noncomputable def M_ref11_lost_l1 (t0 : (List G_api_Node)) : Nat → Int → Option Bool
  | 0, _ => none
  | n1 + 1, v1 =>
  cond (decide (v1 < (t0.length : Int))) (Option.bind (getI t0 v1) fun (x3 : G_api_Node) => cond (x3.Kind == 3) (some true) ((M_ref11_lost_l1 t0 n1) (w64 (v1 + 1)))) (some false)
noncomputable def M_ref11_lost (t0 : (List G_api_Node)) : Option Bool :=
  M_ref11_lost_l1 t0 fuel 0
theorem ok_ref11_lost (t0 : (List G_api_Node)) (r : Bool) (h : M_ref11_lost t0 = some r) : FFn Tryd.prog 44 [(SL 5 c_api_Node t0)] (Bo r) := by
  refine FFn.of_body (n := 16) Tryd.func44 rfl Tryd.ntmps44 rfl rfl rfl rfl ?_
  show AWp _ _ _ ⟨16, 0, [(0, (SL 5 c_api_Node t0))], [], ⟨0, []⟩⟩
  unfold M_ref11_lost at h
  refine awp_seq ?_
  refine awp_region ?_
  refine arun_do rfl rfl rfl (ex_assign (eV (v := (Bo false)) rfl)) ?_
  refine arun_keepE [0] 0 0 (st' := ⟨16, 0, [(0, (SL 5 c_api_Node t0))], [], ⟨0, []⟩⟩) (by kernel_rfl) (by kernel_rfl) ?_
  show AWp _ _ _ _
  refine awp_seq ?_
  refine awp_seq ?_
  refine awp_region ?_
  refine arun_do rfl rfl rfl (ex_assign (eV (v := (I 0)) rfl)) ?_
  refine arun_keepE [0, 3] 0 0 (st' := ⟨16, 0, [(0, (SL 5 c_api_Node t0)), (3, (I 0))], [], ⟨0, []⟩⟩) (by kernel_rfl) (by kernel_rfl) ?_
  show AWp _ _ _ _
  refine awp_block ?_
  refine awp_loop (fun n s => ∃ (v1 : Int), s = ⟨16, 0, [(0, (SL 5 c_api_Node t0)), (3, (I v1))], [], ⟨0, []⟩⟩ ∧ M_ref11_lost_l1 t0 n v1 = some r) fuel (Exists.intro 0 (And.intro rfl h)) ?_
  rintro n s ⟨v1, rfl, h⟩ -
  cases n with
  | zero => cases h
  | succ n1 =>
    unfold M_ref11_lost_l1 at h
    refine awp_seq ?_
    refine awp_seq ?_
    refine awp_region ?_
    refine arun_do rfl rfl rfl (ex_move (eV (v := (I v1)) rfl)) ?_
    refine arun_do rfl rfl rfl (ex_move (eV (v := (SL 5 c_api_Node t0)) rfl)) ?_
    refine arun_do rfl rfl rfl (tx_lenD (xs := t0) ce_api_Node Tryd.underlying25 rfl) ?_
    refine arun_do rfl rfl rfl (ex_bin (vx := (I v1)) (vy := (I (t0.length : Int))) rfl rfl lssI_ok) ?_
    refine arun_keepE [0, 3, 7] 0 0 (st' := ⟨16, 0, [(0, (SL 5 c_api_Node t0)), (3, (I v1)), (7, (Bo (decide (v1 < (t0.length : Int)))))], [], ⟨0, []⟩⟩) (by kernel_rfl) (by kernel_rfl) ?_
    show AWp _ _ _ _
    rcases Bool.eq_false_or_eq_true (decide (v1 < (t0.length : Int))) with hb2 | hb2
    · rw [condT hb2] at h
      refine awp_condT (boT hb2) ?_
      refine awp_skip ?_
      show AWp _ _ _ _
      refine awp_seq ?_
      refine awp_block ?_
      refine awp_seq ?_
      refine awp_region ?_
      refine arun_do rfl rfl rfl (ex_move (eV (v := (SL 5 c_api_Node t0)) rfl)) ?_
      refine arun_do rfl rfl rfl (ex_move (eV (v := (I v1)) rfl)) ?_
      obtain ⟨x3, hx3, h⟩ := bindS h
      refine arun_do rfl rfl rfl (tx_idxD (c := c_api_Node) (xs := t0) (i := v1) ce_api_Node Tryd.underlying25 s_39 rfl rfl hx3) ?_
      refine arun_do rfl rfl rfl (ex_fieldAddrD (vs := (List.drop 0 (c_api_Node x3))) Tryd.underlying39 rfl s_3 (by decide) rfl rfl) ?_
      refine arun_do rfl rfl rfl (tx_ldD1 (v := (I x3.Kind)) Tryd.underlying3 rfl rfl rfl) ?_
      refine arun_do rfl rfl rfl (ex_bin (vx := (I x3.Kind)) (vy := (I 3)) rfl rfl eqlI_ok) ?_
      refine arun_keepE [0, 3, 15] 0 0 (st' := ⟨16, 0, [(0, (SL 5 c_api_Node t0)), (3, (I v1)), (15, (Bo (x3.Kind == 3)))], [], ⟨0, []⟩⟩) (by kernel_rfl) (by kernel_rfl) ?_
      show AWp _ _ _ _
      rcases Bool.eq_false_or_eq_true (x3.Kind == 3) with hb4 | hb4
      · rw [condT hb4] at h
        refine awp_condT (boT hb4) ?_
        refine awp_seq ?_
        refine awp_region ?_
        refine arun_do rfl rfl rfl (ex_assign (eV (v := (Bo true)) rfl)) ?_
        refine arun_keepE [2] 0 0 (st' := ⟨16, 0, [(2, (Bo true))], [], ⟨0, []⟩⟩) (by kernel_rfl) (by kernel_rfl) ?_
        show AWp _ _ _ _
        refine awp_ret ?_
        cases h
        exact ares1 (rtmp rfl (eV rfl))
      · rw [condF hb4] at h
        refine awp_condF (boF hb4) ?_
        refine awp_skip ?_
        show AWp _ _ _ _
        refine awp_region ?_
        refine arun_do rfl rfl rfl (ex_move (eV (v := (I v1)) rfl)) ?_
        refine arun_do rfl rfl rfl (ex_bin (vx := (I v1)) (vy := (I 1)) rfl rfl addI_ok) ?_
        refine arun_do rfl rfl rfl (ex_assign (eV (v := (I (w64 (v1 + 1)))) rfl)) ?_
        refine arun_keepE [0, 3] 0 0 (st' := ⟨16, 0, [(0, (SL 5 c_api_Node t0)), (3, (I (w64 (v1 + 1))))], [], ⟨0, []⟩⟩) (by kernel_rfl) (by kernel_rfl) ?_
        exact Exists.intro n1 (And.intro (Nat.lt_succ_self _) (Exists.intro (w64 (v1 + 1)) (And.intro rfl h)))
    · rw [condF hb2] at h
      refine awp_condF (boF hb2) ?_
      refine awp_exit ?_
      show AWp _ _ _ _
      refine awp_seq ?_
      refine awp_region ?_
      refine arun_do rfl rfl rfl (ex_assign (eV (v := (Bo false)) rfl)) ?_
      refine arun_keepE [2] 0 0 (st' := ⟨16, 0, [(2, (Bo false))], [], ⟨0, []⟩⟩) (by kernel_rfl) (by kernel_rfl) ?_
      show AWp _ _ _ _
      refine awp_ret ?_
      cases h
      exact ares1 (rtmp rfl (eV rfl))

noncomputable def M_ref11_down_l1 (t0 : (List G_api_Node)) (t1 : (List Str)) : Nat → Int → Int → Option (Int × Int)
  | 0, _, _ => none
  | n1 + 1, v1, v2 =>
  cond (decide (v2 < (t1.length : Int))) (Option.bind (gd ((decide (v1 ≥ (t0.length : Int))) == false) (getI t0 v1)) fun (x4 : G_api_Node) => cond ((decide (v1 ≥ (t0.length : Int))) || (x4.Kind != 2)) (some (0, 5)) (Option.bind (getI t1 v2) fun (x6 : Str) => Option.bind (M_ref11_Kid t0 v1 x6) fun (x7 : (Int × Bool)) => Option.bind (gd ((!x7.2) == true) (M_ref11_lost t0)) fun (x8 : Bool) => cond ((!x7.2) && x8) (some (0, 12)) (cond (!x7.2) (some (0, 2)) ((M_ref11_down_l1 t0 t1 n1) x7.1 (w64 (v2 + 1)))))) (some (v1, 0))
noncomputable def M_ref11_down (t0 : (List G_api_Node)) (t1 : (List Str)) : Option (Int × Int) :=
  M_ref11_down_l1 t0 t1 fuel 0 0
theorem ok_ref11_down (t0 : (List G_api_Node)) (t1 : (List Str)) (r : (Int × Int)) (h : M_ref11_down t0 t1 = some r) : FFn Tryd.prog 27 [(SL 5 c_api_Node t0), (SL 1 cS t1)] (Value.tuple #[(I r.1), (I r.2)]) := by
  refine FFn.of_body (n := 48) Tryd.func27 rfl Tryd.ntmps27 rfl rfl rfl rfl ?_
  show AWp _ _ _ ⟨48, 0, [(0, (SL 5 c_api_Node t0)), (1, (SL 1 cS t1))], [], ⟨0, []⟩⟩
  unfold M_ref11_down at h
  refine awp_seq ?_
  refine awp_region ?_
  refine arun_do rfl rfl rfl (ex_assign (eV (v := (I 0)) rfl)) ?_
  refine arun_do rfl rfl rfl (ex_assign (eV (v := (I 0)) rfl)) ?_
  refine arun_keepE [0, 1] 0 0 (st' := ⟨48, 0, [(0, (SL 5 c_api_Node t0)), (1, (SL 1 cS t1))], [], ⟨0, []⟩⟩) (by kernel_rfl) (by kernel_rfl) ?_
  show AWp _ _ _ _
  refine awp_seq ?_
  refine awp_region ?_
  refine arun_do rfl rfl rfl (ex_assign (eV (v := (I 0)) rfl)) ?_
  refine arun_keepE [0, 1, 6] 0 0 (st' := ⟨48, 0, [(0, (SL 5 c_api_Node t0)), (1, (SL 1 cS t1)), (6, (I 0))], [], ⟨0, []⟩⟩) (by kernel_rfl) (by kernel_rfl) ?_
  show AWp _ _ _ _
  refine awp_seq ?_
  refine awp_seq ?_
  refine awp_region ?_
  refine arun_do rfl rfl rfl (ex_assign (eV (v := (I 0)) rfl)) ?_
  refine arun_keepE [0, 1, 6, 7] 0 0 (st' := ⟨48, 0, [(0, (SL 5 c_api_Node t0)), (1, (SL 1 cS t1)), (6, (I 0)), (7, (I 0))], [], ⟨0, []⟩⟩) (by kernel_rfl) (by kernel_rfl) ?_
  show AWp _ _ _ _
  refine awp_block ?_
  refine awp_loop (fun n s => ∃ (v1 : Int) (v2 : Int), s = ⟨48, 0, [(0, (SL 5 c_api_Node t0)), (1, (SL 1 cS t1)), (6, (I v1)), (7, (I v2))], [], ⟨0, []⟩⟩ ∧ M_ref11_down_l1 t0 t1 n v1 v2 = some r) fuel (Exists.intro 0 (Exists.intro 0 (And.intro rfl h))) ?_
  rintro n s ⟨v1, v2, rfl, h⟩ -
  cases n with
  | zero => cases h
  | succ n1 =>
    unfold M_ref11_down_l1 at h
    refine awp_seq ?_
    refine awp_seq ?_
    refine awp_region ?_
    refine arun_do rfl rfl rfl (ex_move (eV (v := (I v2)) rfl)) ?_
    refine arun_do rfl rfl rfl (ex_move (eV (v := (SL 1 cS t1)) rfl)) ?_
    refine arun_do rfl rfl rfl (tx_lenD (xs := t1) ceS Tryd.underlying60 rfl) ?_
    refine arun_do rfl rfl rfl (ex_bin (vx := (I v2)) (vy := (I (t1.length : Int))) rfl rfl lssI_ok) ?_
    refine arun_keepE [0, 1, 6, 7, 13] 0 0 (st' := ⟨48, 0, [(0, (SL 5 c_api_Node t0)), (1, (SL 1 cS t1)), (6, (I v1)), (7, (I v2)), (13, (Bo (decide (v2 < (t1.length : Int)))))], [], ⟨0, []⟩⟩) (by kernel_rfl) (by kernel_rfl) ?_
    show AWp _ _ _ _
    rcases Bool.eq_false_or_eq_true (decide (v2 < (t1.length : Int))) with hb3 | hb3
    · rw [condT hb3] at h
      refine awp_condT (boT hb3) ?_
      refine awp_skip ?_
      show AWp _ _ _ _
      refine awp_seq ?_
      refine awp_block ?_
      refine awp_seq ?_
      refine awp_seq ?_
      refine awp_region ?_
      refine arun_do rfl rfl rfl (ex_move (eV (v := (I v1)) rfl)) ?_
      refine arun_do rfl rfl rfl (ex_move (eV (v := (SL 5 c_api_Node t0)) rfl)) ?_
      refine arun_do rfl rfl rfl (tx_lenD (xs := t0) ce_api_Node Tryd.underlying25 rfl) ?_
      refine arun_do rfl rfl rfl (ex_bin (vx := (I v1)) (vy := (I (t0.length : Int))) rfl rfl geqI_ok) ?_
      refine arun_do rfl rfl rfl (ex_move (eV (v := (Bo (decide (v1 ≥ (t0.length : Int))))) rfl)) ?_
      refine arun_guard (v := (SL 5 c_api_Node t0)) ((decide (v1 ≥ (t0.length : Int))) == false) rfl rfl rfl (fun hc => ex_move (eV (v := (SL 5 c_api_Node t0)) rfl)) ?_
      refine arun_guard (v := (I v1)) ((decide (v1 ≥ (t0.length : Int))) == false) rfl rfl rfl (fun hc => ex_move (eV (v := (I v1)) rfl)) ?_
      obtain ⟨x4, hx4, h⟩ := bindS h
      refine arun_guard (v := (DP (c_api_Node x4))) ((decide (v1 ≥ (t0.length : Int))) == false) rfl rfl rfl (fun hc => tx_idxD (c := c_api_Node) (xs := t0) (i := v1) ce_api_Node Tryd.underlying25 s_39 (cond_of hc) (cond_of hc) (gd_of hc hx4)) ?_
      refine arun_guard (v := (DP (List.drop 0 (c_api_Node x4)))) ((decide (v1 ≥ (t0.length : Int))) == false) rfl rfl rfl (fun hc => ex_fieldAddrD (vs := (List.drop 0 (c_api_Node x4))) Tryd.underlying39 rfl s_3 (by decide) (cond_of hc) rfl) ?_
      refine arun_guard (v := (I x4.Kind)) ((decide (v1 ≥ (t0.length : Int))) == false) rfl rfl rfl (fun hc => tx_ldD1 (v := (I x4.Kind)) Tryd.underlying3 rfl (cond_of hc) rfl) ?_
      refine arun_guard (v := (Bo (x4.Kind != 2))) ((decide (v1 ≥ (t0.length : Int))) == false) rfl rfl rfl (fun hc => ex_bin (vx := (I x4.Kind)) (vy := (I 2)) (cond_of hc) rfl neqI_ok) ?_
      refine arun_do rfl rfl rfl (ex_pick rfl pkOr) ?_
      refine arun_keepE [0, 1, 6, 7, 27] 0 0 (st' := ⟨48, 0, [(0, (SL 5 c_api_Node t0)), (1, (SL 1 cS t1)), (6, (I v1)), (7, (I v2)), (27, (Bo ((decide (v1 ≥ (t0.length : Int))) || (x4.Kind != 2))))], [], ⟨0, []⟩⟩) (by kernel_rfl) (by kernel_rfl) ?_
      show AWp _ _ _ _
      rcases Bool.eq_false_or_eq_true ((decide (v1 ≥ (t0.length : Int))) || (x4.Kind != 2)) with hb5 | hb5
      · rw [condT hb5] at h
        refine awp_condT (boT hb5) ?_
        refine awp_seq ?_
        refine awp_region ?_
        refine arun_do rfl rfl rfl (ex_assign (eV (v := (I 0)) rfl)) ?_
        refine arun_do rfl rfl rfl (ex_assign (eV (v := (I 5)) rfl)) ?_
        refine arun_keepE [4, 5] 0 0 (st' := ⟨48, 0, [(4, (I 0)), (5, (I 5))], [], ⟨0, []⟩⟩) (by kernel_rfl) (by kernel_rfl) ?_
        show AWp _ _ _ _
        refine awp_ret ?_
        cases h
        exact aresN rfl (L2.cons (rtmp rfl (eV rfl)) (L2.cons (rtmp rfl (eV rfl)) L2.nil)) rfl
      · rw [condF hb5] at h
        refine awp_condF (boF hb5) ?_
        refine awp_skip ?_
        show AWp _ _ _ _
        refine awp_seq ?_
        refine awp_region ?_
        refine arun_do rfl rfl rfl (ex_move (eV (v := (SL 5 c_api_Node t0)) rfl)) ?_
        refine arun_do rfl rfl rfl (ex_move (eV (v := (I v1)) rfl)) ?_
        refine arun_do rfl rfl rfl (ex_move (eV (v := (SL 1 cS t1)) rfl)) ?_
        refine arun_do rfl rfl rfl (ex_move (eV (v := (I v2)) rfl)) ?_
        obtain ⟨x6, hx6, h⟩ := bindS h
        refine arun_do rfl rfl rfl (tx_idxD (c := cS) (xs := t1) (i := v2) ceS Tryd.underlying60 s_9 rfl rfl hx6) ?_
        refine arun_do rfl rfl rfl (tx_ldD1 (v := (S x6)) Tryd.underlying9 rfl rfl rfl) ?_
        obtain ⟨x7, hx7, h⟩ := bindS h
        refine arun_do rfl rfl rfl (ex_call0 (vs := [(SL 5 c_api_Node t0), (I v1), (S x6)]) (v := (Value.tuple #[(I x7.1), (Bo x7.2)])) rfl en_43 (cargs (evs rfl (evs rfl (evs rfl evs_nil)))) rfl (ok_ref11_Kid t0 v1 x6 x7 hx7) rfl) ?_
        refine arun_do rfl rfl rfl (ex_move (eV (v := (Value.tuple #[(I x7.1), (Bo x7.2)])) rfl)) ?_
        refine arun_do rfl rfl rfl (ex_extract (vx := (Value.tuple #[(I x7.1), (Bo x7.2)])) (v := (I x7.1)) rfl rfl) ?_
        refine arun_do rfl rfl rfl (ex_extract (vx := (Value.tuple #[(I x7.1), (Bo x7.2)])) (v := (Bo x7.2)) rfl rfl) ?_
        refine arun_do rfl rfl rfl (ex_assign (eV (v := (I x7.1)) rfl)) ?_
        refine arun_do rfl rfl rfl (ex_assign (eV (v := (Bo x7.2)) rfl)) ?_
        refine arun_keepE [0, 1, 7, 8, 9] 0 0 (st' := ⟨48, 0, [(0, (SL 5 c_api_Node t0)), (1, (SL 1 cS t1)), (7, (I v2)), (8, (I x7.1)), (9, (Bo x7.2))], [], ⟨0, []⟩⟩) (by kernel_rfl) (by kernel_rfl) ?_
        show AWp _ _ _ _
        refine awp_seq ?_
        refine awp_seq ?_
        refine awp_region ?_
        refine arun_do rfl rfl rfl (ex_move (eV (v := (Bo x7.2)) rfl)) ?_
        refine arun_do rfl rfl rfl (ex_un (vx := (Bo x7.2)) rfl notB_ok) ?_
        refine arun_do rfl rfl rfl (ex_move (eV (v := (Bo (!x7.2))) rfl)) ?_
        refine arun_guard (v := (SL 5 c_api_Node t0)) ((!x7.2) == true) rfl rfl rfl (fun hc => ex_move (eV (v := (SL 5 c_api_Node t0)) rfl)) ?_
        obtain ⟨x8, hx8, h⟩ := bindS h
        refine arun_guard (v := (Bo x8)) ((!x7.2) == true) rfl rfl rfl (fun hc => ex_call0 (vs := [(SL 5 c_api_Node t0)]) (v := (Bo x8)) rfl en_44 (cargs (evs (cond_of hc) evs_nil)) rfl (ok_ref11_lost t0 x8 (gd_of hc hx8)) rfl) ?_
        refine arun_do rfl rfl rfl (ex_pick rfl pkAnd) ?_
        refine arun_keepE [0, 1, 7, 8, 9, 43] 0 0 (st' := ⟨48, 0, [(0, (SL 5 c_api_Node t0)), (1, (SL 1 cS t1)), (7, (I v2)), (8, (I x7.1)), (9, (Bo x7.2)), (43, (Bo ((!x7.2) && x8)))], [], ⟨0, []⟩⟩) (by kernel_rfl) (by kernel_rfl) ?_
        show AWp _ _ _ _
        rcases Bool.eq_false_or_eq_true ((!x7.2) && x8) with hb9 | hb9
        · rw [condT hb9] at h
          refine awp_condT (boT hb9) ?_
          refine awp_seq ?_
          refine awp_region ?_
          refine arun_do rfl rfl rfl (ex_assign (eV (v := (I 0)) rfl)) ?_
          refine arun_do rfl rfl rfl (ex_assign (eV (v := (I 12)) rfl)) ?_
          refine arun_keepE [4, 5] 0 0 (st' := ⟨48, 0, [(4, (I 0)), (5, (I 12))], [], ⟨0, []⟩⟩) (by kernel_rfl) (by kernel_rfl) ?_
          show AWp _ _ _ _
          refine awp_ret ?_
          cases h
          exact aresN rfl (L2.cons (rtmp rfl (eV rfl)) (L2.cons (rtmp rfl (eV rfl)) L2.nil)) rfl
        · rw [condF hb9] at h
          refine awp_condF (boF hb9) ?_
          refine awp_skip ?_
          show AWp _ _ _ _
          refine awp_seq ?_
          refine awp_seq ?_
          refine awp_region ?_
          refine arun_do rfl rfl rfl (ex_move (eV (v := (Bo x7.2)) rfl)) ?_
          refine arun_do rfl rfl rfl (ex_un (vx := (Bo x7.2)) rfl notB_ok) ?_
          refine arun_keepE [0, 1, 7, 8, 45] 0 0 (st' := ⟨48, 0, [(0, (SL 5 c_api_Node t0)), (1, (SL 1 cS t1)), (7, (I v2)), (8, (I x7.1)), (45, (Bo (!x7.2)))], [], ⟨0, []⟩⟩) (by kernel_rfl) (by kernel_rfl) ?_
          show AWp _ _ _ _
          rcases Bool.eq_false_or_eq_true (!x7.2) with hb10 | hb10
          · rw [condT hb10] at h
            refine awp_condT (boT hb10) ?_
            refine awp_seq ?_
            refine awp_region ?_
            refine arun_do rfl rfl rfl (ex_assign (eV (v := (I 0)) rfl)) ?_
            refine arun_do rfl rfl rfl (ex_assign (eV (v := (I 2)) rfl)) ?_
            refine arun_keepE [4, 5] 0 0 (st' := ⟨48, 0, [(4, (I 0)), (5, (I 2))], [], ⟨0, []⟩⟩) (by kernel_rfl) (by kernel_rfl) ?_
            show AWp _ _ _ _
            refine awp_ret ?_
            cases h
            exact aresN rfl (L2.cons (rtmp rfl (eV rfl)) (L2.cons (rtmp rfl (eV rfl)) L2.nil)) rfl
          · rw [condF hb10] at h
            refine awp_condF (boF hb10) ?_
            refine awp_skip ?_
            show AWp _ _ _ _
            refine awp_region ?_
            refine arun_do rfl rfl rfl (ex_move (eV (v := (I x7.1)) rfl)) ?_
            refine arun_do rfl rfl rfl (ex_assign (eV (v := (I x7.1)) rfl)) ?_
            refine arun_keepE [0, 1, 6, 7] 0 0 (st' := ⟨48, 0, [(0, (SL 5 c_api_Node t0)), (1, (SL 1 cS t1)), (6, (I x7.1)), (7, (I v2))], [], ⟨0, []⟩⟩) (by kernel_rfl) (by kernel_rfl) ?_
            show AWp _ _ _ _
            refine awp_region ?_
            refine arun_do rfl rfl rfl (ex_move (eV (v := (I v2)) rfl)) ?_
            refine arun_do rfl rfl rfl (ex_bin (vx := (I v2)) (vy := (I 1)) rfl rfl addI_ok) ?_
            refine arun_do rfl rfl rfl (ex_assign (eV (v := (I (w64 (v2 + 1)))) rfl)) ?_
            refine arun_keepE [0, 1, 6, 7] 0 0 (st' := ⟨48, 0, [(0, (SL 5 c_api_Node t0)), (1, (SL 1 cS t1)), (6, (I x7.1)), (7, (I (w64 (v2 + 1))))], [], ⟨0, []⟩⟩) (by kernel_rfl) (by kernel_rfl) ?_
            exact Exists.intro n1 (And.intro (Nat.lt_succ_self _) (Exists.intro x7.1 (Exists.intro (w64 (v2 + 1)) (And.intro rfl h))))
    · rw [condF hb3] at h
      refine awp_condF (boF hb3) ?_
      refine awp_exit ?_
      show AWp _ _ _ _
      refine awp_seq ?_
      refine awp_region ?_
      refine arun_do rfl rfl rfl (ex_move (eV (v := (I v1)) rfl)) ?_
      refine arun_do rfl rfl rfl (ex_assign (eV (v := (I v1)) rfl)) ?_
      refine arun_do rfl rfl rfl (ex_assign (eV (v := (I 0)) rfl)) ?_
      refine arun_keepE [4, 5] 0 0 (st' := ⟨48, 0, [(4, (I v1)), (5, (I 0))], [], ⟨0, []⟩⟩) (by kernel_rfl) (by kernel_rfl) ?_
      show AWp _ _ _ _
      refine awp_ret ?_
      cases h
      exact aresN rfl (L2.cons (rtmp rfl (eV rfl)) (L2.cons (rtmp rfl (eV rfl)) L2.nil)) rfl

noncomputable def M_ref11_Find (t0 : (List G_api_Node)) (t1 : Str) : Option (Int × Int) :=
  Option.bind (M_ref11_Parts t1) fun (x1 : ((List Str) × Bool)) => cond (!x1.2) (some (0, 1)) (Option.bind (M_ref11_down t0 x1.1) fun (x3 : (Int × Int)) => some (x3.1, x3.2))
theorem ok_ref11_Find (t0 : (List G_api_Node)) (t1 : Str) (r : (Int × Int)) (h : M_ref11_Find t0 t1 = some r) : FFn Tryd.prog 13 [(SL 5 c_api_Node t0), (S t1)] (Value.tuple #[(I r.1), (I r.2)]) := by
  refine FFn.of_body (n := 20) Tryd.func13 rfl Tryd.ntmps13 rfl rfl rfl rfl ?_
  show AWp _ _ _ ⟨20, 0, [(0, (SL 5 c_api_Node t0)), (1, (S t1))], [], ⟨0, []⟩⟩
  unfold M_ref11_Find at h
  refine awp_seq ?_
  refine awp_region ?_
  refine arun_do rfl rfl rfl (ex_assign (eV (v := (I 0)) rfl)) ?_
  refine arun_do rfl rfl rfl (ex_assign (eV (v := (I 0)) rfl)) ?_
  refine arun_keepE [0, 1] 0 0 (st' := ⟨20, 0, [(0, (SL 5 c_api_Node t0)), (1, (S t1))], [], ⟨0, []⟩⟩) (by kernel_rfl) (by kernel_rfl) ?_
  show AWp _ _ _ _
  refine awp_seq ?_
  refine awp_region ?_
  refine arun_do rfl rfl rfl (ex_move (eV (v := (S t1)) rfl)) ?_
  obtain ⟨x1, hx1, h⟩ := bindS h
  refine arun_do rfl rfl rfl (ex_call0 (vs := [(S t1)]) (v := (Value.tuple #[(SL 1 cS x1.1), (Bo x1.2)])) rfl en_26 (cargs (evs rfl evs_nil)) rfl (ok_ref11_Parts t1 x1 hx1) rfl) ?_
  refine arun_do rfl rfl rfl (ex_move (eV (v := (Value.tuple #[(SL 1 cS x1.1), (Bo x1.2)])) rfl)) ?_
  refine arun_do rfl rfl rfl (ex_extract (vx := (Value.tuple #[(SL 1 cS x1.1), (Bo x1.2)])) (v := (SL 1 cS x1.1)) rfl rfl) ?_
  refine arun_do rfl rfl rfl (ex_extract (vx := (Value.tuple #[(SL 1 cS x1.1), (Bo x1.2)])) (v := (Bo x1.2)) rfl rfl) ?_
  refine arun_do rfl rfl rfl (ex_assign (eV (v := (SL 1 cS x1.1)) rfl)) ?_
  refine arun_do rfl rfl rfl (ex_assign (eV (v := (Bo x1.2)) rfl)) ?_
  refine arun_keepE [0, 6, 7] 0 0 (st' := ⟨20, 0, [(0, (SL 5 c_api_Node t0)), (6, (SL 1 cS x1.1)), (7, (Bo x1.2))], [], ⟨0, []⟩⟩) (by kernel_rfl) (by kernel_rfl) ?_
  show AWp _ _ _ _
  refine awp_seq ?_
  refine awp_seq ?_
  refine awp_region ?_
  refine arun_do rfl rfl rfl (ex_move (eV (v := (Bo x1.2)) rfl)) ?_
  refine arun_do rfl rfl rfl (ex_un (vx := (Bo x1.2)) rfl notB_ok) ?_
  refine arun_keepE [0, 6, 14] 0 0 (st' := ⟨20, 0, [(0, (SL 5 c_api_Node t0)), (6, (SL 1 cS x1.1)), (14, (Bo (!x1.2)))], [], ⟨0, []⟩⟩) (by kernel_rfl) (by kernel_rfl) ?_
  show AWp _ _ _ _
  rcases Bool.eq_false_or_eq_true (!x1.2) with hb2 | hb2
  · rw [condT hb2] at h
    refine awp_condT (boT hb2) ?_
    refine awp_seq ?_
    refine awp_region ?_
    refine arun_do rfl rfl rfl (ex_assign (eV (v := (I 0)) rfl)) ?_
    refine arun_do rfl rfl rfl (ex_assign (eV (v := (I 1)) rfl)) ?_
    refine arun_keepE [4, 5] 0 0 (st' := ⟨20, 0, [(4, (I 0)), (5, (I 1))], [], ⟨0, []⟩⟩) (by kernel_rfl) (by kernel_rfl) ?_
    show AWp _ _ _ _
    refine awp_ret ?_
    cases h
    exact aresN rfl (L2.cons (rtmp rfl (eV rfl)) (L2.cons (rtmp rfl (eV rfl)) L2.nil)) rfl
  · rw [condF hb2] at h
    refine awp_condF (boF hb2) ?_
    refine awp_skip ?_
    show AWp _ _ _ _
    refine awp_seq ?_
    refine awp_region ?_
    refine arun_do rfl rfl rfl (ex_move (eV (v := (SL 5 c_api_Node t0)) rfl)) ?_
    refine arun_do rfl rfl rfl (ex_move (eV (v := (SL 1 cS x1.1)) rfl)) ?_
    obtain ⟨x3, hx3, h⟩ := bindS h
    refine arun_do rfl rfl rfl (ex_call0 (vs := [(SL 5 c_api_Node t0), (SL 1 cS x1.1)]) (v := (Value.tuple #[(I x3.1), (I x3.2)])) rfl en_27 (cargs (evs rfl (evs rfl evs_nil))) rfl (ok_ref11_down t0 x1.1 x3 hx3) rfl) ?_
    refine arun_do rfl rfl rfl (ex_extract (vx := (Value.tuple #[(I x3.1), (I x3.2)])) (v := (I x3.1)) rfl rfl) ?_
    refine arun_do rfl rfl rfl (ex_extract (vx := (Value.tuple #[(I x3.1), (I x3.2)])) (v := (I x3.2)) rfl rfl) ?_
    refine arun_do rfl rfl rfl (ex_assign (eV (v := (I x3.1)) rfl)) ?_
    refine arun_do rfl rfl rfl (ex_assign (eV (v := (I x3.2)) rfl)) ?_
    refine arun_keepE [4, 5] 0 0 (st' := ⟨20, 0, [(4, (I x3.1)), (5, (I x3.2))], [], ⟨0, []⟩⟩) (by kernel_rfl) (by kernel_rfl) ?_
    show AWp _ _ _ _
    refine awp_ret ?_
    cases h
    exact aresN rfl (L2.cons (rtmp rfl (eV rfl)) (L2.cons (rtmp rfl (eV rfl)) L2.nil)) rfl

noncomputable def M_law14_begun : Option Bool :=
  Option.bind (M_ref11_New) fun (x1 : (List G_api_Node)) => Option.bind (M_edit_Make x1 ([97] : Str) 2) fun (x2 : ((List G_api_Node) × Int)) => Option.bind (M_edit_Make x2.1 ([97, 47, 98] : Str) 1) fun (x3 : ((List G_api_Node) × Int)) => Option.bind (M_edit_Move x3.1 ([97, 47, 98] : Str) ([99] : Str)) fun (x4 : ((List G_api_Node) × Int)) => Option.bind (M_edit_Drop x4.1 ([97] : Str)) fun (x5 : ((List G_api_Node) × Int)) => Option.bind (M_edit_Move x3.1 ([97] : Str) ([97, 47, 120] : Str)) fun (x6 : ((List G_api_Node) × Int)) => Option.bind (M_ref11_Find x5.1 ([99] : Str)) fun (x7 : (Int × Int)) => some (((((((x2.2 == 0) && (x3.2 == 0)) && (x4.2 == 0)) && (x5.2 == 0)) && (x6.2 == 7)) && (x7.1 == 2)) && (x7.2 == 0))
theorem ok_law14_begun (r : Bool) (h : M_law14_begun = some r) : FFn Tryd.prog 4 [] (Bo r) := by
  refine FFn.of_body (n := 69) Tryd.func4 rfl Tryd.ntmps4 rfl rfl rfl rfl ?_
  show AWp _ _ _ ⟨69, 0, [], [], ⟨0, []⟩⟩
  unfold M_law14_begun at h
  refine awp_seq ?_
  refine awp_region ?_
  refine arun_do rfl rfl rfl (ex_assign (eV (v := (Bo false)) rfl)) ?_
  refine arun_keepE [] 0 0 (st' := ⟨69, 0, [], [], ⟨0, []⟩⟩) (by kernel_rfl) (by kernel_rfl) ?_
  show AWp _ _ _ _
  refine awp_seq ?_
  refine awp_region ?_
  obtain ⟨x1, hx1, h⟩ := bindS h
  refine arun_do rfl rfl rfl (ex_call0 (vs := []) (v := (SL 5 c_api_Node x1)) rfl en_12 (cargs evs_nil) rfl (ok_ref11_New  x1 hx1) rfl) ?_
  obtain ⟨x2, hx2, h⟩ := bindS h
  refine arun_do rfl rfl rfl (ex_call0 (vs := [(SL 5 c_api_Node x1), (S ([97] : Str)), (I 2)]) (v := (Value.tuple #[(SL 5 c_api_Node x2.1), (I x2.2)])) rfl en_8 (cargs (evs rfl (evs rfl (evs rfl evs_nil)))) rfl (ok_edit_Make x1 ([97] : Str) 2 x2 hx2) rfl) ?_
  refine arun_do rfl rfl rfl (ex_move (eV (v := (Value.tuple #[(SL 5 c_api_Node x2.1), (I x2.2)])) rfl)) ?_
  refine arun_do rfl rfl rfl (ex_extract (vx := (Value.tuple #[(SL 5 c_api_Node x2.1), (I x2.2)])) (v := (SL 5 c_api_Node x2.1)) rfl rfl) ?_
  refine arun_do rfl rfl rfl (ex_extract (vx := (Value.tuple #[(SL 5 c_api_Node x2.1), (I x2.2)])) (v := (I x2.2)) rfl rfl) ?_
  refine arun_do rfl rfl rfl (ex_assign (eV (v := (SL 5 c_api_Node x2.1)) rfl)) ?_
  refine arun_do rfl rfl rfl (ex_assign (eV (v := (I x2.2)) rfl)) ?_
  refine arun_keepE [1, 2] 0 0 (st' := ⟨69, 0, [(1, (SL 5 c_api_Node x2.1)), (2, (I x2.2))], [], ⟨0, []⟩⟩) (by kernel_rfl) (by kernel_rfl) ?_
  show AWp _ _ _ _
  refine awp_seq ?_
  refine awp_region ?_
  refine arun_do rfl rfl rfl (ex_move (eV (v := (SL 5 c_api_Node x2.1)) rfl)) ?_
  obtain ⟨x3, hx3, h⟩ := bindS h
  refine arun_do rfl rfl rfl (ex_call0 (vs := [(SL 5 c_api_Node x2.1), (S ([97, 47, 98] : Str)), (I 1)]) (v := (Value.tuple #[(SL 5 c_api_Node x3.1), (I x3.2)])) rfl en_8 (cargs (evs rfl (evs rfl (evs rfl evs_nil)))) rfl (ok_edit_Make x2.1 ([97, 47, 98] : Str) 1 x3 hx3) rfl) ?_
  refine arun_do rfl rfl rfl (ex_move (eV (v := (Value.tuple #[(SL 5 c_api_Node x3.1), (I x3.2)])) rfl)) ?_
  refine arun_do rfl rfl rfl (ex_extract (vx := (Value.tuple #[(SL 5 c_api_Node x3.1), (I x3.2)])) (v := (SL 5 c_api_Node x3.1)) rfl rfl) ?_
  refine arun_do rfl rfl rfl (ex_extract (vx := (Value.tuple #[(SL 5 c_api_Node x3.1), (I x3.2)])) (v := (I x3.2)) rfl rfl) ?_
  refine arun_do rfl rfl rfl (ex_assign (eV (v := (SL 5 c_api_Node x3.1)) rfl)) ?_
  refine arun_do rfl rfl rfl (ex_assign (eV (v := (I x3.2)) rfl)) ?_
  refine arun_keepE [2, 3, 4] 0 0 (st' := ⟨69, 0, [(2, (I x2.2)), (3, (SL 5 c_api_Node x3.1)), (4, (I x3.2))], [], ⟨0, []⟩⟩) (by kernel_rfl) (by kernel_rfl) ?_
  show AWp _ _ _ _
  refine awp_seq ?_
  refine awp_region ?_
  refine arun_do rfl rfl rfl (ex_move (eV (v := (SL 5 c_api_Node x3.1)) rfl)) ?_
  obtain ⟨x4, hx4, h⟩ := bindS h
  refine arun_do rfl rfl rfl (ex_call0 (vs := [(SL 5 c_api_Node x3.1), (S ([97, 47, 98] : Str)), (S ([99] : Str))]) (v := (Value.tuple #[(SL 5 c_api_Node x4.1), (I x4.2)])) rfl en_10 (cargs (evs rfl (evs rfl (evs rfl evs_nil)))) rfl (ok_edit_Move x3.1 ([97, 47, 98] : Str) ([99] : Str) x4 hx4) rfl) ?_
  refine arun_do rfl rfl rfl (ex_move (eV (v := (Value.tuple #[(SL 5 c_api_Node x4.1), (I x4.2)])) rfl)) ?_
  refine arun_do rfl rfl rfl (ex_extract (vx := (Value.tuple #[(SL 5 c_api_Node x4.1), (I x4.2)])) (v := (SL 5 c_api_Node x4.1)) rfl rfl) ?_
  refine arun_do rfl rfl rfl (ex_extract (vx := (Value.tuple #[(SL 5 c_api_Node x4.1), (I x4.2)])) (v := (I x4.2)) rfl rfl) ?_
  refine arun_do rfl rfl rfl (ex_assign (eV (v := (SL 5 c_api_Node x4.1)) rfl)) ?_
  refine arun_do rfl rfl rfl (ex_assign (eV (v := (I x4.2)) rfl)) ?_
  refine arun_keepE [2, 3, 4, 5, 6] 0 0 (st' := ⟨69, 0, [(2, (I x2.2)), (3, (SL 5 c_api_Node x3.1)), (4, (I x3.2)), (5, (SL 5 c_api_Node x4.1)), (6, (I x4.2))], [], ⟨0, []⟩⟩) (by kernel_rfl) (by kernel_rfl) ?_
  show AWp _ _ _ _
  refine awp_seq ?_
  refine awp_region ?_
  refine arun_do rfl rfl rfl (ex_move (eV (v := (SL 5 c_api_Node x4.1)) rfl)) ?_
  obtain ⟨x5, hx5, h⟩ := bindS h
  refine arun_do rfl rfl rfl (ex_call0 (vs := [(SL 5 c_api_Node x4.1), (S ([97] : Str))]) (v := (Value.tuple #[(SL 5 c_api_Node x5.1), (I x5.2)])) rfl en_9 (cargs (evs rfl (evs rfl evs_nil))) rfl (ok_edit_Drop x4.1 ([97] : Str) x5 hx5) rfl) ?_
  refine arun_do rfl rfl rfl (ex_move (eV (v := (Value.tuple #[(SL 5 c_api_Node x5.1), (I x5.2)])) rfl)) ?_
  refine arun_do rfl rfl rfl (ex_extract (vx := (Value.tuple #[(SL 5 c_api_Node x5.1), (I x5.2)])) (v := (SL 5 c_api_Node x5.1)) rfl rfl) ?_
  refine arun_do rfl rfl rfl (ex_extract (vx := (Value.tuple #[(SL 5 c_api_Node x5.1), (I x5.2)])) (v := (I x5.2)) rfl rfl) ?_
  refine arun_do rfl rfl rfl (ex_assign (eV (v := (SL 5 c_api_Node x5.1)) rfl)) ?_
  refine arun_do rfl rfl rfl (ex_assign (eV (v := (I x5.2)) rfl)) ?_
  refine arun_keepE [2, 3, 4, 6, 7, 8] 0 0 (st' := ⟨69, 0, [(2, (I x2.2)), (3, (SL 5 c_api_Node x3.1)), (4, (I x3.2)), (6, (I x4.2)), (7, (SL 5 c_api_Node x5.1)), (8, (I x5.2))], [], ⟨0, []⟩⟩) (by kernel_rfl) (by kernel_rfl) ?_
  show AWp _ _ _ _
  refine awp_seq ?_
  refine awp_region ?_
  refine arun_do rfl rfl rfl (ex_move (eV (v := (SL 5 c_api_Node x3.1)) rfl)) ?_
  obtain ⟨x6, hx6, h⟩ := bindS h
  refine arun_do rfl rfl rfl (ex_call0 (vs := [(SL 5 c_api_Node x3.1), (S ([97] : Str)), (S ([97, 47, 120] : Str))]) (v := (Value.tuple #[(SL 5 c_api_Node x6.1), (I x6.2)])) rfl en_10 (cargs (evs rfl (evs rfl (evs rfl evs_nil)))) rfl (ok_edit_Move x3.1 ([97] : Str) ([97, 47, 120] : Str) x6 hx6) rfl) ?_
  refine arun_do rfl rfl rfl (ex_move (eV (v := (Value.tuple #[(SL 5 c_api_Node x6.1), (I x6.2)])) rfl)) ?_
  refine arun_do rfl rfl rfl (ex_extract (vx := (Value.tuple #[(SL 5 c_api_Node x6.1), (I x6.2)])) (v := (SL 5 c_api_Node x6.1)) rfl rfl) ?_
  refine arun_do rfl rfl rfl (ex_extract (vx := (Value.tuple #[(SL 5 c_api_Node x6.1), (I x6.2)])) (v := (I x6.2)) rfl rfl) ?_
  refine arun_do rfl rfl rfl (ex_assign (eV (v := (SL 5 c_api_Node x6.1)) rfl)) ?_
  refine arun_do rfl rfl rfl (ex_assign (eV (v := (I x6.2)) rfl)) ?_
  refine arun_keepE [2, 4, 6, 7, 8, 10] 0 0 (st' := ⟨69, 0, [(2, (I x2.2)), (4, (I x3.2)), (6, (I x4.2)), (7, (SL 5 c_api_Node x5.1)), (8, (I x5.2)), (10, (I x6.2))], [], ⟨0, []⟩⟩) (by kernel_rfl) (by kernel_rfl) ?_
  show AWp _ _ _ _
  refine awp_seq ?_
  refine awp_region ?_
  refine arun_do rfl rfl rfl (ex_move (eV (v := (SL 5 c_api_Node x5.1)) rfl)) ?_
  obtain ⟨x7, hx7, h⟩ := bindS h
  refine arun_do rfl rfl rfl (ex_call0 (vs := [(SL 5 c_api_Node x5.1), (S ([99] : Str))]) (v := (Value.tuple #[(I x7.1), (I x7.2)])) rfl en_13 (cargs (evs rfl (evs rfl evs_nil))) rfl (ok_ref11_Find x5.1 ([99] : Str) x7 hx7) rfl) ?_
  refine arun_do rfl rfl rfl (ex_move (eV (v := (Value.tuple #[(I x7.1), (I x7.2)])) rfl)) ?_
  refine arun_do rfl rfl rfl (ex_extract (vx := (Value.tuple #[(I x7.1), (I x7.2)])) (v := (I x7.1)) rfl rfl) ?_
  refine arun_do rfl rfl rfl (ex_extract (vx := (Value.tuple #[(I x7.1), (I x7.2)])) (v := (I x7.2)) rfl rfl) ?_
  refine arun_do rfl rfl rfl (ex_assign (eV (v := (I x7.1)) rfl)) ?_
  refine arun_do rfl rfl rfl (ex_assign (eV (v := (I x7.2)) rfl)) ?_
  refine arun_keepE [2, 4, 6, 8, 10, 11, 12] 0 0 (st' := ⟨69, 0, [(2, (I x2.2)), (4, (I x3.2)), (6, (I x4.2)), (8, (I x5.2)), (10, (I x6.2)), (11, (I x7.1)), (12, (I x7.2))], [], ⟨0, []⟩⟩) (by kernel_rfl) (by kernel_rfl) ?_
  show AWp _ _ _ _
  refine awp_seq ?_
  refine awp_region ?_
  refine arun_do rfl rfl rfl (ex_move (eV (v := (I x2.2)) rfl)) ?_
  refine arun_do rfl rfl rfl (ex_bin (vx := (I x2.2)) (vy := (I 0)) rfl rfl eqlI_ok) ?_
  refine arun_do rfl rfl rfl (ex_move (eV (v := (Bo (x2.2 == 0))) rfl)) ?_
  refine arun_guard (v := (I x3.2)) ((x2.2 == 0) == true) rfl rfl rfl (fun hc => ex_move (eV (v := (I x3.2)) rfl)) ?_
  refine arun_guard (v := (Bo (x3.2 == 0))) ((x2.2 == 0) == true) rfl rfl rfl (fun hc => ex_bin (vx := (I x3.2)) (vy := (I 0)) (cond_of hc) rfl eqlI_ok) ?_
  refine arun_do rfl rfl rfl (ex_pick rfl pkAnd) ?_
  refine arun_do rfl rfl rfl (ex_move (eV (v := (Bo ((x2.2 == 0) && (x3.2 == 0)))) rfl)) ?_
  refine arun_guard (v := (I x4.2)) (((x2.2 == 0) && (x3.2 == 0)) == true) rfl rfl rfl (fun hc => ex_move (eV (v := (I x4.2)) rfl)) ?_
  refine arun_guard (v := (Bo (x4.2 == 0))) (((x2.2 == 0) && (x3.2 == 0)) == true) rfl rfl rfl (fun hc => ex_bin (vx := (I x4.2)) (vy := (I 0)) (cond_of hc) rfl eqlI_ok) ?_
  refine arun_do rfl rfl rfl (ex_pick rfl pkAnd) ?_
  refine arun_do rfl rfl rfl (ex_move (eV (v := (Bo (((x2.2 == 0) && (x3.2 == 0)) && (x4.2 == 0)))) rfl)) ?_
  refine arun_guard (v := (I x5.2)) ((((x2.2 == 0) && (x3.2 == 0)) && (x4.2 == 0)) == true) rfl rfl rfl (fun hc => ex_move (eV (v := (I x5.2)) rfl)) ?_
  refine arun_guard (v := (Bo (x5.2 == 0))) ((((x2.2 == 0) && (x3.2 == 0)) && (x4.2 == 0)) == true) rfl rfl rfl (fun hc => ex_bin (vx := (I x5.2)) (vy := (I 0)) (cond_of hc) rfl eqlI_ok) ?_
  refine arun_do rfl rfl rfl (ex_pick rfl pkAnd) ?_
  refine arun_do rfl rfl rfl (ex_move (eV (v := (Bo ((((x2.2 == 0) && (x3.2 == 0)) && (x4.2 == 0)) && (x5.2 == 0)))) rfl)) ?_
  refine arun_guard (v := (I x6.2)) (((((x2.2 == 0) && (x3.2 == 0)) && (x4.2 == 0)) && (x5.2 == 0)) == true) rfl rfl rfl (fun hc => ex_move (eV (v := (I x6.2)) rfl)) ?_
  refine arun_guard (v := (Bo (x6.2 == 7))) (((((x2.2 == 0) && (x3.2 == 0)) && (x4.2 == 0)) && (x5.2 == 0)) == true) rfl rfl rfl (fun hc => ex_bin (vx := (I x6.2)) (vy := (I 7)) (cond_of hc) rfl eqlI_ok) ?_
  refine arun_do rfl rfl rfl (ex_pick rfl pkAnd) ?_
  refine arun_do rfl rfl rfl (ex_move (eV (v := (Bo (((((x2.2 == 0) && (x3.2 == 0)) && (x4.2 == 0)) && (x5.2 == 0)) && (x6.2 == 7)))) rfl)) ?_
  refine arun_guard (v := (I x7.1)) ((((((x2.2 == 0) && (x3.2 == 0)) && (x4.2 == 0)) && (x5.2 == 0)) && (x6.2 == 7)) == true) rfl rfl rfl (fun hc => ex_move (eV (v := (I x7.1)) rfl)) ?_
  refine arun_guard (v := (Bo (x7.1 == 2))) ((((((x2.2 == 0) && (x3.2 == 0)) && (x4.2 == 0)) && (x5.2 == 0)) && (x6.2 == 7)) == true) rfl rfl rfl (fun hc => ex_bin (vx := (I x7.1)) (vy := (I 2)) (cond_of hc) rfl eqlI_ok) ?_
  refine arun_do rfl rfl rfl (ex_pick rfl pkAnd) ?_
  refine arun_do rfl rfl rfl (ex_move (eV (v := (Bo ((((((x2.2 == 0) && (x3.2 == 0)) && (x4.2 == 0)) && (x5.2 == 0)) && (x6.2 == 7)) && (x7.1 == 2)))) rfl)) ?_
  refine arun_guard (v := (I x7.2)) (((((((x2.2 == 0) && (x3.2 == 0)) && (x4.2 == 0)) && (x5.2 == 0)) && (x6.2 == 7)) && (x7.1 == 2)) == true) rfl rfl rfl (fun hc => ex_move (eV (v := (I x7.2)) rfl)) ?_
  refine arun_guard (v := (Bo (x7.2 == 0))) (((((((x2.2 == 0) && (x3.2 == 0)) && (x4.2 == 0)) && (x5.2 == 0)) && (x6.2 == 7)) && (x7.1 == 2)) == true) rfl rfl rfl (fun hc => ex_bin (vx := (I x7.2)) (vy := (I 0)) (cond_of hc) rfl eqlI_ok) ?_
  refine arun_do rfl rfl rfl (ex_pick rfl pkAnd) ?_
  refine arun_do rfl rfl rfl (ex_assign (eV (v := (Bo (((((((x2.2 == 0) && (x3.2 == 0)) && (x4.2 == 0)) && (x5.2 == 0)) && (x6.2 == 7)) && (x7.1 == 2)) && (x7.2 == 0)))) rfl)) ?_
  refine arun_keepE [0] 0 0 (st' := ⟨69, 0, [(0, (Bo (((((((x2.2 == 0) && (x3.2 == 0)) && (x4.2 == 0)) && (x5.2 == 0)) && (x6.2 == 7)) && (x7.1 == 2)) && (x7.2 == 0))))], [], ⟨0, []⟩⟩) (by kernel_rfl) (by kernel_rfl) ?_
  show AWp _ _ _ _
  refine awp_ret ?_
  cases h
  exact ares1 (rtmp rfl (eV rfl))

end Go.Proofs
