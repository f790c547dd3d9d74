/- Pure models of functions of the program, and that its code does what they say: palimpref11 Free, palimpref11 with, palimpref11 Make, node Kids$1 at a closure, slices insertionSortCmpFunc[int] at a closure. Written by a program. -/
import Derived.Test.YtpfbnghalpfoaaaGreatDoorR12Z1
import Derived.Test.YtpfbnghalpfoaaaGreatDoorR12ZB
import Derived.Test.YtpfbnghalpfoaaaGreatDoorR12ZX
set_option maxRecDepth 20000
set_option maxHeartbeats 4000000
namespace Go.Proofs
open Go Go.Fhl
set_option linter.unusedVariables false
set_option linter.unusedSimpArgs false
noncomputable def M_ref11_Free_l1 (t0 : (List G_api_Node)) : Nat → Int → Option (Int × Bool)
  | 0, _ => none
  | n1 + 1, v1 =>
  cond (decide (v1 < (t0.length : Int))) (Option.bind (getI t0 v1) fun (x3 : G_api_Node) => cond (x3.Kind == 0) (some (v1, true)) ((M_ref11_Free_l1 t0 n1) (w64 (v1 + 1)))) (some (0, false))
noncomputable def M_ref11_Free (t0 : (List G_api_Node)) : Option (Int × Bool) :=
  M_ref11_Free_l1 t0 fuel 0
theorem ok_ref11_Free (t0 : (List G_api_Node)) (r : (Int × Bool)) (h : M_ref11_Free t0 = some r) : FFn Tryz.prog 16 [(SL 5 c_api_Node t0)] (Value.tuple #[(I r.1), (Bo r.2)]) := by
  refine FFn.of_body (n := 18) Tryz.func16 rfl Tryz.ntmps16 rfl rfl rfl rfl ?_
  show AWp _ _ _ ⟨18, 0, [(0, (SL 5 c_api_Node t0))], [], ⟨0, []⟩⟩
  unfold M_ref11_Free at h
  refine awp_seq ?_
  refine awp_region ?_
  refine arun_do rfl rfl rfl (ex_assign (eV (v := (I 0)) rfl)) ?_
  refine arun_do rfl rfl rfl (ex_assign (eV (v := (Bo false)) rfl)) ?_
  refine arun_keepE [0] 0 0 (st' := ⟨18, 0, [(0, (SL 5 c_api_Node t0))], [], ⟨0, []⟩⟩) (by kernel_rfl) (by kernel_rfl) ?_
  show AWp _ _ _ _
  refine awp_seq ?_
  refine awp_seq ?_
  refine awp_region ?_
  refine arun_do rfl rfl rfl (ex_assign (eV (v := (I 0)) rfl)) ?_
  refine arun_keepE [0, 4] 0 0 (st' := ⟨18, 0, [(0, (SL 5 c_api_Node t0)), (4, (I 0))], [], ⟨0, []⟩⟩) (by kernel_rfl) (by kernel_rfl) ?_
  show AWp _ _ _ _
  refine awp_block ?_
  refine awp_loop (fun n s => ∃ (v1 : Int), s = ⟨18, 0, [(0, (SL 5 c_api_Node t0)), (4, (I v1))], [], ⟨0, []⟩⟩ ∧ M_ref11_Free_l1 t0 n v1 = some r) fuel (Exists.intro 0 (And.intro rfl h)) ?_
  rintro n s ⟨v1, rfl, h⟩ -
  cases n with
  | zero => cases h
  | succ n1 =>
    unfold M_ref11_Free_l1 at h
    refine awp_seq ?_
    refine awp_seq ?_
    refine awp_region ?_
    refine arun_do rfl rfl rfl (ex_move (eV (v := (I v1)) rfl)) ?_
    refine arun_do rfl rfl rfl (ex_move (eV (v := (SL 5 c_api_Node t0)) rfl)) ?_
    refine arun_do rfl rfl rfl (tx_lenD (xs := t0) ce_api_Node Tryz.underlying25 rfl) ?_
    refine arun_do rfl rfl rfl (ex_bin (vx := (I v1)) (vy := (I (t0.length : Int))) rfl rfl lssI_ok) ?_
    refine arun_keepE [0, 4, 8] 0 0 (st' := ⟨18, 0, [(0, (SL 5 c_api_Node t0)), (4, (I v1)), (8, (Bo (decide (v1 < (t0.length : Int)))))], [], ⟨0, []⟩⟩) (by kernel_rfl) (by kernel_rfl) ?_
    show AWp _ _ _ _
    rcases Bool.eq_false_or_eq_true (decide (v1 < (t0.length : Int))) with hb2 | hb2
    · rw [condT hb2] at h
      refine awp_condT (boT hb2) ?_
      refine awp_skip ?_
      show AWp _ _ _ _
      refine awp_seq ?_
      refine awp_block ?_
      refine awp_seq ?_
      refine awp_region ?_
      refine arun_do rfl rfl rfl (ex_move (eV (v := (SL 5 c_api_Node t0)) rfl)) ?_
      refine arun_do rfl rfl rfl (ex_move (eV (v := (I v1)) rfl)) ?_
      obtain ⟨x3, hx3, h⟩ := bindS h
      refine arun_do rfl rfl rfl (tx_idxD (c := c_api_Node) (xs := t0) (i := v1) ce_api_Node Tryz.underlying25 s_49 rfl rfl hx3) ?_
      refine arun_do rfl rfl rfl (ex_fieldAddrD (vs := (List.drop 0 (c_api_Node x3))) Tryz.underlying49 rfl s_3 (by decide) rfl rfl) ?_
      refine arun_do rfl rfl rfl (tx_ldD1 (v := (I x3.Kind)) Tryz.underlying3 rfl rfl rfl) ?_
      refine arun_do rfl rfl rfl (ex_bin (vx := (I x3.Kind)) (vy := (I 0)) rfl rfl eqlI_ok) ?_
      refine arun_keepE [0, 4, 16] 0 0 (st' := ⟨18, 0, [(0, (SL 5 c_api_Node t0)), (4, (I v1)), (16, (Bo (x3.Kind == 0)))], [], ⟨0, []⟩⟩) (by kernel_rfl) (by kernel_rfl) ?_
      show AWp _ _ _ _
      rcases Bool.eq_false_or_eq_true (x3.Kind == 0) with hb4 | hb4
      · rw [condT hb4] at h
        refine awp_condT (boT hb4) ?_
        refine awp_seq ?_
        refine awp_region ?_
        refine arun_do rfl rfl rfl (ex_move (eV (v := (I v1)) rfl)) ?_
        refine arun_do rfl rfl rfl (ex_assign (eV (v := (I v1)) rfl)) ?_
        refine arun_do rfl rfl rfl (ex_assign (eV (v := (Bo true)) rfl)) ?_
        refine arun_keepE [2, 3] 0 0 (st' := ⟨18, 0, [(2, (I v1)), (3, (Bo true))], [], ⟨0, []⟩⟩) (by kernel_rfl) (by kernel_rfl) ?_
        show AWp _ _ _ _
        refine awp_ret ?_
        cases h
        exact aresN rfl (L2.cons (rtmp rfl (eV rfl)) (L2.cons (rtmp rfl (eV rfl)) L2.nil)) rfl
      · rw [condF hb4] at h
        refine awp_condF (boF hb4) ?_
        refine awp_skip ?_
        show AWp _ _ _ _
        refine awp_region ?_
        refine arun_do rfl rfl rfl (ex_move (eV (v := (I v1)) rfl)) ?_
        refine arun_do rfl rfl rfl (ex_bin (vx := (I v1)) (vy := (I 1)) rfl rfl addI_ok) ?_
        refine arun_do rfl rfl rfl (ex_assign (eV (v := (I (w64 (v1 + 1)))) rfl)) ?_
        refine arun_keepE [0, 4] 0 0 (st' := ⟨18, 0, [(0, (SL 5 c_api_Node t0)), (4, (I (w64 (v1 + 1))))], [], ⟨0, []⟩⟩) (by kernel_rfl) (by kernel_rfl) ?_
        exact Exists.intro n1 (And.intro (Nat.lt_succ_self _) (Exists.intro (w64 (v1 + 1)) (And.intro rfl h)))
    · rw [condF hb2] at h
      refine awp_condF (boF hb2) ?_
      refine awp_exit ?_
      show AWp _ _ _ _
      refine awp_seq ?_
      refine awp_region ?_
      refine arun_do rfl rfl rfl (ex_assign (eV (v := (I 0)) rfl)) ?_
      refine arun_do rfl rfl rfl (ex_assign (eV (v := (Bo false)) rfl)) ?_
      refine arun_keepE [2, 3] 0 0 (st' := ⟨18, 0, [(2, (I 0)), (3, (Bo false))], [], ⟨0, []⟩⟩) (by kernel_rfl) (by kernel_rfl) ?_
      show AWp _ _ _ _
      refine awp_ret ?_
      cases h
      exact aresN rfl (L2.cons (rtmp rfl (eV rfl)) (L2.cons (rtmp rfl (eV rfl)) L2.nil)) rfl

noncomputable def M_ref11_with_k1 (y2 : List G_api_Node) : Option (List G_api_Node) :=
  some y2
noncomputable def M_ref11_with (t0 : (List G_api_Node)) (t1 : Int) (t2 : G_api_Node) : Option (List G_api_Node) :=
  Option.bind (appL 56 ([] : List G_api_Node) t0) fun (x1 : List G_api_Node) => cond ((decide (t1 ≥ 0)) && (decide (t1 < ((x1.length : Nat) : Int)))) (Option.bind (getI x1 t1) fun (x4 : G_api_Node) => Option.bind (setI x1 t1 t2) fun (x5 : List G_api_Node) => M_ref11_with_k1 x5) (M_ref11_with_k1 x1)
theorem ok_ref11_with (t0 : (List G_api_Node)) (t1 : Int) (t2 : G_api_Node) (r : (List G_api_Node)) (h : M_ref11_with t0 t1 t2 = some r) : FFn Tryz.prog 39 [(SL 5 c_api_Node t0), (I t1), (Value.agg (c_api_Node t2).toArray)] (SL 5 c_api_Node r) := by
  refine FFn.of_body (n := 24) Tryz.func39 rfl Tryz.ntmps39 rfl rfl rfl rfl ?_
  show AWp _ _ _ ⟨24, 0, [(0, (SL 5 c_api_Node t0)), (1, (I t1)), (2, (Value.agg (c_api_Node t2).toArray))], [], ⟨0, []⟩⟩
  unfold M_ref11_with at h
  refine awp_seq ?_
  refine awp_region ?_
  refine arun_do rfl rfl rfl (ex_box (vx := (Value.agg (c_api_Node t2).toArray)) (cs := (c_api_Node t2)) (k := 0) (L' := [(c_api_Node t2)]) (eV (v := (Value.agg (c_api_Node t2).toArray)) rfl) rfl rfl rfl) ?_
  refine arun_do rfl rfl rfl (ex_assign (eV (v := (Value.slice none 0 0)) rfl)) ?_
  refine arun_keepE [0, 1, 5] 1 0 (st' := ⟨24, 0, [(0, (SL 5 c_api_Node t0)), (1, (I t1)), (5, (LP 0 0))], [(c_api_Node t2)], ⟨0, []⟩⟩) (by kernel_rfl) (by kernel_rfl) ?_
  show AWp _ _ _ _
  refine awp_seq ?_
  refine awp_region ?_
  refine arun_do rfl rfl rfl (ex_buildSliceG (k := 0) (qs := []) (cells := (([] : List G_api_Node).flatMap c_api_Node)) (H' := ⟨1, [(0, ⟨5, (([] : List G_api_Node).flatMap c_api_Node), true⟩)]⟩) Tryz.underlying25 s_49 (by decide) (by decide) evp_nil rfl (by kernel_rfl) (by kernel_rfl) (by kernel_rfl) rfl rfl) ?_
  refine arun_do rfl rfl rfl (ex_move (eV (v := (SL 5 c_api_Node t0)) rfl)) ?_
  obtain ⟨x1, hx1, h⟩ := bindS h
  refine arun_do rfl rfl rfl (tx_appG (c := c_api_Node) (xs := []) (H' := ⟨1, [(0, ⟨5, ((x1).flatMap c_api_Node), true⟩)]⟩) ce_api_Node e_49 rfl rfl rfl (tsrcD (ys := t0) ce_api_Node Tryz.underlying25 s_49 Tryz.underlying25 rfl) hx1 rfl) ?_
  refine arun_do rfl rfl rfl (ex_assign (eV (v := (GV 0 x1.length)) rfl)) ?_
  refine arun_keepE [1, 5, 7] 1 1 (st' := ⟨24, 0, [(1, (I t1)), (5, (LP 0 0)), (7, (GV 0 x1.length))], [(c_api_Node t2)], ⟨1, [(0, ⟨5, ((x1).flatMap c_api_Node), true⟩)]⟩⟩) (by kernel_rfl) (by kernel_rfl) ?_
  show AWp _ _ _ _
  refine awp_seqJ (fun s => ∃ (y2 : List G_api_Node), s = ⟨24, 0, [(7, (GV 0 y2.length))], [], ⟨1, [(0, ⟨5, ((y2).flatMap c_api_Node), true⟩)]⟩⟩ ∧ M_ref11_with_k1 y2 = some r) ?_ ?_
  · refine awp_seq ?_
    refine awp_region ?_
    refine arun_do rfl rfl rfl (ex_move (eV (v := (I t1)) rfl)) ?_
    refine arun_do rfl rfl rfl (ex_bin (vx := (I t1)) (vy := (I 0)) rfl rfl geqI_ok) ?_
    refine arun_do rfl rfl rfl (ex_move (eV (v := (Bo (decide (t1 ≥ 0)))) rfl)) ?_
    refine arun_guard (v := (I t1)) ((decide (t1 ≥ 0)) == true) rfl rfl rfl (fun hc => ex_move (eV (v := (I t1)) rfl)) ?_
    refine arun_guard (v := (GV 0 x1.length)) ((decide (t1 ≥ 0)) == true) rfl rfl rfl (fun hc => ex_move (eV (v := (GV 0 x1.length)) rfl)) ?_
    refine arun_guard (v := (I ((x1.length : Nat) : Int))) ((decide (t1 ≥ 0)) == true) rfl rfl rfl (fun hc => ex_lenN (n := x1.length) Tryz.underlying25 (cond_of hc)) ?_
    refine arun_guard (v := (Bo (decide (t1 < ((x1.length : Nat) : Int))))) ((decide (t1 ≥ 0)) == true) rfl rfl rfl (fun hc => ex_bin (vx := (I t1)) (vy := (I ((x1.length : Nat) : Int))) (cond_of hc) (cond_of hc) lssI_ok) ?_
    refine arun_do rfl rfl rfl (ex_pick rfl pkAnd) ?_
    refine arun_keepE [1, 5, 7, 18] 1 1 (st' := ⟨24, 0, [(1, (I t1)), (5, (LP 0 0)), (7, (GV 0 x1.length)), (18, (Bo ((decide (t1 ≥ 0)) && (decide (t1 < ((x1.length : Nat) : Int))))))], [(c_api_Node t2)], ⟨1, [(0, ⟨5, ((x1).flatMap c_api_Node), true⟩)]⟩⟩) (by kernel_rfl) (by kernel_rfl) ?_
    show AWp _ _ _ _
    rcases Bool.eq_false_or_eq_true ((decide (t1 ≥ 0)) && (decide (t1 < ((x1.length : Nat) : Int)))) with hb3 | hb3
    · rw [condT hb3] at h
      refine awp_condT (boT hb3) ?_
      refine awp_region ?_
      refine arun_do rfl rfl rfl (ex_move (eV (v := (GV 0 x1.length)) rfl)) ?_
      refine arun_do rfl rfl rfl (ex_move (eV (v := (I t1)) rfl)) ?_
      refine arun_do rfl rfl rfl (tx_ldLA (vs := (c_api_Node t2)) Tryz.underlying49 rfl s_49 (by decide) rfl rfl rfl rfl) ?_
      obtain ⟨x4, hx4, h⟩ := bindS h
      refine arun_do rfl rfl rfl (tx_idxG (c := c_api_Node) (xs := x1) (i := t1) ce_api_Node Tryz.underlying25 s_49 rfl rfl rfl rfl hx4) ?_
      obtain ⟨x5, hx5, h⟩ := bindS h
      refine arun_do0 rfl rfl (tx_stG (c := c_api_Node) (xs := x1) (e := t2) (H' := ⟨1, [(0, ⟨5, ((x5).flatMap c_api_Node), true⟩)]⟩) ce_api_Node s_49 rfl (eV (v := (Value.agg (c_api_Node t2).toArray)) rfl) rfl rfl hx5 rfl) ?_
      refine arun_fewer (T' := [(1, (I t1)), (5, (LP 0 0)), (7, (GV 0 x5.length)), (18, (Bo ((decide (t1 ≥ 0)) && (decide (t1 < ((x1.length : Nat) : Int)))))), (19, (GV 0 x5.length)), (20, (I t1)), (21, (Value.agg (c_api_Node t2).toArray))]) (ReT.keep (v := (I t1)) rfl (ReT.keep (v := (LP 0 0)) rfl (ReT.gv rfl (setI_len hx5) (ReT.keep (v := (Bo ((decide (t1 ≥ 0)) && (decide (t1 < ((x1.length : Nat) : Int)))))) rfl (ReT.gv rfl (setI_len hx5) (ReT.keep (v := (I t1)) rfl (ReT.keep (v := (Value.agg (c_api_Node t2).toArray)) rfl ReT.nil))))))) ?_
      refine arun_keepE [7] 0 1 (st' := ⟨24, 0, [(7, (GV 0 x5.length))], [], ⟨1, [(0, ⟨5, ((x5).flatMap c_api_Node), true⟩)]⟩⟩) (by kernel_rfl) (by kernel_rfl) ?_
      exact (Exists.intro x5 (And.intro rfl h))
    · rw [condF hb3] at h
      refine awp_condF (boF hb3) ?_
      refine awp_keepE [7] 0 1 (st' := ⟨24, 0, [(7, (GV 0 x1.length))], [], ⟨1, [(0, ⟨5, ((x1).flatMap c_api_Node), true⟩)]⟩⟩) (by kernel_rfl) (by kernel_rfl) ?_
      refine awp_skip ?_
      exact (Exists.intro x1 (And.intro rfl h))
  · rintro s ⟨y2, rfl, h⟩
    unfold M_ref11_with_k1 at h
    refine awp_seq ?_
    refine awp_region ?_
    refine arun_do rfl rfl rfl (ex_move (eV (v := (GV 0 y2.length)) rfl)) ?_
    refine arun_do rfl rfl rfl (ex_assign (eV (v := (GV 0 y2.length)) rfl)) ?_
    refine arun_keepE [6] 0 1 (st' := ⟨24, 0, [(6, (GV 0 y2.length))], [], ⟨1, [(0, ⟨5, ((y2).flatMap c_api_Node), true⟩)]⟩⟩) (by kernel_rfl) (by kernel_rfl) ?_
    show AWp _ _ _ _
    refine awp_freeze 0 (bk := ⟨5, ((y2).flatMap c_api_Node), true⟩) (T' := [(6, (SL 5 c_api_Node y2))]) (L' := []) rfl (fzG ce_api_Node rfl rfl FzT.nil) (FzL.refl _) ?_
    show AWp _ _ _ ⟨24, 0, [(6, (SL 5 c_api_Node y2))], [], ⟨1, []⟩⟩
    refine awp_ret ?_
    cases h
    exact ares1 (rtmp rfl (eV rfl))

noncomputable def M_ref11_Make (t0 : (List G_api_Node)) (t1 : Str) (t2 : Int) : Option ((List G_api_Node) × Int) :=
  cond ((t2 != 1) && (t2 != 2)) (some (t0, 1)) (Option.bind (M_ref11_Place t0 t1) fun (x2 : (Int × Str × Int)) => cond (x2.2.2 != 0) (some (t0, x2.2.2)) (Option.bind (M_ref11_Kid t0 x2.1 x2.2.1) fun (x4 : (Int × Bool)) => cond x4.2 (some (t0, 3)) (Option.bind (M_ref11_Free t0) fun (x6 : (Int × Bool)) => cond (!x6.2) (some (t0, 8)) (Option.bind (M_ref11_with t0 x6.1 (G_api_Node.mk t2 x2.1 x2.2.1 [] 0)) fun (x8 : (List G_api_Node)) => some (x8, 0)))))
theorem ok_ref11_Make (t0 : (List G_api_Node)) (t1 : Str) (t2 : Int) (r : ((List G_api_Node) × Int)) (h : M_ref11_Make t0 t1 t2 = some r) : FFn Tryz.prog 24 [(SL 5 c_api_Node t0), (S t1), (I t2)] (Value.tuple #[(SL 5 c_api_Node r.1), (I r.2)]) := by
  refine FFn.of_body (n := 57) Tryz.func24 rfl Tryz.ntmps24 rfl rfl rfl rfl ?_
  show AWp _ _ _ ⟨57, 0, [(0, (SL 5 c_api_Node t0)), (1, (S t1)), (2, (I t2))], [], ⟨0, []⟩⟩
  unfold M_ref11_Make at h
  refine awp_seq ?_
  refine awp_region ?_
  refine arun_do rfl rfl rfl (ex_assign (eV (v := (Value.slice none 0 0)) rfl)) ?_
  refine arun_do rfl rfl rfl (ex_assign (eV (v := (I 0)) rfl)) ?_
  refine arun_keepE [0, 1, 2] 0 0 (st' := ⟨57, 0, [(0, (SL 5 c_api_Node t0)), (1, (S t1)), (2, (I t2))], [], ⟨0, []⟩⟩) (by kernel_rfl) (by kernel_rfl) ?_
  show AWp _ _ _ _
  refine awp_seq ?_
  refine awp_seq ?_
  refine awp_region ?_
  refine arun_do rfl rfl rfl (ex_move (eV (v := (I t2)) rfl)) ?_
  refine arun_do rfl rfl rfl (ex_bin (vx := (I t2)) (vy := (I 1)) rfl rfl neqI_ok) ?_
  refine arun_do rfl rfl rfl (ex_move (eV (v := (Bo (t2 != 1))) rfl)) ?_
  refine arun_guard (v := (I t2)) ((t2 != 1) == true) rfl rfl rfl (fun hc => ex_move (eV (v := (I t2)) rfl)) ?_
  refine arun_guard (v := (Bo (t2 != 2))) ((t2 != 1) == true) rfl rfl rfl (fun hc => ex_bin (vx := (I t2)) (vy := (I 2)) (cond_of hc) rfl neqI_ok) ?_
  refine arun_do rfl rfl rfl (ex_pick rfl pkAnd) ?_
  refine arun_keepE [0, 1, 2, 20] 0 0 (st' := ⟨57, 0, [(0, (SL 5 c_api_Node t0)), (1, (S t1)), (2, (I t2)), (20, (Bo ((t2 != 1) && (t2 != 2))))], [], ⟨0, []⟩⟩) (by kernel_rfl) (by kernel_rfl) ?_
  show AWp _ _ _ _
  rcases Bool.eq_false_or_eq_true ((t2 != 1) && (t2 != 2)) with hb1 | hb1
  · rw [condT hb1] at h
    refine awp_condT (boT hb1) ?_
    refine awp_seq ?_
    refine awp_region ?_
    refine arun_do rfl rfl rfl (ex_move (eV (v := (SL 5 c_api_Node t0)) rfl)) ?_
    refine arun_do rfl rfl rfl (ex_assign (eV (v := (SL 5 c_api_Node t0)) rfl)) ?_
    refine arun_do rfl rfl rfl (ex_assign (eV (v := (I 1)) rfl)) ?_
    refine arun_keepE [6, 7] 0 0 (st' := ⟨57, 0, [(6, (SL 5 c_api_Node t0)), (7, (I 1))], [], ⟨0, []⟩⟩) (by kernel_rfl) (by kernel_rfl) ?_
    show AWp _ _ _ _
    refine awp_ret ?_
    cases h
    exact aresN rfl (L2.cons (rtmp rfl (eV rfl)) (L2.cons (rtmp rfl (eV rfl)) L2.nil)) rfl
  · rw [condF hb1] at h
    refine awp_condF (boF hb1) ?_
    refine awp_skip ?_
    show AWp _ _ _ _
    refine awp_seq ?_
    refine awp_region ?_
    refine arun_do rfl rfl rfl (ex_move (eV (v := (SL 5 c_api_Node t0)) rfl)) ?_
    refine arun_do rfl rfl rfl (ex_move (eV (v := (S t1)) rfl)) ?_
    obtain ⟨x2, hx2, h⟩ := bindS h
    refine arun_do rfl rfl rfl (ex_call0 (vs := [(SL 5 c_api_Node t0), (S t1)]) (v := (Value.tuple #[(I x2.1), (S x2.2.1), (I x2.2.2)])) rfl en_38 (cargs (evs rfl (evs rfl evs_nil))) rfl (ok_ref11_Place t0 t1 x2 hx2) rfl) ?_
    refine arun_do rfl rfl rfl (ex_move (eV (v := (Value.tuple #[(I x2.1), (S x2.2.1), (I x2.2.2)])) rfl)) ?_
    refine arun_do rfl rfl rfl (ex_extract (vx := (Value.tuple #[(I x2.1), (S x2.2.1), (I x2.2.2)])) (v := (I x2.1)) rfl rfl) ?_
    refine arun_do rfl rfl rfl (ex_extract (vx := (Value.tuple #[(I x2.1), (S x2.2.1), (I x2.2.2)])) (v := (S x2.2.1)) rfl rfl) ?_
    refine arun_do rfl rfl rfl (ex_extract (vx := (Value.tuple #[(I x2.1), (S x2.2.1), (I x2.2.2)])) (v := (I x2.2.2)) rfl rfl) ?_
    refine arun_do rfl rfl rfl (ex_assign (eV (v := (I x2.1)) rfl)) ?_
    refine arun_do rfl rfl rfl (ex_assign (eV (v := (S x2.2.1)) rfl)) ?_
    refine arun_do rfl rfl rfl (ex_assign (eV (v := (I x2.2.2)) rfl)) ?_
    refine arun_keepE [0, 2, 8, 9, 10] 0 0 (st' := ⟨57, 0, [(0, (SL 5 c_api_Node t0)), (2, (I t2)), (8, (I x2.1)), (9, (S x2.2.1)), (10, (I x2.2.2))], [], ⟨0, []⟩⟩) (by kernel_rfl) (by kernel_rfl) ?_
    show AWp _ _ _ _
    refine awp_seq ?_
    refine awp_seq ?_
    refine awp_region ?_
    refine arun_do rfl rfl rfl (ex_move (eV (v := (I x2.2.2)) rfl)) ?_
    refine arun_do rfl rfl rfl (ex_bin (vx := (I x2.2.2)) (vy := (I 0)) rfl rfl neqI_ok) ?_
    refine arun_keepE [0, 2, 8, 9, 10, 30] 0 0 (st' := ⟨57, 0, [(0, (SL 5 c_api_Node t0)), (2, (I t2)), (8, (I x2.1)), (9, (S x2.2.1)), (10, (I x2.2.2)), (30, (Bo (x2.2.2 != 0)))], [], ⟨0, []⟩⟩) (by kernel_rfl) (by kernel_rfl) ?_
    show AWp _ _ _ _
    rcases Bool.eq_false_or_eq_true (x2.2.2 != 0) with hb3 | hb3
    · rw [condT hb3] at h
      refine awp_condT (boT hb3) ?_
      refine awp_seq ?_
      refine awp_region ?_
      refine arun_do rfl rfl rfl (ex_move (eV (v := (SL 5 c_api_Node t0)) rfl)) ?_
      refine arun_do rfl rfl rfl (ex_move (eV (v := (I x2.2.2)) rfl)) ?_
      refine arun_do rfl rfl rfl (ex_assign (eV (v := (SL 5 c_api_Node t0)) rfl)) ?_
      refine arun_do rfl rfl rfl (ex_assign (eV (v := (I x2.2.2)) rfl)) ?_
      refine arun_keepE [6, 7] 0 0 (st' := ⟨57, 0, [(6, (SL 5 c_api_Node t0)), (7, (I x2.2.2))], [], ⟨0, []⟩⟩) (by kernel_rfl) (by kernel_rfl) ?_
      show AWp _ _ _ _
      refine awp_ret ?_
      cases h
      exact aresN rfl (L2.cons (rtmp rfl (eV rfl)) (L2.cons (rtmp rfl (eV rfl)) L2.nil)) rfl
    · rw [condF hb3] at h
      refine awp_condF (boF hb3) ?_
      refine awp_skip ?_
      show AWp _ _ _ _
      refine awp_seq ?_
      refine awp_region ?_
      refine arun_do rfl rfl rfl (ex_move (eV (v := (SL 5 c_api_Node t0)) rfl)) ?_
      refine arun_do rfl rfl rfl (ex_move (eV (v := (I x2.1)) rfl)) ?_
      refine arun_do rfl rfl rfl (ex_move (eV (v := (S x2.2.1)) rfl)) ?_
      obtain ⟨x4, hx4, h⟩ := bindS h
      refine arun_do rfl rfl rfl (ex_call0 (vs := [(SL 5 c_api_Node t0), (I x2.1), (S x2.2.1)]) (v := (Value.tuple #[(I x4.1), (Bo x4.2)])) rfl en_21 (cargs (evs rfl (evs rfl (evs rfl evs_nil)))) rfl (ok_ref11_Kid t0 x2.1 x2.2.1 x4 hx4) rfl) ?_
      refine arun_do rfl rfl rfl (ex_move (eV (v := (Value.tuple #[(I x4.1), (Bo x4.2)])) rfl)) ?_
      refine arun_do rfl rfl rfl (ex_extract (vx := (Value.tuple #[(I x4.1), (Bo x4.2)])) (v := (I x4.1)) rfl rfl) ?_
      refine arun_do rfl rfl rfl (ex_extract (vx := (Value.tuple #[(I x4.1), (Bo x4.2)])) (v := (Bo x4.2)) rfl rfl) ?_
      refine arun_do rfl rfl rfl (ex_assign (eV (v := (I x4.1)) rfl)) ?_
      refine arun_do rfl rfl rfl (ex_assign (eV (v := (Bo x4.2)) rfl)) ?_
      refine arun_keepE [0, 2, 8, 9, 12] 0 0 (st' := ⟨57, 0, [(0, (SL 5 c_api_Node t0)), (2, (I t2)), (8, (I x2.1)), (9, (S x2.2.1)), (12, (Bo x4.2))], [], ⟨0, []⟩⟩) (by kernel_rfl) (by kernel_rfl) ?_
      show AWp _ _ _ _
      refine awp_seq ?_
      refine awp_seq ?_
      refine awp_region ?_
      refine arun_do rfl rfl rfl (ex_move (eV (v := (Bo x4.2)) rfl)) ?_
      refine arun_keepE [0, 2, 8, 9, 40] 0 0 (st' := ⟨57, 0, [(0, (SL 5 c_api_Node t0)), (2, (I t2)), (8, (I x2.1)), (9, (S x2.2.1)), (40, (Bo x4.2))], [], ⟨0, []⟩⟩) (by kernel_rfl) (by kernel_rfl) ?_
      show AWp _ _ _ _
      rcases Bool.eq_false_or_eq_true x4.2 with hb5 | hb5
      · rw [condT hb5] at h
        refine awp_condT (boT hb5) ?_
        refine awp_seq ?_
        refine awp_region ?_
        refine arun_do rfl rfl rfl (ex_move (eV (v := (SL 5 c_api_Node t0)) rfl)) ?_
        refine arun_do rfl rfl rfl (ex_assign (eV (v := (SL 5 c_api_Node t0)) rfl)) ?_
        refine arun_do rfl rfl rfl (ex_assign (eV (v := (I 3)) rfl)) ?_
        refine arun_keepE [6, 7] 0 0 (st' := ⟨57, 0, [(6, (SL 5 c_api_Node t0)), (7, (I 3))], [], ⟨0, []⟩⟩) (by kernel_rfl) (by kernel_rfl) ?_
        show AWp _ _ _ _
        refine awp_ret ?_
        cases h
        exact aresN rfl (L2.cons (rtmp rfl (eV rfl)) (L2.cons (rtmp rfl (eV rfl)) L2.nil)) rfl
      · rw [condF hb5] at h
        refine awp_condF (boF hb5) ?_
        refine awp_skip ?_
        show AWp _ _ _ _
        refine awp_seq ?_
        refine awp_region ?_
        refine arun_do rfl rfl rfl (ex_move (eV (v := (SL 5 c_api_Node t0)) rfl)) ?_
        obtain ⟨x6, hx6, h⟩ := bindS h
        refine arun_do rfl rfl rfl (ex_call0 (vs := [(SL 5 c_api_Node t0)]) (v := (Value.tuple #[(I x6.1), (Bo x6.2)])) rfl en_16 (cargs (evs rfl evs_nil)) rfl (ok_ref11_Free t0 x6 hx6) rfl) ?_
        refine arun_do rfl rfl rfl (ex_move (eV (v := (Value.tuple #[(I x6.1), (Bo x6.2)])) rfl)) ?_
        refine arun_do rfl rfl rfl (ex_extract (vx := (Value.tuple #[(I x6.1), (Bo x6.2)])) (v := (I x6.1)) rfl rfl) ?_
        refine arun_do rfl rfl rfl (ex_extract (vx := (Value.tuple #[(I x6.1), (Bo x6.2)])) (v := (Bo x6.2)) rfl rfl) ?_
        refine arun_do rfl rfl rfl (ex_assign (eV (v := (I x6.1)) rfl)) ?_
        refine arun_do rfl rfl rfl (ex_assign (eV (v := (Bo x6.2)) rfl)) ?_
        refine arun_keepE [0, 2, 8, 9, 13, 14] 0 0 (st' := ⟨57, 0, [(0, (SL 5 c_api_Node t0)), (2, (I t2)), (8, (I x2.1)), (9, (S x2.2.1)), (13, (I x6.1)), (14, (Bo x6.2))], [], ⟨0, []⟩⟩) (by kernel_rfl) (by kernel_rfl) ?_
        show AWp _ _ _ _
        refine awp_seq ?_
        refine awp_seq ?_
        refine awp_region ?_
        refine arun_do rfl rfl rfl (ex_move (eV (v := (Bo x6.2)) rfl)) ?_
        refine arun_do rfl rfl rfl (ex_un (vx := (Bo x6.2)) rfl notB_ok) ?_
        refine arun_keepE [0, 2, 8, 9, 13, 48] 0 0 (st' := ⟨57, 0, [(0, (SL 5 c_api_Node t0)), (2, (I t2)), (8, (I x2.1)), (9, (S x2.2.1)), (13, (I x6.1)), (48, (Bo (!x6.2)))], [], ⟨0, []⟩⟩) (by kernel_rfl) (by kernel_rfl) ?_
        show AWp _ _ _ _
        rcases Bool.eq_false_or_eq_true (!x6.2) with hb7 | hb7
        · rw [condT hb7] at h
          refine awp_condT (boT hb7) ?_
          refine awp_seq ?_
          refine awp_region ?_
          refine arun_do rfl rfl rfl (ex_move (eV (v := (SL 5 c_api_Node t0)) rfl)) ?_
          refine arun_do rfl rfl rfl (ex_assign (eV (v := (SL 5 c_api_Node t0)) rfl)) ?_
          refine arun_do rfl rfl rfl (ex_assign (eV (v := (I 8)) rfl)) ?_
          refine arun_keepE [6, 7] 0 0 (st' := ⟨57, 0, [(6, (SL 5 c_api_Node t0)), (7, (I 8))], [], ⟨0, []⟩⟩) (by kernel_rfl) (by kernel_rfl) ?_
          show AWp _ _ _ _
          refine awp_ret ?_
          cases h
          exact aresN rfl (L2.cons (rtmp rfl (eV rfl)) (L2.cons (rtmp rfl (eV rfl)) L2.nil)) rfl
        · rw [condF hb7] at h
          refine awp_condF (boF hb7) ?_
          refine awp_skip ?_
          show AWp _ _ _ _
          refine awp_seq ?_
          refine awp_region ?_
          refine arun_do rfl rfl rfl (ex_move (eV (v := (SL 5 c_api_Node t0)) rfl)) ?_
          refine arun_do rfl rfl rfl (ex_move (eV (v := (I x6.1)) rfl)) ?_
          refine arun_do rfl rfl rfl (ex_move (eV (v := (I t2)) rfl)) ?_
          refine arun_do rfl rfl rfl (ex_move (eV (v := (I x2.1)) rfl)) ?_
          refine arun_do rfl rfl rfl (ex_move (eV (v := (S x2.2.1)) rfl)) ?_
          refine arun_do rfl rfl rfl (ex_build (qs := [(0, (I t2)), (1, (I x2.1)), (2, (S x2.2.1))]) (v := (Value.agg (c_api_Node (G_api_Node.mk t2 x2.1 x2.2.1 [] 0)).toArray)) (evp rfl (evp rfl (evp rfl evp_nil))) (by kernel_rfl)) ?_
          obtain ⟨x8, hx8, h⟩ := bindS h
          refine arun_do rfl rfl rfl (ex_call0 (vs := [(SL 5 c_api_Node t0), (I x6.1), (Value.agg (c_api_Node (G_api_Node.mk t2 x2.1 x2.2.1 [] 0)).toArray)]) (v := (SL 5 c_api_Node x8)) rfl en_39 (cargs (evs rfl (evs rfl (evs rfl evs_nil)))) rfl (ok_ref11_with t0 x6.1 (G_api_Node.mk t2 x2.1 x2.2.1 [] 0) x8 hx8) rfl) ?_
          refine arun_do rfl rfl rfl (ex_assign (eV (v := (SL 5 c_api_Node x8)) rfl)) ?_
          refine arun_do rfl rfl rfl (ex_assign (eV (v := (I 0)) rfl)) ?_
          refine arun_keepE [6, 7] 0 0 (st' := ⟨57, 0, [(6, (SL 5 c_api_Node x8)), (7, (I 0))], [], ⟨0, []⟩⟩) (by kernel_rfl) (by kernel_rfl) ?_
          show AWp _ _ _ _
          refine awp_ret ?_
          cases h
          exact aresN rfl (L2.cons (rtmp rfl (eV rfl)) (L2.cons (rtmp rfl (eV rfl)) L2.nil)) rfl

noncomputable def M_node_Kids_1 (t0 : Int) (t1 : Int) (u0 : (List G_api_Node)) : Option Int :=
  Option.bind (getI u0 t0) fun (x1 : G_api_Node) => Option.bind (getI u0 t1) fun (x2 : G_api_Node) => Option.bind (M_strings_Compare x1.Name x2.Name) fun (x3 : Int) => some x3
theorem ok_node_Kids_1 (t0 : Int) (t1 : Int) (u0 : (List G_api_Node)) (r : Int) (h : M_node_Kids_1 t0 t1 u0 = some r) : FFn Tryz.prog 36 [(I t0), (I t1), (DP [(SL 5 c_api_Node u0)])] (I r) := by
  refine FFn.of_body (n := 17) Tryz.func36 rfl Tryz.ntmps36 rfl rfl rfl rfl ?_
  show AWp _ _ _ ⟨17, 0, [(0, (I t0)), (1, (I t1)), (2, (DP [(SL 5 c_api_Node u0)]))], [], ⟨0, []⟩⟩
  unfold M_node_Kids_1 at h
  refine awp_seq ?_
  refine awp_region ?_
  refine arun_do rfl rfl rfl (ex_assign (eV (v := (I 0)) rfl)) ?_
  refine arun_keepE [0, 1, 2] 0 0 (st' := ⟨17, 0, [(0, (I t0)), (1, (I t1)), (2, (DP [(SL 5 c_api_Node u0)]))], [], ⟨0, []⟩⟩) (by kernel_rfl) (by kernel_rfl) ?_
  show AWp _ _ _ _
  refine awp_seq ?_
  obtain ⟨x1, hx1, h⟩ := bindS h
  obtain ⟨x2, hx2, h⟩ := bindS h
  obtain ⟨x3, hx3, h⟩ := bindS h
  refine awp_kn [5] 0 0 (st' := ⟨17, 0, [(5, (I x3))], [], ⟨0, []⟩⟩) (awp_draw (T := [(SL 5 c_api_Node u0), (I t0), (DP (c_api_Node x1)), (DP (List.drop 2 (c_api_Node x1))), (S x1.Name), (SL 5 c_api_Node u0), (I t1), (DP (c_api_Node x2)), (DP (List.drop 2 (c_api_Node x2))), (S x2.Name), (I x3), (I x3)]) (LH := [([], ⟨0, []⟩)]) (D := [⟨[(2, none)], [], [0], false⟩, ⟨[(0, none)], [], [0], false⟩, ⟨[(6, some 0), (7, some 1)], [0, 1], [0], false⟩, ⟨[(8, some 2)], [0, 1, 2], [0], false⟩, ⟨[(9, some 3)], [0, 1, 2, 3], [0], false⟩, ⟨[(2, none)], [], [0], false⟩, ⟨[(1, none)], [], [0], false⟩, ⟨[(11, some 5), (12, some 6)], [5, 6], [0], false⟩, ⟨[(13, some 7)], [5, 6, 7], [0], false⟩, ⟨[(14, some 8)], [5, 6, 7, 8], [0], false⟩, ⟨[(10, some 4), (15, some 9)], [0, 1, 2, 3, 4, 5, 6, 7, 8, 9], [0], false⟩, ⟨[(16, some 10)], [0, 1, 2, 3, 4, 5, 6, 7, 8, 9, 10], [0], false⟩]) (S := []) (plan := [0, 1, 2, 3, 4, 5, 6, 7, 8, 9, 10, 11]) mo (by kernel_rfl) rfl rfl rfl (dcons (dstep1 (Tm := [(2, (DP [(SL 5 c_api_Node u0)]))]) (L := []) (H := ⟨0, []⟩) rfl rfl rfl rfl rfl (astep_do rfl (tx_ldD1 (v := (SL 5 c_api_Node u0)) Tryz.underlying25 rfl rfl rfl))) (dcons (dstep1 (Tm := [(0, (I t0))]) (L := []) (H := ⟨0, []⟩) rfl rfl rfl rfl rfl (astep_do rfl (ex_move (eV (v := (I t0)) rfl)))) (dcons (dstep1 (Tm := [(6, (SL 5 c_api_Node u0)), (7, (I t0))]) (L := []) (H := ⟨0, []⟩) rfl rfl rfl rfl rfl (astep_do rfl (tx_idxD (c := c_api_Node) (xs := u0) (i := t0) ce_api_Node Tryz.underlying25 s_49 rfl rfl hx1))) (dcons (dstep1 (Tm := [(8, (DP (c_api_Node x1)))]) (L := []) (H := ⟨0, []⟩) rfl rfl rfl rfl rfl (astep_do rfl (ex_fieldAddrD (vs := (List.drop 2 (c_api_Node x1))) Tryz.underlying49 rfl s_9 (by decide) rfl rfl))) (dcons (dstep1 (Tm := [(9, (DP (List.drop 2 (c_api_Node x1))))]) (L := []) (H := ⟨0, []⟩) rfl rfl rfl rfl rfl (astep_do rfl (tx_ldD1 (v := (S x1.Name)) Tryz.underlying9 rfl rfl rfl))) (dcons (dstep1 (Tm := [(2, (DP [(SL 5 c_api_Node u0)]))]) (L := []) (H := ⟨0, []⟩) rfl rfl rfl rfl rfl (astep_do rfl (tx_ldD1 (v := (SL 5 c_api_Node u0)) Tryz.underlying25 rfl rfl rfl))) (dcons (dstep1 (Tm := [(1, (I t1))]) (L := []) (H := ⟨0, []⟩) rfl rfl rfl rfl rfl (astep_do rfl (ex_move (eV (v := (I t1)) rfl)))) (dcons (dstep1 (Tm := [(11, (SL 5 c_api_Node u0)), (12, (I t1))]) (L := []) (H := ⟨0, []⟩) rfl rfl rfl rfl rfl (astep_do rfl (tx_idxD (c := c_api_Node) (xs := u0) (i := t1) ce_api_Node Tryz.underlying25 s_49 rfl rfl hx2))) (dcons (dstep1 (Tm := [(13, (DP (c_api_Node x2)))]) (L := []) (H := ⟨0, []⟩) rfl rfl rfl rfl rfl (astep_do rfl (ex_fieldAddrD (vs := (List.drop 2 (c_api_Node x2))) Tryz.underlying49 rfl s_9 (by decide) rfl rfl))) (dcons (dstep1 (Tm := [(14, (DP (List.drop 2 (c_api_Node x2))))]) (L := []) (H := ⟨0, []⟩) rfl rfl rfl rfl rfl (astep_do rfl (tx_ldD1 (v := (S x2.Name)) Tryz.underlying9 rfl rfl rfl))) (dcons (dstep1 (Tm := [(10, (S x1.Name)), (15, (S x2.Name))]) (L := []) (H := ⟨0, []⟩) rfl rfl rfl rfl rfl (astep_do rfl (ex_call0 (vs := [(S x1.Name), (S x2.Name)]) (v := (I x3)) rfl en_37 (cargs (evs rfl (evs rfl evs_nil))) rfl (ok_strings_Compare x1.Name x2.Name x3 hx3) rfl))) (dcons (dstep1 (Tm := [(16, (I x3))]) (L := []) (H := ⟨0, []⟩) rfl rfl rfl rfl rfl (astep_do rfl (ex_assign (eV (v := (I x3)) rfl)))) dnil)))))))))))) ⟨rfl, rfl⟩) (by kernel_rfl) (by kernel_rfl) ?_
  show AWp _ _ _ _
  refine awp_ret ?_
  cases h
  exact ares1 (rtmp rfl (eV rfl))

noncomputable def M_slices_insertionSortCmpFunc_int_c36_l2 (c_1 : (Int → List Int → Option (Unit × List Int))) (t1 : Int) (t2 : Int) (t3_0 : (List G_api_Node)) (v1 : Int) : Nat → Int → List Int → Option (Unit × List Int)
  | 0, _, _ => none
  | n2 + 1, v4, v5 =>
  Option.bind (gd ((decide (v4 > t1)) == true) (getI v5 v4)) fun (x6 : Int) => Option.bind (gd ((decide (v4 > t1)) == true) (getI v5 (w64 (v4 - 1)))) fun (x7 : Int) => cond ((decide (v4 > t1)) == true) (Option.bind (M_node_Kids_1 x6 x7 t3_0) fun (x8 : Int) => cond ((decide (v4 > t1)) && (decide (x8 < 0))) (Option.bind (getI v5 (w64 (v4 - 1))) fun (x10 : Int) => Option.bind (getI v5 v4) fun (x11 : Int) => Option.bind (getI v5 v4) fun (x12 : Int) => Option.bind (setI v5 v4 x10) fun (x13 : List Int) => Option.bind (getI x13 (w64 (v4 - 1))) fun (x14 : Int) => Option.bind (setI x13 (w64 (v4 - 1)) x11) fun (x15 : List Int) => (M_slices_insertionSortCmpFunc_int_c36_l2 c_1 t1 t2 t3_0 v1 n2) (w64 (v4 - 1)) x15) (c_1 (w64 (v1 + 1)) v5)) (cond (decide (v4 > t1)) (Option.bind (getI v5 (w64 (v4 - 1))) fun (x9 : Int) => Option.bind (getI v5 v4) fun (x10 : Int) => Option.bind (getI v5 v4) fun (x11 : Int) => Option.bind (setI v5 v4 x9) fun (x12 : List Int) => Option.bind (getI x12 (w64 (v4 - 1))) fun (x13 : Int) => Option.bind (setI x12 (w64 (v4 - 1)) x10) fun (x14 : List Int) => (M_slices_insertionSortCmpFunc_int_c36_l2 c_1 t1 t2 t3_0 v1 n2) (w64 (v4 - 1)) x14) (c_1 (w64 (v1 + 1)) v5))
noncomputable def M_slices_insertionSortCmpFunc_int_c36_l1 (t1 : Int) (t2 : Int) (t3_0 : (List G_api_Node)) : Nat → Int → List Int → Option (Unit × List Int)
  | 0, _, _ => none
  | n1 + 1, v1, v2 =>
  cond (decide (v1 < t2)) (M_slices_insertionSortCmpFunc_int_c36_l2 (M_slices_insertionSortCmpFunc_int_c36_l1 t1 t2 t3_0 n1) t1 t2 t3_0 v1 fuel v1 v2) (some ((), v2))
noncomputable def M_slices_insertionSortCmpFunc_int_c36 (t0 : List Int) (t1 : Int) (t2 : Int) (t3_0 : (List G_api_Node)) : Option (Unit × List Int) :=
  M_slices_insertionSortCmpFunc_int_c36_l1 t1 t2 t3_0 fuel (w64 (t1 + 1)) t0
theorem ok_slices_insertionSortCmpFunc_int_c36 (t0 : List Int) (t1 : Int) (t2 : Int) (t3_0 : (List G_api_Node)) (r : (Unit × List Int)) (h : M_slices_insertionSortCmpFunc_int_c36 t0 t1 t2 t3_0 = some r) : F1n Tryz.prog 66 [(GV 0 t0.length), (I t1), (I t2), (Value.func (Fn.func 36) #[] #[(DP [(SL 5 c_api_Node t3_0)])])] ⟨1, (t0).flatMap cI, true⟩ (Value.tuple #[]) ⟨1, (r.2).flatMap cI, true⟩ := by
  refine F1n.of_body (n := 53) Tryz.func66 rfl Tryz.ntmps66 rfl rfl rfl rfl ?_
  show AWp _ _ _ ⟨53, 1, [(0, (GV 0 t0.length)), (1, (I t1)), (2, (I t2)), (3, (Value.func (Fn.func 36) #[] #[(DP [(SL 5 c_api_Node t3_0)])]))], [], ⟨1, [(0, ⟨1, ((t0).flatMap cI), true⟩)]⟩⟩
  unfold M_slices_insertionSortCmpFunc_int_c36 at h
  refine awp_seq ?_
  refine awp_region ?_
  refine arun_do rfl rfl rfl (ex_move (eV (v := (I t1)) rfl)) ?_
  refine arun_do rfl rfl rfl (ex_bin (vx := (I t1)) (vy := (I 1)) rfl rfl addI_ok) ?_
  refine arun_do rfl rfl rfl (ex_assign (eV (v := (I (w64 (t1 + 1)))) rfl)) ?_
  refine arun_keepE [0, 1, 2, 3, 8] 0 1 (st' := ⟨53, 1, [(0, (GV 0 t0.length)), (1, (I t1)), (2, (I t2)), (3, (Value.func (Fn.func 36) #[] #[(DP [(SL 5 c_api_Node t3_0)])])), (8, (I (w64 (t1 + 1))))], [], ⟨1, [(0, ⟨1, ((t0).flatMap cI), true⟩)]⟩⟩) (by kernel_rfl) (by kernel_rfl) ?_
  show AWp _ _ _ _
  refine awp_block ?_
  refine awp_loop (fun n s => ∃ (v1 : Int) (v2 : List Int), s = ⟨53, 1, [(0, (GV 0 v2.length)), (1, (I t1)), (2, (I t2)), (3, (Value.func (Fn.func 36) #[] #[(DP [(SL 5 c_api_Node t3_0)])])), (8, (I v1))], [], ⟨1, [(0, ⟨1, ((v2).flatMap cI), true⟩)]⟩⟩ ∧ M_slices_insertionSortCmpFunc_int_c36_l1 t1 t2 t3_0 n v1 v2 = some r) fuel (Exists.intro (w64 (t1 + 1)) (Exists.intro t0 (And.intro rfl h))) ?_
  rintro n s ⟨v1, v2, rfl, h⟩ -
  cases n with
  | zero => cases h
  | succ n1 =>
    unfold M_slices_insertionSortCmpFunc_int_c36_l1 at h
    refine awp_seq ?_
    refine awp_seq ?_
    refine awp_region ?_
    refine arun_do rfl rfl rfl (ex_move (eV (v := (I v1)) rfl)) ?_
    refine arun_do rfl rfl rfl (ex_move (eV (v := (I t2)) rfl)) ?_
    refine arun_do rfl rfl rfl (ex_bin (vx := (I v1)) (vy := (I t2)) rfl rfl lssI_ok) ?_
    refine arun_keepE [0, 1, 2, 3, 8, 14] 0 1 (st' := ⟨53, 1, [(0, (GV 0 v2.length)), (1, (I t1)), (2, (I t2)), (3, (Value.func (Fn.func 36) #[] #[(DP [(SL 5 c_api_Node t3_0)])])), (8, (I v1)), (14, (Bo (decide (v1 < t2))))], [], ⟨1, [(0, ⟨1, ((v2).flatMap cI), true⟩)]⟩⟩) (by kernel_rfl) (by kernel_rfl) ?_
    show AWp _ _ _ _
    rcases Bool.eq_false_or_eq_true (decide (v1 < t2)) with hb3 | hb3
    · rw [condT hb3] at h
      refine awp_condT (boT hb3) ?_
      refine awp_skip ?_
      show AWp _ _ _ _
      refine awp_seq ?_
      refine awp_block ?_
      refine awp_seq ?_
      refine awp_region ?_
      refine arun_do rfl rfl rfl (ex_move (eV (v := (I v1)) rfl)) ?_
      refine arun_do rfl rfl rfl (ex_assign (eV (v := (I v1)) rfl)) ?_
      refine arun_keepE [0, 1, 2, 3, 8, 9] 0 1 (st' := ⟨53, 1, [(0, (GV 0 v2.length)), (1, (I t1)), (2, (I t2)), (3, (Value.func (Fn.func 36) #[] #[(DP [(SL 5 c_api_Node t3_0)])])), (8, (I v1)), (9, (I v1))], [], ⟨1, [(0, ⟨1, ((v2).flatMap cI), true⟩)]⟩⟩) (by kernel_rfl) (by kernel_rfl) ?_
      show AWp _ _ _ _
      refine awp_block ?_
      refine awp_loop (fun n s => ∃ (v4 : Int) (v5 : List Int), s = ⟨53, 1, [(0, (GV 0 v5.length)), (1, (I t1)), (2, (I t2)), (3, (Value.func (Fn.func 36) #[] #[(DP [(SL 5 c_api_Node t3_0)])])), (8, (I v1)), (9, (I v4))], [], ⟨1, [(0, ⟨1, ((v5).flatMap cI), true⟩)]⟩⟩ ∧ M_slices_insertionSortCmpFunc_int_c36_l2 (M_slices_insertionSortCmpFunc_int_c36_l1 t1 t2 t3_0 n1) t1 t2 t3_0 v1 n v4 v5 = some r) fuel (Exists.intro v1 (Exists.intro v2 (And.intro rfl h))) ?_
      rintro n s ⟨v4, v5, rfl, h⟩ -
      cases n with
      | zero => cases h
      | succ n2 =>
        unfold M_slices_insertionSortCmpFunc_int_c36_l2 at h
        refine awp_seq ?_
        refine awp_seq ?_
        obtain ⟨x6, hx6, h⟩ := bindS h
        obtain ⟨x7, hx7, h⟩ := bindS h
        rcases Bool.eq_false_or_eq_true ((decide (v4 > t1)) == true) with hg4_0 | hg4_0
        · rw [condT hg4_0] at h
          obtain ⟨x8, hx8, h⟩ := bindS h
          refine awp_kn [0, 1, 2, 3, 8, 9, 34] 0 1 (st' := ⟨53, 1, [(0, (GV 0 v5.length)), (1, (I t1)), (2, (I t2)), (3, (Value.func (Fn.func 36) #[] #[(DP [(SL 5 c_api_Node t3_0)])])), (8, (I v1)), (9, (I v4)), (34, (Bo ((decide (v4 > t1)) && (decide (x8 < 0)))))], [], ⟨1, [(0, ⟨1, ((v5).flatMap cI), true⟩)]⟩⟩) (awp_draw (T := [(I v4), (I t1), (Bo (decide (v4 > t1))), (Bo (decide (v4 > t1))), (Value.func (Fn.func 36) #[] #[(DP [(SL 5 c_api_Node t3_0)])]), (GV 0 v5.length), (I v4), (GP 0 (v4.toNat * 1) (List.flatMap cI v5).length), (I x6), (GV 0 v5.length), (I v4), (I (w64 (v4 - 1))), (GP 0 ((w64 (v4 - 1)).toNat * 1) (List.flatMap cI v5).length), (I x7), (I x8), (Bo (decide (x8 < 0))), (Bo ((decide (v4 > t1)) && (decide (x8 < 0))))]) (LH := [([], ⟨1, [(0, ⟨1, ((v5).flatMap cI), true⟩)]⟩)]) (D := [⟨[(9, none)], [], [0], false⟩, ⟨[(1, none)], [], [0], false⟩, ⟨[(18, some 0), (19, some 1)], [0, 1], [0], false⟩, ⟨[(20, some 2)], [0, 1, 2], [0], false⟩, ⟨[(3, none), (21, some 3)], [0, 1, 2, 3], [0], false⟩, ⟨[(0, none), (21, some 3)], [0, 1, 2, 3], [0], false⟩, ⟨[(9, none), (21, some 3)], [0, 1, 2, 3], [0], false⟩, ⟨[(23, some 5), (24, some 6), (21, some 3)], [0, 1, 2, 3, 5, 6], [0], false⟩, ⟨[(25, some 7), (21, some 3)], [0, 1, 2, 3, 5, 6, 7], [0], false⟩, ⟨[(0, none), (21, some 3)], [0, 1, 2, 3], [0], false⟩, ⟨[(9, none), (21, some 3)], [0, 1, 2, 3], [0], false⟩, ⟨[(28, some 10), (21, some 3)], [0, 1, 2, 3, 10], [0], false⟩, ⟨[(27, some 9), (29, some 11), (21, some 3)], [0, 1, 2, 3, 9, 10, 11], [0], false⟩, ⟨[(30, some 12), (21, some 3)], [0, 1, 2, 3, 9, 10, 11, 12], [0], false⟩, ⟨[(22, some 4), (26, some 8), (31, some 13), (21, some 3)], [0, 1, 2, 3, 4, 5, 6, 7, 8, 9, 10, 11, 12, 13], [0], false⟩, ⟨[(32, some 14), (21, some 3)], [0, 1, 2, 3, 4, 5, 6, 7, 8, 9, 10, 11, 12, 13, 14], [0], false⟩, ⟨[(21, some 3), (33, some 15)], [0, 1, 2, 3, 4, 5, 6, 7, 8, 9, 10, 11, 12, 13, 14, 15], [0], false⟩]) (S := []) (plan := [0, 1, 2, 3, 4, 5, 6, 7, 8, 9, 10, 11, 12, 13, 14, 15, 16]) mo (by kernel_rfl) rfl rfl rfl (dcons (dstep1 (Tm := [(9, (I v4))]) (L := []) (H := ⟨1, [(0, ⟨1, ((v5).flatMap cI), true⟩)]⟩) rfl rfl rfl rfl rfl (astep_do rfl (ex_move (eV (v := (I v4)) rfl)))) (dcons (dstep1 (Tm := [(1, (I t1))]) (L := []) (H := ⟨1, [(0, ⟨1, ((v5).flatMap cI), true⟩)]⟩) rfl rfl rfl rfl rfl (astep_do rfl (ex_move (eV (v := (I t1)) rfl)))) (dcons (dstep1 (Tm := [(18, (I v4)), (19, (I t1))]) (L := []) (H := ⟨1, [(0, ⟨1, ((v5).flatMap cI), true⟩)]⟩) rfl rfl rfl rfl rfl (astep_do rfl (ex_bin (vx := (I v4)) (vy := (I t1)) rfl rfl gtrI_ok))) (dcons (dstep1 (Tm := [(20, (Bo (decide (v4 > t1))))]) (L := []) (H := ⟨1, [(0, ⟨1, ((v5).flatMap cI), true⟩)]⟩) rfl rfl rfl rfl rfl (astep_do rfl (ex_move (eV (v := (Bo (decide (v4 > t1)))) rfl)))) (dcons (dstep1 (Tm := [(3, (Value.func (Fn.func 36) #[] #[(DP [(SL 5 c_api_Node t3_0)])])), (21, (Bo (decide (v4 > t1))))]) (L := []) (H := ⟨1, [(0, ⟨1, ((v5).flatMap cI), true⟩)]⟩) rfl rfl rfl rfl rfl (astep_do (gT rfl hg4_0) (ex_move (eV (v := (Value.func (Fn.func 36) #[] #[(DP [(SL 5 c_api_Node t3_0)])])) rfl)))) (dcons (dstep1 (Tm := [(0, (GV 0 v5.length)), (21, (Bo (decide (v4 > t1))))]) (L := []) (H := ⟨1, [(0, ⟨1, ((v5).flatMap cI), true⟩)]⟩) rfl rfl rfl rfl rfl (astep_do (gT rfl hg4_0) (ex_move (eV (v := (GV 0 v5.length)) rfl)))) (dcons (dstep1 (Tm := [(9, (I v4)), (21, (Bo (decide (v4 > t1))))]) (L := []) (H := ⟨1, [(0, ⟨1, ((v5).flatMap cI), true⟩)]⟩) rfl rfl rfl rfl rfl (astep_do (gT rfl hg4_0) (ex_move (eV (v := (I v4)) rfl)))) (dcons (dstep1 (Tm := [(23, (GV 0 v5.length)), (24, (I v4)), (21, (Bo (decide (v4 > t1))))]) (L := []) (H := ⟨1, [(0, ⟨1, ((v5).flatMap cI), true⟩)]⟩) rfl rfl rfl rfl rfl (astep_do (gT rfl hg4_0) (tx_idxG (c := cI) (xs := v5) (i := v4) ceI Tryz.underlying36 s_3 rfl rfl rfl rfl (gd_of hg4_0 hx6)))) (dcons (dstep1 (Tm := [(25, (GP 0 (v4.toNat * 1) (List.flatMap cI v5).length)), (21, (Bo (decide (v4 > t1))))]) (L := []) (H := ⟨1, [(0, ⟨1, ((v5).flatMap cI), true⟩)]⟩) rfl rfl rfl rfl rfl (astep_do (gT rfl hg4_0) (tx_ldG (v := (I x6)) (s := 1) rfl rfl (part_elem (off := 0) (v := (I x6)) ceI (gd_of hg4_0 hx6) Tryz.underlying3 rfl (by decide) rfl)))) (dcons (dstep1 (Tm := [(0, (GV 0 v5.length)), (21, (Bo (decide (v4 > t1))))]) (L := []) (H := ⟨1, [(0, ⟨1, ((v5).flatMap cI), true⟩)]⟩) rfl rfl rfl rfl rfl (astep_do (gT rfl hg4_0) (ex_move (eV (v := (GV 0 v5.length)) rfl)))) (dcons (dstep1 (Tm := [(9, (I v4)), (21, (Bo (decide (v4 > t1))))]) (L := []) (H := ⟨1, [(0, ⟨1, ((v5).flatMap cI), true⟩)]⟩) rfl rfl rfl rfl rfl (astep_do (gT rfl hg4_0) (ex_move (eV (v := (I v4)) rfl)))) (dcons (dstep1 (Tm := [(28, (I v4)), (21, (Bo (decide (v4 > t1))))]) (L := []) (H := ⟨1, [(0, ⟨1, ((v5).flatMap cI), true⟩)]⟩) rfl rfl rfl rfl rfl (astep_do (gT rfl hg4_0) (ex_bin (vx := (I v4)) (vy := (I 1)) rfl rfl subI_ok))) (dcons (dstep1 (Tm := [(27, (GV 0 v5.length)), (29, (I (w64 (v4 - 1)))), (21, (Bo (decide (v4 > t1))))]) (L := []) (H := ⟨1, [(0, ⟨1, ((v5).flatMap cI), true⟩)]⟩) rfl rfl rfl rfl rfl (astep_do (gT rfl hg4_0) (tx_idxG (c := cI) (xs := v5) (i := (w64 (v4 - 1))) ceI Tryz.underlying36 s_3 rfl rfl rfl rfl (gd_of hg4_0 hx7)))) (dcons (dstep1 (Tm := [(30, (GP 0 ((w64 (v4 - 1)).toNat * 1) (List.flatMap cI v5).length)), (21, (Bo (decide (v4 > t1))))]) (L := []) (H := ⟨1, [(0, ⟨1, ((v5).flatMap cI), true⟩)]⟩) rfl rfl rfl rfl rfl (astep_do (gT rfl hg4_0) (tx_ldG (v := (I x7)) (s := 1) rfl rfl (part_elem (off := 0) (v := (I x7)) ceI (gd_of hg4_0 hx7) Tryz.underlying3 rfl (by decide) rfl)))) (dcons (dstep1 (Tm := [(22, (Value.func (Fn.func 36) #[] #[(DP [(SL 5 c_api_Node t3_0)])])), (26, (I x6)), (31, (I x7)), (21, (Bo (decide (v4 > t1))))]) (L := []) (H := ⟨1, [(0, ⟨1, ((v5).flatMap cI), true⟩)]⟩) rfl rfl rfl rfl rfl (astep_do (gT rfl hg4_0) (ex_callA (vs := [(I x6), (I x7), (DP [(SL 5 c_api_Node t3_0)])]) (v := (I x8)) rfl en_36 (cargsC (us := [(I x6), (I x7)]) (evs rfl (evs rfl evs_nil)) rfl) rfl (ok_node_Kids_1 x6 x7 t3_0 x8 hx8) rfl))) (dcons (dstep1 (Tm := [(32, (I x8)), (21, (Bo (decide (v4 > t1))))]) (L := []) (H := ⟨1, [(0, ⟨1, ((v5).flatMap cI), true⟩)]⟩) rfl rfl rfl rfl rfl (astep_do (gT rfl hg4_0) (ex_bin (vx := (I x8)) (vy := (I 0)) rfl rfl lssI_ok))) (dcons (dstep1 (Tm := [(21, (Bo (decide (v4 > t1)))), (33, (Bo (decide (x8 < 0))))]) (L := []) (H := ⟨1, [(0, ⟨1, ((v5).flatMap cI), true⟩)]⟩) rfl rfl rfl rfl rfl (astep_do rfl (ex_pick rfl pkAndD))) dnil))))))))))))))))) ⟨rfl, rfl⟩) (by kernel_rfl) (by kernel_rfl) ?_
          show AWp _ _ _ _
          rcases Bool.eq_false_or_eq_true ((decide (v4 > t1)) && (decide (x8 < 0))) with hb9 | hb9
          · rw [condT hb9] at h
            refine awp_condT (boT hb9) ?_
            refine awp_skip ?_
            show AWp _ _ _ _
            refine awp_seq ?_
            refine awp_block ?_
            obtain ⟨x10, hx10, h⟩ := bindS h
            obtain ⟨x11, hx11, h⟩ := bindS h
            obtain ⟨x12, hx12, h⟩ := bindS h
            obtain ⟨x13, hx13, h⟩ := bindS h
            obtain ⟨x14, hx14, h⟩ := bindS h
            obtain ⟨x15, hx15, h⟩ := bindS h
            refine awp_knR [0, 1, 2, 3, 8, 9] 0 1 [(0, (GV 0 x15.length)), (1, (I t1)), (2, (I t2)), (3, (Value.func (Fn.func 36) #[] #[(DP [(SL 5 c_api_Node t3_0)])])), (8, (I v1)), (9, (I v4))] (st' := ⟨53, 1, [(0, (GV 0 v5.length)), (1, (I t1)), (2, (I t2)), (3, (Value.func (Fn.func 36) #[] #[(DP [(SL 5 c_api_Node t3_0)])])), (8, (I v1)), (9, (I v4))], [], ⟨1, [(0, ⟨1, ((x15).flatMap cI), true⟩)]⟩⟩) (awp_draw (T := [(GV 0 v5.length), (I v4), (GV 0 v5.length), (I v4), (I (w64 (v4 - 1))), (GV 0 v5.length), (I v4), (I (w64 (v4 - 1))), (GP 0 ((w64 (v4 - 1)).toNat * 1) (List.flatMap cI v5).length), (I x10), (GV 0 v5.length), (I v4), (GP 0 (v4.toNat * 1) (List.flatMap cI v5).length), (I x11), (GP 0 (v4.toNat * 1) (List.flatMap cI v5).length), undef, (GP 0 ((w64 (v4 - 1)).toNat * 1) (List.flatMap cI x13).length), undef]) (LH := [([], ⟨1, [(0, ⟨1, ((v5).flatMap cI), true⟩)]⟩), ([], ⟨1, [(0, ⟨1, ((x13).flatMap cI), true⟩)]⟩), ([], ⟨1, [(0, ⟨1, ((x15).flatMap cI), true⟩)]⟩)]) (D := [⟨[(0, none)], [], [0], false⟩, ⟨[(9, none)], [], [0], false⟩, ⟨[(0, none)], [], [0, 1], false⟩, ⟨[(9, none)], [], [0, 1], false⟩, ⟨[(40, some 3)], [3], [0, 1], false⟩, ⟨[(0, none)], [], [0], false⟩, ⟨[(9, none)], [], [0], false⟩, ⟨[(43, some 6)], [6], [0], false⟩, ⟨[(42, some 5), (44, some 7)], [5, 6, 7], [0], false⟩, ⟨[(45, some 8)], [5, 6, 7, 8], [0], false⟩, ⟨[(0, none)], [], [0], false⟩, ⟨[(9, none)], [], [0], false⟩, ⟨[(47, some 10), (48, some 11)], [10, 11], [0], false⟩, ⟨[(49, some 12)], [10, 11, 12], [0], false⟩, ⟨[(37, some 0), (38, some 1)], [0, 1, 5, 6, 7, 8, 9, 10, 11, 12, 13], [0], false⟩, ⟨[(51, some 14), (46, some 9)], [0, 1, 5, 6, 7, 8, 9, 10, 11, 12, 13, 14], [0], true⟩, ⟨[(39, some 2), (41, some 4)], [0, 1, 2, 3, 4, 5, 6, 7, 8, 9, 10, 11, 12, 13, 14, 15], [1], false⟩, ⟨[(52, some 16), (50, some 13)], [0, 1, 2, 3, 4, 5, 6, 7, 8, 9, 10, 11, 12, 13, 14, 15, 16], [1], true⟩]) (S := [15, 17]) (plan := [0, 1, 2, 3, 4, 5, 6, 7, 8, 9, 10, 11, 12, 13, 14, 15, 16, 17]) mo (by kernel_rfl) rfl rfl rfl (dcons (dstep1 (Tm := [(0, (GV 0 v5.length))]) (L := []) (H := ⟨1, [(0, ⟨1, ((v5).flatMap cI), true⟩)]⟩) rfl rfl rfl rfl rfl (astep_do rfl (ex_move (eV (v := (GV 0 v5.length)) rfl)))) (dcons (dstep1 (Tm := [(9, (I v4))]) (L := []) (H := ⟨1, [(0, ⟨1, ((v5).flatMap cI), true⟩)]⟩) rfl rfl rfl rfl rfl (astep_do rfl (ex_move (eV (v := (I v4)) rfl)))) (dcons (dstepN (by intro k hk; simp only [List.mem_cons, List.not_mem_nil, or_false] at hk; rcases hk with rfl | rfl <;> exact ⟨[(0, (GV 0 v5.length))], _, _, _, _, _, rfl, rfl, rfl, rfl, astep_do rfl (ex_move (eV (v := (GV 0 v5.length)) rfl))⟩)) (dcons (dstepN (by intro k hk; simp only [List.mem_cons, List.not_mem_nil, or_false] at hk; rcases hk with rfl | rfl <;> exact ⟨[(9, (I v4))], _, _, _, _, _, rfl, rfl, rfl, rfl, astep_do rfl (ex_move (eV (v := (I v4)) rfl))⟩)) (dcons (dstepN (by intro k hk; simp only [List.mem_cons, List.not_mem_nil, or_false] at hk; rcases hk with rfl | rfl <;> exact ⟨[(40, (I v4))], _, _, _, _, _, rfl, rfl, rfl, rfl, astep_do rfl (ex_bin (vx := (I v4)) (vy := (I 1)) rfl rfl subI_ok)⟩)) (dcons (dstep1 (Tm := [(0, (GV 0 v5.length))]) (L := []) (H := ⟨1, [(0, ⟨1, ((v5).flatMap cI), true⟩)]⟩) rfl rfl rfl rfl rfl (astep_do rfl (ex_move (eV (v := (GV 0 v5.length)) rfl)))) (dcons (dstep1 (Tm := [(9, (I v4))]) (L := []) (H := ⟨1, [(0, ⟨1, ((v5).flatMap cI), true⟩)]⟩) rfl rfl rfl rfl rfl (astep_do rfl (ex_move (eV (v := (I v4)) rfl)))) (dcons (dstep1 (Tm := [(43, (I v4))]) (L := []) (H := ⟨1, [(0, ⟨1, ((v5).flatMap cI), true⟩)]⟩) rfl rfl rfl rfl rfl (astep_do rfl (ex_bin (vx := (I v4)) (vy := (I 1)) rfl rfl subI_ok))) (dcons (dstep1 (Tm := [(42, (GV 0 v5.length)), (44, (I (w64 (v4 - 1))))]) (L := []) (H := ⟨1, [(0, ⟨1, ((v5).flatMap cI), true⟩)]⟩) rfl rfl rfl rfl rfl (astep_do rfl (tx_idxG (c := cI) (xs := v5) (i := (w64 (v4 - 1))) ceI Tryz.underlying36 s_3 rfl rfl rfl rfl hx10))) (dcons (dstep1 (Tm := [(45, (GP 0 ((w64 (v4 - 1)).toNat * 1) (List.flatMap cI v5).length))]) (L := []) (H := ⟨1, [(0, ⟨1, ((v5).flatMap cI), true⟩)]⟩) rfl rfl rfl rfl rfl (astep_do rfl (tx_ldG (v := (I x10)) (s := 1) rfl rfl (part_elem (off := 0) (v := (I x10)) ceI hx10 Tryz.underlying3 rfl (by decide) rfl)))) (dcons (dstep1 (Tm := [(0, (GV 0 v5.length))]) (L := []) (H := ⟨1, [(0, ⟨1, ((v5).flatMap cI), true⟩)]⟩) rfl rfl rfl rfl rfl (astep_do rfl (ex_move (eV (v := (GV 0 v5.length)) rfl)))) (dcons (dstep1 (Tm := [(9, (I v4))]) (L := []) (H := ⟨1, [(0, ⟨1, ((v5).flatMap cI), true⟩)]⟩) rfl rfl rfl rfl rfl (astep_do rfl (ex_move (eV (v := (I v4)) rfl)))) (dcons (dstep1 (Tm := [(47, (GV 0 v5.length)), (48, (I v4))]) (L := []) (H := ⟨1, [(0, ⟨1, ((v5).flatMap cI), true⟩)]⟩) rfl rfl rfl rfl rfl (astep_do rfl (tx_idxG (c := cI) (xs := v5) (i := v4) ceI Tryz.underlying36 s_3 rfl rfl rfl rfl hx11))) (dcons (dstep1 (Tm := [(49, (GP 0 (v4.toNat * 1) (List.flatMap cI v5).length))]) (L := []) (H := ⟨1, [(0, ⟨1, ((v5).flatMap cI), true⟩)]⟩) rfl rfl rfl rfl rfl (astep_do rfl (tx_ldG (v := (I x11)) (s := 1) rfl rfl (part_elem (off := 0) (v := (I x11)) ceI hx11 Tryz.underlying3 rfl (by decide) rfl)))) (dcons (dstep1 (Tm := [(37, (GV 0 v5.length)), (38, (I v4))]) (L := []) (H := ⟨1, [(0, ⟨1, ((v5).flatMap cI), true⟩)]⟩) rfl rfl rfl rfl rfl (astep_do rfl (tx_idxG (c := cI) (xs := v5) (i := v4) ceI Tryz.underlying36 s_3 rfl rfl rfl rfl hx12))) (dcons (dstep1 (Tm := [(51, (GP 0 (v4.toNat * 1) (List.flatMap cI v5).length)), (46, (I x10))]) (L := []) (H := ⟨1, [(0, ⟨1, ((v5).flatMap cI), true⟩)]⟩) rfl rfl rfl rfl rfl (astep_do rfl (tx_stG (c := cI) (xs := v5) (e := x10) (H' := ⟨1, [(0, ⟨1, ((x13).flatMap cI), true⟩)]⟩) ceI s_3 rfl (eV (v := (I x10)) rfl) rfl rfl hx13 rfl))) (dcons (dstep1 (Tm := [(39, (GV 0 v5.length)), (41, (I (w64 (v4 - 1))))]) (L := []) (H := ⟨1, [(0, ⟨1, ((x13).flatMap cI), true⟩)]⟩) rfl rfl rfl rfl rfl (astep_do rfl (tx_idxG (c := cI) (xs := x13) (i := (w64 (v4 - 1))) ceI Tryz.underlying36 s_3 rfl rfl rfl (setI_len hx13) hx14))) (dcons (dstep1 (Tm := [(52, (GP 0 ((w64 (v4 - 1)).toNat * 1) (List.flatMap cI x13).length)), (50, (I x11))]) (L := []) (H := ⟨1, [(0, ⟨1, ((x13).flatMap cI), true⟩)]⟩) rfl rfl rfl rfl rfl (astep_do rfl (tx_stG (c := cI) (xs := x13) (e := x11) (H' := ⟨1, [(0, ⟨1, ((x15).flatMap cI), true⟩)]⟩) ceI s_3 rfl (eV (v := (I x11)) rfl) rfl rfl hx15 rfl))) dnil)))))))))))))))))) ⟨rfl, rfl⟩) (by kernel_rfl) (by kernel_rfl) (ReT.gv rfl (Eq.trans (setI_len hx13) (setI_len hx15)) (ReT.keep (v := (I t1)) rfl (ReT.keep (v := (I t2)) rfl (ReT.keep (v := (Value.func (Fn.func 36) #[] #[(DP [(SL 5 c_api_Node t3_0)])])) rfl (ReT.keep (v := (I v1)) rfl (ReT.keep (v := (I v4)) rfl ReT.nil)))))) ?_
            show AWp _ _ _ _
            refine awp_region ?_
            refine arun_do rfl rfl rfl (ex_move (eV (v := (I v4)) rfl)) ?_
            refine arun_do rfl rfl rfl (ex_bin (vx := (I v4)) (vy := (I 1)) rfl rfl subI_ok) ?_
            refine arun_do rfl rfl rfl (ex_assign (eV (v := (I (w64 (v4 - 1)))) rfl)) ?_
            refine arun_keepE [0, 1, 2, 3, 8, 9] 0 1 (st' := ⟨53, 1, [(0, (GV 0 x15.length)), (1, (I t1)), (2, (I t2)), (3, (Value.func (Fn.func 36) #[] #[(DP [(SL 5 c_api_Node t3_0)])])), (8, (I v1)), (9, (I (w64 (v4 - 1))))], [], ⟨1, [(0, ⟨1, ((x15).flatMap cI), true⟩)]⟩⟩) (by kernel_rfl) (by kernel_rfl) ?_
            exact Exists.intro n2 (And.intro (Nat.lt_succ_self _) (Exists.intro (w64 (v4 - 1)) (Exists.intro x15 (And.intro rfl h))))
          · rw [condF hb9] at h
            refine awp_condF (boF hb9) ?_
            refine awp_exit ?_
            show AWp _ _ _ _
            refine awp_region ?_
            refine arun_do rfl rfl rfl (ex_move (eV (v := (I v1)) rfl)) ?_
            refine arun_do rfl rfl rfl (ex_bin (vx := (I v1)) (vy := (I 1)) rfl rfl addI_ok) ?_
            refine arun_do rfl rfl rfl (ex_assign (eV (v := (I (w64 (v1 + 1)))) rfl)) ?_
            refine arun_keepE [0, 1, 2, 3, 8] 0 1 (st' := ⟨53, 1, [(0, (GV 0 v5.length)), (1, (I t1)), (2, (I t2)), (3, (Value.func (Fn.func 36) #[] #[(DP [(SL 5 c_api_Node t3_0)])])), (8, (I (w64 (v1 + 1))))], [], ⟨1, [(0, ⟨1, ((v5).flatMap cI), true⟩)]⟩⟩) (by kernel_rfl) (by kernel_rfl) ?_
            exact Exists.intro n1 (And.intro (Nat.lt_succ_self _) (Exists.intro (w64 (v1 + 1)) (Exists.intro v5 (And.intro rfl h))))
        · rw [condF hg4_0] at h
          refine awp_kn [0, 1, 2, 3, 8, 9, 34] 0 1 (st' := ⟨53, 1, [(0, (GV 0 v5.length)), (1, (I t1)), (2, (I t2)), (3, (Value.func (Fn.func 36) #[] #[(DP [(SL 5 c_api_Node t3_0)])])), (8, (I v1)), (9, (I v4)), (34, (Bo (decide (v4 > t1))))], [], ⟨1, [(0, ⟨1, ((v5).flatMap cI), true⟩)]⟩⟩) (awp_draw (T := [(I v4), (I t1), (Bo (decide (v4 > t1))), (Bo (decide (v4 > t1))), skipV, skipV, skipV, skipV, skipV, skipV, skipV, skipV, skipV, skipV, skipV, skipV, (Bo (decide (v4 > t1)))]) (LH := [([], ⟨1, [(0, ⟨1, ((v5).flatMap cI), true⟩)]⟩)]) (D := [⟨[(9, none)], [], [0], false⟩, ⟨[(1, none)], [], [0], false⟩, ⟨[(18, some 0), (19, some 1)], [0, 1], [0], false⟩, ⟨[(20, some 2)], [0, 1, 2], [0], false⟩, ⟨[(3, none), (21, some 3)], [0, 1, 2, 3], [0], false⟩, ⟨[(0, none), (21, some 3)], [0, 1, 2, 3], [0], false⟩, ⟨[(9, none), (21, some 3)], [0, 1, 2, 3], [0], false⟩, ⟨[(23, some 5), (24, some 6), (21, some 3)], [0, 1, 2, 3, 5, 6], [0], false⟩, ⟨[(25, some 7), (21, some 3)], [0, 1, 2, 3, 5, 6, 7], [0], false⟩, ⟨[(0, none), (21, some 3)], [0, 1, 2, 3], [0], false⟩, ⟨[(9, none), (21, some 3)], [0, 1, 2, 3], [0], false⟩, ⟨[(28, some 10), (21, some 3)], [0, 1, 2, 3, 10], [0], false⟩, ⟨[(27, some 9), (29, some 11), (21, some 3)], [0, 1, 2, 3, 9, 10, 11], [0], false⟩, ⟨[(30, some 12), (21, some 3)], [0, 1, 2, 3, 9, 10, 11, 12], [0], false⟩, ⟨[(22, some 4), (26, some 8), (31, some 13), (21, some 3)], [0, 1, 2, 3, 4, 5, 6, 7, 8, 9, 10, 11, 12, 13], [0], false⟩, ⟨[(32, some 14), (21, some 3)], [0, 1, 2, 3, 4, 5, 6, 7, 8, 9, 10, 11, 12, 13, 14], [0], false⟩, ⟨[(21, some 3), (33, some 15)], [0, 1, 2, 3, 4, 5, 6, 7, 8, 9, 10, 11, 12, 13, 14, 15], [0], false⟩]) (S := []) (plan := [0, 1, 2, 3, 4, 5, 6, 7, 8, 9, 10, 11, 12, 13, 14, 15, 16]) mo (by kernel_rfl) rfl rfl rfl (dcons (dstep1 (Tm := [(9, (I v4))]) (L := []) (H := ⟨1, [(0, ⟨1, ((v5).flatMap cI), true⟩)]⟩) rfl rfl rfl rfl rfl (astep_do rfl (ex_move (eV (v := (I v4)) rfl)))) (dcons (dstep1 (Tm := [(1, (I t1))]) (L := []) (H := ⟨1, [(0, ⟨1, ((v5).flatMap cI), true⟩)]⟩) rfl rfl rfl rfl rfl (astep_do rfl (ex_move (eV (v := (I t1)) rfl)))) (dcons (dstep1 (Tm := [(18, (I v4)), (19, (I t1))]) (L := []) (H := ⟨1, [(0, ⟨1, ((v5).flatMap cI), true⟩)]⟩) rfl rfl rfl rfl rfl (astep_do rfl (ex_bin (vx := (I v4)) (vy := (I t1)) rfl rfl gtrI_ok))) (dcons (dstep1 (Tm := [(20, (Bo (decide (v4 > t1))))]) (L := []) (H := ⟨1, [(0, ⟨1, ((v5).flatMap cI), true⟩)]⟩) rfl rfl rfl rfl rfl (astep_do rfl (ex_move (eV (v := (Bo (decide (v4 > t1)))) rfl)))) (dcons (dstep1 (Tm := [(3, (Value.func (Fn.func 36) #[] #[(DP [(SL 5 c_api_Node t3_0)])])), (21, (Bo (decide (v4 > t1))))]) (L := []) (H := ⟨1, [(0, ⟨1, ((v5).flatMap cI), true⟩)]⟩) rfl rfl rfl rfl rfl (astep_skip (gF rfl hg4_0))) (dcons (dstep1 (Tm := [(0, (GV 0 v5.length)), (21, (Bo (decide (v4 > t1))))]) (L := []) (H := ⟨1, [(0, ⟨1, ((v5).flatMap cI), true⟩)]⟩) rfl rfl rfl rfl rfl (astep_skip (gF rfl hg4_0))) (dcons (dstep1 (Tm := [(9, (I v4)), (21, (Bo (decide (v4 > t1))))]) (L := []) (H := ⟨1, [(0, ⟨1, ((v5).flatMap cI), true⟩)]⟩) rfl rfl rfl rfl rfl (astep_skip (gF rfl hg4_0))) (dcons (dstep1 (Tm := [(23, skipV), (24, skipV), (21, (Bo (decide (v4 > t1))))]) (L := []) (H := ⟨1, [(0, ⟨1, ((v5).flatMap cI), true⟩)]⟩) rfl rfl rfl rfl rfl (astep_skip (gF rfl hg4_0))) (dcons (dstep1 (Tm := [(25, skipV), (21, (Bo (decide (v4 > t1))))]) (L := []) (H := ⟨1, [(0, ⟨1, ((v5).flatMap cI), true⟩)]⟩) rfl rfl rfl rfl rfl (astep_skip (gF rfl hg4_0))) (dcons (dstep1 (Tm := [(0, (GV 0 v5.length)), (21, (Bo (decide (v4 > t1))))]) (L := []) (H := ⟨1, [(0, ⟨1, ((v5).flatMap cI), true⟩)]⟩) rfl rfl rfl rfl rfl (astep_skip (gF rfl hg4_0))) (dcons (dstep1 (Tm := [(9, (I v4)), (21, (Bo (decide (v4 > t1))))]) (L := []) (H := ⟨1, [(0, ⟨1, ((v5).flatMap cI), true⟩)]⟩) rfl rfl rfl rfl rfl (astep_skip (gF rfl hg4_0))) (dcons (dstep1 (Tm := [(28, skipV), (21, (Bo (decide (v4 > t1))))]) (L := []) (H := ⟨1, [(0, ⟨1, ((v5).flatMap cI), true⟩)]⟩) rfl rfl rfl rfl rfl (astep_skip (gF rfl hg4_0))) (dcons (dstep1 (Tm := [(27, skipV), (29, skipV), (21, (Bo (decide (v4 > t1))))]) (L := []) (H := ⟨1, [(0, ⟨1, ((v5).flatMap cI), true⟩)]⟩) rfl rfl rfl rfl rfl (astep_skip (gF rfl hg4_0))) (dcons (dstep1 (Tm := [(30, skipV), (21, (Bo (decide (v4 > t1))))]) (L := []) (H := ⟨1, [(0, ⟨1, ((v5).flatMap cI), true⟩)]⟩) rfl rfl rfl rfl rfl (astep_skip (gF rfl hg4_0))) (dcons (dstep1 (Tm := [(22, skipV), (26, skipV), (31, skipV), (21, (Bo (decide (v4 > t1))))]) (L := []) (H := ⟨1, [(0, ⟨1, ((v5).flatMap cI), true⟩)]⟩) rfl rfl rfl rfl rfl (astep_skip (gF rfl hg4_0))) (dcons (dstep1 (Tm := [(32, skipV), (21, (Bo (decide (v4 > t1))))]) (L := []) (H := ⟨1, [(0, ⟨1, ((v5).flatMap cI), true⟩)]⟩) rfl rfl rfl rfl rfl (astep_skip (gF rfl hg4_0))) (dcons (dstep1 (Tm := [(21, (Bo (decide (v4 > t1)))), (33, skipV)]) (L := []) (H := ⟨1, [(0, ⟨1, ((v5).flatMap cI), true⟩)]⟩) rfl rfl rfl rfl rfl (astep_do rfl (ex_pick rfl (pkAndS hg4_0)))) dnil))))))))))))))))) ⟨rfl, rfl⟩) (by kernel_rfl) (by kernel_rfl) ?_
          show AWp _ _ _ _
          rcases Bool.eq_false_or_eq_true (decide (v4 > t1)) with hb8 | hb8
          · rw [condT hb8] at h
            refine awp_condT (boT hb8) ?_
            refine awp_skip ?_
            show AWp _ _ _ _
            refine awp_seq ?_
            refine awp_block ?_
            obtain ⟨x9, hx9, h⟩ := bindS h
            obtain ⟨x10, hx10, h⟩ := bindS h
            obtain ⟨x11, hx11, h⟩ := bindS h
            obtain ⟨x12, hx12, h⟩ := bindS h
            obtain ⟨x13, hx13, h⟩ := bindS h
            obtain ⟨x14, hx14, h⟩ := bindS h
            refine awp_knR [0, 1, 2, 3, 8, 9] 0 1 [(0, (GV 0 x14.length)), (1, (I t1)), (2, (I t2)), (3, (Value.func (Fn.func 36) #[] #[(DP [(SL 5 c_api_Node t3_0)])])), (8, (I v1)), (9, (I v4))] (st' := ⟨53, 1, [(0, (GV 0 v5.length)), (1, (I t1)), (2, (I t2)), (3, (Value.func (Fn.func 36) #[] #[(DP [(SL 5 c_api_Node t3_0)])])), (8, (I v1)), (9, (I v4))], [], ⟨1, [(0, ⟨1, ((x14).flatMap cI), true⟩)]⟩⟩) (awp_draw (T := [(GV 0 v5.length), (I v4), (GV 0 v5.length), (I v4), (I (w64 (v4 - 1))), (GV 0 v5.length), (I v4), (I (w64 (v4 - 1))), (GP 0 ((w64 (v4 - 1)).toNat * 1) (List.flatMap cI v5).length), (I x9), (GV 0 v5.length), (I v4), (GP 0 (v4.toNat * 1) (List.flatMap cI v5).length), (I x10), (GP 0 (v4.toNat * 1) (List.flatMap cI v5).length), undef, (GP 0 ((w64 (v4 - 1)).toNat * 1) (List.flatMap cI x12).length), undef]) (LH := [([], ⟨1, [(0, ⟨1, ((v5).flatMap cI), true⟩)]⟩), ([], ⟨1, [(0, ⟨1, ((x12).flatMap cI), true⟩)]⟩), ([], ⟨1, [(0, ⟨1, ((x14).flatMap cI), true⟩)]⟩)]) (D := [⟨[(0, none)], [], [0], false⟩, ⟨[(9, none)], [], [0], false⟩, ⟨[(0, none)], [], [0, 1], false⟩, ⟨[(9, none)], [], [0, 1], false⟩, ⟨[(40, some 3)], [3], [0, 1], false⟩, ⟨[(0, none)], [], [0], false⟩, ⟨[(9, none)], [], [0], false⟩, ⟨[(43, some 6)], [6], [0], false⟩, ⟨[(42, some 5), (44, some 7)], [5, 6, 7], [0], false⟩, ⟨[(45, some 8)], [5, 6, 7, 8], [0], false⟩, ⟨[(0, none)], [], [0], false⟩, ⟨[(9, none)], [], [0], false⟩, ⟨[(47, some 10), (48, some 11)], [10, 11], [0], false⟩, ⟨[(49, some 12)], [10, 11, 12], [0], false⟩, ⟨[(37, some 0), (38, some 1)], [0, 1, 5, 6, 7, 8, 9, 10, 11, 12, 13], [0], false⟩, ⟨[(51, some 14), (46, some 9)], [0, 1, 5, 6, 7, 8, 9, 10, 11, 12, 13, 14], [0], true⟩, ⟨[(39, some 2), (41, some 4)], [0, 1, 2, 3, 4, 5, 6, 7, 8, 9, 10, 11, 12, 13, 14, 15], [1], false⟩, ⟨[(52, some 16), (50, some 13)], [0, 1, 2, 3, 4, 5, 6, 7, 8, 9, 10, 11, 12, 13, 14, 15, 16], [1], true⟩]) (S := [15, 17]) (plan := [0, 1, 2, 3, 4, 5, 6, 7, 8, 9, 10, 11, 12, 13, 14, 15, 16, 17]) mo (by kernel_rfl) rfl rfl rfl (dcons (dstep1 (Tm := [(0, (GV 0 v5.length))]) (L := []) (H := ⟨1, [(0, ⟨1, ((v5).flatMap cI), true⟩)]⟩) rfl rfl rfl rfl rfl (astep_do rfl (ex_move (eV (v := (GV 0 v5.length)) rfl)))) (dcons (dstep1 (Tm := [(9, (I v4))]) (L := []) (H := ⟨1, [(0, ⟨1, ((v5).flatMap cI), true⟩)]⟩) rfl rfl rfl rfl rfl (astep_do rfl (ex_move (eV (v := (I v4)) rfl)))) (dcons (dstepN (by intro k hk; simp only [List.mem_cons, List.not_mem_nil, or_false] at hk; rcases hk with rfl | rfl <;> exact ⟨[(0, (GV 0 v5.length))], _, _, _, _, _, rfl, rfl, rfl, rfl, astep_do rfl (ex_move (eV (v := (GV 0 v5.length)) rfl))⟩)) (dcons (dstepN (by intro k hk; simp only [List.mem_cons, List.not_mem_nil, or_false] at hk; rcases hk with rfl | rfl <;> exact ⟨[(9, (I v4))], _, _, _, _, _, rfl, rfl, rfl, rfl, astep_do rfl (ex_move (eV (v := (I v4)) rfl))⟩)) (dcons (dstepN (by intro k hk; simp only [List.mem_cons, List.not_mem_nil, or_false] at hk; rcases hk with rfl | rfl <;> exact ⟨[(40, (I v4))], _, _, _, _, _, rfl, rfl, rfl, rfl, astep_do rfl (ex_bin (vx := (I v4)) (vy := (I 1)) rfl rfl subI_ok)⟩)) (dcons (dstep1 (Tm := [(0, (GV 0 v5.length))]) (L := []) (H := ⟨1, [(0, ⟨1, ((v5).flatMap cI), true⟩)]⟩) rfl rfl rfl rfl rfl (astep_do rfl (ex_move (eV (v := (GV 0 v5.length)) rfl)))) (dcons (dstep1 (Tm := [(9, (I v4))]) (L := []) (H := ⟨1, [(0, ⟨1, ((v5).flatMap cI), true⟩)]⟩) rfl rfl rfl rfl rfl (astep_do rfl (ex_move (eV (v := (I v4)) rfl)))) (dcons (dstep1 (Tm := [(43, (I v4))]) (L := []) (H := ⟨1, [(0, ⟨1, ((v5).flatMap cI), true⟩)]⟩) rfl rfl rfl rfl rfl (astep_do rfl (ex_bin (vx := (I v4)) (vy := (I 1)) rfl rfl subI_ok))) (dcons (dstep1 (Tm := [(42, (GV 0 v5.length)), (44, (I (w64 (v4 - 1))))]) (L := []) (H := ⟨1, [(0, ⟨1, ((v5).flatMap cI), true⟩)]⟩) rfl rfl rfl rfl rfl (astep_do rfl (tx_idxG (c := cI) (xs := v5) (i := (w64 (v4 - 1))) ceI Tryz.underlying36 s_3 rfl rfl rfl rfl hx9))) (dcons (dstep1 (Tm := [(45, (GP 0 ((w64 (v4 - 1)).toNat * 1) (List.flatMap cI v5).length))]) (L := []) (H := ⟨1, [(0, ⟨1, ((v5).flatMap cI), true⟩)]⟩) rfl rfl rfl rfl rfl (astep_do rfl (tx_ldG (v := (I x9)) (s := 1) rfl rfl (part_elem (off := 0) (v := (I x9)) ceI hx9 Tryz.underlying3 rfl (by decide) rfl)))) (dcons (dstep1 (Tm := [(0, (GV 0 v5.length))]) (L := []) (H := ⟨1, [(0, ⟨1, ((v5).flatMap cI), true⟩)]⟩) rfl rfl rfl rfl rfl (astep_do rfl (ex_move (eV (v := (GV 0 v5.length)) rfl)))) (dcons (dstep1 (Tm := [(9, (I v4))]) (L := []) (H := ⟨1, [(0, ⟨1, ((v5).flatMap cI), true⟩)]⟩) rfl rfl rfl rfl rfl (astep_do rfl (ex_move (eV (v := (I v4)) rfl)))) (dcons (dstep1 (Tm := [(47, (GV 0 v5.length)), (48, (I v4))]) (L := []) (H := ⟨1, [(0, ⟨1, ((v5).flatMap cI), true⟩)]⟩) rfl rfl rfl rfl rfl (astep_do rfl (tx_idxG (c := cI) (xs := v5) (i := v4) ceI Tryz.underlying36 s_3 rfl rfl rfl rfl hx10))) (dcons (dstep1 (Tm := [(49, (GP 0 (v4.toNat * 1) (List.flatMap cI v5).length))]) (L := []) (H := ⟨1, [(0, ⟨1, ((v5).flatMap cI), true⟩)]⟩) rfl rfl rfl rfl rfl (astep_do rfl (tx_ldG (v := (I x10)) (s := 1) rfl rfl (part_elem (off := 0) (v := (I x10)) ceI hx10 Tryz.underlying3 rfl (by decide) rfl)))) (dcons (dstep1 (Tm := [(37, (GV 0 v5.length)), (38, (I v4))]) (L := []) (H := ⟨1, [(0, ⟨1, ((v5).flatMap cI), true⟩)]⟩) rfl rfl rfl rfl rfl (astep_do rfl (tx_idxG (c := cI) (xs := v5) (i := v4) ceI Tryz.underlying36 s_3 rfl rfl rfl rfl hx11))) (dcons (dstep1 (Tm := [(51, (GP 0 (v4.toNat * 1) (List.flatMap cI v5).length)), (46, (I x9))]) (L := []) (H := ⟨1, [(0, ⟨1, ((v5).flatMap cI), true⟩)]⟩) rfl rfl rfl rfl rfl (astep_do rfl (tx_stG (c := cI) (xs := v5) (e := x9) (H' := ⟨1, [(0, ⟨1, ((x12).flatMap cI), true⟩)]⟩) ceI s_3 rfl (eV (v := (I x9)) rfl) rfl rfl hx12 rfl))) (dcons (dstep1 (Tm := [(39, (GV 0 v5.length)), (41, (I (w64 (v4 - 1))))]) (L := []) (H := ⟨1, [(0, ⟨1, ((x12).flatMap cI), true⟩)]⟩) rfl rfl rfl rfl rfl (astep_do rfl (tx_idxG (c := cI) (xs := x12) (i := (w64 (v4 - 1))) ceI Tryz.underlying36 s_3 rfl rfl rfl (setI_len hx12) hx13))) (dcons (dstep1 (Tm := [(52, (GP 0 ((w64 (v4 - 1)).toNat * 1) (List.flatMap cI x12).length)), (50, (I x10))]) (L := []) (H := ⟨1, [(0, ⟨1, ((x12).flatMap cI), true⟩)]⟩) rfl rfl rfl rfl rfl (astep_do rfl (tx_stG (c := cI) (xs := x12) (e := x10) (H' := ⟨1, [(0, ⟨1, ((x14).flatMap cI), true⟩)]⟩) ceI s_3 rfl (eV (v := (I x10)) rfl) rfl rfl hx14 rfl))) dnil)))))))))))))))))) ⟨rfl, rfl⟩) (by kernel_rfl) (by kernel_rfl) (ReT.gv rfl (Eq.trans (setI_len hx12) (setI_len hx14)) (ReT.keep (v := (I t1)) rfl (ReT.keep (v := (I t2)) rfl (ReT.keep (v := (Value.func (Fn.func 36) #[] #[(DP [(SL 5 c_api_Node t3_0)])])) rfl (ReT.keep (v := (I v1)) rfl (ReT.keep (v := (I v4)) rfl ReT.nil)))))) ?_
            show AWp _ _ _ _
            refine awp_region ?_
            refine arun_do rfl rfl rfl (ex_move (eV (v := (I v4)) rfl)) ?_
            refine arun_do rfl rfl rfl (ex_bin (vx := (I v4)) (vy := (I 1)) rfl rfl subI_ok) ?_
            refine arun_do rfl rfl rfl (ex_assign (eV (v := (I (w64 (v4 - 1)))) rfl)) ?_
            refine arun_keepE [0, 1, 2, 3, 8, 9] 0 1 (st' := ⟨53, 1, [(0, (GV 0 x14.length)), (1, (I t1)), (2, (I t2)), (3, (Value.func (Fn.func 36) #[] #[(DP [(SL 5 c_api_Node t3_0)])])), (8, (I v1)), (9, (I (w64 (v4 - 1))))], [], ⟨1, [(0, ⟨1, ((x14).flatMap cI), true⟩)]⟩⟩) (by kernel_rfl) (by kernel_rfl) ?_
            exact Exists.intro n2 (And.intro (Nat.lt_succ_self _) (Exists.intro (w64 (v4 - 1)) (Exists.intro x14 (And.intro rfl h))))
          · rw [condF hb8] at h
            refine awp_condF (boF hb8) ?_
            refine awp_exit ?_
            show AWp _ _ _ _
            refine awp_region ?_
            refine arun_do rfl rfl rfl (ex_move (eV (v := (I v1)) rfl)) ?_
            refine arun_do rfl rfl rfl (ex_bin (vx := (I v1)) (vy := (I 1)) rfl rfl addI_ok) ?_
            refine arun_do rfl rfl rfl (ex_assign (eV (v := (I (w64 (v1 + 1)))) rfl)) ?_
            refine arun_keepE [0, 1, 2, 3, 8] 0 1 (st' := ⟨53, 1, [(0, (GV 0 v5.length)), (1, (I t1)), (2, (I t2)), (3, (Value.func (Fn.func 36) #[] #[(DP [(SL 5 c_api_Node t3_0)])])), (8, (I (w64 (v1 + 1))))], [], ⟨1, [(0, ⟨1, ((v5).flatMap cI), true⟩)]⟩⟩) (by kernel_rfl) (by kernel_rfl) ?_
            exact Exists.intro n1 (And.intro (Nat.lt_succ_self _) (Exists.intro (w64 (v1 + 1)) (Exists.intro v5 (And.intro rfl h))))
    · rw [condF hb3] at h
      refine awp_condF (boF hb3) ?_
      refine awp_exit ?_
      cases h
      exact And.intro (aresN rfl L2.nil rfl) rfl

end Go.Proofs
