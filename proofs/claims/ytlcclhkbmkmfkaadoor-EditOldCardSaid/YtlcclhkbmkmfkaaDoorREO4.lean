/- Pure models of functions of the program, and that its code does what they say: edit place, node Free$1, api Node] at a closure, node Free, edit spot taken, api Node], edit spot put. Written by a program. -/
import Derived.Test.YtlcclhkbmkmfkaaDoorREO2
import Derived.Test.YtlcclhkbmkmfkaaDoorREO3
import Derived.Test.YtlcclhkbmkmfkaaDoorREOB
set_option maxRecDepth 20000
set_option maxHeartbeats 4000000
namespace Go.Proofs
open Go Go.Fhl
set_option linter.unusedVariables false
set_option linter.unusedSimpArgs false
noncomputable def M_edit_place (t0 : (List G_api_Node)) (t1 : Str) : Option (G_edit_spot × Int) :=
  Option.bind (M_walk_Place t0 t1) fun (x1 : (Int × Str × Int)) => some ((G_edit_spot.mk t0 x1.1 x1.2.1), x1.2.2)
theorem ok_edit_place (t0 : (List G_api_Node)) (t1 : Str) (r : (G_edit_spot × Int)) (h : M_edit_place t0 t1 = some r) : FFn Tryd.prog 18 [(SL 5 c_api_Node t0), (S t1)] (Value.tuple #[(Value.agg (c_edit_spot r.1).toArray), (I r.2)]) := by
  refine FFn.of_body (n := 21) Tryd.func18 rfl Tryd.ntmps18 rfl rfl rfl rfl ?_
  show AWp _ _ _ ⟨21, 0, [(0, (SL 5 c_api_Node t0)), (1, (S t1))], [], ⟨0, []⟩⟩
  unfold M_edit_place at h
  refine awp_seq ?_
  refine awp_region ?_
  refine arun_do rfl rfl rfl (ex_allocW (k := 0) (zs := (c_edit_spot (G_edit_spot.mk [] 0 []))) (L' := [(c_edit_spot (G_edit_spot.mk [] 0 []))]) z_51 rfl (by repeat (first | exact trivial | refine ⟨.inl rfl, ?_⟩ | refine ⟨.inr ⟨rfl, _, rfl⟩, ?_⟩)) rfl rfl) ?_
  refine arun_do rfl rfl rfl (ex_assign (eV (v := (I 0)) rfl)) ?_
  refine arun_keepE [0, 1, 4] 1 0 (st' := ⟨21, 0, [(0, (SL 5 c_api_Node t0)), (1, (S t1)), (4, (LP 0 0))], [(c_edit_spot (G_edit_spot.mk [] 0 []))], ⟨0, []⟩⟩) (by kernel_rfl) (by kernel_rfl) ?_
  show AWp _ _ _ _
  refine awp_seq ?_
  refine awp_region ?_
  refine arun_do rfl rfl rfl (ex_move (eV (v := (SL 5 c_api_Node t0)) rfl)) ?_
  refine arun_do rfl rfl rfl (ex_move (eV (v := (S t1)) rfl)) ?_
  obtain ⟨x1, hx1, h⟩ := bindS h
  refine arun_do rfl rfl rfl (ex_call0 (vs := [(SL 5 c_api_Node t0), (S t1)]) (v := (Value.tuple #[(I x1.1), (S x1.2.1), (I x1.2.2)])) rfl en_30 (cargs (evs rfl (evs rfl evs_nil))) rfl (ok_walk_Place t0 t1 x1 hx1) rfl) ?_
  refine arun_do rfl rfl rfl (ex_move (eV (v := (Value.tuple #[(I x1.1), (S x1.2.1), (I x1.2.2)])) rfl)) ?_
  refine arun_do rfl rfl rfl (ex_extract (vx := (Value.tuple #[(I x1.1), (S x1.2.1), (I x1.2.2)])) (v := (I x1.1)) rfl rfl) ?_
  refine arun_do rfl rfl rfl (ex_extract (vx := (Value.tuple #[(I x1.1), (S x1.2.1), (I x1.2.2)])) (v := (S x1.2.1)) rfl rfl) ?_
  refine arun_do rfl rfl rfl (ex_extract (vx := (Value.tuple #[(I x1.1), (S x1.2.1), (I x1.2.2)])) (v := (I x1.2.2)) rfl rfl) ?_
  refine arun_do rfl rfl rfl (ex_assign (eV (v := (I x1.1)) rfl)) ?_
  refine arun_do rfl rfl rfl (ex_assign (eV (v := (S x1.2.1)) rfl)) ?_
  refine arun_do rfl rfl rfl (ex_assign (eV (v := (I x1.2.2)) rfl)) ?_
  refine arun_keepE [0, 4, 6, 7, 8] 1 0 (st' := ⟨21, 0, [(0, (SL 5 c_api_Node t0)), (4, (LP 0 0)), (6, (I x1.1)), (7, (S x1.2.1)), (8, (I x1.2.2))], [(c_edit_spot (G_edit_spot.mk [] 0 []))], ⟨0, []⟩⟩) (by kernel_rfl) (by kernel_rfl) ?_
  show AWp _ _ _ _
  refine awp_seq ?_
  refine awp_region ?_
  refine arun_do rfl rfl rfl (ex_move (eV (v := (SL 5 c_api_Node t0)) rfl)) ?_
  refine arun_do rfl rfl rfl (ex_move (eV (v := (I x1.1)) rfl)) ?_
  refine arun_do rfl rfl rfl (ex_move (eV (v := (S x1.2.1)) rfl)) ?_
  refine arun_do rfl rfl rfl (ex_build (qs := [(0, (SL 5 c_api_Node t0)), (1, (I x1.1)), (2, (S x1.2.1))]) (v := (Value.agg (c_edit_spot (G_edit_spot.mk t0 x1.1 x1.2.1)).toArray)) (evp rfl (evp rfl (evp rfl evp_nil))) (by kernel_rfl)) ?_
  refine arun_do rfl rfl rfl (ex_move (eV (v := (I x1.2.2)) rfl)) ?_
  refine arun_do0 rfl rfl (ex_storeL (vy := (Value.agg (c_edit_spot (G_edit_spot.mk t0 x1.1 x1.2.1)).toArray)) (cs := (c_edit_spot (G_edit_spot.mk [] 0 []))) (vs := (c_edit_spot (G_edit_spot.mk t0 x1.1 x1.2.1))) (L' := [(c_edit_spot (G_edit_spot.mk t0 x1.1 x1.2.1))]) rfl (eV (v := (Value.agg (c_edit_spot (G_edit_spot.mk t0 x1.1 x1.2.1)).toArray)) rfl) rfl s_51 rfl (Nat.le_of_ble_eq_true rfl) (by kernel_rfl)) ?_
  refine arun_do rfl rfl rfl (ex_assign (eV (v := (I x1.2.2)) rfl)) ?_
  refine arun_keepE [4, 5] 1 0 (st' := ⟨21, 0, [(4, (LP 0 0)), (5, (I x1.2.2))], [(c_edit_spot (G_edit_spot.mk t0 x1.1 x1.2.1))], ⟨0, []⟩⟩) (by kernel_rfl) (by kernel_rfl) ?_
  show AWp _ _ _ _
  refine awp_ret ?_
  cases h
  exact aresN rfl (L2.cons (rcellL rfl rfl rfl (partA Tryd.underlying51 rfl s_51 (by decide) (Nat.le_of_ble_eq_true rfl) rfl)) (L2.cons (rtmp rfl (eV rfl)) L2.nil)) rfl

noncomputable def M_node_Free_1 (t0 : G_api_Node) : Option Bool :=
  some (t0.Kind == 0)
theorem ok_node_Free_1 (t0 : G_api_Node) (r : Bool) (h : M_node_Free_1 t0 = some r) : FFn Tryd.prog 32 [(Value.agg (c_api_Node t0).toArray)] (Bo r) := by
  refine FFn.of_body (n := 6) Tryd.func32 rfl Tryd.ntmps32 rfl rfl rfl rfl ?_
  show AWp _ _ _ ⟨6, 0, [(0, (Value.agg (c_api_Node t0).toArray))], [], ⟨0, []⟩⟩
  unfold M_node_Free_1 at h
  refine awp_seq ?_
  refine awp_region ?_
  refine arun_do rfl rfl rfl (ex_box (vx := (Value.agg (c_api_Node t0).toArray)) (cs := (c_api_Node t0)) (k := 0) (L' := [(c_api_Node t0)]) (eV (v := (Value.agg (c_api_Node t0).toArray)) rfl) rfl rfl rfl) ?_
  refine arun_do rfl rfl rfl (ex_assign (eV (v := (Bo false)) rfl)) ?_
  refine arun_keepE [1] 1 0 (st' := ⟨6, 0, [(1, (LP 0 0))], [(c_api_Node t0)], ⟨0, []⟩⟩) (by kernel_rfl) (by kernel_rfl) ?_
  show AWp _ _ _ _
  refine awp_seq ?_
  refine awp_region ?_
  refine arun_do rfl rfl rfl (ex_fieldAddr (v := (LP 0 0)) Tryd.underlying39 rfl s_3 (by decide) rfl rfl) ?_
  refine arun_do rfl rfl rfl (tx_ldL1 (v := (I t0.Kind)) Tryd.underlying3 rfl rfl rfl rfl) ?_
  refine arun_do rfl rfl rfl (ex_bin (vx := (I t0.Kind)) (vy := (I 0)) rfl rfl eqlI_ok) ?_
  refine arun_do rfl rfl rfl (ex_assign (eV (v := (Bo (t0.Kind == 0))) rfl)) ?_
  refine arun_keepE [2] 0 0 (st' := ⟨6, 0, [(2, (Bo (t0.Kind == 0)))], [], ⟨0, []⟩⟩) (by kernel_rfl) (by kernel_rfl) ?_
  show AWp _ _ _ _
  refine awp_ret ?_
  cases h
  exact ares1 (rtmp rfl (eV rfl))

noncomputable def M_slices_IndexFunc_api_Set_api_Node_c32_l1 (t0 : (List G_api_Node)) : Nat → Int → Option Int
  | 0, _ => none
  | n1 + 1, v1 =>
  cond (decide (v1 < (t0.length : Int))) (Option.bind (getI t0 v1) fun (x3 : G_api_Node) => Option.bind (M_node_Free_1 x3) fun (x4 : Bool) => cond x4 (some v1) ((M_slices_IndexFunc_api_Set_api_Node_c32_l1 t0 n1) (w64 (v1 + 1)))) (some (-1))
noncomputable def M_slices_IndexFunc_api_Set_api_Node_c32 (t0 : (List G_api_Node)) : Option Int :=
  M_slices_IndexFunc_api_Set_api_Node_c32_l1 t0 fuel 0
theorem ok_slices_IndexFunc_api_Set_api_Node_c32 (t0 : (List G_api_Node)) (r : Int) (h : M_slices_IndexFunc_api_Set_api_Node_c32 t0 = some r) : FFn Tryd.prog 31 [(SL 5 c_api_Node t0), (Value.func (Fn.func 32) #[] #[])] (I r) := by
  refine FFn.of_body (n := 19) Tryd.func31 rfl Tryd.ntmps31 rfl rfl rfl rfl ?_
  show AWp _ _ _ ⟨19, 0, [(0, (SL 5 c_api_Node t0)), (1, (Value.func (Fn.func 32) #[] #[]))], [], ⟨0, []⟩⟩
  unfold M_slices_IndexFunc_api_Set_api_Node_c32 at h
  refine awp_seq ?_
  refine awp_region ?_
  refine arun_do rfl rfl rfl (ex_assign (eV (v := (I 0)) rfl)) ?_
  refine arun_keepE [0, 1] 0 0 (st' := ⟨19, 0, [(0, (SL 5 c_api_Node t0)), (1, (Value.func (Fn.func 32) #[] #[]))], [], ⟨0, []⟩⟩) (by kernel_rfl) (by kernel_rfl) ?_
  show AWp _ _ _ _
  refine awp_seq ?_
  refine awp_seq ?_
  refine awp_region ?_
  refine arun_do rfl rfl rfl (ex_move (eV (v := (SL 5 c_api_Node t0)) rfl)) ?_
  refine arun_do rfl rfl rfl (tx_lenD (xs := t0) ce_api_Node Tryd.underlying25 rfl) ?_
  refine arun_do rfl rfl rfl (ex_move (eV (v := (I 0)) rfl)) ?_
  refine arun_keepE [0, 1, 7, 8] 0 0 (st' := ⟨19, 0, [(0, (SL 5 c_api_Node t0)), (1, (Value.func (Fn.func 32) #[] #[])), (7, (I (t0.length : Int))), (8, (I 0))], [], ⟨0, []⟩⟩) (by kernel_rfl) (by kernel_rfl) ?_
  show AWp _ _ _ _
  refine awp_block ?_
  refine awp_loop (fun n s => ∃ (v1 : Int), s = ⟨19, 0, [(0, (SL 5 c_api_Node t0)), (1, (Value.func (Fn.func 32) #[] #[])), (7, (I (t0.length : Int))), (8, (I v1))], [], ⟨0, []⟩⟩ ∧ M_slices_IndexFunc_api_Set_api_Node_c32_l1 t0 n v1 = some r) fuel (Exists.intro 0 (And.intro rfl h)) ?_
  rintro n s ⟨v1, rfl, h⟩ -
  cases n with
  | zero => cases h
  | succ n1 =>
    unfold M_slices_IndexFunc_api_Set_api_Node_c32_l1 at h
    refine awp_seq ?_
    refine awp_region ?_
    refine arun_do rfl rfl rfl (ex_bin (vx := (I v1)) (vy := (I (t0.length : Int))) rfl rfl lssI_ok) ?_
    refine arun_keepE [0, 1, 7, 8, 9] 0 0 (st' := ⟨19, 0, [(0, (SL 5 c_api_Node t0)), (1, (Value.func (Fn.func 32) #[] #[])), (7, (I (t0.length : Int))), (8, (I v1)), (9, (Bo (decide (v1 < (t0.length : Int)))))], [], ⟨0, []⟩⟩) (by kernel_rfl) (by kernel_rfl) ?_
    show AWp _ _ _ _
    refine awp_seq ?_
    rcases Bool.eq_false_or_eq_true (decide (v1 < (t0.length : Int))) with hb2 | hb2
    · rw [condT hb2] at h
      refine awp_condT (boT hb2) ?_
      refine awp_skip ?_
      show AWp _ _ _ _
      refine awp_seq ?_
      refine awp_block ?_
      refine awp_seq ?_
      refine awp_region ?_
      refine arun_do rfl rfl rfl (ex_move (eV (v := (I v1)) rfl)) ?_
      refine arun_do rfl rfl rfl (ex_assign (eV (v := (I v1)) rfl)) ?_
      refine arun_keepE [0, 1, 5, 7, 8] 0 0 (st' := ⟨19, 0, [(0, (SL 5 c_api_Node t0)), (1, (Value.func (Fn.func 32) #[] #[])), (5, (I v1)), (7, (I (t0.length : Int))), (8, (I v1))], [], ⟨0, []⟩⟩) (by kernel_rfl) (by kernel_rfl) ?_
      show AWp _ _ _ _
      refine awp_seq ?_
      refine awp_region ?_
      refine arun_do rfl rfl rfl (ex_move (eV (v := (Value.func (Fn.func 32) #[] #[])) rfl)) ?_
      refine arun_do rfl rfl rfl (ex_move (eV (v := (SL 5 c_api_Node t0)) rfl)) ?_
      refine arun_do rfl rfl rfl (ex_move (eV (v := (I v1)) rfl)) ?_
      obtain ⟨x3, hx3, h⟩ := bindS h
      refine arun_do rfl rfl rfl (tx_idxD (c := c_api_Node) (xs := t0) (i := v1) ce_api_Node Tryd.underlying25 s_39 rfl rfl hx3) ?_
      refine arun_do rfl rfl rfl (tx_ldDA (vs := (c_api_Node x3)) Tryd.underlying39 rfl s_39 (by decide) rfl (Nat.le_of_ble_eq_true rfl) rfl) ?_
      obtain ⟨x4, hx4, h⟩ := bindS h
      refine arun_do rfl rfl rfl (ex_call0 (vs := [(Value.agg (c_api_Node x3).toArray)]) (v := (Bo x4)) rfl en_32 (cargs (evs rfl evs_nil)) rfl (ok_node_Free_1 x3 x4 hx4) rfl) ?_
      refine arun_keepE [0, 1, 5, 7, 8, 16] 0 0 (st' := ⟨19, 0, [(0, (SL 5 c_api_Node t0)), (1, (Value.func (Fn.func 32) #[] #[])), (5, (I v1)), (7, (I (t0.length : Int))), (8, (I v1)), (16, (Bo x4))], [], ⟨0, []⟩⟩) (by kernel_rfl) (by kernel_rfl) ?_
      show AWp _ _ _ _
      rcases Bool.eq_false_or_eq_true x4 with hb5 | hb5
      · rw [condT hb5] at h
        refine awp_condT (boT hb5) ?_
        refine awp_seq ?_
        refine awp_region ?_
        refine arun_do rfl rfl rfl (ex_move (eV (v := (I v1)) rfl)) ?_
        refine arun_do rfl rfl rfl (ex_assign (eV (v := (I v1)) rfl)) ?_
        refine arun_keepE [4] 0 0 (st' := ⟨19, 0, [(4, (I v1))], [], ⟨0, []⟩⟩) (by kernel_rfl) (by kernel_rfl) ?_
        show AWp _ _ _ _
        refine awp_ret ?_
        cases h
        exact ares1 (rtmp rfl (eV rfl))
      · rw [condF hb5] at h
        refine awp_condF (boF hb5) ?_
        refine awp_skip ?_
        show AWp _ _ _ _
        refine awp_region ?_
        refine arun_do rfl rfl rfl (ex_bin (vx := (I v1)) (vy := (I 1)) rfl rfl addI_ok) ?_
        refine arun_do rfl rfl rfl (ex_move (eV (v := (I (w64 (v1 + 1)))) rfl)) ?_
        refine arun_keepE [0, 1, 7, 8] 0 0 (st' := ⟨19, 0, [(0, (SL 5 c_api_Node t0)), (1, (Value.func (Fn.func 32) #[] #[])), (7, (I (t0.length : Int))), (8, (I (w64 (v1 + 1))))], [], ⟨0, []⟩⟩) (by kernel_rfl) (by kernel_rfl) ?_
        exact Exists.intro n1 (And.intro (Nat.lt_succ_self _) (Exists.intro (w64 (v1 + 1)) (And.intro rfl h)))
    · rw [condF hb2] at h
      refine awp_condF (boF hb2) ?_
      refine awp_exit ?_
      show AWp _ _ _ _
      refine awp_seq ?_
      refine awp_region ?_
      refine arun_do rfl rfl rfl (ex_assign (eV (v := (I (-1))) rfl)) ?_
      refine arun_keepE [4] 0 0 (st' := ⟨19, 0, [(4, (I (-1)))], [], ⟨0, []⟩⟩) (by kernel_rfl) (by kernel_rfl) ?_
      show AWp _ _ _ _
      refine awp_ret ?_
      cases h
      exact ares1 (rtmp rfl (eV rfl))

noncomputable def M_node_Free (t0 : (List G_api_Node)) : Option (Int × Bool) :=
  Option.bind (M_slices_IndexFunc_api_Set_api_Node_c32 t0) fun (x1 : Int) => some ((max x1 0), (decide (x1 ≥ 0)))
theorem ok_node_Free (t0 : (List G_api_Node)) (r : (Int × Bool)) (h : M_node_Free t0 = some r) : FFn Tryd.prog 19 [(SL 5 c_api_Node t0)] (Value.tuple #[(I r.1), (Bo r.2)]) := by
  refine FFn.of_body (n := 11) Tryd.func19 rfl Tryd.ntmps19 rfl rfl rfl rfl ?_
  show AWp _ _ _ ⟨11, 0, [(0, (SL 5 c_api_Node t0))], [], ⟨0, []⟩⟩
  unfold M_node_Free at h
  refine awp_seq ?_
  refine awp_region ?_
  refine arun_do rfl rfl rfl (ex_assign (eV (v := (I 0)) rfl)) ?_
  refine arun_do rfl rfl rfl (ex_assign (eV (v := (Bo false)) rfl)) ?_
  refine arun_keepE [0] 0 0 (st' := ⟨11, 0, [(0, (SL 5 c_api_Node t0))], [], ⟨0, []⟩⟩) (by kernel_rfl) (by kernel_rfl) ?_
  show AWp _ _ _ _
  refine awp_seq ?_
  refine awp_region ?_
  refine arun_do rfl rfl rfl (ex_move (eV (v := (SL 5 c_api_Node t0)) rfl)) ?_
  obtain ⟨x1, hx1, h⟩ := bindS h
  refine arun_do rfl rfl rfl (ex_callA (vs := [(SL 5 c_api_Node t0), (FN 32)]) (v := (I x1)) rfl en_31 (cargs (evs rfl (evs rfl evs_nil))) rfl (ok_slices_IndexFunc_api_Set_api_Node_c32 t0 x1 hx1) rfl) ?_
  refine arun_do rfl rfl rfl (ex_assign (eV (v := (I x1)) rfl)) ?_
  refine arun_keepE [4] 0 0 (st' := ⟨11, 0, [(4, (I x1))], [], ⟨0, []⟩⟩) (by kernel_rfl) (by kernel_rfl) ?_
  show AWp _ _ _ _
  refine awp_seq ?_
  refine awp_region ?_
  refine arun_do rfl rfl rfl (ex_move (eV (v := (I x1)) rfl)) ?_
  refine arun_do rfl rfl rfl (ex_max (m := x1) (n := 0) rfl rfl) ?_
  refine arun_do rfl rfl rfl (ex_move (eV (v := (I x1)) rfl)) ?_
  refine arun_do rfl rfl rfl (ex_bin (vx := (I x1)) (vy := (I 0)) rfl rfl geqI_ok) ?_
  refine arun_do rfl rfl rfl (ex_assign (eV (v := (I (max x1 0))) rfl)) ?_
  refine arun_do rfl rfl rfl (ex_assign (eV (v := (Bo (decide (x1 ≥ 0)))) rfl)) ?_
  refine arun_keepE [2, 3] 0 0 (st' := ⟨11, 0, [(2, (I (max x1 0))), (3, (Bo (decide (x1 ≥ 0))))], [], ⟨0, []⟩⟩) (by kernel_rfl) (by kernel_rfl) ?_
  show AWp _ _ _ _
  refine awp_ret ?_
  cases h
  exact aresN rfl (L2.cons (rtmp rfl (eV rfl)) (L2.cons (rtmp rfl (eV rfl)) L2.nil)) rfl

noncomputable def M_edit_spot_taken (t0 : G_edit_spot) : Option Bool :=
  Option.bind (M_node_Kid t0.Set t0.up t0.name) fun (x1 : (Int × Bool)) => some x1.2
theorem ok_edit_spot_taken (t0 : G_edit_spot) (r : Bool) (h : M_edit_spot_taken t0 = some r) : FFn Tryd.prog 20 [(Value.agg (c_edit_spot t0).toArray)] (Bo r) := by
  refine FFn.of_body (n := 16) Tryd.func20 rfl Tryd.ntmps20 rfl rfl rfl rfl ?_
  show AWp _ _ _ ⟨16, 0, [(0, (Value.agg (c_edit_spot t0).toArray))], [], ⟨0, []⟩⟩
  unfold M_edit_spot_taken at h
  refine awp_seq ?_
  refine awp_region ?_
  refine arun_do rfl rfl rfl (ex_box (vx := (Value.agg (c_edit_spot t0).toArray)) (cs := (c_edit_spot t0)) (k := 0) (L' := [(c_edit_spot t0)]) (eV (v := (Value.agg (c_edit_spot t0).toArray)) rfl) rfl rfl rfl) ?_
  refine arun_do rfl rfl rfl (ex_assign (eV (v := (Bo false)) rfl)) ?_
  refine arun_keepE [1] 1 0 (st' := ⟨16, 0, [(1, (LP 0 0))], [(c_edit_spot t0)], ⟨0, []⟩⟩) (by kernel_rfl) (by kernel_rfl) ?_
  show AWp _ _ _ _
  refine awp_seq ?_
  refine awp_region ?_
  refine arun_do rfl rfl rfl (ex_fieldAddr (v := (LP 0 0)) Tryd.underlying51 rfl s_25 (by decide) rfl rfl) ?_
  refine arun_do rfl rfl rfl (tx_ldL1 (v := (SL 5 c_api_Node t0.Set)) Tryd.underlying25 rfl rfl rfl rfl) ?_
  refine arun_do rfl rfl rfl (ex_fieldAddr (v := (LP 0 1)) Tryd.underlying51 rfl s_3 (by decide) rfl rfl) ?_
  refine arun_do rfl rfl rfl (tx_ldL1 (v := (I t0.up)) Tryd.underlying3 rfl rfl rfl rfl) ?_
  refine arun_do rfl rfl rfl (ex_fieldAddr (v := (LP 0 2)) Tryd.underlying51 rfl s_9 (by decide) rfl rfl) ?_
  refine arun_do rfl rfl rfl (tx_ldL1 (v := (S t0.name)) Tryd.underlying9 rfl rfl rfl rfl) ?_
  obtain ⟨x1, hx1, h⟩ := bindS h
  refine arun_do rfl rfl rfl (ex_call0 (vs := [(SL 5 c_api_Node t0.Set), (I t0.up), (S t0.name)]) (v := (Value.tuple #[(I x1.1), (Bo x1.2)])) rfl en_33 (cargs (evs rfl (evs rfl (evs rfl evs_nil)))) rfl (ok_node_Kid t0.Set t0.up t0.name x1 hx1) rfl) ?_
  refine arun_do rfl rfl rfl (ex_move (eV (v := (Value.tuple #[(I x1.1), (Bo x1.2)])) rfl)) ?_
  refine arun_do rfl rfl rfl (ex_extract (vx := (Value.tuple #[(I x1.1), (Bo x1.2)])) (v := (I x1.1)) rfl rfl) ?_
  refine arun_do rfl rfl rfl (ex_extract (vx := (Value.tuple #[(I x1.1), (Bo x1.2)])) (v := (Bo x1.2)) rfl rfl) ?_
  refine arun_do rfl rfl rfl (ex_assign (eV (v := (I x1.1)) rfl)) ?_
  refine arun_do rfl rfl rfl (ex_assign (eV (v := (Bo x1.2)) rfl)) ?_
  refine arun_keepE [4] 0 0 (st' := ⟨16, 0, [(4, (Bo x1.2))], [], ⟨0, []⟩⟩) (by kernel_rfl) (by kernel_rfl) ?_
  show AWp _ _ _ _
  refine awp_seq ?_
  refine awp_region ?_
  refine arun_do rfl rfl rfl (ex_move (eV (v := (Bo x1.2)) rfl)) ?_
  refine arun_do rfl rfl rfl (ex_assign (eV (v := (Bo x1.2)) rfl)) ?_
  refine arun_keepE [2] 0 0 (st' := ⟨16, 0, [(2, (Bo x1.2))], [], ⟨0, []⟩⟩) (by kernel_rfl) (by kernel_rfl) ?_
  show AWp _ _ _ _
  refine awp_ret ?_
  cases h
  exact ares1 (rtmp rfl (eV rfl))

noncomputable def M_slices_Clone_api_Set_api_Node (t0 : (List G_api_Node)) : Option (List G_api_Node) :=
  Option.bind (appL 56 ([] : List G_api_Node) t0) fun (x3 : List G_api_Node) => some x3
theorem ok_slices_Clone_api_Set_api_Node (t0 : (List G_api_Node)) (r : (List G_api_Node)) (h : M_slices_Clone_api_Set_api_Node t0 = some r) : FFn Tryd.prog 22 [(SL 5 c_api_Node t0)] (SL 5 c_api_Node r) := by
  refine FFn.of_body (n := 8) Tryd.func22 rfl Tryd.ntmps22 rfl rfl rfl rfl ?_
  show AWp _ _ _ ⟨8, 0, [(0, (SL 5 c_api_Node t0))], [], ⟨0, []⟩⟩
  unfold M_slices_Clone_api_Set_api_Node at h
  refine awp_seq ?_
  refine awp_region ?_
  refine arun_do rfl rfl rfl (ex_assign (eV (v := (Value.slice none 0 0)) rfl)) ?_
  refine arun_keepE [0] 0 0 (st' := ⟨8, 0, [(0, (SL 5 c_api_Node t0))], [], ⟨0, []⟩⟩) (by kernel_rfl) (by kernel_rfl) ?_
  show AWp _ _ _ _
  refine awp_seq ?_
  refine awp_seq ?_
  refine awp_region ?_
  refine arun_do rfl rfl rfl (ex_move (eV (v := (SL 5 c_api_Node t0)) rfl)) ?_
  refine arun_stepE (F := fun b : Bool => Bo b) (hp := fun b => b = true → t0 = []) rfl rfl rfl (isNil_ok (c := c_api_Node) (xs := t0) ce_api_Node Tryd.underlying25 rfl rfl) ?_
  intro bN1 hN_bN1
  refine arun_keepE [0, 4] 0 0 (st' := ⟨8, 0, [(0, (SL 5 c_api_Node t0)), (4, (Bo bN1))], [], ⟨0, []⟩⟩) (by kernel_rfl) (by kernel_rfl) ?_
  show AWp _ _ _ _
  rcases Bool.eq_false_or_eq_true bN1 with hb2 | hb2
  · skip
    refine awp_condT (boT hb2) ?_
    refine awp_seq ?_
    refine awp_region ?_
    refine arun_do rfl rfl rfl (ex_assign (eV (v := (Value.slice none 0 0)) rfl)) ?_
    refine arun_keepE [2] 0 0 (st' := ⟨8, 0, [(2, (Value.slice none 0 0))], [], ⟨0, []⟩⟩) (by kernel_rfl) (by kernel_rfl) ?_
    show AWp _ _ _ _
    obtain rfl := clone_nil (hN_bN1 hb2) h
    refine awp_ret ?_
    exact ares1 (rtmp rfl (eN rfl))
  · skip
    refine awp_condF (boF hb2) ?_
    refine awp_skip ?_
    show AWp _ _ _ _
    refine awp_seq ?_
    refine awp_region ?_
    refine arun_do rfl rfl rfl (ex_buildSliceG (k := 0) (qs := []) (cells := (([] : List G_api_Node).flatMap c_api_Node)) (H' := ⟨1, [(0, ⟨5, (([] : List G_api_Node).flatMap c_api_Node), true⟩)]⟩) Tryd.underlying25 s_39 (by decide) (by decide) evp_nil rfl (by kernel_rfl) (by kernel_rfl) (by kernel_rfl) rfl rfl) ?_
    refine arun_do rfl rfl rfl (ex_move (eV (v := (SL 5 c_api_Node t0)) rfl)) ?_
    obtain ⟨x3, hx3, h⟩ := bindS h
    refine arun_do rfl rfl rfl (tx_appG (c := c_api_Node) (xs := []) (H' := ⟨1, [(0, ⟨5, ((x3).flatMap c_api_Node), true⟩)]⟩) ce_api_Node e_39 rfl rfl rfl (tsrcD (ys := t0) ce_api_Node Tryd.underlying25 s_39 Tryd.underlying25 rfl) hx3 rfl) ?_
    refine arun_do rfl rfl rfl (ex_assign (eV (v := (GV 0 x3.length)) rfl)) ?_
    refine arun_keepE [2] 0 1 (st' := ⟨8, 0, [(2, (GV 0 x3.length))], [], ⟨1, [(0, ⟨5, ((x3).flatMap c_api_Node), true⟩)]⟩⟩) (by kernel_rfl) (by kernel_rfl) ?_
    show AWp _ _ _ _
    refine awp_freeze 0 (bk := ⟨5, ((x3).flatMap c_api_Node), true⟩) (T' := [(2, (SL 5 c_api_Node x3))]) (L' := []) rfl (fzG ce_api_Node rfl rfl FzT.nil) (FzL.refl _) ?_
    show AWp _ _ _ ⟨8, 0, [(2, (SL 5 c_api_Node x3))], [], ⟨1, []⟩⟩
    refine awp_ret ?_
    cases h
    exact ares1 (rtmp rfl (eV rfl))


theorem okw_slices_Clone_api_Set_api_Node (t0 : (List G_api_Node)) (r : (List G_api_Node)) (h : M_slices_Clone_api_Set_api_Node t0 = some r) : FOw Tryd.prog 22 [(SL 5 c_api_Node t0)] r.length ⟨5, (r).flatMap c_api_Node, true⟩ := by
  refine FOw.of_body (n := 8) Tryd.func22 rfl Tryd.ntmps22 rfl rfl rfl ?_
  show AWp _ _ _ ⟨8, 0, [(0, (SL 5 c_api_Node t0))], [], ⟨0, []⟩⟩
  unfold M_slices_Clone_api_Set_api_Node at h
  refine awp_seq ?_
  refine awp_region ?_
  refine arun_do rfl rfl rfl (ex_assign (eV (v := (Value.slice none 0 0)) rfl)) ?_
  refine arun_keepE [0] 0 0 (st' := ⟨8, 0, [(0, (SL 5 c_api_Node t0))], [], ⟨0, []⟩⟩) (by kernel_rfl) (by kernel_rfl) ?_
  show AWp _ _ _ _
  refine awp_seq ?_
  refine awp_seq ?_
  refine awp_region ?_
  refine arun_do rfl rfl rfl (ex_move (eV (v := (SL 5 c_api_Node t0)) rfl)) ?_
  refine arun_stepE (F := fun b : Bool => Bo b) (hp := fun b => b = true → t0 = []) rfl rfl rfl (isNil_ok (c := c_api_Node) (xs := t0) ce_api_Node Tryd.underlying25 rfl rfl) ?_
  intro bN1 hN_bN1
  refine arun_keepE [0, 4] 0 0 (st' := ⟨8, 0, [(0, (SL 5 c_api_Node t0)), (4, (Bo bN1))], [], ⟨0, []⟩⟩) (by kernel_rfl) (by kernel_rfl) ?_
  show AWp _ _ _ _
  rcases Bool.eq_false_or_eq_true bN1 with hb2 | hb2
  · skip
    refine awp_condT (boT hb2) ?_
    refine awp_seq ?_
    refine awp_region ?_
    refine arun_do rfl rfl rfl (ex_assign (eV (v := (Value.slice none 0 0)) rfl)) ?_
    refine arun_keepE [2] 0 0 (st' := ⟨8, 0, [(2, (Value.slice none 0 0))], [], ⟨0, []⟩⟩) (by kernel_rfl) (by kernel_rfl) ?_
    show AWp _ _ _ _
    obtain rfl := clone_nil (hN_bN1 hb2) h
    refine awp_nilGro 2 5 rfl (by decide) ?_
    refine awp_ret ?_
    exact And.intro (ares1 (rtmp rfl (eV rfl))) (And.intro rfl rfl)
  · skip
    refine awp_condF (boF hb2) ?_
    refine awp_skip ?_
    show AWp _ _ _ _
    refine awp_seq ?_
    refine awp_region ?_
    refine arun_do rfl rfl rfl (ex_buildSliceG (k := 0) (qs := []) (cells := (([] : List G_api_Node).flatMap c_api_Node)) (H' := ⟨1, [(0, ⟨5, (([] : List G_api_Node).flatMap c_api_Node), true⟩)]⟩) Tryd.underlying25 s_39 (by decide) (by decide) evp_nil rfl (by kernel_rfl) (by kernel_rfl) (by kernel_rfl) rfl rfl) ?_
    refine arun_do rfl rfl rfl (ex_move (eV (v := (SL 5 c_api_Node t0)) rfl)) ?_
    obtain ⟨x3, hx3, h⟩ := bindS h
    refine arun_do rfl rfl rfl (tx_appG (c := c_api_Node) (xs := []) (H' := ⟨1, [(0, ⟨5, ((x3).flatMap c_api_Node), true⟩)]⟩) ce_api_Node e_39 rfl rfl rfl (tsrcD (ys := t0) ce_api_Node Tryd.underlying25 s_39 Tryd.underlying25 rfl) hx3 rfl) ?_
    refine arun_do rfl rfl rfl (ex_assign (eV (v := (GV 0 x3.length)) rfl)) ?_
    refine arun_keepE [2] 0 1 (st' := ⟨8, 0, [(2, (GV 0 x3.length))], [], ⟨1, [(0, ⟨5, ((x3).flatMap c_api_Node), true⟩)]⟩⟩) (by kernel_rfl) (by kernel_rfl) ?_
    show AWp _ _ _ _
    refine awp_ret ?_
    cases h
    exact And.intro (ares1 (rtmp rfl (eV rfl))) (And.intro rfl rfl)

noncomputable def M_edit_spot_put (t0 : G_edit_spot) (t1 : Int) (t2 : G_api_Node) : Option (List G_api_Node) :=
  Option.bind (M_slices_Clone_api_Set_api_Node t0.Set) fun (x1 : (List G_api_Node)) => Option.bind (getI x1 t1) fun (x2 : G_api_Node) => Option.bind (setI x1 t1 (G_api_Node.mk t2.Kind t0.up t0.name t2.Body t2.Bad)) fun (x3 : List G_api_Node) => some x3
theorem ok_edit_spot_put (t0 : G_edit_spot) (t1 : Int) (t2 : G_api_Node) (r : (List G_api_Node)) (h : M_edit_spot_put t0 t1 t2 = some r) : FFn Tryd.prog 21 [(Value.agg (c_edit_spot t0).toArray), (I t1), (Value.agg (c_api_Node t2).toArray)] (SL 5 c_api_Node r) := by
  refine FFn.of_body (n := 22) Tryd.func21 rfl Tryd.ntmps21 rfl rfl rfl rfl ?_
  show AWp _ _ _ ⟨22, 0, [(0, (Value.agg (c_edit_spot t0).toArray)), (1, (I t1)), (2, (Value.agg (c_api_Node t2).toArray))], [], ⟨0, []⟩⟩
  unfold M_edit_spot_put at h
  refine awp_seq ?_
  refine awp_region ?_
  refine arun_do rfl rfl rfl (ex_box (vx := (Value.agg (c_edit_spot t0).toArray)) (cs := (c_edit_spot t0)) (k := 0) (L' := [(c_edit_spot t0)]) (eV (v := (Value.agg (c_edit_spot t0).toArray)) rfl) rfl rfl rfl) ?_
  refine arun_do rfl rfl rfl (ex_box (vx := (Value.agg (c_api_Node t2).toArray)) (cs := (c_api_Node t2)) (k := 1) (L' := [(c_edit_spot t0), (c_api_Node t2)]) (eV (v := (Value.agg (c_api_Node t2).toArray)) rfl) rfl rfl rfl) ?_
  refine arun_do rfl rfl rfl (ex_assign (eV (v := (Value.slice none 0 0)) rfl)) ?_
  refine arun_keepE [1, 3, 5] 2 0 (st' := ⟨22, 0, [(1, (I t1)), (3, (LP 0 0)), (5, (LP 1 0))], [(c_edit_spot t0), (c_api_Node t2)], ⟨0, []⟩⟩) (by kernel_rfl) (by kernel_rfl) ?_
  show AWp _ _ _ _
  refine awp_seq ?_
  refine awp_region ?_
  refine arun_do rfl rfl rfl (ex_fieldAddr (v := (LP 0 0)) Tryd.underlying51 rfl s_25 (by decide) rfl rfl) ?_
  refine arun_do rfl rfl rfl (tx_ldL1 (v := (SL 5 c_api_Node t0.Set)) Tryd.underlying25 rfl rfl rfl rfl) ?_
  obtain ⟨x1, hx1, h⟩ := bindS h
  refine arun_do rfl rfl rfl (ex_callOw (vs := [(SL 5 c_api_Node t0.Set)]) (k := 0) (len := x1.length) (b := ⟨5, ((x1).flatMap c_api_Node), true⟩) (H' := ⟨1, [(0, ⟨5, ((x1).flatMap c_api_Node), true⟩)]⟩) rfl en_22 (cargs (evs rfl evs_nil)) rfl (okw_slices_Clone_api_Set_api_Node t0.Set x1 hx1) rfl rfl) ?_
  refine arun_do rfl rfl rfl (ex_assign (eV (v := (GV 0 x1.length)) rfl)) ?_
  refine arun_keepE [1, 3, 5, 7] 2 1 (st' := ⟨22, 0, [(1, (I t1)), (3, (LP 0 0)), (5, (LP 1 0)), (7, (GV 0 x1.length))], [(c_edit_spot t0), (c_api_Node t2)], ⟨1, [(0, ⟨5, ((x1).flatMap c_api_Node), true⟩)]⟩⟩) (by kernel_rfl) (by kernel_rfl) ?_
  show AWp _ _ _ _
  refine awp_seq ?_
  refine awp_kn [1, 5, 7] 2 1 (st' := ⟨22, 0, [(1, (I t1)), (5, (LP 1 0)), (7, (GV 0 x1.length))], [(c_edit_spot t0), (c_api_Node (G_api_Node.mk t2.Kind t0.up t0.name t2.Body t2.Bad))], ⟨1, [(0, ⟨5, ((x1).flatMap c_api_Node), true⟩)]⟩⟩) (awp_draw (T := [(LP 0 1), (I t0.up), (LP 0 2), (S t0.name), (LP 1 1), undef, (LP 1 2), undef]) (LH := [([(c_edit_spot t0), (c_api_Node t2)], ⟨1, [(0, ⟨5, ((x1).flatMap c_api_Node), true⟩)]⟩), ([(c_edit_spot t0), (c_api_Node (G_api_Node.mk t2.Kind t0.up t2.Name t2.Body t2.Bad))], ⟨1, [(0, ⟨5, ((x1).flatMap c_api_Node), true⟩)]⟩), ([(c_edit_spot t0), (c_api_Node (G_api_Node.mk t2.Kind t0.up t0.name t2.Body t2.Bad))], ⟨1, [(0, ⟨5, ((x1).flatMap c_api_Node), true⟩)]⟩)]) (D := [⟨[(3, none)], [], [0], false⟩, ⟨[(11, some 0)], [0], [0], false⟩, ⟨[(3, none)], [], [0, 1], false⟩, ⟨[(13, some 2)], [2], [0, 1], false⟩, ⟨[(5, none)], [0, 1], [0], false⟩, ⟨[(15, some 4), (12, some 1)], [0, 1, 4], [0], true⟩, ⟨[(5, none)], [0, 1, 2, 3, 4, 5], [1], false⟩, ⟨[(16, some 6), (14, some 3)], [0, 1, 2, 3, 4, 5, 6], [1], true⟩]) (S := [5, 7]) (plan := [0, 1, 2, 3, 4, 5, 6, 7]) mo (by kernel_rfl) rfl rfl rfl (dcons (dstep1 (Tm := [(3, (LP 0 0))]) (L := [(c_edit_spot t0), (c_api_Node t2)]) (H := ⟨1, [(0, ⟨5, ((x1).flatMap c_api_Node), true⟩)]⟩) rfl rfl rfl rfl rfl (astep_do rfl (ex_fieldAddr (v := (LP 0 1)) Tryd.underlying51 rfl s_3 (by decide) rfl rfl))) (dcons (dstep1 (Tm := [(11, (LP 0 1))]) (L := [(c_edit_spot t0), (c_api_Node t2)]) (H := ⟨1, [(0, ⟨5, ((x1).flatMap c_api_Node), true⟩)]⟩) rfl rfl rfl rfl rfl (astep_do rfl (tx_ldL1 (v := (I t0.up)) Tryd.underlying3 rfl rfl rfl rfl))) (dcons (dstepN (by intro k hk; simp only [List.mem_cons, List.not_mem_nil, or_false] at hk; rcases hk with rfl | rfl <;> exact ⟨[(3, (LP 0 0))], _, _, _, _, _, rfl, rfl, rfl, rfl, astep_do rfl (ex_fieldAddr (v := (LP 0 2)) Tryd.underlying51 rfl s_9 (by decide) rfl rfl)⟩)) (dcons (dstepN (by intro k hk; simp only [List.mem_cons, List.not_mem_nil, or_false] at hk; rcases hk with rfl | rfl <;> exact ⟨[(13, (LP 0 2))], _, _, _, _, _, rfl, rfl, rfl, rfl, astep_do rfl (tx_ldL1 (v := (S t0.name)) Tryd.underlying9 rfl rfl rfl rfl)⟩)) (dcons (dstep1 (Tm := [(5, (LP 1 0))]) (L := [(c_edit_spot t0), (c_api_Node t2)]) (H := ⟨1, [(0, ⟨5, ((x1).flatMap c_api_Node), true⟩)]⟩) rfl rfl rfl rfl rfl (astep_do rfl (ex_fieldAddr (v := (LP 1 1)) Tryd.underlying39 rfl s_3 (by decide) rfl rfl))) (dcons (dstep1 (Tm := [(15, (LP 1 1)), (12, (I t0.up))]) (L := [(c_edit_spot t0), (c_api_Node t2)]) (H := ⟨1, [(0, ⟨5, ((x1).flatMap c_api_Node), true⟩)]⟩) rfl rfl rfl rfl rfl (astep_do rfl (ex_storeL (vy := (I t0.up)) (cs := (c_api_Node t2)) (vs := [(I t0.up)]) (L' := [(c_edit_spot t0), (c_api_Node (G_api_Node.mk t2.Kind t0.up t2.Name t2.Body t2.Bad))]) rfl (eV (v := (I t0.up)) rfl) rfl s_3 rfl (Nat.le_of_ble_eq_true rfl) (by kernel_rfl)))) (dcons (dstep1 (Tm := [(5, (LP 1 0))]) (L := [(c_edit_spot t0), (c_api_Node (G_api_Node.mk t2.Kind t0.up t2.Name t2.Body t2.Bad))]) (H := ⟨1, [(0, ⟨5, ((x1).flatMap c_api_Node), true⟩)]⟩) rfl rfl rfl rfl rfl (astep_do rfl (ex_fieldAddr (v := (LP 1 2)) Tryd.underlying39 rfl s_9 (by decide) rfl rfl))) (dcons (dstep1 (Tm := [(16, (LP 1 2)), (14, (S t0.name))]) (L := [(c_edit_spot t0), (c_api_Node (G_api_Node.mk t2.Kind t0.up t2.Name t2.Body t2.Bad))]) (H := ⟨1, [(0, ⟨5, ((x1).flatMap c_api_Node), true⟩)]⟩) rfl rfl rfl rfl rfl (astep_do rfl (ex_storeL (vy := (S t0.name)) (cs := (c_api_Node (G_api_Node.mk t2.Kind t0.up t2.Name t2.Body t2.Bad))) (vs := [(S t0.name)]) (L' := [(c_edit_spot t0), (c_api_Node (G_api_Node.mk t2.Kind t0.up t0.name t2.Body t2.Bad))]) rfl (eV (v := (S t0.name)) rfl) rfl s_9 rfl (Nat.le_of_ble_eq_true rfl) (by kernel_rfl)))) dnil)))))))) ⟨rfl, rfl⟩) (by kernel_rfl) (by kernel_rfl) ?_
  show AWp _ _ _ _
  refine awp_seq ?_
  refine awp_region ?_
  refine arun_do rfl rfl rfl (ex_move (eV (v := (GV 0 x1.length)) rfl)) ?_
  refine arun_do rfl rfl rfl (ex_move (eV (v := (I t1)) rfl)) ?_
  refine arun_do rfl rfl rfl (tx_ldLA (vs := (c_api_Node (G_api_Node.mk t2.Kind t0.up t0.name t2.Body t2.Bad))) Tryd.underlying39 rfl s_39 (by decide) rfl rfl rfl rfl) ?_
  obtain ⟨x2, hx2, h⟩ := bindS h
  refine arun_do rfl rfl rfl (tx_idxG (c := c_api_Node) (xs := x1) (i := t1) ce_api_Node Tryd.underlying25 s_39 rfl rfl rfl rfl hx2) ?_
  obtain ⟨x3, hx3, h⟩ := bindS h
  refine arun_do0 rfl rfl (tx_stG (c := c_api_Node) (xs := x1) (e := (G_api_Node.mk t2.Kind t0.up t0.name t2.Body t2.Bad)) (H' := ⟨1, [(0, ⟨5, ((x3).flatMap c_api_Node), true⟩)]⟩) ce_api_Node s_39 rfl (eV (v := (Value.agg (c_api_Node (G_api_Node.mk t2.Kind t0.up t0.name t2.Body t2.Bad)).toArray)) rfl) rfl rfl hx3 rfl) ?_
  refine arun_fewer (T' := [(1, (I t1)), (5, (LP 1 0)), (7, (GV 0 x3.length)), (17, (GV 0 x3.length)), (18, (I t1)), (19, (Value.agg (c_api_Node (G_api_Node.mk t2.Kind t0.up t0.name t2.Body t2.Bad)).toArray))]) (ReT.keep (v := (I t1)) rfl (ReT.keep (v := (LP 1 0)) rfl (ReT.gv rfl (setI_len hx3) (ReT.gv rfl (setI_len hx3) (ReT.keep (v := (I t1)) rfl (ReT.keep (v := (Value.agg (c_api_Node (G_api_Node.mk t2.Kind t0.up t0.name t2.Body t2.Bad)).toArray)) rfl ReT.nil)))))) ?_
  refine arun_keepE [7] 0 1 (st' := ⟨22, 0, [(7, (GV 0 x3.length))], [], ⟨1, [(0, ⟨5, ((x3).flatMap c_api_Node), true⟩)]⟩⟩) (by kernel_rfl) (by kernel_rfl) ?_
  show AWp _ _ _ _
  refine awp_seq ?_
  refine awp_region ?_
  refine arun_do rfl rfl rfl (ex_move (eV (v := (GV 0 x3.length)) rfl)) ?_
  refine arun_do rfl rfl rfl (ex_assign (eV (v := (GV 0 x3.length)) rfl)) ?_
  refine arun_keepE [6] 0 1 (st' := ⟨22, 0, [(6, (GV 0 x3.length))], [], ⟨1, [(0, ⟨5, ((x3).flatMap c_api_Node), true⟩)]⟩⟩) (by kernel_rfl) (by kernel_rfl) ?_
  show AWp _ _ _ _
  refine awp_freeze 0 (bk := ⟨5, ((x3).flatMap c_api_Node), true⟩) (T' := [(6, (SL 5 c_api_Node x3))]) (L' := []) rfl (fzG ce_api_Node rfl rfl FzT.nil) (FzL.refl _) ?_
  show AWp _ _ _ ⟨22, 0, [(6, (SL 5 c_api_Node x3))], [], ⟨1, []⟩⟩
  refine awp_ret ?_
  cases h
  exact ares1 (rtmp rfl (eV rfl))


theorem okw_edit_spot_put (t0 : G_edit_spot) (t1 : Int) (t2 : G_api_Node) (r : (List G_api_Node)) (h : M_edit_spot_put t0 t1 t2 = some r) : FOw Tryd.prog 21 [(Value.agg (c_edit_spot t0).toArray), (I t1), (Value.agg (c_api_Node t2).toArray)] r.length ⟨5, (r).flatMap c_api_Node, true⟩ := by
  refine FOw.of_body (n := 22) Tryd.func21 rfl Tryd.ntmps21 rfl rfl rfl ?_
  show AWp _ _ _ ⟨22, 0, [(0, (Value.agg (c_edit_spot t0).toArray)), (1, (I t1)), (2, (Value.agg (c_api_Node t2).toArray))], [], ⟨0, []⟩⟩
  unfold M_edit_spot_put at h
  refine awp_seq ?_
  refine awp_region ?_
  refine arun_do rfl rfl rfl (ex_box (vx := (Value.agg (c_edit_spot t0).toArray)) (cs := (c_edit_spot t0)) (k := 0) (L' := [(c_edit_spot t0)]) (eV (v := (Value.agg (c_edit_spot t0).toArray)) rfl) rfl rfl rfl) ?_
  refine arun_do rfl rfl rfl (ex_box (vx := (Value.agg (c_api_Node t2).toArray)) (cs := (c_api_Node t2)) (k := 1) (L' := [(c_edit_spot t0), (c_api_Node t2)]) (eV (v := (Value.agg (c_api_Node t2).toArray)) rfl) rfl rfl rfl) ?_
  refine arun_do rfl rfl rfl (ex_assign (eV (v := (Value.slice none 0 0)) rfl)) ?_
  refine arun_keepE [1, 3, 5] 2 0 (st' := ⟨22, 0, [(1, (I t1)), (3, (LP 0 0)), (5, (LP 1 0))], [(c_edit_spot t0), (c_api_Node t2)], ⟨0, []⟩⟩) (by kernel_rfl) (by kernel_rfl) ?_
  show AWp _ _ _ _
  refine awp_seq ?_
  refine awp_region ?_
  refine arun_do rfl rfl rfl (ex_fieldAddr (v := (LP 0 0)) Tryd.underlying51 rfl s_25 (by decide) rfl rfl) ?_
  refine arun_do rfl rfl rfl (tx_ldL1 (v := (SL 5 c_api_Node t0.Set)) Tryd.underlying25 rfl rfl rfl rfl) ?_
  obtain ⟨x1, hx1, h⟩ := bindS h
  refine arun_do rfl rfl rfl (ex_callOw (vs := [(SL 5 c_api_Node t0.Set)]) (k := 0) (len := x1.length) (b := ⟨5, ((x1).flatMap c_api_Node), true⟩) (H' := ⟨1, [(0, ⟨5, ((x1).flatMap c_api_Node), true⟩)]⟩) rfl en_22 (cargs (evs rfl evs_nil)) rfl (okw_slices_Clone_api_Set_api_Node t0.Set x1 hx1) rfl rfl) ?_
  refine arun_do rfl rfl rfl (ex_assign (eV (v := (GV 0 x1.length)) rfl)) ?_
  refine arun_keepE [1, 3, 5, 7] 2 1 (st' := ⟨22, 0, [(1, (I t1)), (3, (LP 0 0)), (5, (LP 1 0)), (7, (GV 0 x1.length))], [(c_edit_spot t0), (c_api_Node t2)], ⟨1, [(0, ⟨5, ((x1).flatMap c_api_Node), true⟩)]⟩⟩) (by kernel_rfl) (by kernel_rfl) ?_
  show AWp _ _ _ _
  refine awp_seq ?_
  refine awp_kn [1, 5, 7] 2 1 (st' := ⟨22, 0, [(1, (I t1)), (5, (LP 1 0)), (7, (GV 0 x1.length))], [(c_edit_spot t0), (c_api_Node (G_api_Node.mk t2.Kind t0.up t0.name t2.Body t2.Bad))], ⟨1, [(0, ⟨5, ((x1).flatMap c_api_Node), true⟩)]⟩⟩) (awp_draw (T := [(LP 0 1), (I t0.up), (LP 0 2), (S t0.name), (LP 1 1), undef, (LP 1 2), undef]) (LH := [([(c_edit_spot t0), (c_api_Node t2)], ⟨1, [(0, ⟨5, ((x1).flatMap c_api_Node), true⟩)]⟩), ([(c_edit_spot t0), (c_api_Node (G_api_Node.mk t2.Kind t0.up t2.Name t2.Body t2.Bad))], ⟨1, [(0, ⟨5, ((x1).flatMap c_api_Node), true⟩)]⟩), ([(c_edit_spot t0), (c_api_Node (G_api_Node.mk t2.Kind t0.up t0.name t2.Body t2.Bad))], ⟨1, [(0, ⟨5, ((x1).flatMap c_api_Node), true⟩)]⟩)]) (D := [⟨[(3, none)], [], [0], false⟩, ⟨[(11, some 0)], [0], [0], false⟩, ⟨[(3, none)], [], [0, 1], false⟩, ⟨[(13, some 2)], [2], [0, 1], false⟩, ⟨[(5, none)], [0, 1], [0], false⟩, ⟨[(15, some 4), (12, some 1)], [0, 1, 4], [0], true⟩, ⟨[(5, none)], [0, 1, 2, 3, 4, 5], [1], false⟩, ⟨[(16, some 6), (14, some 3)], [0, 1, 2, 3, 4, 5, 6], [1], true⟩]) (S := [5, 7]) (plan := [0, 1, 2, 3, 4, 5, 6, 7]) mo (by kernel_rfl) rfl rfl rfl (dcons (dstep1 (Tm := [(3, (LP 0 0))]) (L := [(c_edit_spot t0), (c_api_Node t2)]) (H := ⟨1, [(0, ⟨5, ((x1).flatMap c_api_Node), true⟩)]⟩) rfl rfl rfl rfl rfl (astep_do rfl (ex_fieldAddr (v := (LP 0 1)) Tryd.underlying51 rfl s_3 (by decide) rfl rfl))) (dcons (dstep1 (Tm := [(11, (LP 0 1))]) (L := [(c_edit_spot t0), (c_api_Node t2)]) (H := ⟨1, [(0, ⟨5, ((x1).flatMap c_api_Node), true⟩)]⟩) rfl rfl rfl rfl rfl (astep_do rfl (tx_ldL1 (v := (I t0.up)) Tryd.underlying3 rfl rfl rfl rfl))) (dcons (dstepN (by intro k hk; simp only [List.mem_cons, List.not_mem_nil, or_false] at hk; rcases hk with rfl | rfl <;> exact ⟨[(3, (LP 0 0))], _, _, _, _, _, rfl, rfl, rfl, rfl, astep_do rfl (ex_fieldAddr (v := (LP 0 2)) Tryd.underlying51 rfl s_9 (by decide) rfl rfl)⟩)) (dcons (dstepN (by intro k hk; simp only [List.mem_cons, List.not_mem_nil, or_false] at hk; rcases hk with rfl | rfl <;> exact ⟨[(13, (LP 0 2))], _, _, _, _, _, rfl, rfl, rfl, rfl, astep_do rfl (tx_ldL1 (v := (S t0.name)) Tryd.underlying9 rfl rfl rfl rfl)⟩)) (dcons (dstep1 (Tm := [(5, (LP 1 0))]) (L := [(c_edit_spot t0), (c_api_Node t2)]) (H := ⟨1, [(0, ⟨5, ((x1).flatMap c_api_Node), true⟩)]⟩) rfl rfl rfl rfl rfl (astep_do rfl (ex_fieldAddr (v := (LP 1 1)) Tryd.underlying39 rfl s_3 (by decide) rfl rfl))) (dcons (dstep1 (Tm := [(15, (LP 1 1)), (12, (I t0.up))]) (L := [(c_edit_spot t0), (c_api_Node t2)]) (H := ⟨1, [(0, ⟨5, ((x1).flatMap c_api_Node), true⟩)]⟩) rfl rfl rfl rfl rfl (astep_do rfl (ex_storeL (vy := (I t0.up)) (cs := (c_api_Node t2)) (vs := [(I t0.up)]) (L' := [(c_edit_spot t0), (c_api_Node (G_api_Node.mk t2.Kind t0.up t2.Name t2.Body t2.Bad))]) rfl (eV (v := (I t0.up)) rfl) rfl s_3 rfl (Nat.le_of_ble_eq_true rfl) (by kernel_rfl)))) (dcons (dstep1 (Tm := [(5, (LP 1 0))]) (L := [(c_edit_spot t0), (c_api_Node (G_api_Node.mk t2.Kind t0.up t2.Name t2.Body t2.Bad))]) (H := ⟨1, [(0, ⟨5, ((x1).flatMap c_api_Node), true⟩)]⟩) rfl rfl rfl rfl rfl (astep_do rfl (ex_fieldAddr (v := (LP 1 2)) Tryd.underlying39 rfl s_9 (by decide) rfl rfl))) (dcons (dstep1 (Tm := [(16, (LP 1 2)), (14, (S t0.name))]) (L := [(c_edit_spot t0), (c_api_Node (G_api_Node.mk t2.Kind t0.up t2.Name t2.Body t2.Bad))]) (H := ⟨1, [(0, ⟨5, ((x1).flatMap c_api_Node), true⟩)]⟩) rfl rfl rfl rfl rfl (astep_do rfl (ex_storeL (vy := (S t0.name)) (cs := (c_api_Node (G_api_Node.mk t2.Kind t0.up t2.Name t2.Body t2.Bad))) (vs := [(S t0.name)]) (L' := [(c_edit_spot t0), (c_api_Node (G_api_Node.mk t2.Kind t0.up t0.name t2.Body t2.Bad))]) rfl (eV (v := (S t0.name)) rfl) rfl s_9 rfl (Nat.le_of_ble_eq_true rfl) (by kernel_rfl)))) dnil)))))))) ⟨rfl, rfl⟩) (by kernel_rfl) (by kernel_rfl) ?_
  show AWp _ _ _ _
  refine awp_seq ?_
  refine awp_region ?_
  refine arun_do rfl rfl rfl (ex_move (eV (v := (GV 0 x1.length)) rfl)) ?_
  refine arun_do rfl rfl rfl (ex_move (eV (v := (I t1)) rfl)) ?_
  refine arun_do rfl rfl rfl (tx_ldLA (vs := (c_api_Node (G_api_Node.mk t2.Kind t0.up t0.name t2.Body t2.Bad))) Tryd.underlying39 rfl s_39 (by decide) rfl rfl rfl rfl) ?_
  obtain ⟨x2, hx2, h⟩ := bindS h
  refine arun_do rfl rfl rfl (tx_idxG (c := c_api_Node) (xs := x1) (i := t1) ce_api_Node Tryd.underlying25 s_39 rfl rfl rfl rfl hx2) ?_
  obtain ⟨x3, hx3, h⟩ := bindS h
  refine arun_do0 rfl rfl (tx_stG (c := c_api_Node) (xs := x1) (e := (G_api_Node.mk t2.Kind t0.up t0.name t2.Body t2.Bad)) (H' := ⟨1, [(0, ⟨5, ((x3).flatMap c_api_Node), true⟩)]⟩) ce_api_Node s_39 rfl (eV (v := (Value.agg (c_api_Node (G_api_Node.mk t2.Kind t0.up t0.name t2.Body t2.Bad)).toArray)) rfl) rfl rfl hx3 rfl) ?_
  refine arun_fewer (T' := [(1, (I t1)), (5, (LP 1 0)), (7, (GV 0 x3.length)), (17, (GV 0 x3.length)), (18, (I t1)), (19, (Value.agg (c_api_Node (G_api_Node.mk t2.Kind t0.up t0.name t2.Body t2.Bad)).toArray))]) (ReT.keep (v := (I t1)) rfl (ReT.keep (v := (LP 1 0)) rfl (ReT.gv rfl (setI_len hx3) (ReT.gv rfl (setI_len hx3) (ReT.keep (v := (I t1)) rfl (ReT.keep (v := (Value.agg (c_api_Node (G_api_Node.mk t2.Kind t0.up t0.name t2.Body t2.Bad)).toArray)) rfl ReT.nil)))))) ?_
  refine arun_keepE [7] 0 1 (st' := ⟨22, 0, [(7, (GV 0 x3.length))], [], ⟨1, [(0, ⟨5, ((x3).flatMap c_api_Node), true⟩)]⟩⟩) (by kernel_rfl) (by kernel_rfl) ?_
  show AWp _ _ _ _
  refine awp_seq ?_
  refine awp_region ?_
  refine arun_do rfl rfl rfl (ex_move (eV (v := (GV 0 x3.length)) rfl)) ?_
  refine arun_do rfl rfl rfl (ex_assign (eV (v := (GV 0 x3.length)) rfl)) ?_
  refine arun_keepE [6] 0 1 (st' := ⟨22, 0, [(6, (GV 0 x3.length))], [], ⟨1, [(0, ⟨5, ((x3).flatMap c_api_Node), true⟩)]⟩⟩) (by kernel_rfl) (by kernel_rfl) ?_
  show AWp _ _ _ _
  refine awp_ret ?_
  cases h
  exact And.intro (ares1 (rtmp rfl (eV rfl))) (And.intro rfl rfl)

end Go.Proofs
