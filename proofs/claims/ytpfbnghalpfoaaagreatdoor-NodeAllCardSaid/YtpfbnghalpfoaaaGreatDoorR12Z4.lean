/- Pure models of functions of the program, and that its code does what they say: node Free$1, api Node] at a closure, node Free, name plain, name May, node row folder, node row alone. Written by a program. -/
import Derived.Test.YtpfbnghalpfoaaaGreatDoorR12ZB
import Derived.Test.YtpfbnghalpfoaaaGreatDoorR12ZX
set_option maxRecDepth 20000
set_option maxHeartbeats 4000000
namespace Go.Proofs
open Go Go.Fhl
set_option linter.unusedVariables false
set_option linter.unusedSimpArgs false
noncomputable def M_node_Free_1 (t0 : G_api_Node) : Option Bool :=
  some (t0.Kind == 0)
theorem ok_node_Free_1 (t0 : G_api_Node) (r : Bool) (h : M_node_Free_1 t0 = some r) : FFn Tryz.prog 34 [(Value.agg (c_api_Node t0).toArray)] (Bo r) := by
  refine FFn.of_body (n := 6) Tryz.func34 rfl Tryz.ntmps34 rfl rfl rfl rfl ?_
  show AWp _ _ _ ⟨6, 0, [(0, (Value.agg (c_api_Node t0).toArray))], [], ⟨0, []⟩⟩
  unfold M_node_Free_1 at h
  refine awp_seq ?_
  refine awp_region ?_
  refine arun_do rfl rfl rfl (ex_box (vx := (Value.agg (c_api_Node t0).toArray)) (cs := (c_api_Node t0)) (k := 0) (L' := [(c_api_Node t0)]) (eV (v := (Value.agg (c_api_Node t0).toArray)) rfl) rfl rfl rfl) ?_
  refine arun_do rfl rfl rfl (ex_assign (eV (v := (Bo false)) rfl)) ?_
  refine arun_keepE [1] 1 0 (st' := ⟨6, 0, [(1, (LP 0 0))], [(c_api_Node t0)], ⟨0, []⟩⟩) (by kernel_rfl) (by kernel_rfl) ?_
  show AWp _ _ _ _
  refine awp_seq ?_
  refine awp_region ?_
  refine arun_do rfl rfl rfl (ex_fieldAddr (v := (LP 0 0)) Tryz.underlying49 rfl s_3 (by decide) rfl rfl) ?_
  refine arun_do rfl rfl rfl (tx_ldL1 (v := (I t0.Kind)) Tryz.underlying3 rfl rfl rfl rfl) ?_
  refine arun_do rfl rfl rfl (ex_bin (vx := (I t0.Kind)) (vy := (I 0)) rfl rfl eqlI_ok) ?_
  refine arun_do rfl rfl rfl (ex_assign (eV (v := (Bo (t0.Kind == 0))) rfl)) ?_
  refine arun_keepE [2] 0 0 (st' := ⟨6, 0, [(2, (Bo (t0.Kind == 0)))], [], ⟨0, []⟩⟩) (by kernel_rfl) (by kernel_rfl) ?_
  show AWp _ _ _ _
  refine awp_ret ?_
  cases h
  exact ares1 (rtmp rfl (eV rfl))

noncomputable def M_slices_IndexFunc_api_Set_api_Node_c34_l1 (t0 : (List G_api_Node)) : Nat → Int → Option Int
  | 0, _ => none
  | n1 + 1, v1 =>
  cond (decide (v1 < (t0.length : Int))) (Option.bind (getI t0 v1) fun (x3 : G_api_Node) => Option.bind (M_node_Free_1 x3) fun (x4 : Bool) => cond x4 (some v1) ((M_slices_IndexFunc_api_Set_api_Node_c34_l1 t0 n1) (w64 (v1 + 1)))) (some (-1))
noncomputable def M_slices_IndexFunc_api_Set_api_Node_c34 (t0 : (List G_api_Node)) : Option Int :=
  M_slices_IndexFunc_api_Set_api_Node_c34_l1 t0 fuel 0
theorem ok_slices_IndexFunc_api_Set_api_Node_c34 (t0 : (List G_api_Node)) (r : Int) (h : M_slices_IndexFunc_api_Set_api_Node_c34 t0 = some r) : FFn Tryz.prog 33 [(SL 5 c_api_Node t0), (Value.func (Fn.func 34) #[] #[])] (I r) := by
  refine FFn.of_body (n := 19) Tryz.func33 rfl Tryz.ntmps33 rfl rfl rfl rfl ?_
  show AWp _ _ _ ⟨19, 0, [(0, (SL 5 c_api_Node t0)), (1, (Value.func (Fn.func 34) #[] #[]))], [], ⟨0, []⟩⟩
  unfold M_slices_IndexFunc_api_Set_api_Node_c34 at h
  refine awp_seq ?_
  refine awp_region ?_
  refine arun_do rfl rfl rfl (ex_assign (eV (v := (I 0)) rfl)) ?_
  refine arun_keepE [0, 1] 0 0 (st' := ⟨19, 0, [(0, (SL 5 c_api_Node t0)), (1, (Value.func (Fn.func 34) #[] #[]))], [], ⟨0, []⟩⟩) (by kernel_rfl) (by kernel_rfl) ?_
  show AWp _ _ _ _
  refine awp_seq ?_
  refine awp_seq ?_
  refine awp_region ?_
  refine arun_do rfl rfl rfl (ex_move (eV (v := (SL 5 c_api_Node t0)) rfl)) ?_
  refine arun_do rfl rfl rfl (tx_lenD (xs := t0) ce_api_Node Tryz.underlying25 rfl) ?_
  refine arun_do rfl rfl rfl (ex_move (eV (v := (I 0)) rfl)) ?_
  refine arun_keepE [0, 1, 7, 8] 0 0 (st' := ⟨19, 0, [(0, (SL 5 c_api_Node t0)), (1, (Value.func (Fn.func 34) #[] #[])), (7, (I (t0.length : Int))), (8, (I 0))], [], ⟨0, []⟩⟩) (by kernel_rfl) (by kernel_rfl) ?_
  show AWp _ _ _ _
  refine awp_block ?_
  refine awp_loop (fun n s => ∃ (v1 : Int), s = ⟨19, 0, [(0, (SL 5 c_api_Node t0)), (1, (Value.func (Fn.func 34) #[] #[])), (7, (I (t0.length : Int))), (8, (I v1))], [], ⟨0, []⟩⟩ ∧ M_slices_IndexFunc_api_Set_api_Node_c34_l1 t0 n v1 = some r) fuel (Exists.intro 0 (And.intro rfl h)) ?_
  rintro n s ⟨v1, rfl, h⟩ -
  cases n with
  | zero => cases h
  | succ n1 =>
    unfold M_slices_IndexFunc_api_Set_api_Node_c34_l1 at h
    refine awp_seq ?_
    refine awp_region ?_
    refine arun_do rfl rfl rfl (ex_bin (vx := (I v1)) (vy := (I (t0.length : Int))) rfl rfl lssI_ok) ?_
    refine arun_keepE [0, 1, 7, 8, 9] 0 0 (st' := ⟨19, 0, [(0, (SL 5 c_api_Node t0)), (1, (Value.func (Fn.func 34) #[] #[])), (7, (I (t0.length : Int))), (8, (I v1)), (9, (Bo (decide (v1 < (t0.length : Int)))))], [], ⟨0, []⟩⟩) (by kernel_rfl) (by kernel_rfl) ?_
    show AWp _ _ _ _
    refine awp_seq ?_
    rcases Bool.eq_false_or_eq_true (decide (v1 < (t0.length : Int))) with hb2 | hb2
    · rw [condT hb2] at h
      refine awp_condT (boT hb2) ?_
      refine awp_skip ?_
      show AWp _ _ _ _
      refine awp_seq ?_
      refine awp_block ?_
      refine awp_seq ?_
      refine awp_region ?_
      refine arun_do rfl rfl rfl (ex_move (eV (v := (I v1)) rfl)) ?_
      refine arun_do rfl rfl rfl (ex_assign (eV (v := (I v1)) rfl)) ?_
      refine arun_keepE [0, 1, 5, 7, 8] 0 0 (st' := ⟨19, 0, [(0, (SL 5 c_api_Node t0)), (1, (Value.func (Fn.func 34) #[] #[])), (5, (I v1)), (7, (I (t0.length : Int))), (8, (I v1))], [], ⟨0, []⟩⟩) (by kernel_rfl) (by kernel_rfl) ?_
      show AWp _ _ _ _
      refine awp_seq ?_
      refine awp_region ?_
      refine arun_do rfl rfl rfl (ex_move (eV (v := (Value.func (Fn.func 34) #[] #[])) rfl)) ?_
      refine arun_do rfl rfl rfl (ex_move (eV (v := (SL 5 c_api_Node t0)) rfl)) ?_
      refine arun_do rfl rfl rfl (ex_move (eV (v := (I v1)) rfl)) ?_
      obtain ⟨x3, hx3, h⟩ := bindS h
      refine arun_do rfl rfl rfl (tx_idxD (c := c_api_Node) (xs := t0) (i := v1) ce_api_Node Tryz.underlying25 s_49 rfl rfl hx3) ?_
      refine arun_do rfl rfl rfl (tx_ldDA (vs := (c_api_Node x3)) Tryz.underlying49 rfl s_49 (by decide) rfl (Nat.le_of_ble_eq_true rfl) rfl) ?_
      obtain ⟨x4, hx4, h⟩ := bindS h
      refine arun_do rfl rfl rfl (ex_call0 (vs := [(Value.agg (c_api_Node x3).toArray)]) (v := (Bo x4)) rfl en_34 (cargs (evs rfl evs_nil)) rfl (ok_node_Free_1 x3 x4 hx4) rfl) ?_
      refine arun_keepE [0, 1, 5, 7, 8, 16] 0 0 (st' := ⟨19, 0, [(0, (SL 5 c_api_Node t0)), (1, (Value.func (Fn.func 34) #[] #[])), (5, (I v1)), (7, (I (t0.length : Int))), (8, (I v1)), (16, (Bo x4))], [], ⟨0, []⟩⟩) (by kernel_rfl) (by kernel_rfl) ?_
      show AWp _ _ _ _
      rcases Bool.eq_false_or_eq_true x4 with hb5 | hb5
      · rw [condT hb5] at h
        refine awp_condT (boT hb5) ?_
        refine awp_seq ?_
        refine awp_region ?_
        refine arun_do rfl rfl rfl (ex_move (eV (v := (I v1)) rfl)) ?_
        refine arun_do rfl rfl rfl (ex_assign (eV (v := (I v1)) rfl)) ?_
        refine arun_keepE [4] 0 0 (st' := ⟨19, 0, [(4, (I v1))], [], ⟨0, []⟩⟩) (by kernel_rfl) (by kernel_rfl) ?_
        show AWp _ _ _ _
        refine awp_ret ?_
        cases h
        exact ares1 (rtmp rfl (eV rfl))
      · rw [condF hb5] at h
        refine awp_condF (boF hb5) ?_
        refine awp_skip ?_
        show AWp _ _ _ _
        refine awp_region ?_
        refine arun_do rfl rfl rfl (ex_bin (vx := (I v1)) (vy := (I 1)) rfl rfl addI_ok) ?_
        refine arun_do rfl rfl rfl (ex_move (eV (v := (I (w64 (v1 + 1)))) rfl)) ?_
        refine arun_keepE [0, 1, 7, 8] 0 0 (st' := ⟨19, 0, [(0, (SL 5 c_api_Node t0)), (1, (Value.func (Fn.func 34) #[] #[])), (7, (I (t0.length : Int))), (8, (I (w64 (v1 + 1))))], [], ⟨0, []⟩⟩) (by kernel_rfl) (by kernel_rfl) ?_
        exact Exists.intro n1 (And.intro (Nat.lt_succ_self _) (Exists.intro (w64 (v1 + 1)) (And.intro rfl h)))
    · rw [condF hb2] at h
      refine awp_condF (boF hb2) ?_
      refine awp_exit ?_
      show AWp _ _ _ _
      refine awp_seq ?_
      refine awp_region ?_
      refine arun_do rfl rfl rfl (ex_assign (eV (v := (I (-1))) rfl)) ?_
      refine arun_keepE [4] 0 0 (st' := ⟨19, 0, [(4, (I (-1)))], [], ⟨0, []⟩⟩) (by kernel_rfl) (by kernel_rfl) ?_
      show AWp _ _ _ _
      refine awp_ret ?_
      cases h
      exact ares1 (rtmp rfl (eV rfl))

noncomputable def M_node_Free (t0 : (List G_api_Node)) : Option (Int × Bool) :=
  Option.bind (M_slices_IndexFunc_api_Set_api_Node_c34 t0) fun (x1 : Int) => some ((max x1 0), (decide (x1 ≥ 0)))
theorem ok_node_Free (t0 : (List G_api_Node)) (r : (Int × Bool)) (h : M_node_Free t0 = some r) : FFn Tryz.prog 15 [(SL 5 c_api_Node t0)] (Value.tuple #[(I r.1), (Bo r.2)]) := by
  refine FFn.of_body (n := 11) Tryz.func15 rfl Tryz.ntmps15 rfl rfl rfl rfl ?_
  show AWp _ _ _ ⟨11, 0, [(0, (SL 5 c_api_Node t0))], [], ⟨0, []⟩⟩
  unfold M_node_Free at h
  refine awp_seq ?_
  refine awp_region ?_
  refine arun_do rfl rfl rfl (ex_assign (eV (v := (I 0)) rfl)) ?_
  refine arun_do rfl rfl rfl (ex_assign (eV (v := (Bo false)) rfl)) ?_
  refine arun_keepE [0] 0 0 (st' := ⟨11, 0, [(0, (SL 5 c_api_Node t0))], [], ⟨0, []⟩⟩) (by kernel_rfl) (by kernel_rfl) ?_
  show AWp _ _ _ _
  refine awp_seq ?_
  refine awp_region ?_
  refine arun_do rfl rfl rfl (ex_move (eV (v := (SL 5 c_api_Node t0)) rfl)) ?_
  obtain ⟨x1, hx1, h⟩ := bindS h
  refine arun_do rfl rfl rfl (ex_callA (vs := [(SL 5 c_api_Node t0), (FN 34)]) (v := (I x1)) rfl en_33 (cargs (evs rfl (evs rfl evs_nil))) rfl (ok_slices_IndexFunc_api_Set_api_Node_c34 t0 x1 hx1) rfl) ?_
  refine arun_do rfl rfl rfl (ex_assign (eV (v := (I x1)) rfl)) ?_
  refine arun_keepE [4] 0 0 (st' := ⟨11, 0, [(4, (I x1))], [], ⟨0, []⟩⟩) (by kernel_rfl) (by kernel_rfl) ?_
  show AWp _ _ _ _
  refine awp_seq ?_
  refine awp_region ?_
  refine arun_do rfl rfl rfl (ex_move (eV (v := (I x1)) rfl)) ?_
  refine arun_do rfl rfl rfl (ex_max (m := x1) (n := 0) rfl rfl) ?_
  refine arun_do rfl rfl rfl (ex_move (eV (v := (I x1)) rfl)) ?_
  refine arun_do rfl rfl rfl (ex_bin (vx := (I x1)) (vy := (I 0)) rfl rfl geqI_ok) ?_
  refine arun_do rfl rfl rfl (ex_assign (eV (v := (I (max x1 0))) rfl)) ?_
  refine arun_do rfl rfl rfl (ex_assign (eV (v := (Bo (decide (x1 ≥ 0)))) rfl)) ?_
  refine arun_keepE [2, 3] 0 0 (st' := ⟨11, 0, [(2, (I (max x1 0))), (3, (Bo (decide (x1 ≥ 0))))], [], ⟨0, []⟩⟩) (by kernel_rfl) (by kernel_rfl) ?_
  show AWp _ _ _ _
  refine awp_ret ?_
  cases h
  exact aresN rfl (L2.cons (rtmp rfl (eV rfl)) (L2.cons (rtmp rfl (eV rfl)) L2.nil)) rfl

noncomputable def M_name_plain_l1 (t0 : Str) : Nat → Int → Option Bool
  | 0, _ => none
  | n1 + 1, v1 =>
  cond (decide (v1 < (t0.length : Int))) (Option.bind (getI t0 v1) fun (x3 : UInt8) => Option.bind (M_strings_IndexByte ([97, 98, 99, 100, 101, 102, 103, 104, 105, 106, 107, 108, 109, 110, 111, 112, 113, 114, 115, 116, 117, 118, 119, 120, 121, 122, 48, 49, 50, 51, 52, 53, 54, 55, 56, 57, 46, 95, 45] : Str) x3) fun (x4 : Int) => cond (decide (x4 < 0)) (some false) ((M_name_plain_l1 t0 n1) (w64 (v1 + 1)))) (some true)
noncomputable def M_name_plain (t0 : Str) : Option Bool :=
  M_name_plain_l1 t0 fuel 0
theorem ok_name_plain (t0 : Str) (r : Bool) (h : M_name_plain t0 = some r) : FFn Tryz.prog 81 [(S t0)] (Bo r) := by
  refine FFn.of_body (n := 16) Tryz.func81 rfl Tryz.ntmps81 rfl rfl rfl rfl ?_
  show AWp _ _ _ ⟨16, 0, [(0, (S t0))], [], ⟨0, []⟩⟩
  unfold M_name_plain at h
  refine awp_seq ?_
  refine awp_region ?_
  refine arun_do rfl rfl rfl (ex_assign (eV (v := (Bo false)) rfl)) ?_
  refine arun_keepE [0] 0 0 (st' := ⟨16, 0, [(0, (S t0))], [], ⟨0, []⟩⟩) (by kernel_rfl) (by kernel_rfl) ?_
  show AWp _ _ _ _
  refine awp_seq ?_
  refine awp_seq ?_
  refine awp_region ?_
  refine arun_do rfl rfl rfl (ex_move (eV (v := (S t0)) rfl)) ?_
  refine arun_do rfl rfl rfl (tx_sbD Tryz.underlying9 Tryz.underlying22 Tryz.underlying5 rfl) ?_
  refine arun_do rfl rfl rfl (tx_lenD (xs := t0) ce8 Tryz.underlying22 rfl) ?_
  refine arun_do rfl rfl rfl (ex_move (eV (v := (I 0)) rfl)) ?_
  refine arun_keepE [6, 7, 8] 0 0 (st' := ⟨16, 0, [(6, (SL 1 c8 t0)), (7, (I (t0.length : Int))), (8, (I 0))], [], ⟨0, []⟩⟩) (by kernel_rfl) (by kernel_rfl) ?_
  show AWp _ _ _ _
  refine awp_block ?_
  refine awp_loop (fun n s => ∃ (v1 : Int), s = ⟨16, 0, [(6, (SL 1 c8 t0)), (7, (I (t0.length : Int))), (8, (I v1))], [], ⟨0, []⟩⟩ ∧ M_name_plain_l1 t0 n v1 = some r) fuel (Exists.intro 0 (And.intro rfl h)) ?_
  rintro n s ⟨v1, rfl, h⟩ -
  cases n with
  | zero => cases h
  | succ n1 =>
    unfold M_name_plain_l1 at h
    refine awp_seq ?_
    refine awp_region ?_
    refine arun_do rfl rfl rfl (ex_bin (vx := (I v1)) (vy := (I (t0.length : Int))) rfl rfl lssI_ok) ?_
    refine arun_keepE [6, 7, 8, 9] 0 0 (st' := ⟨16, 0, [(6, (SL 1 c8 t0)), (7, (I (t0.length : Int))), (8, (I v1)), (9, (Bo (decide (v1 < (t0.length : Int)))))], [], ⟨0, []⟩⟩) (by kernel_rfl) (by kernel_rfl) ?_
    show AWp _ _ _ _
    refine awp_seq ?_
    rcases Bool.eq_false_or_eq_true (decide (v1 < (t0.length : Int))) with hb2 | hb2
    · rw [condT hb2] at h
      refine awp_condT (boT hb2) ?_
      refine awp_skip ?_
      show AWp _ _ _ _
      refine awp_seq ?_
      refine awp_block ?_
      refine awp_seq ?_
      refine awp_region ?_
      obtain ⟨x3, hx3, h⟩ := bindS h
      refine arun_do rfl rfl rfl (tx_idxD (c := c8) (xs := t0) (i := v1) ce8 Tryz.underlying22 s_5 rfl rfl hx3) ?_
      refine arun_do rfl rfl rfl (tx_ldD1 (v := (U8 x3)) Tryz.underlying5 rfl rfl rfl) ?_
      refine arun_do rfl rfl rfl (ex_assign (eV (v := (U8 x3)) rfl)) ?_
      refine arun_keepE [4, 6, 7, 8] 0 0 (st' := ⟨16, 0, [(4, (U8 x3)), (6, (SL 1 c8 t0)), (7, (I (t0.length : Int))), (8, (I v1))], [], ⟨0, []⟩⟩) (by kernel_rfl) (by kernel_rfl) ?_
      show AWp _ _ _ _
      refine awp_seq ?_
      refine awp_region ?_
      refine arun_do rfl rfl rfl (ex_move (eV (v := (U8 x3)) rfl)) ?_
      obtain ⟨x4, hx4, h⟩ := bindS h
      refine arun_do rfl rfl rfl (ex_call0 (vs := [(S ([97, 98, 99, 100, 101, 102, 103, 104, 105, 106, 107, 108, 109, 110, 111, 112, 113, 114, 115, 116, 117, 118, 119, 120, 121, 122, 48, 49, 50, 51, 52, 53, 54, 55, 56, 57, 46, 95, 45] : Str)), (U8 x3)]) (v := (I x4)) rfl en_89 (cargs (evs rfl (evs rfl evs_nil))) rfl (ok_strings_IndexByte ([97, 98, 99, 100, 101, 102, 103, 104, 105, 106, 107, 108, 109, 110, 111, 112, 113, 114, 115, 116, 117, 118, 119, 120, 121, 122, 48, 49, 50, 51, 52, 53, 54, 55, 56, 57, 46, 95, 45] : Str) x3 x4 hx4) rfl) ?_
      refine arun_do rfl rfl rfl (ex_bin (vx := (I x4)) (vy := (I 0)) rfl rfl lssI_ok) ?_
      refine arun_keepE [6, 7, 8, 14] 0 0 (st' := ⟨16, 0, [(6, (SL 1 c8 t0)), (7, (I (t0.length : Int))), (8, (I v1)), (14, (Bo (decide (x4 < 0))))], [], ⟨0, []⟩⟩) (by kernel_rfl) (by kernel_rfl) ?_
      show AWp _ _ _ _
      rcases Bool.eq_false_or_eq_true (decide (x4 < 0)) with hb5 | hb5
      · rw [condT hb5] at h
        refine awp_condT (boT hb5) ?_
        refine awp_seq ?_
        refine awp_region ?_
        refine arun_do rfl rfl rfl (ex_assign (eV (v := (Bo false)) rfl)) ?_
        refine arun_keepE [2] 0 0 (st' := ⟨16, 0, [(2, (Bo false))], [], ⟨0, []⟩⟩) (by kernel_rfl) (by kernel_rfl) ?_
        show AWp _ _ _ _
        refine awp_ret ?_
        cases h
        exact ares1 (rtmp rfl (eV rfl))
      · rw [condF hb5] at h
        refine awp_condF (boF hb5) ?_
        refine awp_skip ?_
        show AWp _ _ _ _
        refine awp_region ?_
        refine arun_do rfl rfl rfl (ex_bin (vx := (I v1)) (vy := (I 1)) rfl rfl addI_ok) ?_
        refine arun_do rfl rfl rfl (ex_move (eV (v := (I (w64 (v1 + 1)))) rfl)) ?_
        refine arun_keepE [6, 7, 8] 0 0 (st' := ⟨16, 0, [(6, (SL 1 c8 t0)), (7, (I (t0.length : Int))), (8, (I (w64 (v1 + 1))))], [], ⟨0, []⟩⟩) (by kernel_rfl) (by kernel_rfl) ?_
        exact Exists.intro n1 (And.intro (Nat.lt_succ_self _) (Exists.intro (w64 (v1 + 1)) (And.intro rfl h)))
    · rw [condF hb2] at h
      refine awp_condF (boF hb2) ?_
      refine awp_exit ?_
      show AWp _ _ _ _
      refine awp_seq ?_
      refine awp_region ?_
      refine arun_do rfl rfl rfl (ex_assign (eV (v := (Bo true)) rfl)) ?_
      refine arun_keepE [2] 0 0 (st' := ⟨16, 0, [(2, (Bo true))], [], ⟨0, []⟩⟩) (by kernel_rfl) (by kernel_rfl) ?_
      show AWp _ _ _ _
      refine awp_ret ?_
      cases h
      exact ares1 (rtmp rfl (eV rfl))

noncomputable def M_name_May (t0 : Str) : Option Bool :=
  Option.bind (gd (((t0 != []) && (decide ((t0.length : Int) ≤ 8))) == true) (M_name_plain t0)) fun (x1 : Bool) => some (((((t0 != []) && (decide ((t0.length : Int) ≤ 8))) && x1) && (t0 != ([46] : Str))) && (t0 != ([46, 46] : Str)))
theorem ok_name_May (t0 : Str) (r : Bool) (h : M_name_May t0 = some r) : FFn Tryz.prog 61 [(S t0)] (Bo r) := by
  refine FFn.of_body (n := 22) Tryz.func61 rfl Tryz.ntmps61 rfl rfl rfl rfl ?_
  show AWp _ _ _ ⟨22, 0, [(0, (S t0))], [], ⟨0, []⟩⟩
  unfold M_name_May at h
  refine awp_seq ?_
  refine awp_region ?_
  refine arun_do rfl rfl rfl (ex_assign (eV (v := (Bo false)) rfl)) ?_
  refine arun_keepE [0] 0 0 (st' := ⟨22, 0, [(0, (S t0))], [], ⟨0, []⟩⟩) (by kernel_rfl) (by kernel_rfl) ?_
  show AWp _ _ _ _
  refine awp_seq ?_
  refine awp_region ?_
  refine arun_do rfl rfl rfl (ex_move (eV (v := (S t0)) rfl)) ?_
  refine arun_do rfl rfl rfl (ex_bin (vx := (S t0)) (vy := (S [])) rfl rfl neqS_ok) ?_
  refine arun_do rfl rfl rfl (ex_move (eV (v := (Bo (t0 != []))) rfl)) ?_
  refine arun_guard (v := (S t0)) ((t0 != []) == true) rfl rfl rfl (fun hc => ex_move (eV (v := (S t0)) rfl)) ?_
  refine arun_guard (v := (I (t0.length : Int))) ((t0 != []) == true) rfl rfl rfl (fun hc => tx_lenS Tryz.underlying9 (cond_of hc)) ?_
  refine arun_guard (v := (Bo (decide ((t0.length : Int) ≤ 8)))) ((t0 != []) == true) rfl rfl rfl (fun hc => ex_bin (vx := (I (t0.length : Int))) (vy := (I 8)) (cond_of hc) rfl leqI_ok) ?_
  refine arun_do rfl rfl rfl (ex_pick rfl pkAnd) ?_
  refine arun_do rfl rfl rfl (ex_move (eV (v := (Bo ((t0 != []) && (decide ((t0.length : Int) ≤ 8))))) rfl)) ?_
  refine arun_guard (v := (S t0)) (((t0 != []) && (decide ((t0.length : Int) ≤ 8))) == true) rfl rfl rfl (fun hc => ex_move (eV (v := (S t0)) rfl)) ?_
  obtain ⟨x1, hx1, h⟩ := bindS h
  refine arun_guard (v := (Bo x1)) (((t0 != []) && (decide ((t0.length : Int) ≤ 8))) == true) rfl rfl rfl (fun hc => ex_call0 (vs := [(S t0)]) (v := (Bo x1)) rfl en_81 (cargs (evs (cond_of hc) evs_nil)) rfl (ok_name_plain t0 x1 (gd_of hc hx1)) rfl) ?_
  refine arun_do rfl rfl rfl (ex_pick rfl pkAnd) ?_
  refine arun_do rfl rfl rfl (ex_move (eV (v := (Bo (((t0 != []) && (decide ((t0.length : Int) ≤ 8))) && x1))) rfl)) ?_
  refine arun_guard (v := (S t0)) ((((t0 != []) && (decide ((t0.length : Int) ≤ 8))) && x1) == true) rfl rfl rfl (fun hc => ex_move (eV (v := (S t0)) rfl)) ?_
  refine arun_guard (v := (Bo (t0 != ([46] : Str)))) ((((t0 != []) && (decide ((t0.length : Int) ≤ 8))) && x1) == true) rfl rfl rfl (fun hc => ex_bin (vx := (S t0)) (vy := (S ([46] : Str))) (cond_of hc) rfl neqS_ok) ?_
  refine arun_do rfl rfl rfl (ex_pick rfl pkAnd) ?_
  refine arun_do rfl rfl rfl (ex_move (eV (v := (Bo ((((t0 != []) && (decide ((t0.length : Int) ≤ 8))) && x1) && (t0 != ([46] : Str))))) rfl)) ?_
  refine arun_guard (v := (S t0)) (((((t0 != []) && (decide ((t0.length : Int) ≤ 8))) && x1) && (t0 != ([46] : Str))) == true) rfl rfl rfl (fun hc => ex_move (eV (v := (S t0)) rfl)) ?_
  refine arun_guard (v := (Bo (t0 != ([46, 46] : Str)))) (((((t0 != []) && (decide ((t0.length : Int) ≤ 8))) && x1) && (t0 != ([46] : Str))) == true) rfl rfl rfl (fun hc => ex_bin (vx := (S t0)) (vy := (S ([46, 46] : Str))) (cond_of hc) rfl neqS_ok) ?_
  refine arun_do rfl rfl rfl (ex_pick rfl pkAnd) ?_
  refine arun_do rfl rfl rfl (ex_assign (eV (v := (Bo (((((t0 != []) && (decide ((t0.length : Int) ≤ 8))) && x1) && (t0 != ([46] : Str))) && (t0 != ([46, 46] : Str))))) rfl)) ?_
  refine arun_keepE [2] 0 0 (st' := ⟨22, 0, [(2, (Bo (((((t0 != []) && (decide ((t0.length : Int) ≤ 8))) && x1) && (t0 != ([46] : Str))) && (t0 != ([46, 46] : Str)))))], [], ⟨0, []⟩⟩) (by kernel_rfl) (by kernel_rfl) ?_
  show AWp _ _ _ _
  refine awp_ret ?_
  cases h
  exact ares1 (rtmp rfl (eV rfl))

noncomputable def M_node_row_folder (t0 : G_node_row) (t1 : Int) : Option Bool :=
  Option.bind (gd (((decide (t1 ≥ 0)) && (decide (t1 < (t0.Set.length : Int)))) == true) (getI t0.Set t1)) fun (x1 : G_api_Node) => some (((decide (t1 ≥ 0)) && (decide (t1 < (t0.Set.length : Int)))) && (x1.Kind == 2))
theorem ok_node_row_folder (t0 : G_node_row) (t1 : Int) (r : Bool) (h : M_node_row_folder t0 t1 = some r) : FFn Tryz.prog 62 [(Value.agg (c_node_row t0).toArray), (I t1)] (Bo r) := by
  refine FFn.of_body (n := 23) Tryz.func62 rfl Tryz.ntmps62 rfl rfl rfl rfl ?_
  show AWp _ _ _ ⟨23, 0, [(0, (Value.agg (c_node_row t0).toArray)), (1, (I t1))], [], ⟨0, []⟩⟩
  unfold M_node_row_folder at h
  refine awp_seq ?_
  refine awp_region ?_
  refine arun_do rfl rfl rfl (ex_box (vx := (Value.agg (c_node_row t0).toArray)) (cs := (c_node_row t0)) (k := 0) (L' := [(c_node_row t0)]) (eV (v := (Value.agg (c_node_row t0).toArray)) rfl) rfl rfl rfl) ?_
  refine arun_do rfl rfl rfl (ex_assign (eV (v := (Bo false)) rfl)) ?_
  refine arun_keepE [1, 2] 1 0 (st' := ⟨23, 0, [(1, (I t1)), (2, (LP 0 0))], [(c_node_row t0)], ⟨0, []⟩⟩) (by kernel_rfl) (by kernel_rfl) ?_
  show AWp _ _ _ _
  refine awp_seq ?_
  refine awp_region ?_
  refine arun_do rfl rfl rfl (ex_move (eV (v := (I t1)) rfl)) ?_
  refine arun_do rfl rfl rfl (ex_bin (vx := (I t1)) (vy := (I 0)) rfl rfl geqI_ok) ?_
  refine arun_do rfl rfl rfl (ex_move (eV (v := (Bo (decide (t1 ≥ 0)))) rfl)) ?_
  refine arun_guard (v := (I t1)) ((decide (t1 ≥ 0)) == true) rfl rfl rfl (fun hc => ex_move (eV (v := (I t1)) rfl)) ?_
  refine arun_guard (v := (LP 0 0)) ((decide (t1 ≥ 0)) == true) rfl rfl rfl (fun hc => ex_fieldAddr (v := (LP 0 0)) Tryz.underlying52 rfl s_25 (by decide) rfl rfl) ?_
  refine arun_guard (v := (SL 5 c_api_Node t0.Set)) ((decide (t1 ≥ 0)) == true) rfl rfl rfl (fun hc => tx_ldL1 (v := (SL 5 c_api_Node t0.Set)) Tryz.underlying25 rfl (cond_of hc) rfl rfl) ?_
  refine arun_guard (v := (I (t0.Set.length : Int))) ((decide (t1 ≥ 0)) == true) rfl rfl rfl (fun hc => tx_lenD (xs := t0.Set) ce_api_Node Tryz.underlying25 (cond_of hc)) ?_
  refine arun_guard (v := (Bo (decide (t1 < (t0.Set.length : Int))))) ((decide (t1 ≥ 0)) == true) rfl rfl rfl (fun hc => ex_bin (vx := (I t1)) (vy := (I (t0.Set.length : Int))) (cond_of hc) (cond_of hc) lssI_ok) ?_
  refine arun_do rfl rfl rfl (ex_pick rfl pkAnd) ?_
  refine arun_do rfl rfl rfl (ex_move (eV (v := (Bo ((decide (t1 ≥ 0)) && (decide (t1 < (t0.Set.length : Int)))))) rfl)) ?_
  refine arun_guard (v := (LP 0 0)) (((decide (t1 ≥ 0)) && (decide (t1 < (t0.Set.length : Int)))) == true) rfl rfl rfl (fun hc => ex_fieldAddr (v := (LP 0 0)) Tryz.underlying52 rfl s_25 (by decide) rfl rfl) ?_
  refine arun_guard (v := (SL 5 c_api_Node t0.Set)) (((decide (t1 ≥ 0)) && (decide (t1 < (t0.Set.length : Int)))) == true) rfl rfl rfl (fun hc => tx_ldL1 (v := (SL 5 c_api_Node t0.Set)) Tryz.underlying25 rfl (cond_of hc) rfl rfl) ?_
  refine arun_guard (v := (I t1)) (((decide (t1 ≥ 0)) && (decide (t1 < (t0.Set.length : Int)))) == true) rfl rfl rfl (fun hc => ex_move (eV (v := (I t1)) rfl)) ?_
  obtain ⟨x1, hx1, h⟩ := bindS h
  refine arun_guard (v := (DP (c_api_Node x1))) (((decide (t1 ≥ 0)) && (decide (t1 < (t0.Set.length : Int)))) == true) rfl rfl rfl (fun hc => tx_idxD (c := c_api_Node) (xs := t0.Set) (i := t1) ce_api_Node Tryz.underlying25 s_49 (cond_of hc) (cond_of hc) (gd_of hc hx1)) ?_
  refine arun_guard (v := (DP (List.drop 0 (c_api_Node x1)))) (((decide (t1 ≥ 0)) && (decide (t1 < (t0.Set.length : Int)))) == true) rfl rfl rfl (fun hc => ex_fieldAddrD (vs := (List.drop 0 (c_api_Node x1))) Tryz.underlying49 rfl s_3 (by decide) (cond_of hc) rfl) ?_
  refine arun_guard (v := (I x1.Kind)) (((decide (t1 ≥ 0)) && (decide (t1 < (t0.Set.length : Int)))) == true) rfl rfl rfl (fun hc => tx_ldD1 (v := (I x1.Kind)) Tryz.underlying3 rfl (cond_of hc) rfl) ?_
  refine arun_guard (v := (Bo (x1.Kind == 2))) (((decide (t1 ≥ 0)) && (decide (t1 < (t0.Set.length : Int)))) == true) rfl rfl rfl (fun hc => ex_bin (vx := (I x1.Kind)) (vy := (I 2)) (cond_of hc) rfl eqlI_ok) ?_
  refine arun_do rfl rfl rfl (ex_pick rfl pkAnd) ?_
  refine arun_do rfl rfl rfl (ex_assign (eV (v := (Bo (((decide (t1 ≥ 0)) && (decide (t1 < (t0.Set.length : Int)))) && (x1.Kind == 2)))) rfl)) ?_
  refine arun_keepE [4] 0 0 (st' := ⟨23, 0, [(4, (Bo (((decide (t1 ≥ 0)) && (decide (t1 < (t0.Set.length : Int)))) && (x1.Kind == 2))))], [], ⟨0, []⟩⟩) (by kernel_rfl) (by kernel_rfl) ?_
  show AWp _ _ _ _
  refine awp_ret ?_
  cases h
  exact ares1 (rtmp rfl (eV rfl))

noncomputable def M_node_row_alone (t0 : G_node_row) (t1 : G_api_Node) : Option Bool :=
  Option.bind (gd ((t1.Bad != 0) == false) (M_name_May t1.Name)) fun (x1 : Bool) => Option.bind (gd (((t1.Bad != 0) || (!x1)) == false) (M_node_row_folder t0 t1.Up)) fun (x2 : Bool) => cond (((t1.Bad != 0) || (!x1)) || (!x2)) (some false) (cond (t1.Kind == 1) (some (decide ((t1.Body.length : Int) ≤ 128))) (some ((t1.Kind == 2) && (t1.Body == []))))
theorem ok_node_row_alone (t0 : G_node_row) (t1 : G_api_Node) (r : Bool) (h : M_node_row_alone t0 t1 = some r) : FFn Tryz.prog 43 [(Value.agg (c_node_row t0).toArray), (Value.agg (c_api_Node t1).toArray)] (Bo r) := by
  refine FFn.of_body (n := 38) Tryz.func43 rfl Tryz.ntmps43 rfl rfl rfl rfl ?_
  show AWp _ _ _ ⟨38, 0, [(0, (Value.agg (c_node_row t0).toArray)), (1, (Value.agg (c_api_Node t1).toArray))], [], ⟨0, []⟩⟩
  unfold M_node_row_alone at h
  refine awp_seq ?_
  refine awp_region ?_
  refine arun_do rfl rfl rfl (ex_box (vx := (Value.agg (c_node_row t0).toArray)) (cs := (c_node_row t0)) (k := 0) (L' := [(c_node_row t0)]) (eV (v := (Value.agg (c_node_row t0).toArray)) rfl) rfl rfl rfl) ?_
  refine arun_do rfl rfl rfl (ex_box (vx := (Value.agg (c_api_Node t1).toArray)) (cs := (c_api_Node t1)) (k := 1) (L' := [(c_node_row t0), (c_api_Node t1)]) (eV (v := (Value.agg (c_api_Node t1).toArray)) rfl) rfl rfl rfl) ?_
  refine arun_do rfl rfl rfl (ex_assign (eV (v := (Bo false)) rfl)) ?_
  refine arun_keepE [2, 3] 2 0 (st' := ⟨38, 0, [(2, (LP 0 0)), (3, (LP 1 0))], [(c_node_row t0), (c_api_Node t1)], ⟨0, []⟩⟩) (by kernel_rfl) (by kernel_rfl) ?_
  show AWp _ _ _ _
  refine awp_seq ?_
  refine awp_block ?_
  refine awp_seq ?_
  refine awp_region ?_
  refine arun_do rfl rfl rfl (ex_fieldAddr (v := (LP 1 4)) Tryz.underlying49 rfl s_3 (by decide) rfl rfl) ?_
  refine arun_do rfl rfl rfl (tx_ldL1 (v := (I t1.Bad)) Tryz.underlying3 rfl rfl rfl rfl) ?_
  refine arun_do rfl rfl rfl (ex_bin (vx := (I t1.Bad)) (vy := (I 0)) rfl rfl neqI_ok) ?_
  refine arun_do rfl rfl rfl (ex_move (eV (v := (Bo (t1.Bad != 0))) rfl)) ?_
  refine arun_guard (v := (LP 1 2)) ((t1.Bad != 0) == false) rfl rfl rfl (fun hc => ex_fieldAddr (v := (LP 1 2)) Tryz.underlying49 rfl s_9 (by decide) rfl rfl) ?_
  refine arun_guard (v := (S t1.Name)) ((t1.Bad != 0) == false) rfl rfl rfl (fun hc => tx_ldL1 (v := (S t1.Name)) Tryz.underlying9 rfl (cond_of hc) rfl rfl) ?_
  obtain ⟨x1, hx1, h⟩ := bindS h
  refine arun_guard (v := (Bo x1)) ((t1.Bad != 0) == false) rfl rfl rfl (fun hc => ex_call0 (vs := [(S t1.Name)]) (v := (Bo x1)) rfl en_61 (cargs (evs (cond_of hc) evs_nil)) rfl (ok_name_May t1.Name x1 (gd_of hc hx1)) rfl) ?_
  refine arun_guard (v := (Bo (!x1))) ((t1.Bad != 0) == false) rfl rfl rfl (fun hc => ex_un (vx := (Bo x1)) (cond_of hc) notB_ok) ?_
  refine arun_do rfl rfl rfl (ex_pick rfl pkOr) ?_
  refine arun_do rfl rfl rfl (ex_move (eV (v := (Bo ((t1.Bad != 0) || (!x1)))) rfl)) ?_
  refine arun_guard (v := (Value.agg (c_node_row t0).toArray)) (((t1.Bad != 0) || (!x1)) == false) rfl rfl rfl (fun hc => tx_ldLA (vs := (c_node_row t0)) Tryz.underlying52 rfl s_52 (by decide) rfl rfl rfl rfl) ?_
  refine arun_guard (v := (LP 1 1)) (((t1.Bad != 0) || (!x1)) == false) rfl rfl rfl (fun hc => ex_fieldAddr (v := (LP 1 1)) Tryz.underlying49 rfl s_3 (by decide) rfl rfl) ?_
  refine arun_guard (v := (I t1.Up)) (((t1.Bad != 0) || (!x1)) == false) rfl rfl rfl (fun hc => tx_ldL1 (v := (I t1.Up)) Tryz.underlying3 rfl (cond_of hc) rfl rfl) ?_
  obtain ⟨x2, hx2, h⟩ := bindS h
  refine arun_guard (v := (Bo x2)) (((t1.Bad != 0) || (!x1)) == false) rfl rfl rfl (fun hc => ex_call0 (vs := [(Value.agg (c_node_row t0).toArray), (I t1.Up)]) (v := (Bo x2)) rfl en_62 (cargs (evs (cond_of hc) (evs (cond_of hc) evs_nil))) rfl (ok_node_row_folder t0 t1.Up x2 (gd_of hc hx2)) rfl) ?_
  refine arun_guard (v := (Bo (!x2))) (((t1.Bad != 0) || (!x1)) == false) rfl rfl rfl (fun hc => ex_un (vx := (Bo x2)) (cond_of hc) notB_ok) ?_
  refine arun_do rfl rfl rfl (ex_pick rfl pkOr) ?_
  refine arun_do rfl rfl rfl (ex_assign (eV (v := (Bo (((t1.Bad != 0) || (!x1)) || (!x2)))) rfl)) ?_
  refine arun_keepE [3, 5] 2 0 (st' := ⟨38, 0, [(3, (LP 1 0)), (5, (Bo (((t1.Bad != 0) || (!x1)) || (!x2))))], [(c_node_row t0), (c_api_Node t1)], ⟨0, []⟩⟩) (by kernel_rfl) (by kernel_rfl) ?_
  show AWp _ _ _ _
  rcases Bool.eq_false_or_eq_true (((t1.Bad != 0) || (!x1)) || (!x2)) with hb3 | hb3
  · rw [condT hb3] at h
    refine awp_condT (boT hb3) ?_
    refine awp_seq ?_
    refine awp_region ?_
    refine arun_do rfl rfl rfl (ex_assign (eV (v := (Bo false)) rfl)) ?_
    refine arun_keepE [4] 0 0 (st' := ⟨38, 0, [(4, (Bo false))], [], ⟨0, []⟩⟩) (by kernel_rfl) (by kernel_rfl) ?_
    show AWp _ _ _ _
    refine awp_ret ?_
    cases h
    exact ares1 (rtmp rfl (eV rfl))
  · rw [condF hb3] at h
    refine awp_condF (boF hb3) ?_
    refine awp_seq ?_
    refine awp_region ?_
    refine arun_do rfl rfl rfl (ex_fieldAddr (v := (LP 1 0)) Tryz.underlying49 rfl s_3 (by decide) rfl rfl) ?_
    refine arun_do rfl rfl rfl (tx_ldL1 (v := (I t1.Kind)) Tryz.underlying3 rfl rfl rfl rfl) ?_
    refine arun_do rfl rfl rfl (ex_bin (vx := (I t1.Kind)) (vy := (I 1)) rfl rfl eqlI_ok) ?_
    refine arun_do rfl rfl rfl (ex_assign (eV (v := (Bo (t1.Kind == 1))) rfl)) ?_
    refine arun_keepE [3, 22] 2 0 (st' := ⟨38, 0, [(3, (LP 1 0)), (22, (Bo (t1.Kind == 1)))], [(c_node_row t0), (c_api_Node t1)], ⟨0, []⟩⟩) (by kernel_rfl) (by kernel_rfl) ?_
    show AWp _ _ _ _
    rcases Bool.eq_false_or_eq_true (t1.Kind == 1) with hb4 | hb4
    · rw [condT hb4] at h
      refine awp_condT (boT hb4) ?_
      refine awp_seq ?_
      refine awp_region ?_
      refine arun_do rfl rfl rfl (ex_fieldAddr (v := (LP 1 3)) Tryz.underlying49 rfl s_9 (by decide) rfl rfl) ?_
      refine arun_do rfl rfl rfl (tx_ldL1 (v := (S t1.Body)) Tryz.underlying9 rfl rfl rfl rfl) ?_
      refine arun_do rfl rfl rfl (tx_lenS Tryz.underlying9 rfl) ?_
      refine arun_do rfl rfl rfl (ex_bin (vx := (I (t1.Body.length : Int))) (vy := (I 128)) rfl rfl leqI_ok) ?_
      refine arun_do rfl rfl rfl (ex_assign (eV (v := (Bo (decide ((t1.Body.length : Int) ≤ 128)))) rfl)) ?_
      refine arun_keepE [4] 0 0 (st' := ⟨38, 0, [(4, (Bo (decide ((t1.Body.length : Int) ≤ 128))))], [], ⟨0, []⟩⟩) (by kernel_rfl) (by kernel_rfl) ?_
      show AWp _ _ _ _
      refine awp_ret ?_
      cases h
      exact ares1 (rtmp rfl (eV rfl))
    · rw [condF hb4] at h
      refine awp_condF (boF hb4) ?_
      refine awp_skip ?_
      show AWp _ _ _ _
      refine awp_seq ?_
      refine awp_region ?_
      refine arun_do rfl rfl rfl (ex_fieldAddr (v := (LP 1 0)) Tryz.underlying49 rfl s_3 (by decide) rfl rfl) ?_
      refine arun_do rfl rfl rfl (tx_ldL1 (v := (I t1.Kind)) Tryz.underlying3 rfl rfl rfl rfl) ?_
      refine arun_do rfl rfl rfl (ex_bin (vx := (I t1.Kind)) (vy := (I 2)) rfl rfl eqlI_ok) ?_
      refine arun_do rfl rfl rfl (ex_move (eV (v := (Bo (t1.Kind == 2))) rfl)) ?_
      refine arun_guard (v := (LP 1 3)) ((t1.Kind == 2) == true) rfl rfl rfl (fun hc => ex_fieldAddr (v := (LP 1 3)) Tryz.underlying49 rfl s_9 (by decide) rfl rfl) ?_
      refine arun_guard (v := (S t1.Body)) ((t1.Kind == 2) == true) rfl rfl rfl (fun hc => tx_ldL1 (v := (S t1.Body)) Tryz.underlying9 rfl (cond_of hc) rfl rfl) ?_
      refine arun_guard (v := (Bo (t1.Body == []))) ((t1.Kind == 2) == true) rfl rfl rfl (fun hc => ex_bin (vx := (S t1.Body)) (vy := (S [])) (cond_of hc) rfl eqlS_ok) ?_
      refine arun_do rfl rfl rfl (ex_pick rfl pkAnd) ?_
      refine arun_do rfl rfl rfl (ex_assign (eV (v := (Bo ((t1.Kind == 2) && (t1.Body == [])))) rfl)) ?_
      refine arun_keepE [4] 0 0 (st' := ⟨38, 0, [(4, (Bo ((t1.Kind == 2) && (t1.Body == []))))], [], ⟨0, []⟩⟩) (by kernel_rfl) (by kernel_rfl) ?_
      show AWp _ _ _ _
      refine awp_ret ?_
      cases h
      exact ares1 (rtmp rfl (eV rfl))

end Go.Proofs
