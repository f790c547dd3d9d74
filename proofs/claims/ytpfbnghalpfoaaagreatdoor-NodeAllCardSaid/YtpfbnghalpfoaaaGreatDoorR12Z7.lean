/- Pure models of functions of the program, and that its code does what they say: strconv log10Pow2, strconv bool2[int], strconv isPowerOfTwo, strconv FormatInt, strconv Itoa, strconv Itoa, node row spare$1 at a closure, api Node] at a closure, api Node] at a closure, node row spare, node row mended. Written by a program. -/
import Derived.Test.YtpfbnghalpfoaaaGreatDoorR12Z6
import Derived.Test.YtpfbnghalpfoaaaGreatDoorR12ZB
set_option maxRecDepth 20000
set_option maxHeartbeats 4000000
namespace Go.Proofs
open Go Go.Fhl
set_option linter.unusedVariables false
set_option linter.unusedSimpArgs false
noncomputable def M_internal_strconv_log10Pow2 (t0 : Int) : Option Int :=
  Option.bind (shrI (w64 (t0 * 78913)) (18 : Int)) fun (x1 : Int) => some x1
noncomputable def M_internal_strconv_bool2_int (t0 : Bool) : Option Int :=
  cond t0 (some 1) (some 0)
noncomputable def M_internal_strconv_isPowerOfTwo (t0 : Int) : Option Bool :=
  some ((andI t0 (w64 (t0 - 1))) == 0)
noncomputable def M_internal_strconv_FormatInt (t0 : Int) (t1 : Int) : Option Str :=
  cond (t1 == 10) (cond ((decide (0 ≤ t0)) && (decide (t0 < 100))) (Option.bind (M_internal_strconv_small t0) fun (x3 : Str) => some x3) (none)) (none)
theorem ok_internal_strconv_FormatInt (t0 : Int) (t1 : Int) (r : Str) (h : M_internal_strconv_FormatInt t0 t1 = some r) : FFn Tryz.prog 90 [(I t0), (I t1)] (S r) := by
  refine FFn.of_body (n := 54) Tryz.func90 rfl Tryz.ntmps90 rfl rfl rfl rfl ?_
  show AWp _ _ _ ⟨54, 0, [(0, (I t0)), (1, (I t1))], [], ⟨0, []⟩⟩
  unfold M_internal_strconv_FormatInt at h
  refine awp_seq ?_
  refine awp_region ?_
  refine arun_do rfl rfl rfl (ex_assign (eV (v := (S [])) rfl)) ?_
  refine arun_keepE [0, 1] 0 0 (st' := ⟨54, 0, [(0, (I t0)), (1, (I t1))], [], ⟨0, []⟩⟩) (by kernel_rfl) (by kernel_rfl) ?_
  show AWp _ _ _ _
  refine awp_seq ?_
  refine awp_seq ?_
  refine awp_region ?_
  refine arun_do rfl rfl rfl (ex_move (eV (v := (I t1)) rfl)) ?_
  refine arun_do rfl rfl rfl (ex_bin (vx := (I t1)) (vy := (I 10)) rfl rfl eqlI_ok) ?_
  refine arun_keepE [0, 1, 11] 0 0 (st' := ⟨54, 0, [(0, (I t0)), (1, (I t1)), (11, (Bo (t1 == 10)))], [], ⟨0, []⟩⟩) (by kernel_rfl) (by kernel_rfl) ?_
  show AWp _ _ _ _
  rcases Bool.eq_false_or_eq_true (t1 == 10) with hb1 | hb1
  · rw [condT hb1] at h
    refine awp_condT (boT hb1) ?_
    refine awp_seq ?_
    refine awp_seq ?_
    refine awp_region ?_
    refine arun_do rfl rfl rfl (ex_move (eV (v := (I t0)) rfl)) ?_
    refine arun_do rfl rfl rfl (ex_bin (vx := (I 0)) (vy := (I t0)) rfl rfl leqI_ok) ?_
    refine arun_do rfl rfl rfl (ex_move (eV (v := (Bo (decide (0 ≤ t0)))) rfl)) ?_
    refine arun_guard (v := (I t0)) ((decide (0 ≤ t0)) == true) rfl rfl rfl (fun hc => ex_move (eV (v := (I t0)) rfl)) ?_
    refine arun_guard (v := (Bo (decide (t0 < 100)))) ((decide (0 ≤ t0)) == true) rfl rfl rfl (fun hc => ex_bin (vx := (I t0)) (vy := (I 100)) (cond_of hc) rfl lssI_ok) ?_
    refine arun_do rfl rfl rfl (ex_pick rfl pkAnd) ?_
    refine arun_keepE [0, 17] 0 0 (st' := ⟨54, 0, [(0, (I t0)), (17, (Bo ((decide (0 ≤ t0)) && (decide (t0 < 100)))))], [], ⟨0, []⟩⟩) (by kernel_rfl) (by kernel_rfl) ?_
    show AWp _ _ _ _
    rcases Bool.eq_false_or_eq_true ((decide (0 ≤ t0)) && (decide (t0 < 100))) with hb2 | hb2
    · rw [condT hb2] at h
      refine awp_condT (boT hb2) ?_
      refine awp_seq ?_
      refine awp_region ?_
      refine arun_do rfl rfl rfl (ex_move (eV (v := (I t0)) rfl)) ?_
      obtain ⟨x3, hx3, h⟩ := bindS h
      refine arun_do rfl rfl rfl (ex_call0 (vs := [(I t0)]) (v := (S x3)) rfl en_93 (cargs (evs rfl evs_nil)) rfl (ok_internal_strconv_small t0 x3 hx3) rfl) ?_
      refine arun_do rfl rfl rfl (ex_assign (eV (v := (S x3)) rfl)) ?_
      refine arun_keepE [4] 0 0 (st' := ⟨54, 0, [(4, (S x3))], [], ⟨0, []⟩⟩) (by kernel_rfl) (by kernel_rfl) ?_
      show AWp _ _ _ _
      refine awp_ret ?_
      cases h
      exact ares1 (rtmp rfl (eV rfl))
    · rw [condF hb2] at h
      refine awp_condF (boF hb2) ?_
      refine awp_skip ?_
      show AWp _ _ _ _
      refine awp_seq ?_
      cases h
  · rw [condF hb1] at h
    refine awp_condF (boF hb1) ?_
    refine awp_skip ?_
    show AWp _ _ _ _
    refine awp_seq ?_
    cases h

noncomputable def M_internal_strconv_Itoa (t0 : Int) : Option Str :=
  Option.bind (M_internal_strconv_FormatInt t0 10) fun (x1 : Str) => some x1
theorem ok_internal_strconv_Itoa (t0 : Int) (r : Str) (h : M_internal_strconv_Itoa t0 = some r) : FFn Tryz.prog 82 [(I t0)] (S r) := by
  refine FFn.of_body (n := 5) Tryz.func82 rfl Tryz.ntmps82 rfl rfl rfl rfl ?_
  show AWp _ _ _ ⟨5, 0, [(0, (I t0))], [], ⟨0, []⟩⟩
  unfold M_internal_strconv_Itoa at h
  refine awp_seq ?_
  refine awp_region ?_
  refine arun_do rfl rfl rfl (ex_assign (eV (v := (S [])) rfl)) ?_
  refine arun_keepE [0] 0 0 (st' := ⟨5, 0, [(0, (I t0))], [], ⟨0, []⟩⟩) (by kernel_rfl) (by kernel_rfl) ?_
  show AWp _ _ _ _
  refine awp_seq ?_
  refine awp_region ?_
  refine arun_do rfl rfl rfl (ex_move (eV (v := (I t0)) rfl)) ?_
  obtain ⟨x1, hx1, h⟩ := bindS h
  refine arun_do rfl rfl rfl (ex_call0 (vs := [(I t0), (I 10)]) (v := (S x1)) rfl en_90 (cargs (evs rfl (evs rfl evs_nil))) rfl (ok_internal_strconv_FormatInt t0 10 x1 hx1) rfl) ?_
  refine arun_do rfl rfl rfl (ex_assign (eV (v := (S x1)) rfl)) ?_
  refine arun_keepE [2] 0 0 (st' := ⟨5, 0, [(2, (S x1))], [], ⟨0, []⟩⟩) (by kernel_rfl) (by kernel_rfl) ?_
  show AWp _ _ _ _
  refine awp_ret ?_
  cases h
  exact ares1 (rtmp rfl (eV rfl))

noncomputable def M_strconv_Itoa (t0 : Int) : Option Str :=
  Option.bind (M_internal_strconv_Itoa t0) fun (x1 : Str) => some x1
theorem ok_strconv_Itoa (t0 : Int) (r : Str) (h : M_strconv_Itoa t0 = some r) : FFn Tryz.prog 65 [(I t0)] (S r) := by
  refine FFn.of_body (n := 5) Tryz.func65 rfl Tryz.ntmps65 rfl rfl rfl rfl ?_
  show AWp _ _ _ ⟨5, 0, [(0, (I t0))], [], ⟨0, []⟩⟩
  unfold M_strconv_Itoa at h
  refine awp_seq ?_
  refine awp_region ?_
  refine arun_do rfl rfl rfl (ex_assign (eV (v := (S [])) rfl)) ?_
  refine arun_keepE [0] 0 0 (st' := ⟨5, 0, [(0, (I t0))], [], ⟨0, []⟩⟩) (by kernel_rfl) (by kernel_rfl) ?_
  show AWp _ _ _ _
  refine awp_seq ?_
  refine awp_region ?_
  refine arun_do rfl rfl rfl (ex_move (eV (v := (I t0)) rfl)) ?_
  obtain ⟨x1, hx1, h⟩ := bindS h
  refine arun_do rfl rfl rfl (ex_call0 (vs := [(I t0)]) (v := (S x1)) rfl en_82 (cargs (evs rfl evs_nil)) rfl (ok_internal_strconv_Itoa t0 x1 hx1) rfl) ?_
  refine arun_do rfl rfl rfl (ex_assign (eV (v := (S x1)) rfl)) ?_
  refine arun_keepE [2] 0 0 (st' := ⟨5, 0, [(2, (S x1))], [], ⟨0, []⟩⟩) (by kernel_rfl) (by kernel_rfl) ?_
  show AWp _ _ _ _
  refine awp_ret ?_
  cases h
  exact ares1 (rtmp rfl (eV rfl))

noncomputable def M_node_row_spare_1 (t0 : G_api_Node) (u0 : Int) : Option Bool :=
  Option.bind (M_strconv_Itoa u0) fun (x1 : Str) => some (t0.Name == x1)
theorem ok_node_row_spare_1 (t0 : G_api_Node) (u0 : Int) (r : Bool) (h : M_node_row_spare_1 t0 u0 = some r) : FFn Tryz.prog 64 [(Value.agg (c_api_Node t0).toArray), (DP [(I u0)])] (Bo r) := by
  refine FFn.of_body (n := 9) Tryz.func64 rfl Tryz.ntmps64 rfl rfl rfl rfl ?_
  show AWp _ _ _ ⟨9, 0, [(0, (Value.agg (c_api_Node t0).toArray)), (1, (DP [(I u0)]))], [], ⟨0, []⟩⟩
  unfold M_node_row_spare_1 at h
  refine awp_seq ?_
  refine awp_region ?_
  refine arun_do rfl rfl rfl (ex_box (vx := (Value.agg (c_api_Node t0).toArray)) (cs := (c_api_Node t0)) (k := 0) (L' := [(c_api_Node t0)]) (eV (v := (Value.agg (c_api_Node t0).toArray)) rfl) rfl rfl rfl) ?_
  refine arun_do rfl rfl rfl (ex_assign (eV (v := (Bo false)) rfl)) ?_
  refine arun_keepE [1, 2] 1 0 (st' := ⟨9, 0, [(1, (DP [(I u0)])), (2, (LP 0 0))], [(c_api_Node t0)], ⟨0, []⟩⟩) (by kernel_rfl) (by kernel_rfl) ?_
  show AWp _ _ _ _
  refine awp_seq ?_
  obtain ⟨x1, hx1, h⟩ := bindS h
  refine awp_kn [3] 0 0 (st' := ⟨9, 0, [(3, (Bo (t0.Name == x1)))], [], ⟨0, []⟩⟩) (awp_draw (T := [(LP 0 2), (S t0.Name), (I u0), (S x1), (Bo (t0.Name == x1)), (Bo (t0.Name == x1))]) (LH := [([(c_api_Node t0)], ⟨0, []⟩)]) (D := [⟨[(2, none)], [], [0], false⟩, ⟨[(4, some 0)], [0], [0], false⟩, ⟨[(1, none)], [], [0], false⟩, ⟨[(6, some 2)], [2], [0], false⟩, ⟨[(5, some 1), (7, some 3)], [0, 1, 2, 3], [0], false⟩, ⟨[(8, some 4)], [0, 1, 2, 3, 4], [0], false⟩]) (S := []) (plan := [0, 1, 2, 3, 4, 5]) mo (by kernel_rfl) rfl rfl rfl (dcons (dstep1 (Tm := [(2, (LP 0 0))]) (L := [(c_api_Node t0)]) (H := ⟨0, []⟩) rfl rfl rfl rfl rfl (astep_do rfl (ex_fieldAddr (v := (LP 0 2)) Tryz.underlying49 rfl s_9 (by decide) rfl rfl))) (dcons (dstep1 (Tm := [(4, (LP 0 2))]) (L := [(c_api_Node t0)]) (H := ⟨0, []⟩) rfl rfl rfl rfl rfl (astep_do rfl (tx_ldL1 (v := (S t0.Name)) Tryz.underlying9 rfl rfl rfl rfl))) (dcons (dstep1 (Tm := [(1, (DP [(I u0)]))]) (L := [(c_api_Node t0)]) (H := ⟨0, []⟩) rfl rfl rfl rfl rfl (astep_do rfl (tx_ldD1 (v := (I u0)) Tryz.underlying3 rfl rfl rfl))) (dcons (dstep1 (Tm := [(6, (I u0))]) (L := [(c_api_Node t0)]) (H := ⟨0, []⟩) rfl rfl rfl rfl rfl (astep_do rfl (ex_call0 (vs := [(I u0)]) (v := (S x1)) rfl en_65 (cargs (evs rfl evs_nil)) rfl (ok_strconv_Itoa u0 x1 hx1) rfl))) (dcons (dstep1 (Tm := [(5, (S t0.Name)), (7, (S x1))]) (L := [(c_api_Node t0)]) (H := ⟨0, []⟩) rfl rfl rfl rfl rfl (astep_do rfl (ex_bin (vx := (S t0.Name)) (vy := (S x1)) rfl rfl eqlS_ok))) (dcons (dstep1 (Tm := [(8, (Bo (t0.Name == x1)))]) (L := [(c_api_Node t0)]) (H := ⟨0, []⟩) rfl rfl rfl rfl rfl (astep_do rfl (ex_assign (eV (v := (Bo (t0.Name == x1))) rfl)))) dnil)))))) ⟨rfl, rfl⟩) (by kernel_rfl) (by kernel_rfl) ?_
  show AWp _ _ _ _
  refine awp_ret ?_
  cases h
  exact ares1 (rtmp rfl (eV rfl))

noncomputable def M_slices_IndexFunc_api_Set_api_Node_c64_l1 (t0 : (List G_api_Node)) (t1_0 : Int) : Nat → Int → Option Int
  | 0, _ => none
  | n1 + 1, v1 =>
  cond (decide (v1 < (t0.length : Int))) (Option.bind (getI t0 v1) fun (x3 : G_api_Node) => Option.bind (M_node_row_spare_1 x3 t1_0) fun (x4 : Bool) => cond x4 (some v1) ((M_slices_IndexFunc_api_Set_api_Node_c64_l1 t0 t1_0 n1) (w64 (v1 + 1)))) (some (-1))
noncomputable def M_slices_IndexFunc_api_Set_api_Node_c64 (t0 : (List G_api_Node)) (t1_0 : Int) : Option Int :=
  M_slices_IndexFunc_api_Set_api_Node_c64_l1 t0 t1_0 fuel 0
theorem ok_slices_IndexFunc_api_Set_api_Node_c64 (t0 : (List G_api_Node)) (t1_0 : Int) (r : Int) (h : M_slices_IndexFunc_api_Set_api_Node_c64 t0 t1_0 = some r) : FFn Tryz.prog 33 [(SL 5 c_api_Node t0), (Value.func (Fn.func 64) #[] #[(DP [(I t1_0)])])] (I r) := by
  refine FFn.of_body (n := 19) Tryz.func33 rfl Tryz.ntmps33 rfl rfl rfl rfl ?_
  show AWp _ _ _ ⟨19, 0, [(0, (SL 5 c_api_Node t0)), (1, (Value.func (Fn.func 64) #[] #[(DP [(I t1_0)])]))], [], ⟨0, []⟩⟩
  unfold M_slices_IndexFunc_api_Set_api_Node_c64 at h
  refine awp_seq ?_
  refine awp_region ?_
  refine arun_do rfl rfl rfl (ex_assign (eV (v := (I 0)) rfl)) ?_
  refine arun_keepE [0, 1] 0 0 (st' := ⟨19, 0, [(0, (SL 5 c_api_Node t0)), (1, (Value.func (Fn.func 64) #[] #[(DP [(I t1_0)])]))], [], ⟨0, []⟩⟩) (by kernel_rfl) (by kernel_rfl) ?_
  show AWp _ _ _ _
  refine awp_seq ?_
  refine awp_seq ?_
  refine awp_region ?_
  refine arun_do rfl rfl rfl (ex_move (eV (v := (SL 5 c_api_Node t0)) rfl)) ?_
  refine arun_do rfl rfl rfl (tx_lenD (xs := t0) ce_api_Node Tryz.underlying25 rfl) ?_
  refine arun_do rfl rfl rfl (ex_move (eV (v := (I 0)) rfl)) ?_
  refine arun_keepE [0, 1, 7, 8] 0 0 (st' := ⟨19, 0, [(0, (SL 5 c_api_Node t0)), (1, (Value.func (Fn.func 64) #[] #[(DP [(I t1_0)])])), (7, (I (t0.length : Int))), (8, (I 0))], [], ⟨0, []⟩⟩) (by kernel_rfl) (by kernel_rfl) ?_
  show AWp _ _ _ _
  refine awp_block ?_
  refine awp_loop (fun n s => ∃ (v1 : Int), s = ⟨19, 0, [(0, (SL 5 c_api_Node t0)), (1, (Value.func (Fn.func 64) #[] #[(DP [(I t1_0)])])), (7, (I (t0.length : Int))), (8, (I v1))], [], ⟨0, []⟩⟩ ∧ M_slices_IndexFunc_api_Set_api_Node_c64_l1 t0 t1_0 n v1 = some r) fuel (Exists.intro 0 (And.intro rfl h)) ?_
  rintro n s ⟨v1, rfl, h⟩ -
  cases n with
  | zero => cases h
  | succ n1 =>
    unfold M_slices_IndexFunc_api_Set_api_Node_c64_l1 at h
    refine awp_seq ?_
    refine awp_region ?_
    refine arun_do rfl rfl rfl (ex_bin (vx := (I v1)) (vy := (I (t0.length : Int))) rfl rfl lssI_ok) ?_
    refine arun_keepE [0, 1, 7, 8, 9] 0 0 (st' := ⟨19, 0, [(0, (SL 5 c_api_Node t0)), (1, (Value.func (Fn.func 64) #[] #[(DP [(I t1_0)])])), (7, (I (t0.length : Int))), (8, (I v1)), (9, (Bo (decide (v1 < (t0.length : Int)))))], [], ⟨0, []⟩⟩) (by kernel_rfl) (by kernel_rfl) ?_
    show AWp _ _ _ _
    refine awp_seq ?_
    rcases Bool.eq_false_or_eq_true (decide (v1 < (t0.length : Int))) with hb2 | hb2
    · rw [condT hb2] at h
      refine awp_condT (boT hb2) ?_
      refine awp_skip ?_
      show AWp _ _ _ _
      refine awp_seq ?_
      refine awp_block ?_
      refine awp_seq ?_
      refine awp_region ?_
      refine arun_do rfl rfl rfl (ex_move (eV (v := (I v1)) rfl)) ?_
      refine arun_do rfl rfl rfl (ex_assign (eV (v := (I v1)) rfl)) ?_
      refine arun_keepE [0, 1, 5, 7, 8] 0 0 (st' := ⟨19, 0, [(0, (SL 5 c_api_Node t0)), (1, (Value.func (Fn.func 64) #[] #[(DP [(I t1_0)])])), (5, (I v1)), (7, (I (t0.length : Int))), (8, (I v1))], [], ⟨0, []⟩⟩) (by kernel_rfl) (by kernel_rfl) ?_
      show AWp _ _ _ _
      refine awp_seq ?_
      refine awp_region ?_
      refine arun_do rfl rfl rfl (ex_move (eV (v := (Value.func (Fn.func 64) #[] #[(DP [(I t1_0)])])) rfl)) ?_
      refine arun_do rfl rfl rfl (ex_move (eV (v := (SL 5 c_api_Node t0)) rfl)) ?_
      refine arun_do rfl rfl rfl (ex_move (eV (v := (I v1)) rfl)) ?_
      obtain ⟨x3, hx3, h⟩ := bindS h
      refine arun_do rfl rfl rfl (tx_idxD (c := c_api_Node) (xs := t0) (i := v1) ce_api_Node Tryz.underlying25 s_49 rfl rfl hx3) ?_
      refine arun_do rfl rfl rfl (tx_ldDA (vs := (c_api_Node x3)) Tryz.underlying49 rfl s_49 (by decide) rfl (Nat.le_of_ble_eq_true rfl) rfl) ?_
      obtain ⟨x4, hx4, h⟩ := bindS h
      refine arun_do rfl rfl rfl (ex_callA (vs := [(Value.agg (c_api_Node x3).toArray), (DP [(I t1_0)])]) (v := (Bo x4)) rfl en_64 (cargsC (us := [(Value.agg (c_api_Node x3).toArray)]) (evs rfl evs_nil) rfl) rfl (ok_node_row_spare_1 x3 t1_0 x4 hx4) rfl) ?_
      refine arun_keepE [0, 1, 5, 7, 8, 16] 0 0 (st' := ⟨19, 0, [(0, (SL 5 c_api_Node t0)), (1, (Value.func (Fn.func 64) #[] #[(DP [(I t1_0)])])), (5, (I v1)), (7, (I (t0.length : Int))), (8, (I v1)), (16, (Bo x4))], [], ⟨0, []⟩⟩) (by kernel_rfl) (by kernel_rfl) ?_
      show AWp _ _ _ _
      rcases Bool.eq_false_or_eq_true x4 with hb5 | hb5
      · rw [condT hb5] at h
        refine awp_condT (boT hb5) ?_
        refine awp_seq ?_
        refine awp_region ?_
        refine arun_do rfl rfl rfl (ex_move (eV (v := (I v1)) rfl)) ?_
        refine arun_do rfl rfl rfl (ex_assign (eV (v := (I v1)) rfl)) ?_
        refine arun_keepE [4] 0 0 (st' := ⟨19, 0, [(4, (I v1))], [], ⟨0, []⟩⟩) (by kernel_rfl) (by kernel_rfl) ?_
        show AWp _ _ _ _
        refine awp_ret ?_
        cases h
        exact ares1 (rtmp rfl (eV rfl))
      · rw [condF hb5] at h
        refine awp_condF (boF hb5) ?_
        refine awp_skip ?_
        show AWp _ _ _ _
        refine awp_region ?_
        refine arun_do rfl rfl rfl (ex_bin (vx := (I v1)) (vy := (I 1)) rfl rfl addI_ok) ?_
        refine arun_do rfl rfl rfl (ex_move (eV (v := (I (w64 (v1 + 1)))) rfl)) ?_
        refine arun_keepE [0, 1, 7, 8] 0 0 (st' := ⟨19, 0, [(0, (SL 5 c_api_Node t0)), (1, (Value.func (Fn.func 64) #[] #[(DP [(I t1_0)])])), (7, (I (t0.length : Int))), (8, (I (w64 (v1 + 1))))], [], ⟨0, []⟩⟩) (by kernel_rfl) (by kernel_rfl) ?_
        exact Exists.intro n1 (And.intro (Nat.lt_succ_self _) (Exists.intro (w64 (v1 + 1)) (And.intro rfl h)))
    · rw [condF hb2] at h
      refine awp_condF (boF hb2) ?_
      refine awp_exit ?_
      show AWp _ _ _ _
      refine awp_seq ?_
      refine awp_region ?_
      refine arun_do rfl rfl rfl (ex_assign (eV (v := (I (-1))) rfl)) ?_
      refine arun_keepE [4] 0 0 (st' := ⟨19, 0, [(4, (I (-1)))], [], ⟨0, []⟩⟩) (by kernel_rfl) (by kernel_rfl) ?_
      show AWp _ _ _ _
      refine awp_ret ?_
      cases h
      exact ares1 (rtmp rfl (eV rfl))

noncomputable def M_slices_ContainsFunc_api_Set_api_Node_c64 (t0 : (List G_api_Node)) (t1_0 : Int) : Option Bool :=
  Option.bind (M_slices_IndexFunc_api_Set_api_Node_c64 t0 t1_0) fun (x1 : Int) => some (decide (x1 ≥ 0))
theorem ok_slices_ContainsFunc_api_Set_api_Node_c64 (t0 : (List G_api_Node)) (t1_0 : Int) (r : Bool) (h : M_slices_ContainsFunc_api_Set_api_Node_c64 t0 t1_0 = some r) : FFn Tryz.prog 63 [(SL 5 c_api_Node t0), (Value.func (Fn.func 64) #[] #[(DP [(I t1_0)])])] (Bo r) := by
  refine FFn.of_body (n := 9) Tryz.func63 rfl Tryz.ntmps63 rfl rfl rfl rfl ?_
  show AWp _ _ _ ⟨9, 0, [(0, (SL 5 c_api_Node t0)), (1, (Value.func (Fn.func 64) #[] #[(DP [(I t1_0)])]))], [], ⟨0, []⟩⟩
  unfold M_slices_ContainsFunc_api_Set_api_Node_c64 at h
  refine awp_seq ?_
  refine awp_region ?_
  refine arun_do rfl rfl rfl (ex_assign (eV (v := (Bo false)) rfl)) ?_
  refine arun_keepE [0, 1] 0 0 (st' := ⟨9, 0, [(0, (SL 5 c_api_Node t0)), (1, (Value.func (Fn.func 64) #[] #[(DP [(I t1_0)])]))], [], ⟨0, []⟩⟩) (by kernel_rfl) (by kernel_rfl) ?_
  show AWp _ _ _ _
  refine awp_seq ?_
  refine awp_region ?_
  refine arun_do rfl rfl rfl (ex_move (eV (v := (SL 5 c_api_Node t0)) rfl)) ?_
  refine arun_do rfl rfl rfl (ex_move (eV (v := (Value.func (Fn.func 64) #[] #[(DP [(I t1_0)])])) rfl)) ?_
  obtain ⟨x1, hx1, h⟩ := bindS h
  refine arun_do rfl rfl rfl (ex_callA (vs := [(SL 5 c_api_Node t0), (Value.func (Fn.func 64) #[] #[(DP [(I t1_0)])])]) (v := (I x1)) rfl en_33 (cargs (evs rfl (evs rfl evs_nil))) rfl (ok_slices_IndexFunc_api_Set_api_Node_c64 t0 t1_0 x1 hx1) rfl) ?_
  refine arun_do rfl rfl rfl (ex_bin (vx := (I x1)) (vy := (I 0)) rfl rfl geqI_ok) ?_
  refine arun_do rfl rfl rfl (ex_assign (eV (v := (Bo (decide (x1 ≥ 0)))) rfl)) ?_
  refine arun_keepE [4] 0 0 (st' := ⟨9, 0, [(4, (Bo (decide (x1 ≥ 0))))], [], ⟨0, []⟩⟩) (by kernel_rfl) (by kernel_rfl) ?_
  show AWp _ _ _ _
  refine awp_ret ?_
  cases h
  exact ares1 (rtmp rfl (eV rfl))

noncomputable def M_node_row_spare_k1 (y1 : Int) : Option Str :=
  Option.bind (M_strconv_Itoa y1) fun (x5 : Str) => some x5
noncomputable def M_node_row_spare_l1 (t0 : G_node_row) : Nat → Int → Option Str
  | 0, _ => none
  | n1 + 1, v2 =>
  Option.bind (M_slices_ContainsFunc_api_Set_api_Node_c64 t0.Set v2) fun (x3 : Bool) => cond x3 ((M_node_row_spare_l1 t0 n1) (w64 (v2 + 1))) (M_node_row_spare_k1 v2)
noncomputable def M_node_row_spare (t0 : G_node_row) : Option Str :=
  M_node_row_spare_l1 t0 fuel 0
theorem ok_node_row_spare (t0 : G_node_row) (r : Str) (h : M_node_row_spare t0 = some r) : FFn Tryz.prog 49 [(Value.agg (c_node_row t0).toArray)] (S r) := by
  refine FFn.of_body (n := 12) Tryz.func49 rfl Tryz.ntmps49 rfl rfl rfl rfl ?_
  show AWp _ _ _ ⟨12, 0, [(0, (Value.agg (c_node_row t0).toArray))], [], ⟨0, []⟩⟩
  unfold M_node_row_spare at h
  refine awp_seq ?_
  refine awp_region ?_
  refine arun_do rfl rfl rfl (ex_box (vx := (Value.agg (c_node_row t0).toArray)) (cs := (c_node_row t0)) (k := 0) (L' := [(c_node_row t0)]) (eV (v := (Value.agg (c_node_row t0).toArray)) rfl) rfl rfl rfl) ?_
  refine arun_do rfl rfl rfl (ex_assign (eV (v := (S [])) rfl)) ?_
  refine arun_keepE [1] 1 0 (st' := ⟨12, 0, [(1, (LP 0 0))], [(c_node_row t0)], ⟨0, []⟩⟩) (by kernel_rfl) (by kernel_rfl) ?_
  show AWp _ _ _ _
  refine awp_seq ?_
  refine awp_region ?_
  refine arun_do rfl rfl rfl (ex_allocH (k := 0) (zs := [(I 0)]) (H' := ⟨1, [(0, ⟨1, [(I 0)], false⟩)]⟩) z_3 rfl rfl rfl rfl) ?_
  refine arun_do0 rfl rfl (ex_storeF (vy := (I 0)) (b := ⟨1, [(I 0)], false⟩) (vs := [(I 0)]) (H' := ⟨1, [(0, ⟨1, [(I 0)], false⟩)]⟩) rfl (eV (v := (I 0)) rfl) rfl s_3 rfl rfl (Nat.le_of_ble_eq_true rfl) rfl (by simp) (by kernel_rfl)) ?_
  refine arun_keepE [1, 3] 1 1 (st' := ⟨12, 0, [(1, (LP 0 0)), (3, (NP 0 0))], [(c_node_row t0)], ⟨1, [(0, ⟨1, [(I 0)], false⟩)]⟩⟩) (by kernel_rfl) (by kernel_rfl) ?_
  show AWp _ _ _ _
  refine awp_seqJ (fun s => ∃ (y1 : Int), s = ⟨12, 0, [(3, (NP 0 0))], [], ⟨1, [(0, ⟨1, [(I y1)], false⟩)]⟩⟩ ∧ M_node_row_spare_k1 y1 = some r) ?_ ?_
  · refine awp_block ?_
    refine awp_loop (fun n s => ∃ (v2 : Int), s = ⟨12, 0, [(1, (LP 0 0)), (3, (NP 0 0))], [(c_node_row t0)], ⟨1, [(0, ⟨1, [(I v2)], false⟩)]⟩⟩ ∧ M_node_row_spare_l1 t0 n v2 = some r) fuel (Exists.intro 0 (And.intro rfl h)) ?_
    rintro n s ⟨v2, rfl, h⟩ -
    cases n with
    | zero => cases h
    | succ n1 =>
      unfold M_node_row_spare_l1 at h
      refine awp_seq ?_
      refine awp_seq ?_
      refine awp_region ?_
      refine arun_do rfl rfl rfl (ex_fieldAddr (v := (LP 0 0)) Tryz.underlying52 rfl s_25 (by decide) rfl rfl) ?_
      refine arun_do rfl rfl rfl (tx_ldL1 (v := (SL 5 c_api_Node t0.Set)) Tryz.underlying25 rfl rfl rfl rfl) ?_
      refine arun_do rfl rfl rfl (ex_makeFunc (vs := [(NP 0 0)]) rfl rfl) ?_
      obtain ⟨x3, hx3, h⟩ := bindS h
      refine arun_do rfl rfl rfl (ex_callB (vs := [(SL 5 c_api_Node t0.Set), (Value.func (Fn.func 64) #[] #[(NP 0 0)])]) (vs' := [(SL 5 c_api_Node t0.Set), (Value.func (Fn.func 64) #[] #[(DP [(I v2)])])]) (v := (Bo x3)) (n := 0) (b := ⟨1, [(I v2)], false⟩) rfl en_63 (cargs (evs rfl (evs rfl evs_nil))) rfl (.cons (.inl rfl) (.cons (.inr (.inr (.inr (.inr ⟨_, _, _, rfl, rfl, (.cons (.inr ⟨_, rfl, rfl⟩) .nil)⟩)))) .nil)) rfl (ok_slices_ContainsFunc_api_Set_api_Node_c64 t0.Set v2 x3 hx3) rfl) ?_
      refine arun_keepE [1, 3, 7] 1 1 (st' := ⟨12, 0, [(1, (LP 0 0)), (3, (NP 0 0)), (7, (Bo x3))], [(c_node_row t0)], ⟨1, [(0, ⟨1, [(I v2)], false⟩)]⟩⟩) (by kernel_rfl) (by kernel_rfl) ?_
      show AWp _ _ _ _
      rcases Bool.eq_false_or_eq_true x3 with hb4 | hb4
      · rw [condT hb4] at h
        refine awp_condT (boT hb4) ?_
        refine awp_skip ?_
        show AWp _ _ _ _
        refine awp_block ?_
        refine awp_region ?_
        refine arun_do rfl rfl rfl (tx_ldF (v := (I v2)) (s := 1) rfl rfl (part1 Tryz.underlying3 rfl rfl)) ?_
        refine arun_do rfl rfl rfl (ex_bin (vx := (I v2)) (vy := (I 1)) rfl rfl addI_ok) ?_
        refine arun_do0 rfl rfl (ex_storeF (vy := (I (w64 (v2 + 1)))) (b := ⟨1, [(I v2)], false⟩) (vs := [(I (w64 (v2 + 1)))]) (H' := ⟨1, [(0, ⟨1, [(I (w64 (v2 + 1)))], false⟩)]⟩) rfl (eV (v := (I (w64 (v2 + 1)))) rfl) rfl s_3 rfl rfl (Nat.le_of_ble_eq_true rfl) rfl (by simp) (by kernel_rfl)) ?_
        refine arun_keepE [1, 3] 1 1 (st' := ⟨12, 0, [(1, (LP 0 0)), (3, (NP 0 0))], [(c_node_row t0)], ⟨1, [(0, ⟨1, [(I (w64 (v2 + 1)))], false⟩)]⟩⟩) (by kernel_rfl) (by kernel_rfl) ?_
        exact Exists.intro n1 (And.intro (Nat.lt_succ_self _) (Exists.intro (w64 (v2 + 1)) (And.intro rfl h)))
      · rw [condF hb4] at h
        refine awp_condF (boF hb4) ?_
        refine awp_keepE [3] 0 1 (st' := ⟨12, 0, [(3, (NP 0 0))], [], ⟨1, [(0, ⟨1, [(I v2)], false⟩)]⟩⟩) (by kernel_rfl) (by kernel_rfl) ?_
        refine awp_exit ?_
        exact (Exists.intro v2 (And.intro rfl h))
  · rintro s ⟨y1, rfl, h⟩
    unfold M_node_row_spare_k1 at h
    refine awp_seq ?_
    refine awp_region ?_
    refine arun_do rfl rfl rfl (tx_ldF (v := (I y1)) (s := 1) rfl rfl (part1 Tryz.underlying3 rfl rfl)) ?_
    obtain ⟨x5, hx5, h⟩ := bindS h
    refine arun_do rfl rfl rfl (ex_call0 (vs := [(I y1)]) (v := (S x5)) rfl en_65 (cargs (evs rfl evs_nil)) rfl (ok_strconv_Itoa y1 x5 hx5) rfl) ?_
    refine arun_do rfl rfl rfl (ex_assign (eV (v := (S x5)) rfl)) ?_
    refine arun_keepE [2] 0 0 (st' := ⟨12, 0, [(2, (S x5))], [], ⟨0, []⟩⟩) (by kernel_rfl) (by kernel_rfl) ?_
    show AWp _ _ _ _
    refine awp_ret ?_
    cases h
    exact ares1 (rtmp rfl (eV rfl))

noncomputable def M_node_row_mended_k1 (c_1 : (Int → List G_api_Node → Option G_node_row)) (t0 : G_node_row) (x1 : (List G_api_Node)) (v2 : Int) (y5 : List G_api_Node) : Option G_node_row :=
  c_1 (w64 (v2 + 1)) y5
noncomputable def M_node_row_mended_l1 (t0 : G_node_row) (x1 : (List G_api_Node)) : Nat → Int → List G_api_Node → Option G_node_row
  | 0, _, _ => none
  | n1 + 1, v2, v3 =>
  cond (decide (v2 < ((x1.length : Nat) : Int))) (Option.bind (getI v3 v2) fun (x6 : G_api_Node) => cond (((x6.Kind == 1) && (decide (x6.Bad > 0))) && (decide (x6.Bad ≤ 15))) (Option.bind (getI v3 v2) fun (x8 : G_api_Node) => Option.bind (setI v3 v2 (G_api_Node.mk x8.Kind x8.Up x8.Name x8.Body 0)) fun (x9 : List G_api_Node) => M_node_row_mended_k1 (M_node_row_mended_l1 t0 x1 n1) t0 x1 v2 x9) (cond ((decide (x6 = (G_api_Node.mk 3 0 [] [] 0))) && (decide (v2 > 0))) (Option.bind (M_node_row_spare (G_node_row.mk v3)) fun (x11 : Str) => Option.bind (getI v3 v2) fun (x12 : G_api_Node) => Option.bind (setI v3 v2 (G_api_Node.mk 2 0 x11 [] 0)) fun (x13 : List G_api_Node) => M_node_row_mended_k1 (M_node_row_mended_l1 t0 x1 n1) t0 x1 v2 x13) (M_node_row_mended_k1 (M_node_row_mended_l1 t0 x1 n1) t0 x1 v2 v3))) (some (G_node_row.mk v3))
noncomputable def M_node_row_mended (t0 : G_node_row) : Option G_node_row :=
  Option.bind (M_slices_Clone_api_Set_api_Node t0.Set) fun (x1 : (List G_api_Node)) => M_node_row_mended_l1 t0 x1 fuel 0 x1
theorem ok_node_row_mended (t0 : G_node_row) (r : G_node_row) (h : M_node_row_mended t0 = some r) : FFn Tryz.prog 29 [(Value.agg (c_node_row t0).toArray)] (Value.agg (c_node_row r).toArray) := by
  refine FFn.of_body (n := 54) Tryz.func29 rfl Tryz.ntmps29 rfl rfl rfl rfl ?_
  show AWp _ _ _ ⟨54, 0, [(0, (Value.agg (c_node_row t0).toArray))], [], ⟨0, []⟩⟩
  unfold M_node_row_mended at h
  refine awp_seq ?_
  refine awp_region ?_
  refine arun_do rfl rfl rfl (ex_box (vx := (Value.agg (c_node_row t0).toArray)) (cs := (c_node_row t0)) (k := 0) (L' := [(c_node_row t0)]) (eV (v := (Value.agg (c_node_row t0).toArray)) rfl) rfl rfl rfl) ?_
  refine arun_do rfl rfl rfl (ex_allocW (k := 1) (zs := (c_node_row (G_node_row.mk []))) (L' := [(c_node_row t0), (c_node_row (G_node_row.mk []))]) z_52 rfl (by repeat (first | exact trivial | refine ⟨.inl rfl, ?_⟩ | refine ⟨.inr ⟨rfl, _, rfl⟩, ?_⟩)) rfl rfl) ?_
  refine arun_keepE [1, 2] 2 0 (st' := ⟨54, 0, [(1, (LP 0 0)), (2, (LP 1 0))], [(c_node_row t0), (c_node_row (G_node_row.mk []))], ⟨0, []⟩⟩) (by kernel_rfl) (by kernel_rfl) ?_
  show AWp _ _ _ _
  refine awp_seq ?_
  refine awp_region ?_
  refine arun_do rfl rfl rfl (ex_fieldAddr (v := (LP 0 0)) Tryz.underlying52 rfl s_25 (by decide) rfl rfl) ?_
  refine arun_do rfl rfl rfl (tx_ldL1 (v := (SL 5 c_api_Node t0.Set)) Tryz.underlying25 rfl rfl rfl rfl) ?_
  obtain ⟨x1, hx1, h⟩ := bindS h
  refine arun_do rfl rfl rfl (ex_callOw (vs := [(SL 5 c_api_Node t0.Set)]) (k := 0) (len := x1.length) (b := ⟨5, ((x1).flatMap c_api_Node), true⟩) (H' := ⟨1, [(0, ⟨5, ((x1).flatMap c_api_Node), true⟩)]⟩) rfl en_48 (cargs (evs rfl evs_nil)) rfl (okw_slices_Clone_api_Set_api_Node t0.Set x1 hx1) rfl rfl) ?_
  refine arun_do rfl rfl rfl (ex_build (qs := [(0, (GV 0 x1.length))]) (v := (Value.agg ([(GV 0 x1.length)]).toArray)) (evp rfl evp_nil) (by kernel_rfl)) ?_
  refine arun_do rfl rfl rfl (ex_alloc (k := 2) (zs := ([(Value.slice none 0 0)])) (L' := [(c_node_row t0), (c_node_row (G_node_row.mk [])), ([(Value.slice none 0 0)])]) z_52 rfl rfl rfl rfl) ?_
  refine arun_do0 rfl rfl (ex_storeL (vy := (Value.agg ([(GV 0 x1.length)]).toArray)) (cs := ([(Value.slice none 0 0)])) (vs := ([(GV 0 x1.length)])) (L' := [(c_node_row t0), (c_node_row (G_node_row.mk [])), ([(GV 0 x1.length)])]) rfl (eV (v := (Value.agg ([(GV 0 x1.length)]).toArray)) rfl) rfl s_52 rfl (Nat.le_of_ble_eq_true rfl) (by kernel_rfl)) ?_
  refine arun_keepE [2, 3] 3 1 (st' := ⟨54, 0, [(2, (LP 1 0)), (3, (LP 2 0))], [(c_node_row t0), (c_node_row (G_node_row.mk [])), ([(GV 0 x1.length)])], ⟨1, [(0, ⟨5, ((x1).flatMap c_api_Node), true⟩)]⟩⟩) (by kernel_rfl) (by kernel_rfl) ?_
  show AWp _ _ _ _
  refine awp_seq ?_
  refine awp_seq ?_
  refine awp_region ?_
  refine arun_do rfl rfl rfl (ex_fieldAddr (v := (LP 2 0)) Tryz.underlying52 rfl s_25 (by decide) rfl rfl) ?_
  refine arun_do rfl rfl rfl (tx_ldL1 (v := (GV 0 x1.length)) Tryz.underlying25 rfl rfl rfl rfl) ?_
  refine arun_do rfl rfl rfl (ex_lenN (n := x1.length) Tryz.underlying25 rfl) ?_
  refine arun_do rfl rfl rfl (ex_move (eV (v := (I 0)) rfl)) ?_
  refine arun_keepE [2, 3, 11, 12, 13] 3 1 (st' := ⟨54, 0, [(2, (LP 1 0)), (3, (LP 2 0)), (11, (GV 0 x1.length)), (12, (I ((x1.length : Nat) : Int))), (13, (I 0))], [(c_node_row t0), (c_node_row (G_node_row.mk [])), ([(GV 0 x1.length)])], ⟨1, [(0, ⟨5, ((x1).flatMap c_api_Node), true⟩)]⟩⟩) (by kernel_rfl) (by kernel_rfl) ?_
  show AWp _ _ _ _
  refine awp_block ?_
  refine awp_loop (fun n s => ∃ (v2 : Int) (v3 : List G_api_Node), s = ⟨54, 0, [(2, (LP 1 0)), (3, (LP 2 0)), (11, (GV 0 v3.length)), (12, (I ((x1.length : Nat) : Int))), (13, (I v2))], [(c_node_row t0), (c_node_row (G_node_row.mk [])), ([(GV 0 v3.length)])], ⟨1, [(0, ⟨5, ((v3).flatMap c_api_Node), true⟩)]⟩⟩ ∧ M_node_row_mended_l1 t0 x1 n v2 v3 = some r) fuel (Exists.intro 0 (Exists.intro x1 (And.intro rfl h))) ?_
  rintro n s ⟨v2, v3, rfl, h⟩ -
  cases n with
  | zero => cases h
  | succ n1 =>
    unfold M_node_row_mended_l1 at h
    refine awp_seq ?_
    refine awp_region ?_
    refine arun_do rfl rfl rfl (ex_bin (vx := (I v2)) (vy := (I ((x1.length : Nat) : Int))) rfl rfl lssI_ok) ?_
    refine arun_keepE [2, 3, 11, 12, 13, 14] 3 1 (st' := ⟨54, 0, [(2, (LP 1 0)), (3, (LP 2 0)), (11, (GV 0 v3.length)), (12, (I ((x1.length : Nat) : Int))), (13, (I v2)), (14, (Bo (decide (v2 < ((x1.length : Nat) : Int)))))], [(c_node_row t0), (c_node_row (G_node_row.mk [])), ([(GV 0 v3.length)])], ⟨1, [(0, ⟨5, ((v3).flatMap c_api_Node), true⟩)]⟩⟩) (by kernel_rfl) (by kernel_rfl) ?_
    show AWp _ _ _ _
    refine awp_seq ?_
    rcases Bool.eq_false_or_eq_true (decide (v2 < ((x1.length : Nat) : Int))) with hb4 | hb4
    · rw [condT hb4] at h
      refine awp_condT (boT hb4) ?_
      refine awp_skip ?_
      show AWp _ _ _ _
      refine awp_seqJ (fun s => ∃ (y5 : List G_api_Node), s = ⟨54, 0, [(2, (LP 1 0)), (3, (LP 2 0)), (11, (GV 0 y5.length)), (12, (I ((x1.length : Nat) : Int))), (13, (I v2))], [(c_node_row t0), (c_node_row (G_node_row.mk [])), ([(GV 0 y5.length)])], ⟨1, [(0, ⟨5, ((y5).flatMap c_api_Node), true⟩)]⟩⟩ ∧ M_node_row_mended_k1 (M_node_row_mended_l1 t0 x1 n1) t0 x1 v2 y5 = some r) ?_ ?_
      · refine awp_block ?_
        refine awp_seq ?_
        refine awp_region ?_
        refine arun_do rfl rfl rfl (ex_move (eV (v := (I v2)) rfl)) ?_
        obtain ⟨x6, hx6, h⟩ := bindS h
        refine arun_do rfl rfl rfl (tx_idxG (c := c_api_Node) (xs := v3) (i := v2) ce_api_Node Tryz.underlying25 s_49 rfl rfl rfl rfl hx6) ?_
        refine arun_do rfl rfl rfl (tx_ldG (v := (Value.agg (c_api_Node x6).toArray)) (s := 5) rfl rfl (part_elemA (off := 0) (vs := (c_api_Node x6)) ce_api_Node hx6 Tryz.underlying49 rfl s_49 (by decide) (by decide) rfl)) ?_
        refine arun_do rfl rfl rfl (ex_alloc (k := 3) (zs := (c_api_Node (G_api_Node.mk 0 0 [] [] 0))) (L' := [(c_node_row t0), (c_node_row (G_node_row.mk [])), ([(GV 0 v3.length)]), (c_api_Node (G_api_Node.mk 0 0 [] [] 0))]) z_49 rfl rfl rfl rfl) ?_
        refine arun_do rfl rfl rfl (ex_assign (eV (v := (I v2)) rfl)) ?_
        refine arun_do0 rfl rfl (ex_storeL (vy := (Value.agg (c_api_Node x6).toArray)) (cs := (c_api_Node (G_api_Node.mk 0 0 [] [] 0))) (vs := (c_api_Node x6)) (L' := [(c_node_row t0), (c_node_row (G_node_row.mk [])), ([(GV 0 v3.length)]), (c_api_Node x6)]) rfl (eV (v := (Value.agg (c_api_Node x6).toArray)) rfl) rfl s_49 rfl (Nat.le_of_ble_eq_true rfl) (by kernel_rfl)) ?_
        refine arun_keepE [2, 3, 4, 5, 11, 12, 13] 4 1 (st' := ⟨54, 0, [(2, (LP 1 0)), (3, (LP 2 0)), (4, (I v2)), (5, (LP 3 0)), (11, (GV 0 v3.length)), (12, (I ((x1.length : Nat) : Int))), (13, (I v2))], [(c_node_row t0), (c_node_row (G_node_row.mk [])), ([(GV 0 v3.length)]), (c_api_Node x6)], ⟨1, [(0, ⟨5, ((v3).flatMap c_api_Node), true⟩)]⟩⟩) (by kernel_rfl) (by kernel_rfl) ?_
        show AWp _ _ _ _
        refine awp_block ?_
        refine awp_seq ?_
        refine awp_region ?_
        refine arun_do rfl rfl rfl (ex_fieldAddr (v := (LP 3 0)) Tryz.underlying49 rfl s_3 (by decide) rfl rfl) ?_
        refine arun_do rfl rfl rfl (tx_ldL1 (v := (I x6.Kind)) Tryz.underlying3 rfl rfl rfl rfl) ?_
        refine arun_do rfl rfl rfl (ex_bin (vx := (I x6.Kind)) (vy := (I 1)) rfl rfl eqlI_ok) ?_
        refine arun_do rfl rfl rfl (ex_move (eV (v := (Bo (x6.Kind == 1))) rfl)) ?_
        refine arun_guard (v := (LP 3 4)) ((x6.Kind == 1) == true) rfl rfl rfl (fun hc => ex_fieldAddr (v := (LP 3 4)) Tryz.underlying49 rfl s_3 (by decide) rfl rfl) ?_
        refine arun_guard (v := (I x6.Bad)) ((x6.Kind == 1) == true) rfl rfl rfl (fun hc => tx_ldL1 (v := (I x6.Bad)) Tryz.underlying3 rfl (cond_of hc) rfl rfl) ?_
        refine arun_guard (v := (Bo (decide (x6.Bad > 0)))) ((x6.Kind == 1) == true) rfl rfl rfl (fun hc => ex_bin (vx := (I x6.Bad)) (vy := (I 0)) (cond_of hc) rfl gtrI_ok) ?_
        refine arun_do rfl rfl rfl (ex_pick rfl pkAnd) ?_
        refine arun_do rfl rfl rfl (ex_move (eV (v := (Bo ((x6.Kind == 1) && (decide (x6.Bad > 0))))) rfl)) ?_
        refine arun_guard (v := (LP 3 4)) (((x6.Kind == 1) && (decide (x6.Bad > 0))) == true) rfl rfl rfl (fun hc => ex_fieldAddr (v := (LP 3 4)) Tryz.underlying49 rfl s_3 (by decide) rfl rfl) ?_
        refine arun_guard (v := (I x6.Bad)) (((x6.Kind == 1) && (decide (x6.Bad > 0))) == true) rfl rfl rfl (fun hc => tx_ldL1 (v := (I x6.Bad)) Tryz.underlying3 rfl (cond_of hc) rfl rfl) ?_
        refine arun_guard (v := (Bo (decide (x6.Bad ≤ 15)))) (((x6.Kind == 1) && (decide (x6.Bad > 0))) == true) rfl rfl rfl (fun hc => ex_bin (vx := (I x6.Bad)) (vy := (I 15)) (cond_of hc) rfl leqI_ok) ?_
        refine arun_do rfl rfl rfl (ex_pick rfl pkAnd) ?_
        refine arun_do rfl rfl rfl (ex_assign (eV (v := (Bo (((x6.Kind == 1) && (decide (x6.Bad > 0))) && (decide (x6.Bad ≤ 15))))) rfl)) ?_
        refine arun_keepE [2, 3, 4, 5, 11, 12, 13, 18] 4 1 (st' := ⟨54, 0, [(2, (LP 1 0)), (3, (LP 2 0)), (4, (I v2)), (5, (LP 3 0)), (11, (GV 0 v3.length)), (12, (I ((x1.length : Nat) : Int))), (13, (I v2)), (18, (Bo (((x6.Kind == 1) && (decide (x6.Bad > 0))) && (decide (x6.Bad ≤ 15)))))], [(c_node_row t0), (c_node_row (G_node_row.mk [])), ([(GV 0 v3.length)]), (c_api_Node x6)], ⟨1, [(0, ⟨5, ((v3).flatMap c_api_Node), true⟩)]⟩⟩) (by kernel_rfl) (by kernel_rfl) ?_
        show AWp _ _ _ _
        rcases Bool.eq_false_or_eq_true (((x6.Kind == 1) && (decide (x6.Bad > 0))) && (decide (x6.Bad ≤ 15))) with hb7 | hb7
        · rw [condT hb7] at h
          refine awp_condT (boT hb7) ?_
          refine awp_region ?_
          refine arun_do rfl rfl rfl (ex_fieldAddr (v := (LP 2 0)) Tryz.underlying52 rfl s_25 (by decide) rfl rfl) ?_
          refine arun_do rfl rfl rfl (tx_ldL1 (v := (GV 0 v3.length)) Tryz.underlying25 rfl rfl rfl rfl) ?_
          refine arun_do rfl rfl rfl (ex_move (eV (v := (I v2)) rfl)) ?_
          obtain ⟨x8, hx8, h⟩ := bindS h
          refine arun_do rfl rfl rfl (tx_idxG (c := c_api_Node) (xs := v3) (i := v2) ce_api_Node Tryz.underlying25 s_49 rfl rfl rfl rfl hx8) ?_
          refine arun_do rfl rfl rfl (ex_fieldAddr (v := (GP 0 ((v2.toNat * 5) + 4) (List.flatMap c_api_Node v3).length)) Tryz.underlying49 rfl s_3 (by decide) rfl rfl) ?_
          obtain ⟨x9, hx9, h⟩ := bindS h
          refine arun_do0 rfl rfl (tx_stGp (c := c_api_Node) (xs := v3) (e := x8) (e' := (G_api_Node.mk x8.Kind x8.Up x8.Name x8.Body 0)) (off := 4) (vs := [(I 0)]) (H' := ⟨1, [(0, ⟨5, ((x9).flatMap c_api_Node), true⟩)]⟩) ce_api_Node s_3 rfl (by first | rfl | omega) (eV (v := (I 0)) rfl) rfl rfl hx8 (Nat.le_of_ble_eq_true rfl) (by kernel_rfl) rfl (List.cons_ne_nil _ _) hx9 rfl) ?_
          refine arun_fewer (T' := [(2, (LP 1 0)), (3, (LP 2 0)), (4, (I v2)), (5, (LP 3 0)), (11, (GV 0 x9.length)), (12, (I ((x1.length : Nat) : Int))), (13, (I v2)), (18, (Bo (((x6.Kind == 1) && (decide (x6.Bad > 0))) && (decide (x6.Bad ≤ 15))))), (32, (LP 2 0)), (33, (GV 0 x9.length)), (34, (I v2))]) (ReT.keep (v := (LP 1 0)) rfl (ReT.keep (v := (LP 2 0)) rfl (ReT.keep (v := (I v2)) rfl (ReT.keep (v := (LP 3 0)) rfl (ReT.gv rfl (setI_len hx9) (ReT.keep (v := (I ((x1.length : Nat) : Int))) rfl (ReT.keep (v := (I v2)) rfl (ReT.keep (v := (Bo (((x6.Kind == 1) && (decide (x6.Bad > 0))) && (decide (x6.Bad ≤ 15))))) rfl (ReT.keep (v := (LP 2 0)) rfl (ReT.gv rfl (setI_len hx9) (ReT.keep (v := (I v2)) rfl ReT.nil))))))))))) ?_
          refine arun_locs (L' := [(c_node_row t0), (c_node_row (G_node_row.mk [])), ([(GV 0 x9.length)]), (c_api_Node x6)]) (by rw [(setI_len hx9)]) ?_
          refine arun_keepE [2, 3, 11, 12, 13] 3 1 (st' := ⟨54, 0, [(2, (LP 1 0)), (3, (LP 2 0)), (11, (GV 0 x9.length)), (12, (I ((x1.length : Nat) : Int))), (13, (I v2))], [(c_node_row t0), (c_node_row (G_node_row.mk [])), ([(GV 0 x9.length)])], ⟨1, [(0, ⟨5, ((x9).flatMap c_api_Node), true⟩)]⟩⟩) (by kernel_rfl) (by kernel_rfl) ?_
          exact (Exists.intro x9 (And.intro rfl h))
        · rw [condF hb7] at h
          refine awp_condF (boF hb7) ?_
          refine awp_seq ?_
          refine awp_region ?_
          refine arun_do rfl rfl rfl (tx_ldLA (vs := (c_api_Node x6)) Tryz.underlying49 rfl s_49 (by decide) rfl rfl rfl rfl) ?_
          refine arun_do rfl rfl rfl (ex_build (qs := [(0, (I 3))]) (v := (Value.agg (c_api_Node (G_api_Node.mk 3 0 [] [] 0)).toArray)) (evp rfl evp_nil) (by kernel_rfl)) ?_
          refine arun_do rfl rfl rfl (ex_bin (vx := (Value.agg (c_api_Node x6).toArray)) (vy := (Value.agg (c_api_Node (G_api_Node.mk 3 0 [] [] 0)).toArray)) rfl rfl eql_49) ?_
          refine arun_do rfl rfl rfl (ex_move (eV (v := (Bo (decide (x6 = (G_api_Node.mk 3 0 [] [] 0))))) rfl)) ?_
          refine arun_guard (v := (I v2)) ((decide (x6 = (G_api_Node.mk 3 0 [] [] 0))) == true) rfl rfl rfl (fun hc => ex_move (eV (v := (I v2)) rfl)) ?_
          refine arun_guard (v := (Bo (decide (v2 > 0)))) ((decide (x6 = (G_api_Node.mk 3 0 [] [] 0))) == true) rfl rfl rfl (fun hc => ex_bin (vx := (I v2)) (vy := (I 0)) (cond_of hc) rfl gtrI_ok) ?_
          refine arun_do rfl rfl rfl (ex_pick rfl pkAnd) ?_
          refine arun_do rfl rfl rfl (ex_assign (eV (v := (Bo ((decide (x6 = (G_api_Node.mk 3 0 [] [] 0))) && (decide (v2 > 0))))) rfl)) ?_
          refine arun_keepE [2, 3, 4, 11, 12, 13, 37] 3 1 (st' := ⟨54, 0, [(2, (LP 1 0)), (3, (LP 2 0)), (4, (I v2)), (11, (GV 0 v3.length)), (12, (I ((x1.length : Nat) : Int))), (13, (I v2)), (37, (Bo ((decide (x6 = (G_api_Node.mk 3 0 [] [] 0))) && (decide (v2 > 0)))))], [(c_node_row t0), (c_node_row (G_node_row.mk [])), ([(GV 0 v3.length)])], ⟨1, [(0, ⟨5, ((v3).flatMap c_api_Node), true⟩)]⟩⟩) (by kernel_rfl) (by kernel_rfl) ?_
          show AWp _ _ _ _
          rcases Bool.eq_false_or_eq_true ((decide (x6 = (G_api_Node.mk 3 0 [] [] 0))) && (decide (v2 > 0))) with hb10 | hb10
          · rw [condT hb10] at h
            refine awp_condT (boT hb10) ?_
            obtain ⟨x11, hx11, h⟩ := bindS h
            obtain ⟨x12, hx12, h⟩ := bindS h
            obtain ⟨x13, hx13, h⟩ := bindS h
            refine awp_knRL [2, 3, 11, 12, 13] 3 1 [(2, (LP 1 0)), (3, (LP 2 0)), (11, (GV 0 x13.length)), (12, (I ((x1.length : Nat) : Int))), (13, (I v2))] [(c_node_row t0), (c_node_row (G_node_row.mk [])), ([(GV 0 x13.length)])] (st' := ⟨54, 0, [(2, (LP 1 0)), (3, (LP 2 0)), (11, (GV 0 v3.length)), (12, (I ((x1.length : Nat) : Int))), (13, (I v2))], [(c_node_row t0), (c_node_row (G_node_row.mk [])), ([(GV 0 v3.length)])], ⟨1, [(0, ⟨5, ((x13).flatMap c_api_Node), true⟩)]⟩⟩) (awp_draw (T := [(LP 2 0), (GV 0 v3.length), (I v2), (Value.agg ([(GV 0 v3.length)]).toArray), (S x11), (Value.agg (c_api_Node (G_api_Node.mk 2 0 x11 [] 0)).toArray), (GP 0 (v2.toNat * 5) (List.flatMap c_api_Node v3).length), undef]) (LH := [([(c_node_row t0), (c_node_row (G_node_row.mk [])), ([(GV 0 v3.length)])], ⟨1, [(0, ⟨5, ((v3).flatMap c_api_Node), true⟩)]⟩), ([(c_node_row t0), (c_node_row (G_node_row.mk [])), ([(GV 0 v3.length)])], ⟨1, [(0, ⟨5, ((x13).flatMap c_api_Node), true⟩)]⟩)]) (D := [⟨[(3, none)], [], [0], false⟩, ⟨[(45, some 0)], [0], [0], false⟩, ⟨[(4, none)], [], [0], false⟩, ⟨[(3, none)], [], [0], false⟩, ⟨[(48, some 3)], [3], [0], false⟩, ⟨[(49, some 4)], [3, 4], [0], false⟩, ⟨[(46, some 1), (47, some 2)], [0, 1, 2, 3, 4, 5], [0], false⟩, ⟨[(51, some 6), (50, some 5)], [0, 1, 2, 3, 4, 5, 6], [0], true⟩]) (S := [7]) (plan := [0, 1, 2, 3, 4, 5, 6, 7]) mo (by kernel_rfl) rfl rfl rfl (dcons (dstep1 (Tm := [(3, (LP 2 0))]) (L := [(c_node_row t0), (c_node_row (G_node_row.mk [])), ([(GV 0 v3.length)])]) (H := ⟨1, [(0, ⟨5, ((v3).flatMap c_api_Node), true⟩)]⟩) rfl rfl rfl rfl rfl (astep_do rfl (ex_fieldAddr (v := (LP 2 0)) Tryz.underlying52 rfl s_25 (by decide) rfl rfl))) (dcons (dstep1 (Tm := [(45, (LP 2 0))]) (L := [(c_node_row t0), (c_node_row (G_node_row.mk [])), ([(GV 0 v3.length)])]) (H := ⟨1, [(0, ⟨5, ((v3).flatMap c_api_Node), true⟩)]⟩) rfl rfl rfl rfl rfl (astep_do rfl (tx_ldL1 (v := (GV 0 v3.length)) Tryz.underlying25 rfl rfl rfl rfl))) (dcons (dstep1 (Tm := [(4, (I v2))]) (L := [(c_node_row t0), (c_node_row (G_node_row.mk [])), ([(GV 0 v3.length)])]) (H := ⟨1, [(0, ⟨5, ((v3).flatMap c_api_Node), true⟩)]⟩) rfl rfl rfl rfl rfl (astep_do rfl (ex_move (eV (v := (I v2)) rfl)))) (dcons (dstep1 (Tm := [(3, (LP 2 0))]) (L := [(c_node_row t0), (c_node_row (G_node_row.mk [])), ([(GV 0 v3.length)])]) (H := ⟨1, [(0, ⟨5, ((v3).flatMap c_api_Node), true⟩)]⟩) rfl rfl rfl rfl rfl (astep_do rfl (tx_ldLA (vs := ([(GV 0 v3.length)])) Tryz.underlying52 rfl s_52 (by decide) rfl rfl rfl rfl))) (dcons (dstep1 (Tm := [(48, (Value.agg ([(GV 0 v3.length)]).toArray))]) (L := [(c_node_row t0), (c_node_row (G_node_row.mk [])), ([(GV 0 v3.length)])]) (H := ⟨1, [(0, ⟨5, ((v3).flatMap c_api_Node), true⟩)]⟩) rfl rfl rfl rfl rfl (astep_do rfl (ex_callB (vs := [(Value.agg ([(GV 0 v3.length)]).toArray)]) (vs' := [(Value.agg (c_node_row (G_node_row.mk v3)).toArray)]) (v := (S x11)) (n := 0) (b := ⟨5, ((v3).flatMap c_api_Node), true⟩) rfl en_49 (cargs (evs rfl evs_nil)) rfl (.cons (.inr (.inr (.inr (.inl ⟨_, _, rfl, rfl, (fzcG ce_api_Node rfl fzcN)⟩)))) .nil) rfl (ok_node_row_spare (G_node_row.mk v3) x11 hx11) rfl))) (dcons (dstep1 (Tm := [(49, (S x11))]) (L := [(c_node_row t0), (c_node_row (G_node_row.mk [])), ([(GV 0 v3.length)])]) (H := ⟨1, [(0, ⟨5, ((v3).flatMap c_api_Node), true⟩)]⟩) rfl rfl rfl rfl rfl (astep_do rfl (ex_build (qs := [(0, (I 2)), (2, (S x11))]) (v := (Value.agg (c_api_Node (G_api_Node.mk 2 0 x11 [] 0)).toArray)) (evp rfl (evp rfl evp_nil)) (by kernel_rfl)))) (dcons (dstep1 (Tm := [(46, (GV 0 v3.length)), (47, (I v2))]) (L := [(c_node_row t0), (c_node_row (G_node_row.mk [])), ([(GV 0 v3.length)])]) (H := ⟨1, [(0, ⟨5, ((v3).flatMap c_api_Node), true⟩)]⟩) rfl rfl rfl rfl rfl (astep_do rfl (tx_idxG (c := c_api_Node) (xs := v3) (i := v2) ce_api_Node Tryz.underlying25 s_49 rfl rfl rfl rfl hx12))) (dcons (dstep1 (Tm := [(51, (GP 0 (v2.toNat * 5) (List.flatMap c_api_Node v3).length)), (50, (Value.agg (c_api_Node (G_api_Node.mk 2 0 x11 [] 0)).toArray))]) (L := [(c_node_row t0), (c_node_row (G_node_row.mk [])), ([(GV 0 v3.length)])]) (H := ⟨1, [(0, ⟨5, ((v3).flatMap c_api_Node), true⟩)]⟩) rfl rfl rfl rfl rfl (astep_do rfl (tx_stG (c := c_api_Node) (xs := v3) (e := (G_api_Node.mk 2 0 x11 [] 0)) (H' := ⟨1, [(0, ⟨5, ((x13).flatMap c_api_Node), true⟩)]⟩) ce_api_Node s_49 rfl (eV (v := (Value.agg (c_api_Node (G_api_Node.mk 2 0 x11 [] 0)).toArray)) rfl) rfl rfl hx13 rfl))) dnil)))))))) ⟨rfl, rfl⟩) (by kernel_rfl) (by kernel_rfl) (ReT.keep (v := (LP 1 0)) rfl (ReT.keep (v := (LP 2 0)) rfl (ReT.gv rfl (setI_len hx13) (ReT.keep (v := (I ((x1.length : Nat) : Int))) rfl (ReT.keep (v := (I v2)) rfl ReT.nil))))) (by rw [(setI_len hx13)]) ?_
            exact (Exists.intro x13 (And.intro rfl h))
          · rw [condF hb10] at h
            refine awp_condF (boF hb10) ?_
            refine awp_keepE [2, 3, 11, 12, 13] 3 1 (st' := ⟨54, 0, [(2, (LP 1 0)), (3, (LP 2 0)), (11, (GV 0 v3.length)), (12, (I ((x1.length : Nat) : Int))), (13, (I v2))], [(c_node_row t0), (c_node_row (G_node_row.mk [])), ([(GV 0 v3.length)])], ⟨1, [(0, ⟨5, ((v3).flatMap c_api_Node), true⟩)]⟩⟩) (by kernel_rfl) (by kernel_rfl) ?_
            refine awp_skip ?_
            exact (Exists.intro v3 (And.intro rfl h))
      · rintro s ⟨y5, rfl, h⟩
        unfold M_node_row_mended_k1 at h
        refine awp_region ?_
        refine arun_do rfl rfl rfl (ex_bin (vx := (I v2)) (vy := (I 1)) rfl rfl addI_ok) ?_
        refine arun_do rfl rfl rfl (ex_move (eV (v := (I (w64 (v2 + 1)))) rfl)) ?_
        refine arun_keepE [2, 3, 11, 12, 13] 3 1 (st' := ⟨54, 0, [(2, (LP 1 0)), (3, (LP 2 0)), (11, (GV 0 y5.length)), (12, (I ((x1.length : Nat) : Int))), (13, (I (w64 (v2 + 1))))], [(c_node_row t0), (c_node_row (G_node_row.mk [])), ([(GV 0 y5.length)])], ⟨1, [(0, ⟨5, ((y5).flatMap c_api_Node), true⟩)]⟩⟩) (by kernel_rfl) (by kernel_rfl) ?_
        exact Exists.intro n1 (And.intro (Nat.lt_succ_self _) (Exists.intro (w64 (v2 + 1)) (Exists.intro y5 (And.intro rfl h))))
    · rw [condF hb4] at h
      refine awp_condF (boF hb4) ?_
      refine awp_exit ?_
      show AWp _ _ _ _
      refine awp_seq ?_
      refine awp_region ?_
      refine arun_freeze 0 (bk := ⟨5, ((v3).flatMap c_api_Node), true⟩) (T' := [(2, (LP 1 0)), (3, (LP 2 0)), (11, (SL 5 c_api_Node v3)), (12, (I ((x1.length : Nat) : Int))), (13, (I v2)), (14, (Bo (decide (v2 < ((x1.length : Nat) : Int)))))]) (L' := [(c_node_row t0), (c_node_row (G_node_row.mk [])), ([(SL 5 c_api_Node v3)])]) rfl (FzT.keep (v := (LP 1 0)) rfl (FzT.keep (v := (LP 2 0)) rfl (fzG ce_api_Node rfl rfl (FzT.keep (v := (I ((x1.length : Nat) : Int))) rfl (FzT.keep (v := (I v2)) rfl (FzT.keep (v := (Bo (decide (v2 < ((x1.length : Nat) : Int))))) rfl FzT.nil)))))) (fzlS (fzlS (fzlK (fzcG ce_api_Node rfl fzcN) fzlN))) ?_
      show ARun _ _ _ _ _ ⟨54, 0, [(2, (LP 1 0)), (3, (LP 2 0)), (11, (SL 5 c_api_Node v3)), (12, (I ((x1.length : Nat) : Int))), (13, (I v2)), (14, (Bo (decide (v2 < ((x1.length : Nat) : Int)))))], [(c_node_row t0), (c_node_row (G_node_row.mk [])), ([(SL 5 c_api_Node v3)])], ⟨1, []⟩⟩
      refine arun_do rfl rfl rfl (tx_ldLA (vs := ([(SL 5 c_api_Node v3)])) Tryz.underlying52 rfl s_52 (by decide) rfl rfl rfl rfl) ?_
      refine arun_do0 rfl rfl (ex_storeL (vy := (Value.agg (c_node_row (G_node_row.mk v3)).toArray)) (cs := (c_node_row (G_node_row.mk []))) (vs := (c_node_row (G_node_row.mk v3))) (L' := [(c_node_row t0), (c_node_row (G_node_row.mk v3)), ([(SL 5 c_api_Node v3)])]) rfl (eV (v := (Value.agg (c_node_row (G_node_row.mk v3)).toArray)) rfl) rfl s_52 rfl (Nat.le_of_ble_eq_true rfl) (by kernel_rfl)) ?_
      refine arun_keepE [2] 2 0 (st' := ⟨54, 0, [(2, (LP 1 0))], [(c_node_row t0), (c_node_row (G_node_row.mk v3))], ⟨0, []⟩⟩) (by kernel_rfl) (by kernel_rfl) ?_
      show AWp _ _ _ _
      refine awp_ret ?_
      cases h
      exact ares1 (rcellL rfl rfl rfl (partA Tryz.underlying52 rfl s_52 (by decide) (Nat.le_of_ble_eq_true rfl) rfl))

end Go.Proofs
