/- Pure models of functions of the program, and that its code does what they say: node Torn, api Node], node Same, palimplaw12 begun. Written by a program. -/
import Derived.Test.YtpfbnghalpfoaaaGreatDoorR12Z0
import Derived.Test.YtpfbnghalpfoaaaGreatDoorR12Z2
import Derived.Test.YtpfbnghalpfoaaaGreatDoorR12Z3
import Derived.Test.YtpfbnghalpfoaaaGreatDoorR12Z4
import Derived.Test.YtpfbnghalpfoaaaGreatDoorR12Z6
import Derived.Test.YtpfbnghalpfoaaaGreatDoorR12Z7
import Derived.Test.YtpfbnghalpfoaaaGreatDoorR12ZB
set_option maxRecDepth 20000
set_option maxHeartbeats 4000000
namespace Go.Proofs
open Go Go.Fhl
set_option linter.unusedVariables false
set_option linter.unusedSimpArgs false
noncomputable def M_node_Torn (t0 : (List G_api_Node)) : Option Bool :=
  Option.bind (M_node_row_mended (G_node_row.mk t0)) fun (x1 : G_node_row) => Option.bind (M_node_row_may x1) fun (x2 : Bool) => some x2
theorem ok_node_Torn (t0 : (List G_api_Node)) (r : Bool) (h : M_node_Torn t0 = some r) : FFn Tryz.prog 11 [(SL 5 c_api_Node t0)] (Bo r) := by
  refine FFn.of_body (n := 7) Tryz.func11 rfl Tryz.ntmps11 rfl rfl rfl rfl ?_
  show AWp _ _ _ ⟨7, 0, [(0, (SL 5 c_api_Node t0))], [], ⟨0, []⟩⟩
  unfold M_node_Torn at h
  refine awp_seq ?_
  refine awp_region ?_
  refine arun_do rfl rfl rfl (ex_assign (eV (v := (Bo false)) rfl)) ?_
  refine arun_keepE [0] 0 0 (st' := ⟨7, 0, [(0, (SL 5 c_api_Node t0))], [], ⟨0, []⟩⟩) (by kernel_rfl) (by kernel_rfl) ?_
  show AWp _ _ _ _
  refine awp_seq ?_
  refine awp_region ?_
  refine arun_do rfl rfl rfl (ex_move (eV (v := (SL 5 c_api_Node t0)) rfl)) ?_
  refine arun_do rfl rfl rfl (ex_build (qs := [(0, (SL 5 c_api_Node t0))]) (v := (Value.agg (c_node_row (G_node_row.mk t0)).toArray)) (evp rfl evp_nil) (by kernel_rfl)) ?_
  obtain ⟨x1, hx1, h⟩ := bindS h
  refine arun_do rfl rfl rfl (ex_call0 (vs := [(Value.agg (c_node_row (G_node_row.mk t0)).toArray)]) (v := (Value.agg (c_node_row x1).toArray)) rfl en_29 (cargs (evs rfl evs_nil)) rfl (ok_node_row_mended (G_node_row.mk t0) x1 hx1) rfl) ?_
  obtain ⟨x2, hx2, h⟩ := bindS h
  refine arun_do rfl rfl rfl (ex_call0 (vs := [(Value.agg (c_node_row x1).toArray)]) (v := (Bo x2)) rfl en_27 (cargs (evs rfl evs_nil)) rfl (ok_node_row_may x1 x2 hx2) rfl) ?_
  refine arun_do rfl rfl rfl (ex_assign (eV (v := (Bo x2)) rfl)) ?_
  refine arun_keepE [2] 0 0 (st' := ⟨7, 0, [(2, (Bo x2))], [], ⟨0, []⟩⟩) (by kernel_rfl) (by kernel_rfl) ?_
  show AWp _ _ _ _
  refine awp_ret ?_
  cases h
  exact ares1 (rtmp rfl (eV rfl))

noncomputable def M_slices_Equal_api_Set_api_Node_l1 (t0 : (List G_api_Node)) (t1 : (List G_api_Node)) : Nat → Int → Option Bool
  | 0, _ => none
  | n1 + 1, v2 =>
  cond (decide (v2 < (t0.length : Int))) (Option.bind (getI t0 v2) fun (x4 : G_api_Node) => Option.bind (getI t1 v2) fun (x5 : G_api_Node) => cond (!decide (x4 = x5)) (some false) ((M_slices_Equal_api_Set_api_Node_l1 t0 t1 n1) (w64 (v2 + 1)))) (some true)
noncomputable def M_slices_Equal_api_Set_api_Node (t0 : (List G_api_Node)) (t1 : (List G_api_Node)) : Option Bool :=
  cond ((t0.length : Int) != (t1.length : Int)) (some false) (M_slices_Equal_api_Set_api_Node_l1 t0 t1 fuel 0)
theorem ok_slices_Equal_api_Set_api_Node (t0 : (List G_api_Node)) (t1 : (List G_api_Node)) (r : Bool) (h : M_slices_Equal_api_Set_api_Node t0 t1 = some r) : FFn Tryz.prog 32 [(SL 5 c_api_Node t0), (SL 5 c_api_Node t1)] (Bo r) := by
  refine FFn.of_body (n := 26) Tryz.func32 rfl Tryz.ntmps32 rfl rfl rfl rfl ?_
  show AWp _ _ _ ⟨26, 0, [(0, (SL 5 c_api_Node t0)), (1, (SL 5 c_api_Node t1))], [], ⟨0, []⟩⟩
  unfold M_slices_Equal_api_Set_api_Node at h
  refine awp_seq ?_
  refine awp_region ?_
  refine arun_do rfl rfl rfl (ex_assign (eV (v := (Bo false)) rfl)) ?_
  refine arun_keepE [0, 1] 0 0 (st' := ⟨26, 0, [(0, (SL 5 c_api_Node t0)), (1, (SL 5 c_api_Node t1))], [], ⟨0, []⟩⟩) (by kernel_rfl) (by kernel_rfl) ?_
  show AWp _ _ _ _
  refine awp_seq ?_
  refine awp_seq ?_
  refine awp_region ?_
  refine arun_do rfl rfl rfl (ex_move (eV (v := (SL 5 c_api_Node t0)) rfl)) ?_
  refine arun_do rfl rfl rfl (tx_lenD (xs := t0) ce_api_Node Tryz.underlying25 rfl) ?_
  refine arun_do rfl rfl rfl (ex_move (eV (v := (SL 5 c_api_Node t1)) rfl)) ?_
  refine arun_do rfl rfl rfl (tx_lenD (xs := t1) ce_api_Node Tryz.underlying25 rfl) ?_
  refine arun_do rfl rfl rfl (ex_bin (vx := (I (t0.length : Int))) (vy := (I (t1.length : Int))) rfl rfl neqI_ok) ?_
  refine arun_keepE [0, 1, 10] 0 0 (st' := ⟨26, 0, [(0, (SL 5 c_api_Node t0)), (1, (SL 5 c_api_Node t1)), (10, (Bo ((t0.length : Int) != (t1.length : Int))))], [], ⟨0, []⟩⟩) (by kernel_rfl) (by kernel_rfl) ?_
  show AWp _ _ _ _
  rcases Bool.eq_false_or_eq_true ((t0.length : Int) != (t1.length : Int)) with hb1 | hb1
  · rw [condT hb1] at h
    refine awp_condT (boT hb1) ?_
    refine awp_seq ?_
    refine awp_region ?_
    refine arun_do rfl rfl rfl (ex_assign (eV (v := (Bo false)) rfl)) ?_
    refine arun_keepE [4] 0 0 (st' := ⟨26, 0, [(4, (Bo false))], [], ⟨0, []⟩⟩) (by kernel_rfl) (by kernel_rfl) ?_
    show AWp _ _ _ _
    refine awp_ret ?_
    cases h
    exact ares1 (rtmp rfl (eV rfl))
  · rw [condF hb1] at h
    refine awp_condF (boF hb1) ?_
    refine awp_skip ?_
    show AWp _ _ _ _
    refine awp_seq ?_
    refine awp_seq ?_
    refine awp_region ?_
    refine arun_do rfl rfl rfl (ex_move (eV (v := (SL 5 c_api_Node t0)) rfl)) ?_
    refine arun_do rfl rfl rfl (tx_lenD (xs := t0) ce_api_Node Tryz.underlying25 rfl) ?_
    refine arun_do rfl rfl rfl (ex_move (eV (v := (I 0)) rfl)) ?_
    refine arun_keepE [0, 1, 12, 13] 0 0 (st' := ⟨26, 0, [(0, (SL 5 c_api_Node t0)), (1, (SL 5 c_api_Node t1)), (12, (I (t0.length : Int))), (13, (I 0))], [], ⟨0, []⟩⟩) (by kernel_rfl) (by kernel_rfl) ?_
    show AWp _ _ _ _
    refine awp_block ?_
    refine awp_loop (fun n s => ∃ (v2 : Int), s = ⟨26, 0, [(0, (SL 5 c_api_Node t0)), (1, (SL 5 c_api_Node t1)), (12, (I (t0.length : Int))), (13, (I v2))], [], ⟨0, []⟩⟩ ∧ M_slices_Equal_api_Set_api_Node_l1 t0 t1 n v2 = some r) fuel (Exists.intro 0 (And.intro rfl h)) ?_
    rintro n s ⟨v2, rfl, h⟩ -
    cases n with
    | zero => cases h
    | succ n1 =>
      unfold M_slices_Equal_api_Set_api_Node_l1 at h
      refine awp_seq ?_
      refine awp_region ?_
      refine arun_do rfl rfl rfl (ex_bin (vx := (I v2)) (vy := (I (t0.length : Int))) rfl rfl lssI_ok) ?_
      refine arun_keepE [0, 1, 12, 13, 14] 0 0 (st' := ⟨26, 0, [(0, (SL 5 c_api_Node t0)), (1, (SL 5 c_api_Node t1)), (12, (I (t0.length : Int))), (13, (I v2)), (14, (Bo (decide (v2 < (t0.length : Int)))))], [], ⟨0, []⟩⟩) (by kernel_rfl) (by kernel_rfl) ?_
      show AWp _ _ _ _
      refine awp_seq ?_
      rcases Bool.eq_false_or_eq_true (decide (v2 < (t0.length : Int))) with hb3 | hb3
      · rw [condT hb3] at h
        refine awp_condT (boT hb3) ?_
        refine awp_skip ?_
        show AWp _ _ _ _
        refine awp_seq ?_
        refine awp_block ?_
        refine awp_seq ?_
        refine awp_region ?_
        refine arun_do rfl rfl rfl (ex_move (eV (v := (I v2)) rfl)) ?_
        refine arun_do rfl rfl rfl (ex_assign (eV (v := (I v2)) rfl)) ?_
        refine arun_keepE [0, 1, 5, 12, 13] 0 0 (st' := ⟨26, 0, [(0, (SL 5 c_api_Node t0)), (1, (SL 5 c_api_Node t1)), (5, (I v2)), (12, (I (t0.length : Int))), (13, (I v2))], [], ⟨0, []⟩⟩) (by kernel_rfl) (by kernel_rfl) ?_
        show AWp _ _ _ _
        refine awp_seq ?_
        obtain ⟨x4, hx4, h⟩ := bindS h
        obtain ⟨x5, hx5, h⟩ := bindS h
        refine awp_kn [0, 1, 12, 13, 24] 0 0 (st' := ⟨26, 0, [(0, (SL 5 c_api_Node t0)), (1, (SL 5 c_api_Node t1)), (12, (I (t0.length : Int))), (13, (I v2)), (24, (Bo (!decide (x4 = x5))))], [], ⟨0, []⟩⟩) (awp_draw (T := [(SL 5 c_api_Node t0), (I v2), (DP (c_api_Node x4)), (Value.agg (c_api_Node x4).toArray), (SL 5 c_api_Node t1), (I v2), (DP (c_api_Node x5)), (Value.agg (c_api_Node x5).toArray), (Bo (!decide (x4 = x5)))]) (LH := [([], ⟨0, []⟩)]) (D := [⟨[(0, none)], [], [0], false⟩, ⟨[(5, none)], [], [0], false⟩, ⟨[(16, some 0), (17, some 1)], [0, 1], [0], false⟩, ⟨[(18, some 2)], [0, 1, 2], [0], false⟩, ⟨[(1, none)], [], [0], false⟩, ⟨[(5, none)], [], [0], false⟩, ⟨[(20, some 4), (21, some 5)], [4, 5], [0], false⟩, ⟨[(22, some 6)], [4, 5, 6], [0], false⟩, ⟨[(19, some 3), (23, some 7)], [0, 1, 2, 3, 4, 5, 6, 7], [0], false⟩]) (S := []) (plan := [0, 1, 2, 3, 4, 5, 6, 7, 8]) mo (by kernel_rfl) rfl rfl rfl (dcons (dstep1 (Tm := [(0, (SL 5 c_api_Node t0))]) (L := []) (H := ⟨0, []⟩) rfl rfl rfl rfl rfl (astep_do rfl (ex_move (eV (v := (SL 5 c_api_Node t0)) rfl)))) (dcons (dstep1 (Tm := [(5, (I v2))]) (L := []) (H := ⟨0, []⟩) rfl rfl rfl rfl rfl (astep_do rfl (ex_move (eV (v := (I v2)) rfl)))) (dcons (dstep1 (Tm := [(16, (SL 5 c_api_Node t0)), (17, (I v2))]) (L := []) (H := ⟨0, []⟩) rfl rfl rfl rfl rfl (astep_do rfl (tx_idxD (c := c_api_Node) (xs := t0) (i := v2) ce_api_Node Tryz.underlying25 s_49 rfl rfl hx4))) (dcons (dstep1 (Tm := [(18, (DP (c_api_Node x4)))]) (L := []) (H := ⟨0, []⟩) rfl rfl rfl rfl rfl (astep_do rfl (tx_ldDA (vs := (c_api_Node x4)) Tryz.underlying49 rfl s_49 (by decide) rfl (Nat.le_of_ble_eq_true rfl) rfl))) (dcons (dstep1 (Tm := [(1, (SL 5 c_api_Node t1))]) (L := []) (H := ⟨0, []⟩) rfl rfl rfl rfl rfl (astep_do rfl (ex_move (eV (v := (SL 5 c_api_Node t1)) rfl)))) (dcons (dstep1 (Tm := [(5, (I v2))]) (L := []) (H := ⟨0, []⟩) rfl rfl rfl rfl rfl (astep_do rfl (ex_move (eV (v := (I v2)) rfl)))) (dcons (dstep1 (Tm := [(20, (SL 5 c_api_Node t1)), (21, (I v2))]) (L := []) (H := ⟨0, []⟩) rfl rfl rfl rfl rfl (astep_do rfl (tx_idxD (c := c_api_Node) (xs := t1) (i := v2) ce_api_Node Tryz.underlying25 s_49 rfl rfl hx5))) (dcons (dstep1 (Tm := [(22, (DP (c_api_Node x5)))]) (L := []) (H := ⟨0, []⟩) rfl rfl rfl rfl rfl (astep_do rfl (tx_ldDA (vs := (c_api_Node x5)) Tryz.underlying49 rfl s_49 (by decide) rfl (Nat.le_of_ble_eq_true rfl) rfl))) (dcons (dstep1 (Tm := [(19, (Value.agg (c_api_Node x4).toArray)), (23, (Value.agg (c_api_Node x5).toArray))]) (L := []) (H := ⟨0, []⟩) rfl rfl rfl rfl rfl (astep_do rfl (ex_bin (vx := (Value.agg (c_api_Node x4).toArray)) (vy := (Value.agg (c_api_Node x5).toArray)) rfl rfl neq_49))) dnil))))))))) ⟨rfl, rfl⟩) (by kernel_rfl) (by kernel_rfl) ?_
        show AWp _ _ _ _
        rcases Bool.eq_false_or_eq_true (!decide (x4 = x5)) with hb6 | hb6
        · rw [condT hb6] at h
          refine awp_condT (boT hb6) ?_
          refine awp_seq ?_
          refine awp_region ?_
          refine arun_do rfl rfl rfl (ex_assign (eV (v := (Bo false)) rfl)) ?_
          refine arun_keepE [4] 0 0 (st' := ⟨26, 0, [(4, (Bo false))], [], ⟨0, []⟩⟩) (by kernel_rfl) (by kernel_rfl) ?_
          show AWp _ _ _ _
          refine awp_ret ?_
          cases h
          exact ares1 (rtmp rfl (eV rfl))
        · rw [condF hb6] at h
          refine awp_condF (boF hb6) ?_
          refine awp_skip ?_
          show AWp _ _ _ _
          refine awp_region ?_
          refine arun_do rfl rfl rfl (ex_bin (vx := (I v2)) (vy := (I 1)) rfl rfl addI_ok) ?_
          refine arun_do rfl rfl rfl (ex_move (eV (v := (I (w64 (v2 + 1)))) rfl)) ?_
          refine arun_keepE [0, 1, 12, 13] 0 0 (st' := ⟨26, 0, [(0, (SL 5 c_api_Node t0)), (1, (SL 5 c_api_Node t1)), (12, (I (t0.length : Int))), (13, (I (w64 (v2 + 1))))], [], ⟨0, []⟩⟩) (by kernel_rfl) (by kernel_rfl) ?_
          exact Exists.intro n1 (And.intro (Nat.lt_succ_self _) (Exists.intro (w64 (v2 + 1)) (And.intro rfl h)))
      · rw [condF hb3] at h
        refine awp_condF (boF hb3) ?_
        refine awp_exit ?_
        show AWp _ _ _ _
        refine awp_seq ?_
        refine awp_region ?_
        refine arun_do rfl rfl rfl (ex_assign (eV (v := (Bo true)) rfl)) ?_
        refine arun_keepE [4] 0 0 (st' := ⟨26, 0, [(4, (Bo true))], [], ⟨0, []⟩⟩) (by kernel_rfl) (by kernel_rfl) ?_
        show AWp _ _ _ _
        refine awp_ret ?_
        cases h
        exact ares1 (rtmp rfl (eV rfl))

noncomputable def M_node_Same (t0 : (List G_api_Node)) (t1 : (List G_api_Node)) : Option Bool :=
  Option.bind (M_slices_Equal_api_Set_api_Node t0 t1) fun (x1 : Bool) => some x1
theorem ok_node_Same (t0 : (List G_api_Node)) (t1 : (List G_api_Node)) (r : Bool) (h : M_node_Same t0 t1 = some r) : FFn Tryz.prog 13 [(SL 5 c_api_Node t0), (SL 5 c_api_Node t1)] (Bo r) := by
  refine FFn.of_body (n := 8) Tryz.func13 rfl Tryz.ntmps13 rfl rfl rfl rfl ?_
  show AWp _ _ _ ⟨8, 0, [(0, (SL 5 c_api_Node t0)), (1, (SL 5 c_api_Node t1))], [], ⟨0, []⟩⟩
  unfold M_node_Same at h
  refine awp_seq ?_
  refine awp_region ?_
  refine arun_do rfl rfl rfl (ex_assign (eV (v := (Bo false)) rfl)) ?_
  refine arun_keepE [0, 1] 0 0 (st' := ⟨8, 0, [(0, (SL 5 c_api_Node t0)), (1, (SL 5 c_api_Node t1))], [], ⟨0, []⟩⟩) (by kernel_rfl) (by kernel_rfl) ?_
  show AWp _ _ _ _
  refine awp_seq ?_
  refine awp_region ?_
  refine arun_do rfl rfl rfl (ex_move (eV (v := (SL 5 c_api_Node t0)) rfl)) ?_
  refine arun_do rfl rfl rfl (ex_move (eV (v := (SL 5 c_api_Node t1)) rfl)) ?_
  obtain ⟨x1, hx1, h⟩ := bindS h
  refine arun_do rfl rfl rfl (ex_call0 (vs := [(SL 5 c_api_Node t0), (SL 5 c_api_Node t1)]) (v := (Bo x1)) rfl en_32 (cargs (evs rfl (evs rfl evs_nil))) rfl (ok_slices_Equal_api_Set_api_Node t0 t1 x1 hx1) rfl) ?_
  refine arun_do rfl rfl rfl (ex_assign (eV (v := (Bo x1)) rfl)) ?_
  refine arun_keepE [4] 0 0 (st' := ⟨8, 0, [(4, (Bo x1))], [], ⟨0, []⟩⟩) (by kernel_rfl) (by kernel_rfl) ?_
  show AWp _ _ _ _
  refine awp_ret ?_
  cases h
  exact ares1 (rtmp rfl (eV rfl))

noncomputable def M_law12_begun : Option Bool :=
  Option.bind (M_node_New) fun (x1 : (List G_api_Node)) => Option.bind (M_ref11_Make x1 ([97] : Str) 2) fun (x2 : ((List G_api_Node) × Int)) => Option.bind (M_ref11_Make x2.1 ([97, 47, 98] : Str) 1) fun (x3 : ((List G_api_Node) × Int)) => Option.bind (M_node_Kids x3.1 0) fun (x4 : (List Int)) => Option.bind (M_node_Kid x3.1 1 ([98] : Str)) fun (x5 : (Int × Bool)) => Option.bind (M_node_Free x3.1) fun (x6 : (Int × Bool)) => Option.bind (gd (((x1.length : Int) == 8) == true) (M_node_May x1)) fun (x7 : Bool) => Option.bind (gd ((((x1.length : Int) == 8) && x7) == true) (M_node_May x3.1)) fun (x8 : Bool) => Option.bind (gd (((((x1.length : Int) == 8) && x7) && x8) == true) (M_node_Torn x3.1)) fun (x9 : Bool) => Option.bind (gd ((((((x1.length : Int) == 8) && x7) && x8) && x9) == true) (M_node_May ([] : (List G_api_Node)))) fun (x10 : Bool) => Option.bind (gd ((((((((x1.length : Int) == 8) && x7) && x8) && x9) && (!x10)) && ((x4.length : Int) == 1)) == true) (getI x4 0)) fun (x11 : Int) => Option.bind (gd (((((((((((((x1.length : Int) == 8) && x7) && x8) && x9) && (!x10)) && ((x4.length : Int) == 1)) && (x11 == 1)) && x5.2) && (x5.1 == 2)) && x6.2) && (x6.1 == 3)) == true) (M_node_Same x3.1 x3.1)) fun (x12 : Bool) => Option.bind (gd ((((((((((((((x1.length : Int) == 8) && x7) && x8) && x9) && (!x10)) && ((x4.length : Int) == 1)) && (x11 == 1)) && x5.2) && (x5.1 == 2)) && x6.2) && (x6.1 == 3)) && x12) == true) (M_node_Same x3.1 x1)) fun (x13 : Bool) => some ((((((((((((((x1.length : Int) == 8) && x7) && x8) && x9) && (!x10)) && ((x4.length : Int) == 1)) && (x11 == 1)) && x5.2) && (x5.1 == 2)) && x6.2) && (x6.1 == 3)) && x12) && (!x13))
theorem ok_law12_begun (r : Bool) (h : M_law12_begun = some r) : FFn Tryz.prog 4 [] (Bo r) := by
  refine FFn.of_body (n := 87) Tryz.func4 rfl Tryz.ntmps4 rfl rfl rfl rfl ?_
  show AWp _ _ _ ⟨87, 0, [], [], ⟨0, []⟩⟩
  unfold M_law12_begun at h
  refine awp_seq ?_
  refine awp_region ?_
  refine arun_do rfl rfl rfl (ex_assign (eV (v := (Bo false)) rfl)) ?_
  refine arun_keepE [] 0 0 (st' := ⟨87, 0, [], [], ⟨0, []⟩⟩) (by kernel_rfl) (by kernel_rfl) ?_
  show AWp _ _ _ _
  refine awp_seq ?_
  refine awp_region ?_
  obtain ⟨x1, hx1, h⟩ := bindS h
  refine arun_do rfl rfl rfl (ex_call0 (vs := []) (v := (SL 5 c_api_Node x1)) rfl en_22 (cargs evs_nil) rfl (ok_node_New  x1 hx1) rfl) ?_
  refine arun_do rfl rfl rfl (ex_assign (eV (v := (SL 5 c_api_Node x1)) rfl)) ?_
  refine arun_keepE [1] 0 0 (st' := ⟨87, 0, [(1, (SL 5 c_api_Node x1))], [], ⟨0, []⟩⟩) (by kernel_rfl) (by kernel_rfl) ?_
  show AWp _ _ _ _
  refine awp_seq ?_
  refine awp_region ?_
  refine arun_do rfl rfl rfl (ex_move (eV (v := (SL 5 c_api_Node x1)) rfl)) ?_
  obtain ⟨x2, hx2, h⟩ := bindS h
  refine arun_do rfl rfl rfl (ex_call0 (vs := [(SL 5 c_api_Node x1), (S ([97] : Str)), (I 2)]) (v := (Value.tuple #[(SL 5 c_api_Node x2.1), (I x2.2)])) rfl en_24 (cargs (evs rfl (evs rfl (evs rfl evs_nil)))) rfl (ok_ref11_Make x1 ([97] : Str) 2 x2 hx2) rfl) ?_
  refine arun_do rfl rfl rfl (ex_move (eV (v := (Value.tuple #[(SL 5 c_api_Node x2.1), (I x2.2)])) rfl)) ?_
  refine arun_do rfl rfl rfl (ex_extract (vx := (Value.tuple #[(SL 5 c_api_Node x2.1), (I x2.2)])) (v := (SL 5 c_api_Node x2.1)) rfl rfl) ?_
  refine arun_do rfl rfl rfl (ex_extract (vx := (Value.tuple #[(SL 5 c_api_Node x2.1), (I x2.2)])) (v := (I x2.2)) rfl rfl) ?_
  refine arun_do rfl rfl rfl (ex_assign (eV (v := (SL 5 c_api_Node x2.1)) rfl)) ?_
  refine arun_do rfl rfl rfl (ex_assign (eV (v := (I x2.2)) rfl)) ?_
  refine arun_keepE [1, 2] 0 0 (st' := ⟨87, 0, [(1, (SL 5 c_api_Node x1)), (2, (SL 5 c_api_Node x2.1))], [], ⟨0, []⟩⟩) (by kernel_rfl) (by kernel_rfl) ?_
  show AWp _ _ _ _
  refine awp_seq ?_
  refine awp_region ?_
  refine arun_do rfl rfl rfl (ex_move (eV (v := (SL 5 c_api_Node x2.1)) rfl)) ?_
  obtain ⟨x3, hx3, h⟩ := bindS h
  refine arun_do rfl rfl rfl (ex_call0 (vs := [(SL 5 c_api_Node x2.1), (S ([97, 47, 98] : Str)), (I 1)]) (v := (Value.tuple #[(SL 5 c_api_Node x3.1), (I x3.2)])) rfl en_24 (cargs (evs rfl (evs rfl (evs rfl evs_nil)))) rfl (ok_ref11_Make x2.1 ([97, 47, 98] : Str) 1 x3 hx3) rfl) ?_
  refine arun_do rfl rfl rfl (ex_move (eV (v := (Value.tuple #[(SL 5 c_api_Node x3.1), (I x3.2)])) rfl)) ?_
  refine arun_do rfl rfl rfl (ex_extract (vx := (Value.tuple #[(SL 5 c_api_Node x3.1), (I x3.2)])) (v := (SL 5 c_api_Node x3.1)) rfl rfl) ?_
  refine arun_do rfl rfl rfl (ex_extract (vx := (Value.tuple #[(SL 5 c_api_Node x3.1), (I x3.2)])) (v := (I x3.2)) rfl rfl) ?_
  refine arun_do rfl rfl rfl (ex_assign (eV (v := (SL 5 c_api_Node x3.1)) rfl)) ?_
  refine arun_keepE [1, 2] 0 0 (st' := ⟨87, 0, [(1, (SL 5 c_api_Node x1)), (2, (SL 5 c_api_Node x3.1))], [], ⟨0, []⟩⟩) (by kernel_rfl) (by kernel_rfl) ?_
  show AWp _ _ _ _
  refine awp_seq ?_
  refine awp_region ?_
  refine arun_do rfl rfl rfl (ex_move (eV (v := (SL 5 c_api_Node x3.1)) rfl)) ?_
  obtain ⟨x4, hx4, h⟩ := bindS h
  refine arun_do rfl rfl rfl (ex_call0 (vs := [(SL 5 c_api_Node x3.1), (I 0)]) (v := (SL 1 cI x4)) rfl en_18 (cargs (evs rfl (evs rfl evs_nil))) rfl (ok_node_Kids x3.1 0 x4 hx4) rfl) ?_
  refine arun_do rfl rfl rfl (ex_assign (eV (v := (SL 1 cI x4)) rfl)) ?_
  refine arun_keepE [1, 2, 4] 0 0 (st' := ⟨87, 0, [(1, (SL 5 c_api_Node x1)), (2, (SL 5 c_api_Node x3.1)), (4, (SL 1 cI x4))], [], ⟨0, []⟩⟩) (by kernel_rfl) (by kernel_rfl) ?_
  show AWp _ _ _ _
  refine awp_seq ?_
  refine awp_region ?_
  refine arun_do rfl rfl rfl (ex_move (eV (v := (SL 5 c_api_Node x3.1)) rfl)) ?_
  obtain ⟨x5, hx5, h⟩ := bindS h
  refine arun_do rfl rfl rfl (ex_call0 (vs := [(SL 5 c_api_Node x3.1), (I 1), (S ([98] : Str))]) (v := (Value.tuple #[(I x5.1), (Bo x5.2)])) rfl en_20 (cargs (evs rfl (evs rfl (evs rfl evs_nil)))) rfl (ok_node_Kid x3.1 1 ([98] : Str) x5 hx5) rfl) ?_
  refine arun_do rfl rfl rfl (ex_move (eV (v := (Value.tuple #[(I x5.1), (Bo x5.2)])) rfl)) ?_
  refine arun_do rfl rfl rfl (ex_extract (vx := (Value.tuple #[(I x5.1), (Bo x5.2)])) (v := (I x5.1)) rfl rfl) ?_
  refine arun_do rfl rfl rfl (ex_extract (vx := (Value.tuple #[(I x5.1), (Bo x5.2)])) (v := (Bo x5.2)) rfl rfl) ?_
  refine arun_do rfl rfl rfl (ex_assign (eV (v := (I x5.1)) rfl)) ?_
  refine arun_do rfl rfl rfl (ex_assign (eV (v := (Bo x5.2)) rfl)) ?_
  refine arun_keepE [1, 2, 4, 5, 6] 0 0 (st' := ⟨87, 0, [(1, (SL 5 c_api_Node x1)), (2, (SL 5 c_api_Node x3.1)), (4, (SL 1 cI x4)), (5, (I x5.1)), (6, (Bo x5.2))], [], ⟨0, []⟩⟩) (by kernel_rfl) (by kernel_rfl) ?_
  show AWp _ _ _ _
  refine awp_seq ?_
  refine awp_region ?_
  refine arun_do rfl rfl rfl (ex_move (eV (v := (SL 5 c_api_Node x3.1)) rfl)) ?_
  obtain ⟨x6, hx6, h⟩ := bindS h
  refine arun_do rfl rfl rfl (ex_call0 (vs := [(SL 5 c_api_Node x3.1)]) (v := (Value.tuple #[(I x6.1), (Bo x6.2)])) rfl en_15 (cargs (evs rfl evs_nil)) rfl (ok_node_Free x3.1 x6 hx6) rfl) ?_
  refine arun_do rfl rfl rfl (ex_move (eV (v := (Value.tuple #[(I x6.1), (Bo x6.2)])) rfl)) ?_
  refine arun_do rfl rfl rfl (ex_extract (vx := (Value.tuple #[(I x6.1), (Bo x6.2)])) (v := (I x6.1)) rfl rfl) ?_
  refine arun_do rfl rfl rfl (ex_extract (vx := (Value.tuple #[(I x6.1), (Bo x6.2)])) (v := (Bo x6.2)) rfl rfl) ?_
  refine arun_do rfl rfl rfl (ex_assign (eV (v := (I x6.1)) rfl)) ?_
  refine arun_do rfl rfl rfl (ex_assign (eV (v := (Bo x6.2)) rfl)) ?_
  refine arun_keepE [1, 2, 4, 5, 6, 7, 8] 0 0 (st' := ⟨87, 0, [(1, (SL 5 c_api_Node x1)), (2, (SL 5 c_api_Node x3.1)), (4, (SL 1 cI x4)), (5, (I x5.1)), (6, (Bo x5.2)), (7, (I x6.1)), (8, (Bo x6.2))], [], ⟨0, []⟩⟩) (by kernel_rfl) (by kernel_rfl) ?_
  show AWp _ _ _ _
  refine awp_seq ?_
  refine awp_region ?_
  refine arun_do rfl rfl rfl (ex_move (eV (v := (SL 5 c_api_Node x1)) rfl)) ?_
  refine arun_do rfl rfl rfl (tx_lenD (xs := x1) ce_api_Node Tryz.underlying25 rfl) ?_
  refine arun_do rfl rfl rfl (ex_bin (vx := (I (x1.length : Int))) (vy := (I 8)) rfl rfl eqlI_ok) ?_
  refine arun_do rfl rfl rfl (ex_move (eV (v := (Bo ((x1.length : Int) == 8))) rfl)) ?_
  refine arun_guard (v := (SL 5 c_api_Node x1)) (((x1.length : Int) == 8) == true) rfl rfl rfl (fun hc => ex_move (eV (v := (SL 5 c_api_Node x1)) rfl)) ?_
  obtain ⟨x7, hx7, h⟩ := bindS h
  refine arun_guard (v := (Bo x7)) (((x1.length : Int) == 8) == true) rfl rfl rfl (fun hc => ex_call0 (vs := [(SL 5 c_api_Node x1)]) (v := (Bo x7)) rfl en_9 (cargs (evs (cond_of hc) evs_nil)) rfl (ok_node_May x1 x7 (gd_of hc hx7)) rfl) ?_
  refine arun_do rfl rfl rfl (ex_pick rfl pkAnd) ?_
  refine arun_do rfl rfl rfl (ex_move (eV (v := (Bo (((x1.length : Int) == 8) && x7))) rfl)) ?_
  refine arun_guard (v := (SL 5 c_api_Node x3.1)) ((((x1.length : Int) == 8) && x7) == true) rfl rfl rfl (fun hc => ex_move (eV (v := (SL 5 c_api_Node x3.1)) rfl)) ?_
  obtain ⟨x8, hx8, h⟩ := bindS h
  refine arun_guard (v := (Bo x8)) ((((x1.length : Int) == 8) && x7) == true) rfl rfl rfl (fun hc => ex_call0 (vs := [(SL 5 c_api_Node x3.1)]) (v := (Bo x8)) rfl en_9 (cargs (evs (cond_of hc) evs_nil)) rfl (ok_node_May x3.1 x8 (gd_of hc hx8)) rfl) ?_
  refine arun_do rfl rfl rfl (ex_pick rfl pkAnd) ?_
  refine arun_do rfl rfl rfl (ex_move (eV (v := (Bo ((((x1.length : Int) == 8) && x7) && x8))) rfl)) ?_
  refine arun_guard (v := (SL 5 c_api_Node x3.1)) (((((x1.length : Int) == 8) && x7) && x8) == true) rfl rfl rfl (fun hc => ex_move (eV (v := (SL 5 c_api_Node x3.1)) rfl)) ?_
  obtain ⟨x9, hx9, h⟩ := bindS h
  refine arun_guard (v := (Bo x9)) (((((x1.length : Int) == 8) && x7) && x8) == true) rfl rfl rfl (fun hc => ex_call0 (vs := [(SL 5 c_api_Node x3.1)]) (v := (Bo x9)) rfl en_11 (cargs (evs (cond_of hc) evs_nil)) rfl (ok_node_Torn x3.1 x9 (gd_of hc hx9)) rfl) ?_
  refine arun_do rfl rfl rfl (ex_pick rfl pkAnd) ?_
  refine arun_do rfl rfl rfl (ex_move (eV (v := (Bo (((((x1.length : Int) == 8) && x7) && x8) && x9))) rfl)) ?_
  obtain ⟨x10, hx10, h⟩ := bindS h
  refine arun_guard (v := (Bo x10)) ((((((x1.length : Int) == 8) && x7) && x8) && x9) == true) rfl rfl rfl (fun hc => ex_call0 (vs := [(SL 5 c_api_Node [])]) (v := (Bo x10)) rfl en_9 (cargs (evsN (s := 4) rfl evs_nil)) rfl (ok_node_May ([] : (List G_api_Node)) x10 (gd_of hc hx10)) rfl) ?_
  refine arun_guard (v := (Bo (!x10))) ((((((x1.length : Int) == 8) && x7) && x8) && x9) == true) rfl rfl rfl (fun hc => ex_un (vx := (Bo x10)) (cond_of hc) notB_ok) ?_
  refine arun_do rfl rfl rfl (ex_pick rfl pkAnd) ?_
  refine arun_do rfl rfl rfl (ex_move (eV (v := (Bo ((((((x1.length : Int) == 8) && x7) && x8) && x9) && (!x10)))) rfl)) ?_
  refine arun_guard (v := (SL 1 cI x4)) (((((((x1.length : Int) == 8) && x7) && x8) && x9) && (!x10)) == true) rfl rfl rfl (fun hc => ex_move (eV (v := (SL 1 cI x4)) rfl)) ?_
  refine arun_guard (v := (I (x4.length : Int))) (((((((x1.length : Int) == 8) && x7) && x8) && x9) && (!x10)) == true) rfl rfl rfl (fun hc => tx_lenD (xs := x4) ceI Tryz.underlying36 (cond_of hc)) ?_
  refine arun_guard (v := (Bo ((x4.length : Int) == 1))) (((((((x1.length : Int) == 8) && x7) && x8) && x9) && (!x10)) == true) rfl rfl rfl (fun hc => ex_bin (vx := (I (x4.length : Int))) (vy := (I 1)) (cond_of hc) rfl eqlI_ok) ?_
  refine arun_do rfl rfl rfl (ex_pick rfl pkAnd) ?_
  refine arun_do rfl rfl rfl (ex_move (eV (v := (Bo (((((((x1.length : Int) == 8) && x7) && x8) && x9) && (!x10)) && ((x4.length : Int) == 1)))) rfl)) ?_
  refine arun_guard (v := (SL 1 cI x4)) ((((((((x1.length : Int) == 8) && x7) && x8) && x9) && (!x10)) && ((x4.length : Int) == 1)) == true) rfl rfl rfl (fun hc => ex_move (eV (v := (SL 1 cI x4)) rfl)) ?_
  obtain ⟨x11, hx11, h⟩ := bindS h
  refine arun_guard (v := (DP (cI x11))) ((((((((x1.length : Int) == 8) && x7) && x8) && x9) && (!x10)) && ((x4.length : Int) == 1)) == true) rfl rfl rfl (fun hc => tx_idxD (c := cI) (xs := x4) (i := 0) ceI Tryz.underlying36 s_3 (cond_of hc) rfl (gd_of hc hx11)) ?_
  refine arun_guard (v := (I x11)) ((((((((x1.length : Int) == 8) && x7) && x8) && x9) && (!x10)) && ((x4.length : Int) == 1)) == true) rfl rfl rfl (fun hc => tx_ldD1 (v := (I x11)) Tryz.underlying3 rfl (cond_of hc) rfl) ?_
  refine arun_guard (v := (Bo (x11 == 1))) ((((((((x1.length : Int) == 8) && x7) && x8) && x9) && (!x10)) && ((x4.length : Int) == 1)) == true) rfl rfl rfl (fun hc => ex_bin (vx := (I x11)) (vy := (I 1)) (cond_of hc) rfl eqlI_ok) ?_
  refine arun_do rfl rfl rfl (ex_pick rfl pkAnd) ?_
  refine arun_do rfl rfl rfl (ex_move (eV (v := (Bo ((((((((x1.length : Int) == 8) && x7) && x8) && x9) && (!x10)) && ((x4.length : Int) == 1)) && (x11 == 1)))) rfl)) ?_
  refine arun_guard (v := (Bo x5.2)) (((((((((x1.length : Int) == 8) && x7) && x8) && x9) && (!x10)) && ((x4.length : Int) == 1)) && (x11 == 1)) == true) rfl rfl rfl (fun hc => ex_move (eV (v := (Bo x5.2)) rfl)) ?_
  refine arun_do rfl rfl rfl (ex_pick rfl pkAnd) ?_
  refine arun_do rfl rfl rfl (ex_move (eV (v := (Bo (((((((((x1.length : Int) == 8) && x7) && x8) && x9) && (!x10)) && ((x4.length : Int) == 1)) && (x11 == 1)) && x5.2))) rfl)) ?_
  refine arun_guard (v := (I x5.1)) ((((((((((x1.length : Int) == 8) && x7) && x8) && x9) && (!x10)) && ((x4.length : Int) == 1)) && (x11 == 1)) && x5.2) == true) rfl rfl rfl (fun hc => ex_move (eV (v := (I x5.1)) rfl)) ?_
  refine arun_guard (v := (Bo (x5.1 == 2))) ((((((((((x1.length : Int) == 8) && x7) && x8) && x9) && (!x10)) && ((x4.length : Int) == 1)) && (x11 == 1)) && x5.2) == true) rfl rfl rfl (fun hc => ex_bin (vx := (I x5.1)) (vy := (I 2)) (cond_of hc) rfl eqlI_ok) ?_
  refine arun_do rfl rfl rfl (ex_pick rfl pkAnd) ?_
  refine arun_do rfl rfl rfl (ex_move (eV (v := (Bo ((((((((((x1.length : Int) == 8) && x7) && x8) && x9) && (!x10)) && ((x4.length : Int) == 1)) && (x11 == 1)) && x5.2) && (x5.1 == 2)))) rfl)) ?_
  refine arun_guard (v := (Bo x6.2)) (((((((((((x1.length : Int) == 8) && x7) && x8) && x9) && (!x10)) && ((x4.length : Int) == 1)) && (x11 == 1)) && x5.2) && (x5.1 == 2)) == true) rfl rfl rfl (fun hc => ex_move (eV (v := (Bo x6.2)) rfl)) ?_
  refine arun_do rfl rfl rfl (ex_pick rfl pkAnd) ?_
  refine arun_do rfl rfl rfl (ex_move (eV (v := (Bo (((((((((((x1.length : Int) == 8) && x7) && x8) && x9) && (!x10)) && ((x4.length : Int) == 1)) && (x11 == 1)) && x5.2) && (x5.1 == 2)) && x6.2))) rfl)) ?_
  refine arun_guard (v := (I x6.1)) ((((((((((((x1.length : Int) == 8) && x7) && x8) && x9) && (!x10)) && ((x4.length : Int) == 1)) && (x11 == 1)) && x5.2) && (x5.1 == 2)) && x6.2) == true) rfl rfl rfl (fun hc => ex_move (eV (v := (I x6.1)) rfl)) ?_
  refine arun_guard (v := (Bo (x6.1 == 3))) ((((((((((((x1.length : Int) == 8) && x7) && x8) && x9) && (!x10)) && ((x4.length : Int) == 1)) && (x11 == 1)) && x5.2) && (x5.1 == 2)) && x6.2) == true) rfl rfl rfl (fun hc => ex_bin (vx := (I x6.1)) (vy := (I 3)) (cond_of hc) rfl eqlI_ok) ?_
  refine arun_do rfl rfl rfl (ex_pick rfl pkAnd) ?_
  refine arun_do rfl rfl rfl (ex_move (eV (v := (Bo ((((((((((((x1.length : Int) == 8) && x7) && x8) && x9) && (!x10)) && ((x4.length : Int) == 1)) && (x11 == 1)) && x5.2) && (x5.1 == 2)) && x6.2) && (x6.1 == 3)))) rfl)) ?_
  refine arun_guard (v := (SL 5 c_api_Node x3.1)) (((((((((((((x1.length : Int) == 8) && x7) && x8) && x9) && (!x10)) && ((x4.length : Int) == 1)) && (x11 == 1)) && x5.2) && (x5.1 == 2)) && x6.2) && (x6.1 == 3)) == true) rfl rfl rfl (fun hc => ex_move (eV (v := (SL 5 c_api_Node x3.1)) rfl)) ?_
  refine arun_guard (v := (SL 5 c_api_Node x3.1)) (((((((((((((x1.length : Int) == 8) && x7) && x8) && x9) && (!x10)) && ((x4.length : Int) == 1)) && (x11 == 1)) && x5.2) && (x5.1 == 2)) && x6.2) && (x6.1 == 3)) == true) rfl rfl rfl (fun hc => ex_move (eV (v := (SL 5 c_api_Node x3.1)) rfl)) ?_
  obtain ⟨x12, hx12, h⟩ := bindS h
  refine arun_guard (v := (Bo x12)) (((((((((((((x1.length : Int) == 8) && x7) && x8) && x9) && (!x10)) && ((x4.length : Int) == 1)) && (x11 == 1)) && x5.2) && (x5.1 == 2)) && x6.2) && (x6.1 == 3)) == true) rfl rfl rfl (fun hc => ex_call0 (vs := [(SL 5 c_api_Node x3.1), (SL 5 c_api_Node x3.1)]) (v := (Bo x12)) rfl en_13 (cargs (evs (cond_of hc) (evs (cond_of hc) evs_nil))) rfl (ok_node_Same x3.1 x3.1 x12 (gd_of hc hx12)) rfl) ?_
  refine arun_do rfl rfl rfl (ex_pick rfl pkAnd) ?_
  refine arun_do rfl rfl rfl (ex_move (eV (v := (Bo (((((((((((((x1.length : Int) == 8) && x7) && x8) && x9) && (!x10)) && ((x4.length : Int) == 1)) && (x11 == 1)) && x5.2) && (x5.1 == 2)) && x6.2) && (x6.1 == 3)) && x12))) rfl)) ?_
  refine arun_guard (v := (SL 5 c_api_Node x3.1)) ((((((((((((((x1.length : Int) == 8) && x7) && x8) && x9) && (!x10)) && ((x4.length : Int) == 1)) && (x11 == 1)) && x5.2) && (x5.1 == 2)) && x6.2) && (x6.1 == 3)) && x12) == true) rfl rfl rfl (fun hc => ex_move (eV (v := (SL 5 c_api_Node x3.1)) rfl)) ?_
  refine arun_guard (v := (SL 5 c_api_Node x1)) ((((((((((((((x1.length : Int) == 8) && x7) && x8) && x9) && (!x10)) && ((x4.length : Int) == 1)) && (x11 == 1)) && x5.2) && (x5.1 == 2)) && x6.2) && (x6.1 == 3)) && x12) == true) rfl rfl rfl (fun hc => ex_move (eV (v := (SL 5 c_api_Node x1)) rfl)) ?_
  obtain ⟨x13, hx13, h⟩ := bindS h
  refine arun_guard (v := (Bo x13)) ((((((((((((((x1.length : Int) == 8) && x7) && x8) && x9) && (!x10)) && ((x4.length : Int) == 1)) && (x11 == 1)) && x5.2) && (x5.1 == 2)) && x6.2) && (x6.1 == 3)) && x12) == true) rfl rfl rfl (fun hc => ex_call0 (vs := [(SL 5 c_api_Node x3.1), (SL 5 c_api_Node x1)]) (v := (Bo x13)) rfl en_13 (cargs (evs (cond_of hc) (evs (cond_of hc) evs_nil))) rfl (ok_node_Same x3.1 x1 x13 (gd_of hc hx13)) rfl) ?_
  refine arun_guard (v := (Bo (!x13))) ((((((((((((((x1.length : Int) == 8) && x7) && x8) && x9) && (!x10)) && ((x4.length : Int) == 1)) && (x11 == 1)) && x5.2) && (x5.1 == 2)) && x6.2) && (x6.1 == 3)) && x12) == true) rfl rfl rfl (fun hc => ex_un (vx := (Bo x13)) (cond_of hc) notB_ok) ?_
  refine arun_do rfl rfl rfl (ex_pick rfl pkAnd) ?_
  refine arun_do rfl rfl rfl (ex_assign (eV (v := (Bo ((((((((((((((x1.length : Int) == 8) && x7) && x8) && x9) && (!x10)) && ((x4.length : Int) == 1)) && (x11 == 1)) && x5.2) && (x5.1 == 2)) && x6.2) && (x6.1 == 3)) && x12) && (!x13)))) rfl)) ?_
  refine arun_keepE [0] 0 0 (st' := ⟨87, 0, [(0, (Bo ((((((((((((((x1.length : Int) == 8) && x7) && x8) && x9) && (!x10)) && ((x4.length : Int) == 1)) && (x11 == 1)) && x5.2) && (x5.1 == 2)) && x6.2) && (x6.1 == 3)) && x12) && (!x13))))], [], ⟨0, []⟩⟩) (by kernel_rfl) (by kernel_rfl) ?_
  show AWp _ _ _ _
  refine awp_ret ?_
  cases h
  exact ares1 (rtmp rfl (eV rfl))

end Go.Proofs
