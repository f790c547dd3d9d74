/- Pure models of functions of the program, and that its code does what they say: palimpref1 SameTexts, palimpref11 folder, palimpref11 Torn. Written by a program. -/
import Derived.Test.YtiolemkcnkokaaaGreatDoorR15Z0
import Derived.Test.YtiolemkcnkokaaaGreatDoorR15ZB
set_option maxRecDepth 20000
set_option maxHeartbeats 4000000
namespace Go.Proofs
open Go Go.Fhl
set_option linter.unusedVariables false
set_option linter.unusedSimpArgs false
noncomputable def M_ref1_SameTexts_l1 (t0 : (List Str)) (t1 : (List Str)) : Nat → Int → Option Bool
  | 0, _ => none
  | n1 + 1, v2 =>
  cond (decide (v2 < (t0.length : Int))) (Option.bind (getI t0 v2) fun (x4 : Str) => Option.bind (getI t1 v2) fun (x5 : Str) => cond (x4 != x5) (some false) ((M_ref1_SameTexts_l1 t0 t1 n1) (w64 (v2 + 1)))) (some true)
noncomputable def M_ref1_SameTexts (t0 : (List Str)) (t1 : (List Str)) : Option Bool :=
  cond ((t0.length : Int) != (t1.length : Int)) (some false) (M_ref1_SameTexts_l1 t0 t1 fuel 0)
theorem ok_ref1_SameTexts (t0 : (List Str)) (t1 : (List Str)) (r : Bool) (h : M_ref1_SameTexts t0 t1 = some r) : FFn Tryz.prog 23 [(SL 1 cS t0), (SL 1 cS t1)] (Bo r) := by
  refine FFn.of_body (n := 26) Tryz.func23 rfl Tryz.ntmps23 rfl rfl rfl rfl ?_
  show AWp _ _ _ ⟨26, 0, [(0, (SL 1 cS t0)), (1, (SL 1 cS t1))], [], ⟨0, []⟩⟩
  unfold M_ref1_SameTexts at h
  refine awp_seq ?_
  refine awr ?_
  refine ado rfl rfl rfl (eas (eV (v := (Bo false)) rfl)) ?_
  refine ake [0, 1] 0 0 (st' := ⟨26, 0, [(0, (SL 1 cS t0)), (1, (SL 1 cS t1))], [], ⟨0, []⟩⟩) (by kernel_rfl) (by kernel_rfl) ?_
  show AWp _ _ _ _
  refine awp_seq ?_
  refine awp_seq ?_
  refine awr ?_
  refine ado rfl rfl rfl (emv (eV (v := (SL 1 cS t0)) rfl)) ?_
  refine ado rfl rfl rfl (tx_lenD (xs := t0) ceS Tryz.underlying30 rfl) ?_
  refine ado rfl rfl rfl (emv (eV (v := (SL 1 cS t1)) rfl)) ?_
  refine ado rfl rfl rfl (tx_lenD (xs := t1) ceS Tryz.underlying30 rfl) ?_
  refine ado rfl rfl rfl (ex_bin (vx := (I (t0.length : Int))) (vy := (I (t1.length : Int))) rfl rfl neqI_ok) ?_
  refine ake [0, 1, 10] 0 0 (st' := ⟨26, 0, [(0, (SL 1 cS t0)), (1, (SL 1 cS t1)), (10, (Bo ((t0.length : Int) != (t1.length : Int))))], [], ⟨0, []⟩⟩) (by kernel_rfl) (by kernel_rfl) ?_
  show AWp _ _ _ _
  rcases Bool.eq_false_or_eq_true ((t0.length : Int) != (t1.length : Int)) with hb1 | hb1
  · rw [condT hb1] at h
    refine awp_condT (boT hb1) ?_
    refine awp_seq ?_
    refine awr ?_
    refine ado rfl rfl rfl (eas (eV (v := (Bo false)) rfl)) ?_
    refine ake [4] 0 0 (st' := ⟨26, 0, [(4, (Bo false))], [], ⟨0, []⟩⟩) (by kernel_rfl) (by kernel_rfl) ?_
    show AWp _ _ _ _
    refine awp_ret ?_
    cases h
    exact ares1 (rtmp rfl (eV rfl))
  · rw [condF hb1] at h
    refine awp_condF (boF hb1) ?_
    refine awp_skip ?_
    show AWp _ _ _ _
    refine awp_seq ?_
    refine awp_seq ?_
    refine awr ?_
    refine ado rfl rfl rfl (eas (eV (v := (I 0)) rfl)) ?_
    refine ake [0, 1, 5] 0 0 (st' := ⟨26, 0, [(0, (SL 1 cS t0)), (1, (SL 1 cS t1)), (5, (I 0))], [], ⟨0, []⟩⟩) (by kernel_rfl) (by kernel_rfl) ?_
    show AWp _ _ _ _
    refine awp_block ?_
    refine awp_loop (fun n s => ∃ (v2 : Int), s = ⟨26, 0, [(0, (SL 1 cS t0)), (1, (SL 1 cS t1)), (5, (I v2))], [], ⟨0, []⟩⟩ ∧ M_ref1_SameTexts_l1 t0 t1 n v2 = some r) fuel (Exists.intro 0 (And.intro rfl h)) ?_
    rintro n s ⟨v2, rfl, h⟩ -
    cases n with
    | zero => cases h
    | succ n1 =>
      unfold M_ref1_SameTexts_l1 at h
      refine awp_seq ?_
      refine awp_seq ?_
      refine awr ?_
      refine ado rfl rfl rfl (emv (eV (v := (I v2)) rfl)) ?_
      refine ado rfl rfl rfl (emv (eV (v := (SL 1 cS t0)) rfl)) ?_
      refine ado rfl rfl rfl (tx_lenD (xs := t0) ceS Tryz.underlying30 rfl) ?_
      refine ado rfl rfl rfl (ex_bin (vx := (I v2)) (vy := (I (t0.length : Int))) rfl rfl lssI_ok) ?_
      refine ake [0, 1, 5, 14] 0 0 (st' := ⟨26, 0, [(0, (SL 1 cS t0)), (1, (SL 1 cS t1)), (5, (I v2)), (14, (Bo (decide (v2 < (t0.length : Int)))))], [], ⟨0, []⟩⟩) (by kernel_rfl) (by kernel_rfl) ?_
      show AWp _ _ _ _
      rcases Bool.eq_false_or_eq_true (decide (v2 < (t0.length : Int))) with hb3 | hb3
      · rw [condT hb3] at h
        refine awp_condT (boT hb3) ?_
        refine awp_skip ?_
        show AWp _ _ _ _
        refine awp_seq ?_
        refine awp_block ?_
        refine awp_seq ?_
        obtain ⟨x4, hx4, h⟩ := bindS h
        obtain ⟨x5, hx5, h⟩ := bindS h
        refine awp_kn [0, 1, 5, 25] 0 0 (st' := ⟨26, 0, [(0, (SL 1 cS t0)), (1, (SL 1 cS t1)), (5, (I v2)), (25, (Bo (x4 != x5)))], [], ⟨0, []⟩⟩) (awp_draw (T := [(SL 1 cS t0), (I v2), (DP (cS x4)), (S x4), (SL 1 cS t1), (I v2), (DP (cS x5)), (S x5), (Bo (x4 != x5))]) (LH := [([], ⟨0, []⟩)]) (D := [⟨[(0, none)], [], [0], false⟩, ⟨[(5, none)], [], [0], false⟩, ⟨[(17, some 0), (18, some 1)], [0, 1], [0], false⟩, ⟨[(19, some 2)], [0, 1, 2], [0], false⟩, ⟨[(1, none)], [], [0], false⟩, ⟨[(5, none)], [], [0], false⟩, ⟨[(21, some 4), (22, some 5)], [4, 5], [0], false⟩, ⟨[(23, some 6)], [4, 5, 6], [0], false⟩, ⟨[(20, some 3), (24, some 7)], [0, 1, 2, 3, 4, 5, 6, 7], [0], false⟩]) (S := []) (plan := [0, 1, 2, 3, 4, 5, 6, 7, 8]) mo (by kernel_rfl) rfl rfl rfl (dcons (dstep1 (Tm := [(0, (SL 1 cS t0))]) (L := []) (H := ⟨0, []⟩) rfl rfl rfl rfl rfl (astep_do rfl (emv (eV (v := (SL 1 cS t0)) rfl)))) (dcons (dstep1 (Tm := [(5, (I v2))]) (L := []) (H := ⟨0, []⟩) rfl rfl rfl rfl rfl (astep_do rfl (emv (eV (v := (I v2)) rfl)))) (dcons (dstep1 (Tm := [(17, (SL 1 cS t0)), (18, (I v2))]) (L := []) (H := ⟨0, []⟩) rfl rfl rfl rfl rfl (astep_do rfl (tx_idxD (c := cS) (xs := t0) (i := v2) ceS Tryz.underlying30 s_9 rfl rfl hx4))) (dcons (dstep1 (Tm := [(19, (DP (cS x4)))]) (L := []) (H := ⟨0, []⟩) rfl rfl rfl rfl rfl (astep_do rfl (tx_ldD1 (v := (S x4)) Tryz.underlying9 rfl rfl rfl))) (dcons (dstep1 (Tm := [(1, (SL 1 cS t1))]) (L := []) (H := ⟨0, []⟩) rfl rfl rfl rfl rfl (astep_do rfl (emv (eV (v := (SL 1 cS t1)) rfl)))) (dcons (dstep1 (Tm := [(5, (I v2))]) (L := []) (H := ⟨0, []⟩) rfl rfl rfl rfl rfl (astep_do rfl (emv (eV (v := (I v2)) rfl)))) (dcons (dstep1 (Tm := [(21, (SL 1 cS t1)), (22, (I v2))]) (L := []) (H := ⟨0, []⟩) rfl rfl rfl rfl rfl (astep_do rfl (tx_idxD (c := cS) (xs := t1) (i := v2) ceS Tryz.underlying30 s_9 rfl rfl hx5))) (dcons (dstep1 (Tm := [(23, (DP (cS x5)))]) (L := []) (H := ⟨0, []⟩) rfl rfl rfl rfl rfl (astep_do rfl (tx_ldD1 (v := (S x5)) Tryz.underlying9 rfl rfl rfl))) (dcons (dstep1 (Tm := [(20, (S x4)), (24, (S x5))]) (L := []) (H := ⟨0, []⟩) rfl rfl rfl rfl rfl (astep_do rfl (ex_bin (vx := (S x4)) (vy := (S x5)) rfl rfl neqS_ok))) dnil))))))))) ⟨rfl, rfl⟩) (by kernel_rfl) (by kernel_rfl) ?_
        show AWp _ _ _ _
        rcases Bool.eq_false_or_eq_true (x4 != x5) with hb6 | hb6
        · rw [condT hb6] at h
          refine awp_condT (boT hb6) ?_
          refine awp_seq ?_
          refine awr ?_
          refine ado rfl rfl rfl (eas (eV (v := (Bo false)) rfl)) ?_
          refine ake [4] 0 0 (st' := ⟨26, 0, [(4, (Bo false))], [], ⟨0, []⟩⟩) (by kernel_rfl) (by kernel_rfl) ?_
          show AWp _ _ _ _
          refine awp_ret ?_
          cases h
          exact ares1 (rtmp rfl (eV rfl))
        · rw [condF hb6] at h
          refine awp_condF (boF hb6) ?_
          refine awp_skip ?_
          show AWp _ _ _ _
          refine awr ?_
          refine ado rfl rfl rfl (emv (eV (v := (I v2)) rfl)) ?_
          refine ado rfl rfl rfl (ex_bin (vx := (I v2)) (vy := (I 1)) rfl rfl addI_ok) ?_
          refine ado rfl rfl rfl (eas (eV (v := (I (w64 (v2 + 1)))) rfl)) ?_
          refine ake [0, 1, 5] 0 0 (st' := ⟨26, 0, [(0, (SL 1 cS t0)), (1, (SL 1 cS t1)), (5, (I (w64 (v2 + 1))))], [], ⟨0, []⟩⟩) (by kernel_rfl) (by kernel_rfl) ?_
          exact Exists.intro n1 (And.intro (Nat.lt_succ_self _) (Exists.intro (w64 (v2 + 1)) (And.intro rfl h)))
      · rw [condF hb3] at h
        refine awp_condF (boF hb3) ?_
        refine awp_exit ?_
        show AWp _ _ _ _
        refine awp_seq ?_
        refine awr ?_
        refine ado rfl rfl rfl (eas (eV (v := (Bo true)) rfl)) ?_
        refine ake [4] 0 0 (st' := ⟨26, 0, [(4, (Bo true))], [], ⟨0, []⟩⟩) (by kernel_rfl) (by kernel_rfl) ?_
        show AWp _ _ _ _
        refine awp_ret ?_
        cases h
        exact ares1 (rtmp rfl (eV rfl))

noncomputable def M_ref11_folder (t0 : (List G_api_Node)) (t1 : Int) : Option Bool :=
  Option.bind (gd (((decide (t1 ≥ 0)) && (decide (t1 < (t0.length : Int)))) == true) (getI t0 t1)) fun (x1 : G_api_Node) => Option.bind (gd ((((decide (t1 ≥ 0)) && (decide (t1 < (t0.length : Int)))) == true) && ((x1.Kind == 2) == false)) (getI t0 t1)) fun (x2 : G_api_Node) => some (((decide (t1 ≥ 0)) && (decide (t1 < (t0.length : Int)))) && ((x1.Kind == 2) || (x2.Kind == 3)))
noncomputable def M_ref11_Torn_k1 (c_1 : (Int → Option Bool)) (t0 : (List G_api_Node)) (v3 : Int) : Option Bool :=
  c_1 (w64 (v3 + 1))
noncomputable def M_ref11_Torn_l3 (c_1 : (Int → Option Bool)) (c_2 : (Int → Option Bool)) (t0 : (List G_api_Node)) (v3 : Int) : Nat → Int → Int → Option Bool
  | 0, _, _ => none
  | n3 + 1, v24, v25 =>
  cond (((decide (v25 < (t0.length : Int))) && (decide (v24 > 0))) && (decide (v24 < (t0.length : Int)))) (Option.bind (getI t0 v24) fun (x27 : G_api_Node) => (M_ref11_Torn_l3 c_1 c_2 t0 v3 n3) x27.Up (w64 (v25 + 1))) (cond (v24 != 0) (some false) (M_ref11_Torn_k1 c_1 t0 v3))
noncomputable def M_ref11_Torn_l2 (c_1 : (Int → Option Bool)) (t0 : (List G_api_Node)) (v3 : Int) (x5 : G_api_Node) : Nat → Int → Option Bool
  | 0, _ => none
  | n2 + 1, v17 =>
  cond (decide (v17 < v3)) (Option.bind (getI t0 v17) fun (x19 : G_api_Node) => Option.bind (gd ((x19.Kind != 0) == true) (getI t0 v17)) fun (x20 : G_api_Node) => Option.bind (gd (((x19.Kind != 0) && (x20.Kind != 3)) == true) (getI t0 v17)) fun (x21 : G_api_Node) => Option.bind (gd ((((x19.Kind != 0) && (x20.Kind != 3)) && (x21.Up == x5.Up)) == true) (getI t0 v17)) fun (x22 : G_api_Node) => cond ((((x19.Kind != 0) && (x20.Kind != 3)) && (x21.Up == x5.Up)) && (x22.Name == x5.Name)) (some false) ((M_ref11_Torn_l2 c_1 t0 v3 x5 n2) (w64 (v17 + 1)))) (M_ref11_Torn_l3 c_1 (M_ref11_Torn_l2 c_1 t0 v3 x5 n2) t0 v3 fuel v3 0)
noncomputable def M_ref11_Torn_k2 (c_1 : (Int → Option Bool)) (t0 : (List G_api_Node)) (v3 : Int) (x5 : G_api_Node) : Option Bool :=
  Option.bind (M_ref11_MayName x5.Name) fun (x14 : Bool) => Option.bind (gd ((!x14) == false) (M_ref11_folder t0 x5.Up)) fun (x15 : Bool) => cond (((!x14) || (!x15)) || (decide ((x5.Body.length : Int) > 128))) (some false) (M_ref11_Torn_l2 c_1 t0 v3 x5 fuel 1)
noncomputable def M_ref11_Torn_l1 (t0 : (List G_api_Node)) : Nat → Int → Option Bool
  | 0, _ => none
  | n1 + 1, v3 =>
  cond (decide (v3 < (t0.length : Int))) (Option.bind (getI t0 v3) fun (x5 : G_api_Node) => cond (x5.Kind == 0) (cond (!decide (x5 = (G_api_Node.mk 0 0 [] [] 0))) (some false) (M_ref11_Torn_k1 (M_ref11_Torn_l1 t0 n1) t0 v3)) (cond (x5.Kind == 3) (cond (!decide (x5 = (G_api_Node.mk 3 0 [] [] 0))) (some false) (M_ref11_Torn_k1 (M_ref11_Torn_l1 t0 n1) t0 v3)) (cond (x5.Kind == 1) (cond ((decide (x5.Bad < 0)) || (decide (x5.Bad > 15))) (some false) (M_ref11_Torn_k2 (M_ref11_Torn_l1 t0 n1) t0 v3 x5)) (cond (x5.Kind == 2) (cond ((x5.Bad != 0) || (x5.Body != [])) (some false) (M_ref11_Torn_k2 (M_ref11_Torn_l1 t0 n1) t0 v3 x5)) (some false))))) (some true)
noncomputable def M_ref11_Torn (t0 : (List G_api_Node)) : Option Bool :=
  Option.bind (gd (((t0.length : Int) != 8) == false) (getI t0 0)) fun (x1 : G_api_Node) => cond (((t0.length : Int) != 8) || (!decide (x1 = (G_api_Node.mk 2 0 [] [] 0)))) (some false) (M_ref11_Torn_l1 t0 fuel 1)
end Go.Proofs
