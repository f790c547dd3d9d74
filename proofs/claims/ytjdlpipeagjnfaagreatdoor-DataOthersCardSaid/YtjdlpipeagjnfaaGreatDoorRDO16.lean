/- Pure models of functions of the program, and that its code does what they say: palimpref11 folder, palimpref11 Torn. Written by a program. -/
import Derived.Test.YtjdlpipeagjnfaaGreatDoorRDO0
import Derived.Test.YtjdlpipeagjnfaaGreatDoorRDOB
set_option maxRecDepth 20000
set_option maxHeartbeats 4000000
namespace Go.Proofs
open Go Go.Fhl
set_option linter.unusedVariables false
set_option linter.unusedSimpArgs false
noncomputable def M_ref11_folder (t0 : (List G_api_Node)) (t1 : Int) : Option Bool :=
  Option.bind (gd (((decide (t1 ≥ 0)) && (decide (t1 < (t0.length : Int)))) == true) (getI t0 t1)) fun (x1 : G_api_Node) => Option.bind (gd ((((decide (t1 ≥ 0)) && (decide (t1 < (t0.length : Int)))) == true) && ((x1.Kind == 2) == false)) (getI t0 t1)) fun (x2 : G_api_Node) => some (((decide (t1 ≥ 0)) && (decide (t1 < (t0.length : Int)))) && ((x1.Kind == 2) || (x2.Kind == 3)))
theorem ok_ref11_folder (t0 : (List G_api_Node)) (t1 : Int) (r : Bool) (h : M_ref11_folder t0 t1 = some r) : FFn Tryz.prog 45 [(SL 5 cNd t0), (I t1)] (Bo r) := by
  refine FFn.of_body (n := 29) Tryz.func45 rfl Tryz.ntmps45 rfl rfl rfl rfl ?_
  show AWp _ _ _ ⟨29, 0, [(0, (SL 5 cNd t0)), (1, (I t1))], [], ⟨0, []⟩⟩
  unfold M_ref11_folder at h
  refine awp_seq ?_
  refine awr ?_
  refine ado rfl rfl rfl (eas (eV (v := (Bo false)) rfl)) ?_
  refine ake [0, 1] 0 0 (st' := ⟨29, 0, [(0, (SL 5 cNd t0)), (1, (I t1))], [], ⟨0, []⟩⟩) (by kernel_rfl) (by kernel_rfl) ?_
  show AWp _ _ _ _
  refine awp_seq ?_
  refine awr ?_
  refine ado rfl rfl rfl (emv (eV (v := (I t1)) rfl)) ?_
  refine ado rfl rfl rfl (ex_bin (vx := (I t1)) (vy := (I 0)) rfl rfl geqI_ok) ?_
  refine ado rfl rfl rfl (emv (eV (v := (Bo (decide (t1 ≥ 0)))) rfl)) ?_
  refine arun_guard (v := (I t1)) ((decide (t1 ≥ 0)) == true) rfl rfl rfl (fun hc => emv (eV (v := (I t1)) rfl)) ?_
  refine arun_guard (v := (SL 5 cNd t0)) ((decide (t1 ≥ 0)) == true) rfl rfl rfl (fun hc => emv (eV (v := (SL 5 cNd t0)) rfl)) ?_
  refine arun_guard (v := (I (t0.length : Int))) ((decide (t1 ≥ 0)) == true) rfl rfl rfl (fun hc => tx_lenD (xs := t0) ce_api_Node Tryz.underlying25 (cond_of hc)) ?_
  refine arun_guard (v := (Bo (decide (t1 < (t0.length : Int))))) ((decide (t1 ≥ 0)) == true) rfl rfl rfl (fun hc => ex_bin (vx := (I t1)) (vy := (I (t0.length : Int))) (cond_of hc) (cond_of hc) lssI_ok) ?_
  refine ado rfl rfl rfl (ex_pick rfl pkAnd) ?_
  refine ado rfl rfl rfl (emv (eV (v := (Bo ((decide (t1 ≥ 0)) && (decide (t1 < (t0.length : Int)))))) rfl)) ?_
  refine arun_guard (v := (SL 5 cNd t0)) (((decide (t1 ≥ 0)) && (decide (t1 < (t0.length : Int)))) == true) rfl rfl rfl (fun hc => emv (eV (v := (SL 5 cNd t0)) rfl)) ?_
  refine arun_guard (v := (I t1)) (((decide (t1 ≥ 0)) && (decide (t1 < (t0.length : Int)))) == true) rfl rfl rfl (fun hc => emv (eV (v := (I t1)) rfl)) ?_
  obtain ⟨x1, hx1, h⟩ := bindS h
  refine arun_guard (v := (DP (cNd x1))) (((decide (t1 ≥ 0)) && (decide (t1 < (t0.length : Int)))) == true) rfl rfl rfl (fun hc => tx_idxD (c := cNd) (xs := t0) (i := t1) ce_api_Node Tryz.underlying25 s_38 (cond_of hc) (cond_of hc) (gd_of hc hx1)) ?_
  refine arun_guard (v := (DP (List.drop 0 (cNd x1)))) (((decide (t1 ≥ 0)) && (decide (t1 < (t0.length : Int)))) == true) rfl rfl rfl (fun hc => ex_fieldAddrD (vs := (List.drop 0 (cNd x1))) Tryz.underlying38 rfl s_3 (by decide) (cond_of hc) rfl) ?_
  refine arun_guard (v := (I x1.Kind)) (((decide (t1 ≥ 0)) && (decide (t1 < (t0.length : Int)))) == true) rfl rfl rfl (fun hc => tx_ldD1 (v := (I x1.Kind)) Tryz.underlying3 rfl (cond_of hc) rfl) ?_
  refine arun_guard (v := (Bo (x1.Kind == 2))) (((decide (t1 ≥ 0)) && (decide (t1 < (t0.length : Int)))) == true) rfl rfl rfl (fun hc => ex_bin (vx := (I x1.Kind)) (vy := (I 2)) (cond_of hc) rfl eqlI_ok) ?_
  refine arun_guard (v := (Bo (x1.Kind == 2))) (((decide (t1 ≥ 0)) && (decide (t1 < (t0.length : Int)))) == true) rfl rfl rfl (fun hc => emv (eV (v := (Bo (x1.Kind == 2))) (cond_of hc))) ?_
  refine arun_guard (v := (SL 5 cNd t0)) ((((decide (t1 ≥ 0)) && (decide (t1 < (t0.length : Int)))) == true) && ((x1.Kind == 2) == false)) rfl rfl gv_nest (fun hc => emv (eV (v := (SL 5 cNd t0)) rfl)) ?_
  refine arun_guard (v := (I t1)) ((((decide (t1 ≥ 0)) && (decide (t1 < (t0.length : Int)))) == true) && ((x1.Kind == 2) == false)) rfl rfl gv_nest (fun hc => emv (eV (v := (I t1)) rfl)) ?_
  obtain ⟨x2, hx2, h⟩ := bindS h
  refine arun_guard (v := (DP (cNd x2))) ((((decide (t1 ≥ 0)) && (decide (t1 < (t0.length : Int)))) == true) && ((x1.Kind == 2) == false)) rfl rfl gv_nest (fun hc => tx_idxD (c := cNd) (xs := t0) (i := t1) ce_api_Node Tryz.underlying25 s_38 (cond_of hc) (cond_of hc) (gd_of hc hx2)) ?_
  refine arun_guard (v := (DP (List.drop 0 (cNd x2)))) ((((decide (t1 ≥ 0)) && (decide (t1 < (t0.length : Int)))) == true) && ((x1.Kind == 2) == false)) rfl rfl gv_nest (fun hc => ex_fieldAddrD (vs := (List.drop 0 (cNd x2))) Tryz.underlying38 rfl s_3 (by decide) (cond_of hc) rfl) ?_
  refine arun_guard (v := (I x2.Kind)) ((((decide (t1 ≥ 0)) && (decide (t1 < (t0.length : Int)))) == true) && ((x1.Kind == 2) == false)) rfl rfl gv_nest (fun hc => tx_ldD1 (v := (I x2.Kind)) Tryz.underlying3 rfl (cond_of hc) rfl) ?_
  refine arun_guard (v := (Bo (x2.Kind == 3))) ((((decide (t1 ≥ 0)) && (decide (t1 < (t0.length : Int)))) == true) && ((x1.Kind == 2) == false)) rfl rfl gv_nest (fun hc => ex_bin (vx := (I x2.Kind)) (vy := (I 3)) (cond_of hc) rfl eqlI_ok) ?_
  refine arun_guard (v := (Bo ((x1.Kind == 2) || (x2.Kind == 3)))) (((decide (t1 ≥ 0)) && (decide (t1 < (t0.length : Int)))) == true) rfl rfl rfl (fun hc => ex_pick (cond_of hc) (pkOrN hc)) ?_
  refine ado rfl rfl rfl (ex_pick rfl pkAnd) ?_
  refine ado rfl rfl rfl (eas (eV (v := (Bo (((decide (t1 ≥ 0)) && (decide (t1 < (t0.length : Int)))) && ((x1.Kind == 2) || (x2.Kind == 3))))) rfl)) ?_
  refine ake [4] 0 0 (st' := ⟨29, 0, [(4, (Bo (((decide (t1 ≥ 0)) && (decide (t1 < (t0.length : Int)))) && ((x1.Kind == 2) || (x2.Kind == 3)))))], [], ⟨0, []⟩⟩) (by kernel_rfl) (by kernel_rfl) ?_
  show AWp _ _ _ _
  refine awp_ret ?_
  cases h
  exact ares1 (rtmp rfl (eV rfl))

noncomputable def M_ref11_Torn_k1 (c_1 : (Int → Option Bool)) (t0 : (List G_api_Node)) (v3 : Int) : Option Bool :=
  c_1 (w64 (v3 + 1))
noncomputable def M_ref11_Torn_l3 (c_1 : (Int → Option Bool)) (c_2 : (Int → Option Bool)) (t0 : (List G_api_Node)) (v3 : Int) : Nat → Int → Int → Option Bool
  | 0, _, _ => none
  | n3 + 1, v24, v25 =>
  cond (((decide (v25 < (t0.length : Int))) && (decide (v24 > 0))) && (decide (v24 < (t0.length : Int)))) (Option.bind (getI t0 v24) fun (x27 : G_api_Node) => (M_ref11_Torn_l3 c_1 c_2 t0 v3 n3) x27.Up (w64 (v25 + 1))) (cond (v24 != 0) (some false) (M_ref11_Torn_k1 c_1 t0 v3))
noncomputable def M_ref11_Torn_l2 (c_1 : (Int → Option Bool)) (t0 : (List G_api_Node)) (v3 : Int) (x5 : G_api_Node) : Nat → Int → Option Bool
  | 0, _ => none
  | n2 + 1, v17 =>
  cond (decide (v17 < v3)) (Option.bind (getI t0 v17) fun (x19 : G_api_Node) => Option.bind (gd ((x19.Kind != 0) == true) (getI t0 v17)) fun (x20 : G_api_Node) => Option.bind (gd (((x19.Kind != 0) && (x20.Kind != 3)) == true) (getI t0 v17)) fun (x21 : G_api_Node) => Option.bind (gd ((((x19.Kind != 0) && (x20.Kind != 3)) && (x21.Up == x5.Up)) == true) (getI t0 v17)) fun (x22 : G_api_Node) => cond ((((x19.Kind != 0) && (x20.Kind != 3)) && (x21.Up == x5.Up)) && (x22.Name == x5.Name)) (some false) ((M_ref11_Torn_l2 c_1 t0 v3 x5 n2) (w64 (v17 + 1)))) (M_ref11_Torn_l3 c_1 (M_ref11_Torn_l2 c_1 t0 v3 x5 n2) t0 v3 fuel v3 0)
noncomputable def M_ref11_Torn_k2 (c_1 : (Int → Option Bool)) (t0 : (List G_api_Node)) (v3 : Int) (x5 : G_api_Node) : Option Bool :=
  Option.bind (M_ref11_MayName x5.Name) fun (x14 : Bool) => Option.bind (gd ((!x14) == false) (M_ref11_folder t0 x5.Up)) fun (x15 : Bool) => cond (((!x14) || (!x15)) || (decide ((x5.Body.length : Int) > 128))) (some false) (M_ref11_Torn_l2 c_1 t0 v3 x5 fuel 1)
noncomputable def M_ref11_Torn_l1 (t0 : (List G_api_Node)) : Nat → Int → Option Bool
  | 0, _ => none
  | n1 + 1, v3 =>
  cond (decide (v3 < (t0.length : Int))) (Option.bind (getI t0 v3) fun (x5 : G_api_Node) => cond (x5.Kind == 0) (cond (!decide (x5 = (G_api_Node.mk 0 0 [] [] 0))) (some false) (M_ref11_Torn_k1 (M_ref11_Torn_l1 t0 n1) t0 v3)) (cond (x5.Kind == 3) (cond (!decide (x5 = (G_api_Node.mk 3 0 [] [] 0))) (some false) (M_ref11_Torn_k1 (M_ref11_Torn_l1 t0 n1) t0 v3)) (cond (x5.Kind == 1) (cond ((decide (x5.Bad < 0)) || (decide (x5.Bad > 15))) (some false) (M_ref11_Torn_k2 (M_ref11_Torn_l1 t0 n1) t0 v3 x5)) (cond (x5.Kind == 2) (cond ((x5.Bad != 0) || (x5.Body != [])) (some false) (M_ref11_Torn_k2 (M_ref11_Torn_l1 t0 n1) t0 v3 x5)) (some false))))) (some true)
noncomputable def M_ref11_Torn (t0 : (List G_api_Node)) : Option Bool :=
  Option.bind (gd (((t0.length : Int) != 8) == false) (getI t0 0)) fun (x1 : G_api_Node) => cond (((t0.length : Int) != 8) || (!decide (x1 = (G_api_Node.mk 2 0 [] [] 0)))) (some false) (M_ref11_Torn_l1 t0 fuel 1)
theorem ok_ref11_Torn (t0 : (List G_api_Node)) (r : Bool) (h : M_ref11_Torn t0 = some r) : FFn Tryz.prog 28 [(SL 5 cNd t0)] (Bo r) := by
  refine FFn.of_body (n := 140) Tryz.func28 rfl Tryz.ntmps28 rfl rfl rfl rfl ?_
  show AWp _ _ _ ⟨140, 0, [(0, (SL 5 cNd t0))], [], ⟨0, []⟩⟩
  unfold M_ref11_Torn at h
  refine awp_seq ?_
  refine awr ?_
  refine ado rfl rfl rfl (eas (eV (v := (Bo false)) rfl)) ?_
  refine ake [0] 0 0 (st' := ⟨140, 0, [(0, (SL 5 cNd t0))], [], ⟨0, []⟩⟩) (by kernel_rfl) (by kernel_rfl) ?_
  show AWp _ _ _ _
  refine awp_seq ?_
  refine awp_seq ?_
  refine awr ?_
  refine ado rfl rfl rfl (emv (eV (v := (SL 5 cNd t0)) rfl)) ?_
  refine ado rfl rfl rfl (tx_lenD (xs := t0) ce_api_Node Tryz.underlying25 rfl) ?_
  refine ado rfl rfl rfl (ex_bin (vx := (I (t0.length : Int))) (vy := (I 8)) rfl rfl neqI_ok) ?_
  refine ado rfl rfl rfl (emv (eV (v := (Bo ((t0.length : Int) != 8))) rfl)) ?_
  refine arun_guard (v := (SL 5 cNd t0)) (((t0.length : Int) != 8) == false) rfl rfl rfl (fun hc => emv (eV (v := (SL 5 cNd t0)) rfl)) ?_
  obtain ⟨x1, hx1, h⟩ := bindS h
  refine arun_guard (v := (DP (cNd x1))) (((t0.length : Int) != 8) == false) rfl rfl rfl (fun hc => tx_idxD (c := cNd) (xs := t0) (i := 0) ce_api_Node Tryz.underlying25 s_38 (cond_of hc) rfl (gd_of hc hx1)) ?_
  refine arun_guard (v := (Value.agg (cNd x1).toArray)) (((t0.length : Int) != 8) == false) rfl rfl rfl (fun hc => tx_ldDA (vs := (cNd x1)) Tryz.underlying38 rfl s_38 (by decide) (cond_of hc) (Nat.le_of_ble_eq_true rfl) rfl) ?_
  refine arun_guard (v := (Value.agg (cNd (G_api_Node.mk 2 0 [] [] 0)).toArray)) (((t0.length : Int) != 8) == false) rfl rfl rfl (fun hc => ex_build (qs := [(0, (I 2))]) (v := (Value.agg (cNd (G_api_Node.mk 2 0 [] [] 0)).toArray)) (evp rfl evp_nil) (by kernel_rfl)) ?_
  refine arun_guard (v := (Bo (!decide (x1 = (G_api_Node.mk 2 0 [] [] 0))))) (((t0.length : Int) != 8) == false) rfl rfl rfl (fun hc => ex_bin (vx := (Value.agg (cNd x1).toArray)) (vy := (Value.agg (cNd (G_api_Node.mk 2 0 [] [] 0)).toArray)) (cond_of hc) (cond_of hc) neq_38) ?_
  refine ado rfl rfl rfl (ex_pick rfl pkOr) ?_
  refine ake [0, 17] 0 0 (st' := ⟨140, 0, [(0, (SL 5 cNd t0)), (17, (Bo (((t0.length : Int) != 8) || (!decide (x1 = (G_api_Node.mk 2 0 [] [] 0))))))], [], ⟨0, []⟩⟩) (by kernel_rfl) (by kernel_rfl) ?_
  show AWp _ _ _ _
  rcases Bool.eq_false_or_eq_true (((t0.length : Int) != 8) || (!decide (x1 = (G_api_Node.mk 2 0 [] [] 0)))) with hb2 | hb2
  · rw [condT hb2] at h
    refine awp_condT (boT hb2) ?_
    refine awp_seq ?_
    refine awr ?_
    refine ado rfl rfl rfl (eas (eV (v := (Bo false)) rfl)) ?_
    refine ake [2] 0 0 (st' := ⟨140, 0, [(2, (Bo false))], [], ⟨0, []⟩⟩) (by kernel_rfl) (by kernel_rfl) ?_
    show AWp _ _ _ _
    refine awp_ret ?_
    cases h
    exact ares1 (rtmp rfl (eV rfl))
  · rw [condF hb2] at h
    refine awp_condF (boF hb2) ?_
    refine awp_skip ?_
    show AWp _ _ _ _
    refine awp_seq ?_
    refine awp_seq ?_
    refine awr ?_
    refine ado rfl rfl rfl (eas (eV (v := (I 1)) rfl)) ?_
    refine ake [0, 3] 0 0 (st' := ⟨140, 0, [(0, (SL 5 cNd t0)), (3, (I 1))], [], ⟨0, []⟩⟩) (by kernel_rfl) (by kernel_rfl) ?_
    show AWp _ _ _ _
    refine awp_block ?_
    refine awp_loop (fun n s => ∃ (v3 : Int), s = ⟨140, 0, [(0, (SL 5 cNd t0)), (3, (I v3))], [], ⟨0, []⟩⟩ ∧ M_ref11_Torn_l1 t0 n v3 = some r) fuel (Exists.intro 1 (And.intro rfl h)) ?_
    rintro n s ⟨v3, rfl, h⟩ -
    cases n with
    | zero => cases h
    | succ n1 =>
      unfold M_ref11_Torn_l1 at h
      refine awp_seq ?_
      refine awp_seq ?_
      refine awr ?_
      refine ado rfl rfl rfl (emv (eV (v := (I v3)) rfl)) ?_
      refine ado rfl rfl rfl (emv (eV (v := (SL 5 cNd t0)) rfl)) ?_
      refine ado rfl rfl rfl (tx_lenD (xs := t0) ce_api_Node Tryz.underlying25 rfl) ?_
      refine ado rfl rfl rfl (ex_bin (vx := (I v3)) (vy := (I (t0.length : Int))) rfl rfl lssI_ok) ?_
      refine ake [0, 3, 21] 0 0 (st' := ⟨140, 0, [(0, (SL 5 cNd t0)), (3, (I v3)), (21, (Bo (decide (v3 < (t0.length : Int)))))], [], ⟨0, []⟩⟩) (by kernel_rfl) (by kernel_rfl) ?_
      show AWp _ _ _ _
      rcases Bool.eq_false_or_eq_true (decide (v3 < (t0.length : Int))) with hb4 | hb4
      · rw [condT hb4] at h
        refine awp_condT (boT hb4) ?_
        refine awp_skip ?_
        show AWp _ _ _ _
        refine awp_seqJ (fun s => s = ⟨140, 0, [(0, (SL 5 cNd t0)), (3, (I v3))], [], ⟨0, []⟩⟩ ∧ M_ref11_Torn_k1 (M_ref11_Torn_l1 t0 n1) t0 v3 = some r) ?_ ?_
        · refine awp_block ?_
          refine awp_seq ?_
          refine awr ?_
          refine ado rfl rfl rfl (emv (eV (v := (SL 5 cNd t0)) rfl)) ?_
          refine ado rfl rfl rfl (emv (eV (v := (I v3)) rfl)) ?_
          obtain ⟨x5, hx5, h⟩ := bindS h
          refine ado rfl rfl rfl (tx_idxD (c := cNd) (xs := t0) (i := v3) ce_api_Node Tryz.underlying25 s_38 rfl rfl hx5) ?_
          refine ado rfl rfl rfl (tx_ldDA (vs := (cNd x5)) Tryz.underlying38 rfl s_38 (by decide) rfl (Nat.le_of_ble_eq_true rfl) rfl) ?_
          refine ado rfl rfl rfl (ex_alloc (k := 0) (zs := (cNd (G_api_Node.mk 0 0 [] [] 0))) (L' := [(cNd (G_api_Node.mk 0 0 [] [] 0))]) z_38 rfl rfl rfl rfl) ?_
          refine arun_do0 rfl rfl (ex_storeL (vy := (Value.agg (cNd x5).toArray)) (cs := (cNd (G_api_Node.mk 0 0 [] [] 0))) (vs := (cNd x5)) (L' := [(cNd x5)]) rfl (eV (v := (Value.agg (cNd x5).toArray)) rfl) rfl s_38 rfl (Nat.le_of_ble_eq_true rfl) (by kernel_rfl)) ?_
          refine ake [0, 3, 4] 1 0 (st' := ⟨140, 0, [(0, (SL 5 cNd t0)), (3, (I v3)), (4, (LP 0 0))], [(cNd x5)], ⟨0, []⟩⟩) (by kernel_rfl) (by kernel_rfl) ?_
          show AWp _ _ _ _
          refine awp_seqJ (fun s => s = ⟨140, 0, [(0, (SL 5 cNd t0)), (3, (I v3)), (4, (LP 0 0))], [(cNd x5)], ⟨0, []⟩⟩ ∧ M_ref11_Torn_k2 (M_ref11_Torn_l1 t0 n1) t0 v3 x5 = some r) ?_ ?_
          · refine awp_seq ?_
            refine awr ?_
            refine ado rfl rfl rfl (ex_fieldAddr (v := (LP 0 0)) Tryz.underlying38 rfl s_3 (by decide) rfl rfl) ?_
            refine ado rfl rfl rfl (tx_ldL1 (v := (I x5.Kind)) Tryz.underlying3 rfl rfl rfl rfl) ?_
            refine ake [0, 3, 4, 29] 1 0 (st' := ⟨140, 0, [(0, (SL 5 cNd t0)), (3, (I v3)), (4, (LP 0 0)), (29, (I x5.Kind))], [(cNd x5)], ⟨0, []⟩⟩) (by kernel_rfl) (by kernel_rfl) ?_
            show AWp _ _ _ _
            refine awp_block ?_
            refine awp_seq ?_
            refine awr ?_
            refine ado rfl rfl rfl (ex_bin (vx := (I x5.Kind)) (vy := (I 0)) rfl rfl eqlI_ok) ?_
            refine ado rfl rfl rfl (eas (eV (v := (Bo (x5.Kind == 0))) rfl)) ?_
            refine ake [0, 3, 4, 29, 30] 1 0 (st' := ⟨140, 0, [(0, (SL 5 cNd t0)), (3, (I v3)), (4, (LP 0 0)), (29, (I x5.Kind)), (30, (Bo (x5.Kind == 0)))], [(cNd x5)], ⟨0, []⟩⟩) (by kernel_rfl) (by kernel_rfl) ?_
            show AWp _ _ _ _
            rcases Bool.eq_false_or_eq_true (x5.Kind == 0) with hb6 | hb6
            · rw [condT hb6] at h
              refine awp_condT (boT hb6) ?_
              refine awp_seq ?_
              refine awp_seq ?_
              refine awr ?_
              refine ado rfl rfl rfl (tx_ldLA (vs := (cNd x5)) Tryz.underlying38 rfl s_38 (by decide) rfl rfl rfl rfl) ?_
              refine ado rfl rfl rfl (ex_build (qs := []) (v := (Value.agg (cNd (G_api_Node.mk 0 0 [] [] 0)).toArray)) evp_nil (by kernel_rfl)) ?_
              refine ado rfl rfl rfl (ex_bin (vx := (Value.agg (cNd x5).toArray)) (vy := (Value.agg (cNd (G_api_Node.mk 0 0 [] [] 0)).toArray)) rfl rfl neq_38) ?_
              refine ake [0, 3, 34] 0 0 (st' := ⟨140, 0, [(0, (SL 5 cNd t0)), (3, (I v3)), (34, (Bo (!decide (x5 = (G_api_Node.mk 0 0 [] [] 0)))))], [], ⟨0, []⟩⟩) (by kernel_rfl) (by kernel_rfl) ?_
              show AWp _ _ _ _
              rcases Bool.eq_false_or_eq_true (!decide (x5 = (G_api_Node.mk 0 0 [] [] 0))) with hb7 | hb7
              · rw [condT hb7] at h
                refine awp_condT (boT hb7) ?_
                refine awp_seq ?_
                refine awr ?_
                refine ado rfl rfl rfl (eas (eV (v := (Bo false)) rfl)) ?_
                refine ake [2] 0 0 (st' := ⟨140, 0, [(2, (Bo false))], [], ⟨0, []⟩⟩) (by kernel_rfl) (by kernel_rfl) ?_
                show AWp _ _ _ _
                refine awp_ret ?_
                cases h
                exact ares1 (rtmp rfl (eV rfl))
              · rw [condF hb7] at h
                refine awp_condF (boF hb7) ?_
                refine awp_skip ?_
                show AWp _ _ _ _
                refine awp_keepE [0, 3] 0 0 (st' := ⟨140, 0, [(0, (SL 5 cNd t0)), (3, (I v3))], [], ⟨0, []⟩⟩) (by kernel_rfl) (by kernel_rfl) ?_
                refine awp_exit ?_
                exact (And.intro rfl h)
            · rw [condF hb6] at h
              refine awp_condF (boF hb6) ?_
              refine awp_seq ?_
              refine awr ?_
              refine ado rfl rfl rfl (ex_bin (vx := (I x5.Kind)) (vy := (I 3)) rfl rfl eqlI_ok) ?_
              refine ado rfl rfl rfl (eas (eV (v := (Bo (x5.Kind == 3))) rfl)) ?_
              refine ake [0, 3, 4, 29, 35] 1 0 (st' := ⟨140, 0, [(0, (SL 5 cNd t0)), (3, (I v3)), (4, (LP 0 0)), (29, (I x5.Kind)), (35, (Bo (x5.Kind == 3)))], [(cNd x5)], ⟨0, []⟩⟩) (by kernel_rfl) (by kernel_rfl) ?_
              show AWp _ _ _ _
              rcases Bool.eq_false_or_eq_true (x5.Kind == 3) with hb8 | hb8
              · rw [condT hb8] at h
                refine awp_condT (boT hb8) ?_
                refine awp_seq ?_
                refine awp_seq ?_
                refine awr ?_
                refine ado rfl rfl rfl (tx_ldLA (vs := (cNd x5)) Tryz.underlying38 rfl s_38 (by decide) rfl rfl rfl rfl) ?_
                refine ado rfl rfl rfl (ex_build (qs := [(0, (I 3))]) (v := (Value.agg (cNd (G_api_Node.mk 3 0 [] [] 0)).toArray)) (evp rfl evp_nil) (by kernel_rfl)) ?_
                refine ado rfl rfl rfl (ex_bin (vx := (Value.agg (cNd x5).toArray)) (vy := (Value.agg (cNd (G_api_Node.mk 3 0 [] [] 0)).toArray)) rfl rfl neq_38) ?_
                refine ake [0, 3, 39] 0 0 (st' := ⟨140, 0, [(0, (SL 5 cNd t0)), (3, (I v3)), (39, (Bo (!decide (x5 = (G_api_Node.mk 3 0 [] [] 0)))))], [], ⟨0, []⟩⟩) (by kernel_rfl) (by kernel_rfl) ?_
                show AWp _ _ _ _
                rcases Bool.eq_false_or_eq_true (!decide (x5 = (G_api_Node.mk 3 0 [] [] 0))) with hb9 | hb9
                · rw [condT hb9] at h
                  refine awp_condT (boT hb9) ?_
                  refine awp_seq ?_
                  refine awr ?_
                  refine ado rfl rfl rfl (eas (eV (v := (Bo false)) rfl)) ?_
                  refine ake [2] 0 0 (st' := ⟨140, 0, [(2, (Bo false))], [], ⟨0, []⟩⟩) (by kernel_rfl) (by kernel_rfl) ?_
                  show AWp _ _ _ _
                  refine awp_ret ?_
                  cases h
                  exact ares1 (rtmp rfl (eV rfl))
                · rw [condF hb9] at h
                  refine awp_condF (boF hb9) ?_
                  refine awp_skip ?_
                  show AWp _ _ _ _
                  refine awp_keepE [0, 3] 0 0 (st' := ⟨140, 0, [(0, (SL 5 cNd t0)), (3, (I v3))], [], ⟨0, []⟩⟩) (by kernel_rfl) (by kernel_rfl) ?_
                  refine awp_exit ?_
                  exact (And.intro rfl h)
              · rw [condF hb8] at h
                refine awp_condF (boF hb8) ?_
                refine awp_seq ?_
                refine awr ?_
                refine ado rfl rfl rfl (ex_bin (vx := (I x5.Kind)) (vy := (I 1)) rfl rfl eqlI_ok) ?_
                refine ado rfl rfl rfl (eas (eV (v := (Bo (x5.Kind == 1))) rfl)) ?_
                refine ake [0, 3, 4, 29, 40] 1 0 (st' := ⟨140, 0, [(0, (SL 5 cNd t0)), (3, (I v3)), (4, (LP 0 0)), (29, (I x5.Kind)), (40, (Bo (x5.Kind == 1)))], [(cNd x5)], ⟨0, []⟩⟩) (by kernel_rfl) (by kernel_rfl) ?_
                show AWp _ _ _ _
                rcases Bool.eq_false_or_eq_true (x5.Kind == 1) with hb10 | hb10
                · rw [condT hb10] at h
                  refine awp_condT (boT hb10) ?_
                  refine awp_seq ?_
                  refine awr ?_
                  refine ado rfl rfl rfl (ex_fieldAddr (v := (LP 0 4)) Tryz.underlying38 rfl s_3 (by decide) rfl rfl) ?_
                  refine ado rfl rfl rfl (tx_ldL1 (v := (I x5.Bad)) Tryz.underlying3 rfl rfl rfl rfl) ?_
                  refine ado rfl rfl rfl (ex_bin (vx := (I x5.Bad)) (vy := (I 0)) rfl rfl lssI_ok) ?_
                  refine ado rfl rfl rfl (emv (eV (v := (Bo (decide (x5.Bad < 0)))) rfl)) ?_
                  refine arun_guard (v := (LP 0 4)) ((decide (x5.Bad < 0)) == false) rfl rfl rfl (fun hc => ex_fieldAddr (v := (LP 0 4)) Tryz.underlying38 rfl s_3 (by decide) rfl rfl) ?_
                  refine arun_guard (v := (I x5.Bad)) ((decide (x5.Bad < 0)) == false) rfl rfl rfl (fun hc => tx_ldL1 (v := (I x5.Bad)) Tryz.underlying3 rfl (cond_of hc) rfl rfl) ?_
                  refine arun_guard (v := (Bo (decide (x5.Bad > 15)))) ((decide (x5.Bad < 0)) == false) rfl rfl rfl (fun hc => ex_bin (vx := (I x5.Bad)) (vy := (I 15)) (cond_of hc) rfl gtrI_ok) ?_
                  refine ado rfl rfl rfl (ex_pick rfl pkOr) ?_
                  refine ake [0, 3, 4, 49] 1 0 (st' := ⟨140, 0, [(0, (SL 5 cNd t0)), (3, (I v3)), (4, (LP 0 0)), (49, (Bo ((decide (x5.Bad < 0)) || (decide (x5.Bad > 15)))))], [(cNd x5)], ⟨0, []⟩⟩) (by kernel_rfl) (by kernel_rfl) ?_
                  show AWp _ _ _ _
                  rcases Bool.eq_false_or_eq_true ((decide (x5.Bad < 0)) || (decide (x5.Bad > 15))) with hb11 | hb11
                  · rw [condT hb11] at h
                    refine awp_condT (boT hb11) ?_
                    refine awp_seq ?_
                    refine awr ?_
                    refine ado rfl rfl rfl (eas (eV (v := (Bo false)) rfl)) ?_
                    refine ake [2] 0 0 (st' := ⟨140, 0, [(2, (Bo false))], [], ⟨0, []⟩⟩) (by kernel_rfl) (by kernel_rfl) ?_
                    show AWp _ _ _ _
                    refine awp_ret ?_
                    cases h
                    exact ares1 (rtmp rfl (eV rfl))
                  · rw [condF hb11] at h
                    refine awp_condF (boF hb11) ?_
                    refine awp_keepE [0, 3, 4] 1 0 (st' := ⟨140, 0, [(0, (SL 5 cNd t0)), (3, (I v3)), (4, (LP 0 0))], [(cNd x5)], ⟨0, []⟩⟩) (by kernel_rfl) (by kernel_rfl) ?_
                    refine awp_skip ?_
                    exact (And.intro rfl h)
                · rw [condF hb10] at h
                  refine awp_condF (boF hb10) ?_
                  refine awp_seq ?_
                  refine awr ?_
                  refine ado rfl rfl rfl (ex_bin (vx := (I x5.Kind)) (vy := (I 2)) rfl rfl eqlI_ok) ?_
                  refine ado rfl rfl rfl (eas (eV (v := (Bo (x5.Kind == 2))) rfl)) ?_
                  refine ake [0, 3, 4, 50] 1 0 (st' := ⟨140, 0, [(0, (SL 5 cNd t0)), (3, (I v3)), (4, (LP 0 0)), (50, (Bo (x5.Kind == 2)))], [(cNd x5)], ⟨0, []⟩⟩) (by kernel_rfl) (by kernel_rfl) ?_
                  show AWp _ _ _ _
                  rcases Bool.eq_false_or_eq_true (x5.Kind == 2) with hb12 | hb12
                  · rw [condT hb12] at h
                    refine awp_condT (boT hb12) ?_
                    refine awp_seq ?_
                    refine awr ?_
                    refine ado rfl rfl rfl (ex_fieldAddr (v := (LP 0 4)) Tryz.underlying38 rfl s_3 (by decide) rfl rfl) ?_
                    refine ado rfl rfl rfl (tx_ldL1 (v := (I x5.Bad)) Tryz.underlying3 rfl rfl rfl rfl) ?_
                    refine ado rfl rfl rfl (ex_bin (vx := (I x5.Bad)) (vy := (I 0)) rfl rfl neqI_ok) ?_
                    refine ado rfl rfl rfl (emv (eV (v := (Bo (x5.Bad != 0))) rfl)) ?_
                    refine arun_guard (v := (LP 0 3)) ((x5.Bad != 0) == false) rfl rfl rfl (fun hc => ex_fieldAddr (v := (LP 0 3)) Tryz.underlying38 rfl s_9 (by decide) rfl rfl) ?_
                    refine arun_guard (v := (S x5.Body)) ((x5.Bad != 0) == false) rfl rfl rfl (fun hc => tx_ldL1 (v := (S x5.Body)) Tryz.underlying9 rfl (cond_of hc) rfl rfl) ?_
                    refine arun_guard (v := (Bo (x5.Body != []))) ((x5.Bad != 0) == false) rfl rfl rfl (fun hc => ex_bin (vx := (S x5.Body)) (vy := (S [])) (cond_of hc) rfl neqS_ok) ?_
                    refine ado rfl rfl rfl (ex_pick rfl pkOr) ?_
                    refine ake [0, 3, 4, 59] 1 0 (st' := ⟨140, 0, [(0, (SL 5 cNd t0)), (3, (I v3)), (4, (LP 0 0)), (59, (Bo ((x5.Bad != 0) || (x5.Body != []))))], [(cNd x5)], ⟨0, []⟩⟩) (by kernel_rfl) (by kernel_rfl) ?_
                    show AWp _ _ _ _
                    rcases Bool.eq_false_or_eq_true ((x5.Bad != 0) || (x5.Body != [])) with hb13 | hb13
                    · rw [condT hb13] at h
                      refine awp_condT (boT hb13) ?_
                      refine awp_seq ?_
                      refine awr ?_
                      refine ado rfl rfl rfl (eas (eV (v := (Bo false)) rfl)) ?_
                      refine ake [2] 0 0 (st' := ⟨140, 0, [(2, (Bo false))], [], ⟨0, []⟩⟩) (by kernel_rfl) (by kernel_rfl) ?_
                      show AWp _ _ _ _
                      refine awp_ret ?_
                      cases h
                      exact ares1 (rtmp rfl (eV rfl))
                    · rw [condF hb13] at h
                      refine awp_condF (boF hb13) ?_
                      refine awp_keepE [0, 3, 4] 1 0 (st' := ⟨140, 0, [(0, (SL 5 cNd t0)), (3, (I v3)), (4, (LP 0 0))], [(cNd x5)], ⟨0, []⟩⟩) (by kernel_rfl) (by kernel_rfl) ?_
                      refine awp_skip ?_
                      exact (And.intro rfl h)
                  · rw [condF hb12] at h
                    refine awp_condF (boF hb12) ?_
                    refine awp_seq ?_
                    refine awr ?_
                    refine ado rfl rfl rfl (eas (eV (v := (Bo false)) rfl)) ?_
                    refine ake [2] 0 0 (st' := ⟨140, 0, [(2, (Bo false))], [], ⟨0, []⟩⟩) (by kernel_rfl) (by kernel_rfl) ?_
                    show AWp _ _ _ _
                    refine awp_ret ?_
                    cases h
                    exact ares1 (rtmp rfl (eV rfl))
          · rintro s ⟨rfl, h⟩
            unfold M_ref11_Torn_k2 at h
            refine awp_seq ?_
            refine awp_seq ?_
            refine awr ?_
            refine ado rfl rfl rfl (ex_fieldAddr (v := (LP 0 2)) Tryz.underlying38 rfl s_9 (by decide) rfl rfl) ?_
            refine ado rfl rfl rfl (tx_ldL1 (v := (S x5.Name)) Tryz.underlying9 rfl rfl rfl rfl) ?_
            obtain ⟨x14, hx14, h⟩ := bindS h
            refine ado rfl rfl rfl (ex_call0 (vs := [(S x5.Name)]) (v := (Bo x14)) rfl en_41 (cargs (evs rfl evs_nil)) rfl (ok_ref11_MayName x5.Name x14 hx14) rfl) ?_
            refine ado rfl rfl rfl (ex_un (vx := (Bo x14)) rfl notB_ok) ?_
            refine ado rfl rfl rfl (emv (eV (v := (Bo (!x14))) rfl)) ?_
            refine arun_guard (v := (SL 5 cNd t0)) ((!x14) == false) rfl rfl rfl (fun hc => emv (eV (v := (SL 5 cNd t0)) rfl)) ?_
            refine arun_guard (v := (LP 0 1)) ((!x14) == false) rfl rfl rfl (fun hc => ex_fieldAddr (v := (LP 0 1)) Tryz.underlying38 rfl s_3 (by decide) rfl rfl) ?_
            refine arun_guard (v := (I x5.Up)) ((!x14) == false) rfl rfl rfl (fun hc => tx_ldL1 (v := (I x5.Up)) Tryz.underlying3 rfl (cond_of hc) rfl rfl) ?_
            obtain ⟨x15, hx15, h⟩ := bindS h
            refine arun_guard (v := (Bo x15)) ((!x14) == false) rfl rfl rfl (fun hc => ex_call0 (vs := [(SL 5 cNd t0), (I x5.Up)]) (v := (Bo x15)) rfl en_45 (cargs (evs (cond_of hc) (evs (cond_of hc) evs_nil))) rfl (ok_ref11_folder t0 x5.Up x15 (gd_of hc hx15)) rfl) ?_
            refine arun_guard (v := (Bo (!x15))) ((!x14) == false) rfl rfl rfl (fun hc => ex_un (vx := (Bo x15)) (cond_of hc) notB_ok) ?_
            refine ado rfl rfl rfl (ex_pick rfl pkOr) ?_
            refine ado rfl rfl rfl (emv (eV (v := (Bo ((!x14) || (!x15)))) rfl)) ?_
            refine arun_guard (v := (LP 0 3)) (((!x14) || (!x15)) == false) rfl rfl rfl (fun hc => ex_fieldAddr (v := (LP 0 3)) Tryz.underlying38 rfl s_9 (by decide) rfl rfl) ?_
            refine arun_guard (v := (S x5.Body)) (((!x14) || (!x15)) == false) rfl rfl rfl (fun hc => tx_ldL1 (v := (S x5.Body)) Tryz.underlying9 rfl (cond_of hc) rfl rfl) ?_
            refine arun_guard (v := (I (x5.Body.length : Int))) (((!x14) || (!x15)) == false) rfl rfl rfl (fun hc => tx_lenS Tryz.underlying9 (cond_of hc)) ?_
            refine arun_guard (v := (Bo (decide ((x5.Body.length : Int) > 128)))) (((!x14) || (!x15)) == false) rfl rfl rfl (fun hc => ex_bin (vx := (I (x5.Body.length : Int))) (vy := (I 128)) (cond_of hc) rfl gtrI_ok) ?_
            refine ado rfl rfl rfl (ex_pick rfl pkOr) ?_
            refine ake [0, 3, 4, 76] 1 0 (st' := ⟨140, 0, [(0, (SL 5 cNd t0)), (3, (I v3)), (4, (LP 0 0)), (76, (Bo (((!x14) || (!x15)) || (decide ((x5.Body.length : Int) > 128)))))], [(cNd x5)], ⟨0, []⟩⟩) (by kernel_rfl) (by kernel_rfl) ?_
            show AWp _ _ _ _
            rcases Bool.eq_false_or_eq_true (((!x14) || (!x15)) || (decide ((x5.Body.length : Int) > 128))) with hb16 | hb16
            · rw [condT hb16] at h
              refine awp_condT (boT hb16) ?_
              refine awp_seq ?_
              refine awr ?_
              refine ado rfl rfl rfl (eas (eV (v := (Bo false)) rfl)) ?_
              refine ake [2] 0 0 (st' := ⟨140, 0, [(2, (Bo false))], [], ⟨0, []⟩⟩) (by kernel_rfl) (by kernel_rfl) ?_
              show AWp _ _ _ _
              refine awp_ret ?_
              cases h
              exact ares1 (rtmp rfl (eV rfl))
            · rw [condF hb16] at h
              refine awp_condF (boF hb16) ?_
              refine awp_skip ?_
              show AWp _ _ _ _
              refine awp_seq ?_
              refine awp_seq ?_
              refine awr ?_
              refine ado rfl rfl rfl (eas (eV (v := (I 1)) rfl)) ?_
              refine ake [0, 3, 4, 5] 1 0 (st' := ⟨140, 0, [(0, (SL 5 cNd t0)), (3, (I v3)), (4, (LP 0 0)), (5, (I 1))], [(cNd x5)], ⟨0, []⟩⟩) (by kernel_rfl) (by kernel_rfl) ?_
              show AWp _ _ _ _
              refine awp_block ?_
              refine awp_loop (fun n s => ∃ (v17 : Int), s = ⟨140, 0, [(0, (SL 5 cNd t0)), (3, (I v3)), (4, (LP 0 0)), (5, (I v17))], [(cNd x5)], ⟨0, []⟩⟩ ∧ M_ref11_Torn_l2 (M_ref11_Torn_l1 t0 n1) t0 v3 x5 n v17 = some r) fuel (Exists.intro 1 (And.intro rfl h)) ?_
              rintro n s ⟨v17, rfl, h⟩ -
              cases n with
              | zero => cases h
              | succ n2 =>
                unfold M_ref11_Torn_l2 at h
                refine awp_seq ?_
                refine awp_seq ?_
                refine awr ?_
                refine ado rfl rfl rfl (emv (eV (v := (I v17)) rfl)) ?_
                refine ado rfl rfl rfl (emv (eV (v := (I v3)) rfl)) ?_
                refine ado rfl rfl rfl (ex_bin (vx := (I v17)) (vy := (I v3)) rfl rfl lssI_ok) ?_
                refine ake [0, 3, 4, 5, 79] 1 0 (st' := ⟨140, 0, [(0, (SL 5 cNd t0)), (3, (I v3)), (4, (LP 0 0)), (5, (I v17)), (79, (Bo (decide (v17 < v3))))], [(cNd x5)], ⟨0, []⟩⟩) (by kernel_rfl) (by kernel_rfl) ?_
                show AWp _ _ _ _
                rcases Bool.eq_false_or_eq_true (decide (v17 < v3)) with hb18 | hb18
                · rw [condT hb18] at h
                  refine awp_condT (boT hb18) ?_
                  refine awp_skip ?_
                  show AWp _ _ _ _
                  refine awp_seq ?_
                  refine awp_block ?_
                  refine awp_seq ?_
                  obtain ⟨x19, hx19, h⟩ := bindS h
                  obtain ⟨x20, hx20, h⟩ := bindS h
                  obtain ⟨x21, hx21, h⟩ := bindS h
                  obtain ⟨x22, hx22, h⟩ := bindS h
                  refine awp_kn [0, 3, 4, 5, 115] 1 0 (st' := ⟨140, 0, [(0, (SL 5 cNd t0)), (3, (I v3)), (4, (LP 0 0)), (5, (I v17)), (115, (Bo ((((x19.Kind != 0) && (x20.Kind != 3)) && (x21.Up == x5.Up)) && (x22.Name == x5.Name))))], [(cNd x5)], ⟨0, []⟩⟩) (awp_draw (T := [(SL 5 cNd t0), (I v17), (DP (cNd x19)), (DP (List.drop 0 (cNd x19))), (I x19.Kind), (Bo (x19.Kind != 0)), (Bo (x19.Kind != 0)), (cond ((x19.Kind != 0) == true) (SL 5 cNd t0) skipV), (cond ((x19.Kind != 0) == true) (I v17) skipV), (cond ((x19.Kind != 0) == true) (DP (cNd x20)) skipV), (cond ((x19.Kind != 0) == true) (DP (List.drop 0 (cNd x20))) skipV), (cond ((x19.Kind != 0) == true) (I x20.Kind) skipV), (cond ((x19.Kind != 0) == true) (Bo (x20.Kind != 3)) skipV), (Bo ((x19.Kind != 0) && (x20.Kind != 3))), (Bo ((x19.Kind != 0) && (x20.Kind != 3))), (cond (((x19.Kind != 0) && (x20.Kind != 3)) == true) (SL 5 cNd t0) skipV), (cond (((x19.Kind != 0) && (x20.Kind != 3)) == true) (I v17) skipV), (cond (((x19.Kind != 0) && (x20.Kind != 3)) == true) (DP (cNd x21)) skipV), (cond (((x19.Kind != 0) && (x20.Kind != 3)) == true) (DP (List.drop 1 (cNd x21))) skipV), (cond (((x19.Kind != 0) && (x20.Kind != 3)) == true) (I x21.Up) skipV), (cond (((x19.Kind != 0) && (x20.Kind != 3)) == true) (LP 0 1) skipV), (cond (((x19.Kind != 0) && (x20.Kind != 3)) == true) (I x5.Up) skipV), (cond (((x19.Kind != 0) && (x20.Kind != 3)) == true) (Bo (x21.Up == x5.Up)) skipV), (Bo (((x19.Kind != 0) && (x20.Kind != 3)) && (x21.Up == x5.Up))), (Bo (((x19.Kind != 0) && (x20.Kind != 3)) && (x21.Up == x5.Up))), (cond ((((x19.Kind != 0) && (x20.Kind != 3)) && (x21.Up == x5.Up)) == true) (SL 5 cNd t0) skipV), (cond ((((x19.Kind != 0) && (x20.Kind != 3)) && (x21.Up == x5.Up)) == true) (I v17) skipV), (cond ((((x19.Kind != 0) && (x20.Kind != 3)) && (x21.Up == x5.Up)) == true) (DP (cNd x22)) skipV), (cond ((((x19.Kind != 0) && (x20.Kind != 3)) && (x21.Up == x5.Up)) == true) (DP (List.drop 2 (cNd x22))) skipV), (cond ((((x19.Kind != 0) && (x20.Kind != 3)) && (x21.Up == x5.Up)) == true) (S x22.Name) skipV), (cond ((((x19.Kind != 0) && (x20.Kind != 3)) && (x21.Up == x5.Up)) == true) (LP 0 2) skipV), (cond ((((x19.Kind != 0) && (x20.Kind != 3)) && (x21.Up == x5.Up)) == true) (S x5.Name) skipV), (cond ((((x19.Kind != 0) && (x20.Kind != 3)) && (x21.Up == x5.Up)) == true) (Bo (x22.Name == x5.Name)) skipV), (Bo ((((x19.Kind != 0) && (x20.Kind != 3)) && (x21.Up == x5.Up)) && (x22.Name == x5.Name)))]) (LH := [([(cNd x5)], ⟨0, []⟩)]) (D := [⟨[(0, none)], [], [0], false⟩, ⟨[(5, none)], [], [0], false⟩, ⟨[(82, some 0), (83, some 1)], [0, 1], [0], false⟩, ⟨[(84, some 2)], [0, 1, 2], [0], false⟩, ⟨[(85, some 3)], [0, 1, 2, 3], [0], false⟩, ⟨[(86, some 4)], [0, 1, 2, 3, 4], [0], false⟩, ⟨[(87, some 5)], [0, 1, 2, 3, 4, 5], [0], false⟩, ⟨[(0, none), (88, some 6)], [0, 1, 2, 3, 4, 5, 6], [0], false⟩, ⟨[(5, none), (88, some 6)], [0, 1, 2, 3, 4, 5, 6], [0], false⟩, ⟨[(89, some 7), (90, some 8), (88, some 6)], [0, 1, 2, 3, 4, 5, 6, 7, 8], [0], false⟩, ⟨[(91, some 9), (88, some 6)], [0, 1, 2, 3, 4, 5, 6, 7, 8, 9], [0], false⟩, ⟨[(92, some 10), (88, some 6)], [0, 1, 2, 3, 4, 5, 6, 7, 8, 9, 10], [0], false⟩, ⟨[(93, some 11), (88, some 6)], [0, 1, 2, 3, 4, 5, 6, 7, 8, 9, 10, 11], [0], false⟩, ⟨[(88, some 6), (94, some 12)], [0, 1, 2, 3, 4, 5, 6, 7, 8, 9, 10, 11, 12], [0], false⟩, ⟨[(95, some 13)], [0, 1, 2, 3, 4, 5, 6, 7, 8, 9, 10, 11, 12, 13], [0], false⟩, ⟨[(0, none), (96, some 14)], [0, 1, 2, 3, 4, 5, 6, 7, 8, 9, 10, 11, 12, 13, 14], [0], false⟩, ⟨[(5, none), (96, some 14)], [0, 1, 2, 3, 4, 5, 6, 7, 8, 9, 10, 11, 12, 13, 14], [0], false⟩, ⟨[(97, some 15), (98, some 16), (96, some 14)], [0, 1, 2, 3, 4, 5, 6, 7, 8, 9, 10, 11, 12, 13, 14, 15, 16], [0], false⟩, ⟨[(99, some 17), (96, some 14)], [0, 1, 2, 3, 4, 5, 6, 7, 8, 9, 10, 11, 12, 13, 14, 15, 16, 17], [0], false⟩, ⟨[(100, some 18), (96, some 14)], [0, 1, 2, 3, 4, 5, 6, 7, 8, 9, 10, 11, 12, 13, 14, 15, 16, 17, 18], [0], false⟩, ⟨[(4, none), (96, some 14)], [0, 1, 2, 3, 4, 5, 6, 7, 8, 9, 10, 11, 12, 13, 14], [0], false⟩, ⟨[(102, some 20), (96, some 14)], [0, 1, 2, 3, 4, 5, 6, 7, 8, 9, 10, 11, 12, 13, 14, 20], [0], false⟩, ⟨[(101, some 19), (103, some 21), (96, some 14)], [0, 1, 2, 3, 4, 5, 6, 7, 8, 9, 10, 11, 12, 13, 14, 15, 16, 17, 18, 19, 20, 21], [0], false⟩, ⟨[(96, some 14), (104, some 22)], [0, 1, 2, 3, 4, 5, 6, 7, 8, 9, 10, 11, 12, 13, 14, 15, 16, 17, 18, 19, 20, 21, 22], [0], false⟩, ⟨[(105, some 23)], [0, 1, 2, 3, 4, 5, 6, 7, 8, 9, 10, 11, 12, 13, 14, 15, 16, 17, 18, 19, 20, 21, 22, 23], [0], false⟩, ⟨[(0, none), (106, some 24)], [0, 1, 2, 3, 4, 5, 6, 7, 8, 9, 10, 11, 12, 13, 14, 15, 16, 17, 18, 19, 20, 21, 22, 23, 24], [0], false⟩, ⟨[(5, none), (106, some 24)], [0, 1, 2, 3, 4, 5, 6, 7, 8, 9, 10, 11, 12, 13, 14, 15, 16, 17, 18, 19, 20, 21, 22, 23, 24], [0], false⟩, ⟨[(107, some 25), (108, some 26), (106, some 24)], [0, 1, 2, 3, 4, 5, 6, 7, 8, 9, 10, 11, 12, 13, 14, 15, 16, 17, 18, 19, 20, 21, 22, 23, 24, 25, 26], [0], false⟩, ⟨[(109, some 27), (106, some 24)], [0, 1, 2, 3, 4, 5, 6, 7, 8, 9, 10, 11, 12, 13, 14, 15, 16, 17, 18, 19, 20, 21, 22, 23, 24, 25, 26, 27], [0], false⟩, ⟨[(110, some 28), (106, some 24)], [0, 1, 2, 3, 4, 5, 6, 7, 8, 9, 10, 11, 12, 13, 14, 15, 16, 17, 18, 19, 20, 21, 22, 23, 24, 25, 26, 27, 28], [0], false⟩, ⟨[(4, none), (106, some 24)], [0, 1, 2, 3, 4, 5, 6, 7, 8, 9, 10, 11, 12, 13, 14, 15, 16, 17, 18, 19, 20, 21, 22, 23, 24], [0], false⟩, ⟨[(112, some 30), (106, some 24)], [0, 1, 2, 3, 4, 5, 6, 7, 8, 9, 10, 11, 12, 13, 14, 15, 16, 17, 18, 19, 20, 21, 22, 23, 24, 30], [0], false⟩, ⟨[(111, some 29), (113, some 31), (106, some 24)], [0, 1, 2, 3, 4, 5, 6, 7, 8, 9, 10, 11, 12, 13, 14, 15, 16, 17, 18, 19, 20, 21, 22, 23, 24, 25, 26, 27, 28, 29, 30, 31], [0], false⟩, ⟨[(106, some 24), (114, some 32)], [0, 1, 2, 3, 4, 5, 6, 7, 8, 9, 10, 11, 12, 13, 14, 15, 16, 17, 18, 19, 20, 21, 22, 23, 24, 25, 26, 27, 28, 29, 30, 31, 32], [0], false⟩]) (S := []) (plan := [0, 1, 2, 3, 4, 5, 6, 7, 8, 9, 10, 11, 12, 13, 14, 15, 16, 17, 18, 19, 20, 21, 22, 23, 24, 25, 26, 27, 28, 29, 30, 31, 32, 33]) mo (by kernel_rfl) rfl rfl rfl (dcons (dstep1 (Tm := [(0, (SL 5 cNd t0))]) (L := [(cNd x5)]) (H := ⟨0, []⟩) rfl rfl rfl rfl rfl (astep_do rfl (emv (eV (v := (SL 5 cNd t0)) rfl)))) (dcons (dstep1 (Tm := [(5, (I v17))]) (L := [(cNd x5)]) (H := ⟨0, []⟩) rfl rfl rfl rfl rfl (astep_do rfl (emv (eV (v := (I v17)) rfl)))) (dcons (dstep1 (Tm := [(82, (SL 5 cNd t0)), (83, (I v17))]) (L := [(cNd x5)]) (H := ⟨0, []⟩) rfl rfl rfl rfl rfl (astep_do rfl (tx_idxD (c := cNd) (xs := t0) (i := v17) ce_api_Node Tryz.underlying25 s_38 rfl rfl hx19))) (dcons (dstep1 (Tm := [(84, (DP (cNd x19)))]) (L := [(cNd x5)]) (H := ⟨0, []⟩) rfl rfl rfl rfl rfl (astep_do rfl (ex_fieldAddrD (vs := (List.drop 0 (cNd x19))) Tryz.underlying38 rfl s_3 (by decide) rfl rfl))) (dcons (dstep1 (Tm := [(85, (DP (List.drop 0 (cNd x19))))]) (L := [(cNd x5)]) (H := ⟨0, []⟩) rfl rfl rfl rfl rfl (astep_do rfl (tx_ldD1 (v := (I x19.Kind)) Tryz.underlying3 rfl rfl rfl))) (dcons (dstep1 (Tm := [(86, (I x19.Kind))]) (L := [(cNd x5)]) (H := ⟨0, []⟩) rfl rfl rfl rfl rfl (astep_do rfl (ex_bin (vx := (I x19.Kind)) (vy := (I 0)) rfl rfl neqI_ok))) (dcons (dstep1 (Tm := [(87, (Bo (x19.Kind != 0)))]) (L := [(cNd x5)]) (H := ⟨0, []⟩) rfl rfl rfl rfl rfl (astep_do rfl (emv (eV (v := (Bo (x19.Kind != 0))) rfl)))) (dcons (dstep1 (Tm := [(0, (SL 5 cNd t0)), (88, (Bo (x19.Kind != 0)))]) (L := [(cNd x5)]) (H := ⟨0, []⟩) rfl rfl rfl rfl rfl (astep_guard (v := (SL 5 cNd t0)) ((x19.Kind != 0) == true) rfl (fun hc => emv (eV (v := (SL 5 cNd t0)) rfl)))) (dcons (dstep1 (Tm := [(5, (I v17)), (88, (Bo (x19.Kind != 0)))]) (L := [(cNd x5)]) (H := ⟨0, []⟩) rfl rfl rfl rfl rfl (astep_guard (v := (I v17)) ((x19.Kind != 0) == true) rfl (fun hc => emv (eV (v := (I v17)) rfl)))) (dcons (dstep1 (Tm := [(89, (cond ((x19.Kind != 0) == true) (SL 5 cNd t0) skipV)), (90, (cond ((x19.Kind != 0) == true) (I v17) skipV)), (88, (Bo (x19.Kind != 0)))]) (L := [(cNd x5)]) (H := ⟨0, []⟩) rfl rfl rfl rfl rfl (astep_guard (v := (DP (cNd x20))) ((x19.Kind != 0) == true) rfl (fun hc => tx_idxD (c := cNd) (xs := t0) (i := v17) ce_api_Node Tryz.underlying25 s_38 (cond_of hc) (cond_of hc) (gd_of hc hx20)))) (dcons (dstep1 (Tm := [(91, (cond ((x19.Kind != 0) == true) (DP (cNd x20)) skipV)), (88, (Bo (x19.Kind != 0)))]) (L := [(cNd x5)]) (H := ⟨0, []⟩) rfl rfl rfl rfl rfl (astep_guard (v := (DP (List.drop 0 (cNd x20)))) ((x19.Kind != 0) == true) rfl (fun hc => ex_fieldAddrD (vs := (List.drop 0 (cNd x20))) Tryz.underlying38 rfl s_3 (by decide) (cond_of hc) rfl))) (dcons (dstep1 (Tm := [(92, (cond ((x19.Kind != 0) == true) (DP (List.drop 0 (cNd x20))) skipV)), (88, (Bo (x19.Kind != 0)))]) (L := [(cNd x5)]) (H := ⟨0, []⟩) rfl rfl rfl rfl rfl (astep_guard (v := (I x20.Kind)) ((x19.Kind != 0) == true) rfl (fun hc => tx_ldD1 (v := (I x20.Kind)) Tryz.underlying3 rfl (cond_of hc) rfl))) (dcons (dstep1 (Tm := [(93, (cond ((x19.Kind != 0) == true) (I x20.Kind) skipV)), (88, (Bo (x19.Kind != 0)))]) (L := [(cNd x5)]) (H := ⟨0, []⟩) rfl rfl rfl rfl rfl (astep_guard (v := (Bo (x20.Kind != 3))) ((x19.Kind != 0) == true) rfl (fun hc => ex_bin (vx := (I x20.Kind)) (vy := (I 3)) (cond_of hc) rfl neqI_ok))) (dcons (dstep1 (Tm := [(88, (Bo (x19.Kind != 0))), (94, (cond ((x19.Kind != 0) == true) (Bo (x20.Kind != 3)) skipV))]) (L := [(cNd x5)]) (H := ⟨0, []⟩) rfl rfl rfl rfl rfl (astep_do rfl (ex_pick rfl pkAnd))) (dcons (dstep1 (Tm := [(95, (Bo ((x19.Kind != 0) && (x20.Kind != 3))))]) (L := [(cNd x5)]) (H := ⟨0, []⟩) rfl rfl rfl rfl rfl (astep_do rfl (emv (eV (v := (Bo ((x19.Kind != 0) && (x20.Kind != 3)))) rfl)))) (dcons (dstep1 (Tm := [(0, (SL 5 cNd t0)), (96, (Bo ((x19.Kind != 0) && (x20.Kind != 3))))]) (L := [(cNd x5)]) (H := ⟨0, []⟩) rfl rfl rfl rfl rfl (astep_guard (v := (SL 5 cNd t0)) (((x19.Kind != 0) && (x20.Kind != 3)) == true) rfl (fun hc => emv (eV (v := (SL 5 cNd t0)) rfl)))) (dcons (dstep1 (Tm := [(5, (I v17)), (96, (Bo ((x19.Kind != 0) && (x20.Kind != 3))))]) (L := [(cNd x5)]) (H := ⟨0, []⟩) rfl rfl rfl rfl rfl (astep_guard (v := (I v17)) (((x19.Kind != 0) && (x20.Kind != 3)) == true) rfl (fun hc => emv (eV (v := (I v17)) rfl)))) (dcons (dstep1 (Tm := [(97, (cond (((x19.Kind != 0) && (x20.Kind != 3)) == true) (SL 5 cNd t0) skipV)), (98, (cond (((x19.Kind != 0) && (x20.Kind != 3)) == true) (I v17) skipV)), (96, (Bo ((x19.Kind != 0) && (x20.Kind != 3))))]) (L := [(cNd x5)]) (H := ⟨0, []⟩) rfl rfl rfl rfl rfl (astep_guard (v := (DP (cNd x21))) (((x19.Kind != 0) && (x20.Kind != 3)) == true) rfl (fun hc => tx_idxD (c := cNd) (xs := t0) (i := v17) ce_api_Node Tryz.underlying25 s_38 (cond_of hc) (cond_of hc) (gd_of hc hx21)))) (dcons (dstep1 (Tm := [(99, (cond (((x19.Kind != 0) && (x20.Kind != 3)) == true) (DP (cNd x21)) skipV)), (96, (Bo ((x19.Kind != 0) && (x20.Kind != 3))))]) (L := [(cNd x5)]) (H := ⟨0, []⟩) rfl rfl rfl rfl rfl (astep_guard (v := (DP (List.drop 1 (cNd x21)))) (((x19.Kind != 0) && (x20.Kind != 3)) == true) rfl (fun hc => ex_fieldAddrD (vs := (List.drop 1 (cNd x21))) Tryz.underlying38 rfl s_3 (by decide) (cond_of hc) rfl))) (dcons (dstep1 (Tm := [(100, (cond (((x19.Kind != 0) && (x20.Kind != 3)) == true) (DP (List.drop 1 (cNd x21))) skipV)), (96, (Bo ((x19.Kind != 0) && (x20.Kind != 3))))]) (L := [(cNd x5)]) (H := ⟨0, []⟩) rfl rfl rfl rfl rfl (astep_guard (v := (I x21.Up)) (((x19.Kind != 0) && (x20.Kind != 3)) == true) rfl (fun hc => tx_ldD1 (v := (I x21.Up)) Tryz.underlying3 rfl (cond_of hc) rfl))) (dcons (dstep1 (Tm := [(4, (LP 0 0)), (96, (Bo ((x19.Kind != 0) && (x20.Kind != 3))))]) (L := [(cNd x5)]) (H := ⟨0, []⟩) rfl rfl rfl rfl rfl (astep_guard (v := (LP 0 1)) (((x19.Kind != 0) && (x20.Kind != 3)) == true) rfl (fun hc => ex_fieldAddr (v := (LP 0 1)) Tryz.underlying38 rfl s_3 (by decide) rfl rfl))) (dcons (dstep1 (Tm := [(102, (cond (((x19.Kind != 0) && (x20.Kind != 3)) == true) (LP 0 1) skipV)), (96, (Bo ((x19.Kind != 0) && (x20.Kind != 3))))]) (L := [(cNd x5)]) (H := ⟨0, []⟩) rfl rfl rfl rfl rfl (astep_guard (v := (I x5.Up)) (((x19.Kind != 0) && (x20.Kind != 3)) == true) rfl (fun hc => tx_ldL1 (v := (I x5.Up)) Tryz.underlying3 rfl (cond_of hc) rfl rfl))) (dcons (dstep1 (Tm := [(101, (cond (((x19.Kind != 0) && (x20.Kind != 3)) == true) (I x21.Up) skipV)), (103, (cond (((x19.Kind != 0) && (x20.Kind != 3)) == true) (I x5.Up) skipV)), (96, (Bo ((x19.Kind != 0) && (x20.Kind != 3))))]) (L := [(cNd x5)]) (H := ⟨0, []⟩) rfl rfl rfl rfl rfl (astep_guard (v := (Bo (x21.Up == x5.Up))) (((x19.Kind != 0) && (x20.Kind != 3)) == true) rfl (fun hc => ex_bin (vx := (I x21.Up)) (vy := (I x5.Up)) (cond_of hc) (cond_of hc) eqlI_ok))) (dcons (dstep1 (Tm := [(96, (Bo ((x19.Kind != 0) && (x20.Kind != 3)))), (104, (cond (((x19.Kind != 0) && (x20.Kind != 3)) == true) (Bo (x21.Up == x5.Up)) skipV))]) (L := [(cNd x5)]) (H := ⟨0, []⟩) rfl rfl rfl rfl rfl (astep_do rfl (ex_pick rfl pkAnd))) (dcons (dstep1 (Tm := [(105, (Bo (((x19.Kind != 0) && (x20.Kind != 3)) && (x21.Up == x5.Up))))]) (L := [(cNd x5)]) (H := ⟨0, []⟩) rfl rfl rfl rfl rfl (astep_do rfl (emv (eV (v := (Bo (((x19.Kind != 0) && (x20.Kind != 3)) && (x21.Up == x5.Up)))) rfl)))) (dcons (dstep1 (Tm := [(0, (SL 5 cNd t0)), (106, (Bo (((x19.Kind != 0) && (x20.Kind != 3)) && (x21.Up == x5.Up))))]) (L := [(cNd x5)]) (H := ⟨0, []⟩) rfl rfl rfl rfl rfl (astep_guard (v := (SL 5 cNd t0)) ((((x19.Kind != 0) && (x20.Kind != 3)) && (x21.Up == x5.Up)) == true) rfl (fun hc => emv (eV (v := (SL 5 cNd t0)) rfl)))) (dcons (dstep1 (Tm := [(5, (I v17)), (106, (Bo (((x19.Kind != 0) && (x20.Kind != 3)) && (x21.Up == x5.Up))))]) (L := [(cNd x5)]) (H := ⟨0, []⟩) rfl rfl rfl rfl rfl (astep_guard (v := (I v17)) ((((x19.Kind != 0) && (x20.Kind != 3)) && (x21.Up == x5.Up)) == true) rfl (fun hc => emv (eV (v := (I v17)) rfl)))) (dcons (dstep1 (Tm := [(107, (cond ((((x19.Kind != 0) && (x20.Kind != 3)) && (x21.Up == x5.Up)) == true) (SL 5 cNd t0) skipV)), (108, (cond ((((x19.Kind != 0) && (x20.Kind != 3)) && (x21.Up == x5.Up)) == true) (I v17) skipV)), (106, (Bo (((x19.Kind != 0) && (x20.Kind != 3)) && (x21.Up == x5.Up))))]) (L := [(cNd x5)]) (H := ⟨0, []⟩) rfl rfl rfl rfl rfl (astep_guard (v := (DP (cNd x22))) ((((x19.Kind != 0) && (x20.Kind != 3)) && (x21.Up == x5.Up)) == true) rfl (fun hc => tx_idxD (c := cNd) (xs := t0) (i := v17) ce_api_Node Tryz.underlying25 s_38 (cond_of hc) (cond_of hc) (gd_of hc hx22)))) (dcons (dstep1 (Tm := [(109, (cond ((((x19.Kind != 0) && (x20.Kind != 3)) && (x21.Up == x5.Up)) == true) (DP (cNd x22)) skipV)), (106, (Bo (((x19.Kind != 0) && (x20.Kind != 3)) && (x21.Up == x5.Up))))]) (L := [(cNd x5)]) (H := ⟨0, []⟩) rfl rfl rfl rfl rfl (astep_guard (v := (DP (List.drop 2 (cNd x22)))) ((((x19.Kind != 0) && (x20.Kind != 3)) && (x21.Up == x5.Up)) == true) rfl (fun hc => ex_fieldAddrD (vs := (List.drop 2 (cNd x22))) Tryz.underlying38 rfl s_9 (by decide) (cond_of hc) rfl))) (dcons (dstep1 (Tm := [(110, (cond ((((x19.Kind != 0) && (x20.Kind != 3)) && (x21.Up == x5.Up)) == true) (DP (List.drop 2 (cNd x22))) skipV)), (106, (Bo (((x19.Kind != 0) && (x20.Kind != 3)) && (x21.Up == x5.Up))))]) (L := [(cNd x5)]) (H := ⟨0, []⟩) rfl rfl rfl rfl rfl (astep_guard (v := (S x22.Name)) ((((x19.Kind != 0) && (x20.Kind != 3)) && (x21.Up == x5.Up)) == true) rfl (fun hc => tx_ldD1 (v := (S x22.Name)) Tryz.underlying9 rfl (cond_of hc) rfl))) (dcons (dstep1 (Tm := [(4, (LP 0 0)), (106, (Bo (((x19.Kind != 0) && (x20.Kind != 3)) && (x21.Up == x5.Up))))]) (L := [(cNd x5)]) (H := ⟨0, []⟩) rfl rfl rfl rfl rfl (astep_guard (v := (LP 0 2)) ((((x19.Kind != 0) && (x20.Kind != 3)) && (x21.Up == x5.Up)) == true) rfl (fun hc => ex_fieldAddr (v := (LP 0 2)) Tryz.underlying38 rfl s_9 (by decide) rfl rfl))) (dcons (dstep1 (Tm := [(112, (cond ((((x19.Kind != 0) && (x20.Kind != 3)) && (x21.Up == x5.Up)) == true) (LP 0 2) skipV)), (106, (Bo (((x19.Kind != 0) && (x20.Kind != 3)) && (x21.Up == x5.Up))))]) (L := [(cNd x5)]) (H := ⟨0, []⟩) rfl rfl rfl rfl rfl (astep_guard (v := (S x5.Name)) ((((x19.Kind != 0) && (x20.Kind != 3)) && (x21.Up == x5.Up)) == true) rfl (fun hc => tx_ldL1 (v := (S x5.Name)) Tryz.underlying9 rfl (cond_of hc) rfl rfl))) (dcons (dstep1 (Tm := [(111, (cond ((((x19.Kind != 0) && (x20.Kind != 3)) && (x21.Up == x5.Up)) == true) (S x22.Name) skipV)), (113, (cond ((((x19.Kind != 0) && (x20.Kind != 3)) && (x21.Up == x5.Up)) == true) (S x5.Name) skipV)), (106, (Bo (((x19.Kind != 0) && (x20.Kind != 3)) && (x21.Up == x5.Up))))]) (L := [(cNd x5)]) (H := ⟨0, []⟩) rfl rfl rfl rfl rfl (astep_guard (v := (Bo (x22.Name == x5.Name))) ((((x19.Kind != 0) && (x20.Kind != 3)) && (x21.Up == x5.Up)) == true) rfl (fun hc => ex_bin (vx := (S x22.Name)) (vy := (S x5.Name)) (cond_of hc) (cond_of hc) eqlS_ok))) (dcons (dstep1 (Tm := [(106, (Bo (((x19.Kind != 0) && (x20.Kind != 3)) && (x21.Up == x5.Up)))), (114, (cond ((((x19.Kind != 0) && (x20.Kind != 3)) && (x21.Up == x5.Up)) == true) (Bo (x22.Name == x5.Name)) skipV))]) (L := [(cNd x5)]) (H := ⟨0, []⟩) rfl rfl rfl rfl rfl (astep_do rfl (ex_pick rfl pkAnd))) dnil)))))))))))))))))))))))))))))))))) ⟨rfl, rfl⟩) (by kernel_rfl) (by kernel_rfl) ?_
                  show AWp _ _ _ _
                  rcases Bool.eq_false_or_eq_true ((((x19.Kind != 0) && (x20.Kind != 3)) && (x21.Up == x5.Up)) && (x22.Name == x5.Name)) with hb23 | hb23
                  · rw [condT hb23] at h
                    refine awp_condT (boT hb23) ?_
                    refine awp_seq ?_
                    refine awr ?_
                    refine ado rfl rfl rfl (eas (eV (v := (Bo false)) rfl)) ?_
                    refine ake [2] 0 0 (st' := ⟨140, 0, [(2, (Bo false))], [], ⟨0, []⟩⟩) (by kernel_rfl) (by kernel_rfl) ?_
                    show AWp _ _ _ _
                    refine awp_ret ?_
                    cases h
                    exact ares1 (rtmp rfl (eV rfl))
                  · rw [condF hb23] at h
                    refine awp_condF (boF hb23) ?_
                    refine awp_skip ?_
                    show AWp _ _ _ _
                    refine awr ?_
                    refine ado rfl rfl rfl (emv (eV (v := (I v17)) rfl)) ?_
                    refine ado rfl rfl rfl (ex_bin (vx := (I v17)) (vy := (I 1)) rfl rfl addI_ok) ?_
                    refine ado rfl rfl rfl (eas (eV (v := (I (w64 (v17 + 1)))) rfl)) ?_
                    refine ake [0, 3, 4, 5] 1 0 (st' := ⟨140, 0, [(0, (SL 5 cNd t0)), (3, (I v3)), (4, (LP 0 0)), (5, (I (w64 (v17 + 1))))], [(cNd x5)], ⟨0, []⟩⟩) (by kernel_rfl) (by kernel_rfl) ?_
                    exact Exists.intro n2 (And.intro (Nat.lt_succ_self _) (Exists.intro (w64 (v17 + 1)) (And.intro rfl h)))
                · rw [condF hb18] at h
                  refine awp_condF (boF hb18) ?_
                  refine awp_exit ?_
                  show AWp _ _ _ _
                  refine awp_seq ?_
                  refine awr ?_
                  refine ado rfl rfl rfl (emv (eV (v := (I v3)) rfl)) ?_
                  refine ado rfl rfl rfl (eas (eV (v := (I v3)) rfl)) ?_
                  refine ake [0, 3, 6] 0 0 (st' := ⟨140, 0, [(0, (SL 5 cNd t0)), (3, (I v3)), (6, (I v3))], [], ⟨0, []⟩⟩) (by kernel_rfl) (by kernel_rfl) ?_
                  show AWp _ _ _ _
                  refine awp_seq ?_
                  refine awp_seq ?_
                  refine awr ?_
                  refine ado rfl rfl rfl (eas (eV (v := (I 0)) rfl)) ?_
                  refine ake [0, 3, 6, 7] 0 0 (st' := ⟨140, 0, [(0, (SL 5 cNd t0)), (3, (I v3)), (6, (I v3)), (7, (I 0))], [], ⟨0, []⟩⟩) (by kernel_rfl) (by kernel_rfl) ?_
                  show AWp _ _ _ _
                  refine awp_block ?_
                  refine awp_loop (fun n s => ∃ (v24 : Int) (v25 : Int), s = ⟨140, 0, [(0, (SL 5 cNd t0)), (3, (I v3)), (6, (I v24)), (7, (I v25))], [], ⟨0, []⟩⟩ ∧ M_ref11_Torn_l3 (M_ref11_Torn_l1 t0 n1) (M_ref11_Torn_l2 (M_ref11_Torn_l1 t0 n1) t0 v3 x5 n2) t0 v3 n v24 v25 = some r) fuel (Exists.intro v3 (Exists.intro 0 (And.intro rfl h))) ?_
                  rintro n s ⟨v24, v25, rfl, h⟩ -
                  cases n with
                  | zero => cases h
                  | succ n3 =>
                    unfold M_ref11_Torn_l3 at h
                    refine awp_seq ?_
                    refine awp_seq ?_
                    refine awr ?_
                    refine ado rfl rfl rfl (emv (eV (v := (I v25)) rfl)) ?_
                    refine ado rfl rfl rfl (emv (eV (v := (SL 5 cNd t0)) rfl)) ?_
                    refine ado rfl rfl rfl (tx_lenD (xs := t0) ce_api_Node Tryz.underlying25 rfl) ?_
                    refine ado rfl rfl rfl (ex_bin (vx := (I v25)) (vy := (I (t0.length : Int))) rfl rfl lssI_ok) ?_
                    refine ado rfl rfl rfl (emv (eV (v := (Bo (decide (v25 < (t0.length : Int))))) rfl)) ?_
                    refine arun_guard (v := (I v24)) ((decide (v25 < (t0.length : Int))) == true) rfl rfl rfl (fun hc => emv (eV (v := (I v24)) rfl)) ?_
                    refine arun_guard (v := (Bo (decide (v24 > 0)))) ((decide (v25 < (t0.length : Int))) == true) rfl rfl rfl (fun hc => ex_bin (vx := (I v24)) (vy := (I 0)) (cond_of hc) rfl gtrI_ok) ?_
                    refine ado rfl rfl rfl (ex_pick rfl pkAnd) ?_
                    refine ado rfl rfl rfl (emv (eV (v := (Bo ((decide (v25 < (t0.length : Int))) && (decide (v24 > 0))))) rfl)) ?_
                    refine arun_guard (v := (I v24)) (((decide (v25 < (t0.length : Int))) && (decide (v24 > 0))) == true) rfl rfl rfl (fun hc => emv (eV (v := (I v24)) rfl)) ?_
                    refine arun_guard (v := (SL 5 cNd t0)) (((decide (v25 < (t0.length : Int))) && (decide (v24 > 0))) == true) rfl rfl rfl (fun hc => emv (eV (v := (SL 5 cNd t0)) rfl)) ?_
                    refine arun_guard (v := (I (t0.length : Int))) (((decide (v25 < (t0.length : Int))) && (decide (v24 > 0))) == true) rfl rfl rfl (fun hc => tx_lenD (xs := t0) ce_api_Node Tryz.underlying25 (cond_of hc)) ?_
                    refine arun_guard (v := (Bo (decide (v24 < (t0.length : Int))))) (((decide (v25 < (t0.length : Int))) && (decide (v24 > 0))) == true) rfl rfl rfl (fun hc => ex_bin (vx := (I v24)) (vy := (I (t0.length : Int))) (cond_of hc) (cond_of hc) lssI_ok) ?_
                    refine ado rfl rfl rfl (ex_pick rfl pkAnd) ?_
                    refine ake [0, 3, 6, 7, 130] 0 0 (st' := ⟨140, 0, [(0, (SL 5 cNd t0)), (3, (I v3)), (6, (I v24)), (7, (I v25)), (130, (Bo (((decide (v25 < (t0.length : Int))) && (decide (v24 > 0))) && (decide (v24 < (t0.length : Int))))))], [], ⟨0, []⟩⟩) (by kernel_rfl) (by kernel_rfl) ?_
                    show AWp _ _ _ _
                    rcases Bool.eq_false_or_eq_true (((decide (v25 < (t0.length : Int))) && (decide (v24 > 0))) && (decide (v24 < (t0.length : Int)))) with hb26 | hb26
                    · rw [condT hb26] at h
                      refine awp_condT (boT hb26) ?_
                      refine awp_skip ?_
                      show AWp _ _ _ _
                      refine awp_seq ?_
                      refine awp_block ?_
                      refine awr ?_
                      refine ado rfl rfl rfl (emv (eV (v := (SL 5 cNd t0)) rfl)) ?_
                      refine ado rfl rfl rfl (emv (eV (v := (I v24)) rfl)) ?_
                      obtain ⟨x27, hx27, h⟩ := bindS h
                      refine ado rfl rfl rfl (tx_idxD (c := cNd) (xs := t0) (i := v24) ce_api_Node Tryz.underlying25 s_38 rfl rfl hx27) ?_
                      refine ado rfl rfl rfl (ex_fieldAddrD (vs := (List.drop 1 (cNd x27))) Tryz.underlying38 rfl s_3 (by decide) rfl rfl) ?_
                      refine ado rfl rfl rfl (tx_ldD1 (v := (I x27.Up)) Tryz.underlying3 rfl rfl rfl) ?_
                      refine ado rfl rfl rfl (eas (eV (v := (I x27.Up)) rfl)) ?_
                      refine ake [0, 3, 6, 7] 0 0 (st' := ⟨140, 0, [(0, (SL 5 cNd t0)), (3, (I v3)), (6, (I x27.Up)), (7, (I v25))], [], ⟨0, []⟩⟩) (by kernel_rfl) (by kernel_rfl) ?_
                      show AWp _ _ _ _
                      refine awr ?_
                      refine ado rfl rfl rfl (emv (eV (v := (I v25)) rfl)) ?_
                      refine ado rfl rfl rfl (ex_bin (vx := (I v25)) (vy := (I 1)) rfl rfl addI_ok) ?_
                      refine ado rfl rfl rfl (eas (eV (v := (I (w64 (v25 + 1)))) rfl)) ?_
                      refine ake [0, 3, 6, 7] 0 0 (st' := ⟨140, 0, [(0, (SL 5 cNd t0)), (3, (I v3)), (6, (I x27.Up)), (7, (I (w64 (v25 + 1))))], [], ⟨0, []⟩⟩) (by kernel_rfl) (by kernel_rfl) ?_
                      exact Exists.intro n3 (And.intro (Nat.lt_succ_self _) (Exists.intro x27.Up (Exists.intro (w64 (v25 + 1)) (And.intro rfl h))))
                    · rw [condF hb26] at h
                      refine awp_condF (boF hb26) ?_
                      refine awp_exit ?_
                      show AWp _ _ _ _
                      refine awp_seq ?_
                      refine awr ?_
                      refine ado rfl rfl rfl (emv (eV (v := (I v24)) rfl)) ?_
                      refine ado rfl rfl rfl (ex_bin (vx := (I v24)) (vy := (I 0)) rfl rfl neqI_ok) ?_
                      refine ake [0, 3, 139] 0 0 (st' := ⟨140, 0, [(0, (SL 5 cNd t0)), (3, (I v3)), (139, (Bo (v24 != 0)))], [], ⟨0, []⟩⟩) (by kernel_rfl) (by kernel_rfl) ?_
                      show AWp _ _ _ _
                      rcases Bool.eq_false_or_eq_true (v24 != 0) with hb28 | hb28
                      · rw [condT hb28] at h
                        refine awp_condT (boT hb28) ?_
                        refine awp_seq ?_
                        refine awr ?_
                        refine ado rfl rfl rfl (eas (eV (v := (Bo false)) rfl)) ?_
                        refine ake [2] 0 0 (st' := ⟨140, 0, [(2, (Bo false))], [], ⟨0, []⟩⟩) (by kernel_rfl) (by kernel_rfl) ?_
                        show AWp _ _ _ _
                        refine awp_ret ?_
                        cases h
                        exact ares1 (rtmp rfl (eV rfl))
                      · rw [condF hb28] at h
                        refine awp_condF (boF hb28) ?_
                        refine awp_keepE [0, 3] 0 0 (st' := ⟨140, 0, [(0, (SL 5 cNd t0)), (3, (I v3))], [], ⟨0, []⟩⟩) (by kernel_rfl) (by kernel_rfl) ?_
                        refine awp_skip ?_
                        exact (And.intro rfl h)
        · rintro s ⟨rfl, h⟩
          unfold M_ref11_Torn_k1 at h
          refine awr ?_
          refine ado rfl rfl rfl (emv (eV (v := (I v3)) rfl)) ?_
          refine ado rfl rfl rfl (ex_bin (vx := (I v3)) (vy := (I 1)) rfl rfl addI_ok) ?_
          refine ado rfl rfl rfl (eas (eV (v := (I (w64 (v3 + 1)))) rfl)) ?_
          refine ake [0, 3] 0 0 (st' := ⟨140, 0, [(0, (SL 5 cNd t0)), (3, (I (w64 (v3 + 1))))], [], ⟨0, []⟩⟩) (by kernel_rfl) (by kernel_rfl) ?_
          exact Exists.intro n1 (And.intro (Nat.lt_succ_self _) (Exists.intro (w64 (v3 + 1)) (And.intro rfl h)))
      · rw [condF hb4] at h
        refine awp_condF (boF hb4) ?_
        refine awp_exit ?_
        show AWp _ _ _ _
        refine awp_seq ?_
        refine awr ?_
        refine ado rfl rfl rfl (eas (eV (v := (Bo true)) rfl)) ?_
        refine ake [2] 0 0 (st' := ⟨140, 0, [(2, (Bo true))], [], ⟨0, []⟩⟩) (by kernel_rfl) (by kernel_rfl) ?_
        show AWp _ _ _ _
        refine awp_ret ?_
        cases h
        exact ares1 (rtmp rfl (eV rfl))

end Go.Proofs
