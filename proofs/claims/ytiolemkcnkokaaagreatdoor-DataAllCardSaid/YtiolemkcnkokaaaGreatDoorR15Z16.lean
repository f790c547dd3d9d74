/- Pure models of functions of the program, and that its code does what they say: palimpref11 Same, palimpref11 Read, palimpref11 Part. Written by a program. -/
import Derived.Test.YtiolemkcnkokaaaGreatDoorR15Z14
import Derived.Test.YtiolemkcnkokaaaGreatDoorR15ZB
set_option maxRecDepth 20000
set_option maxHeartbeats 4000000
namespace Go.Proofs
open Go Go.Fhl
set_option linter.unusedVariables false
set_option linter.unusedSimpArgs false
noncomputable def M_ref11_Same_l1 (t0 : (List G_api_Node)) (t1 : (List G_api_Node)) : Nat → Int → Option Bool
  | 0, _ => none
  | n1 + 1, v2 =>
  cond (decide (v2 < (t0.length : Int))) (Option.bind (getI t0 v2) fun (x4 : G_api_Node) => Option.bind (getI t1 v2) fun (x5 : G_api_Node) => cond (!decide (x4 = x5)) (some false) ((M_ref11_Same_l1 t0 t1 n1) (w64 (v2 + 1)))) (some true)
noncomputable def M_ref11_Same (t0 : (List G_api_Node)) (t1 : (List G_api_Node)) : Option Bool :=
  cond ((t0.length : Int) != (t1.length : Int)) (some false) (M_ref11_Same_l1 t0 t1 fuel 0)
theorem ok_ref11_Same (t0 : (List G_api_Node)) (t1 : (List G_api_Node)) (r : Bool) (h : M_ref11_Same t0 t1 = some r) : FFn Tryz.prog 14 [(SL 5 cNd t0), (SL 5 cNd t1)] (Bo r) := by
  refine FFn.of_body (n := 26) Tryz.func14 rfl Tryz.ntmps14 rfl rfl rfl rfl ?_
  show AWp _ _ _ ⟨26, 0, [(0, (SL 5 cNd t0)), (1, (SL 5 cNd t1))], [], ⟨0, []⟩⟩
  unfold M_ref11_Same at h
  refine awp_seq ?_
  refine awr ?_
  refine ado rfl rfl rfl (eas (eV (v := (Bo false)) rfl)) ?_
  refine ake [0, 1] 0 0 (st' := ⟨26, 0, [(0, (SL 5 cNd t0)), (1, (SL 5 cNd t1))], [], ⟨0, []⟩⟩) (by kernel_rfl) (by kernel_rfl) ?_
  show AWp _ _ _ _
  refine awp_seq ?_
  refine awp_seq ?_
  refine awr ?_
  refine ado rfl rfl rfl (emv (eV (v := (SL 5 cNd t0)) rfl)) ?_
  refine ado rfl rfl rfl (tx_lenD (xs := t0) ce_api_Node Tryz.underlying25 rfl) ?_
  refine ado rfl rfl rfl (emv (eV (v := (SL 5 cNd t1)) rfl)) ?_
  refine ado rfl rfl rfl (tx_lenD (xs := t1) ce_api_Node Tryz.underlying25 rfl) ?_
  refine ado rfl rfl rfl (ex_bin (vx := (I (t0.length : Int))) (vy := (I (t1.length : Int))) rfl rfl neqI_ok) ?_
  refine ake [0, 1, 10] 0 0 (st' := ⟨26, 0, [(0, (SL 5 cNd t0)), (1, (SL 5 cNd t1)), (10, (Bo ((t0.length : Int) != (t1.length : Int))))], [], ⟨0, []⟩⟩) (by kernel_rfl) (by kernel_rfl) ?_
  show AWp _ _ _ _
  rcases Bool.eq_false_or_eq_true ((t0.length : Int) != (t1.length : Int)) with hb1 | hb1
  · rw [condT hb1] at h
    refine awp_condT (boT hb1) ?_
    refine awp_seq ?_
    refine awr ?_
    refine ado rfl rfl rfl (eas (eV (v := (Bo false)) rfl)) ?_
    refine ake [4] 0 0 (st' := ⟨26, 0, [(4, (Bo false))], [], ⟨0, []⟩⟩) (by kernel_rfl) (by kernel_rfl) ?_
    show AWp _ _ _ _
    refine awp_ret ?_
    cases h
    exact ares1 (rtmp rfl (eV rfl))
  · rw [condF hb1] at h
    refine awp_condF (boF hb1) ?_
    refine awp_skip ?_
    show AWp _ _ _ _
    refine awp_seq ?_
    refine awp_seq ?_
    refine awr ?_
    refine ado rfl rfl rfl (eas (eV (v := (I 0)) rfl)) ?_
    refine ake [0, 1, 5] 0 0 (st' := ⟨26, 0, [(0, (SL 5 cNd t0)), (1, (SL 5 cNd t1)), (5, (I 0))], [], ⟨0, []⟩⟩) (by kernel_rfl) (by kernel_rfl) ?_
    show AWp _ _ _ _
    refine awp_block ?_
    refine awp_loop (fun n s => ∃ (v2 : Int), s = ⟨26, 0, [(0, (SL 5 cNd t0)), (1, (SL 5 cNd t1)), (5, (I v2))], [], ⟨0, []⟩⟩ ∧ M_ref11_Same_l1 t0 t1 n v2 = some r) fuel (Exists.intro 0 (And.intro rfl h)) ?_
    rintro n s ⟨v2, rfl, h⟩ -
    cases n with
    | zero => cases h
    | succ n1 =>
      unfold M_ref11_Same_l1 at h
      refine awp_seq ?_
      refine awp_seq ?_
      refine awr ?_
      refine ado rfl rfl rfl (emv (eV (v := (I v2)) rfl)) ?_
      refine ado rfl rfl rfl (emv (eV (v := (SL 5 cNd t0)) rfl)) ?_
      refine ado rfl rfl rfl (tx_lenD (xs := t0) ce_api_Node Tryz.underlying25 rfl) ?_
      refine ado rfl rfl rfl (ex_bin (vx := (I v2)) (vy := (I (t0.length : Int))) rfl rfl lssI_ok) ?_
      refine ake [0, 1, 5, 14] 0 0 (st' := ⟨26, 0, [(0, (SL 5 cNd t0)), (1, (SL 5 cNd t1)), (5, (I v2)), (14, (Bo (decide (v2 < (t0.length : Int)))))], [], ⟨0, []⟩⟩) (by kernel_rfl) (by kernel_rfl) ?_
      show AWp _ _ _ _
      rcases Bool.eq_false_or_eq_true (decide (v2 < (t0.length : Int))) with hb3 | hb3
      · rw [condT hb3] at h
        refine awp_condT (boT hb3) ?_
        refine awp_skip ?_
        show AWp _ _ _ _
        refine awp_seq ?_
        refine awp_block ?_
        refine awp_seq ?_
        obtain ⟨x4, hx4, h⟩ := bindS h
        obtain ⟨x5, hx5, h⟩ := bindS h
        refine awp_kn [0, 1, 5, 25] 0 0 (st' := ⟨26, 0, [(0, (SL 5 cNd t0)), (1, (SL 5 cNd t1)), (5, (I v2)), (25, (Bo (!decide (x4 = x5))))], [], ⟨0, []⟩⟩) (awp_draw (T := [(SL 5 cNd t0), (I v2), (DP (cNd x4)), (Value.agg (cNd x4).toArray), (SL 5 cNd t1), (I v2), (DP (cNd x5)), (Value.agg (cNd x5).toArray), (Bo (!decide (x4 = x5)))]) (LH := [([], ⟨0, []⟩)]) (D := [⟨[(0, none)], [], [0], false⟩, ⟨[(5, none)], [], [0], false⟩, ⟨[(17, some 0), (18, some 1)], [0, 1], [0], false⟩, ⟨[(19, some 2)], [0, 1, 2], [0], false⟩, ⟨[(1, none)], [], [0], false⟩, ⟨[(5, none)], [], [0], false⟩, ⟨[(21, some 4), (22, some 5)], [4, 5], [0], false⟩, ⟨[(23, some 6)], [4, 5, 6], [0], false⟩, ⟨[(20, some 3), (24, some 7)], [0, 1, 2, 3, 4, 5, 6, 7], [0], false⟩]) (S := []) (plan := [0, 1, 2, 3, 4, 5, 6, 7, 8]) mo (by kernel_rfl) rfl rfl rfl (dcons (dstep1 (Tm := [(0, (SL 5 cNd t0))]) (L := []) (H := ⟨0, []⟩) rfl rfl rfl rfl rfl (astep_do rfl (emv (eV (v := (SL 5 cNd t0)) rfl)))) (dcons (dstep1 (Tm := [(5, (I v2))]) (L := []) (H := ⟨0, []⟩) rfl rfl rfl rfl rfl (astep_do rfl (emv (eV (v := (I v2)) rfl)))) (dcons (dstep1 (Tm := [(17, (SL 5 cNd t0)), (18, (I v2))]) (L := []) (H := ⟨0, []⟩) rfl rfl rfl rfl rfl (astep_do rfl (tx_idxD (c := cNd) (xs := t0) (i := v2) ce_api_Node Tryz.underlying25 s_54 rfl rfl hx4))) (dcons (dstep1 (Tm := [(19, (DP (cNd x4)))]) (L := []) (H := ⟨0, []⟩) rfl rfl rfl rfl rfl (astep_do rfl (tx_ldDA (vs := (cNd x4)) Tryz.underlying54 rfl s_54 (by decide) rfl (Nat.le_of_ble_eq_true rfl) rfl))) (dcons (dstep1 (Tm := [(1, (SL 5 cNd t1))]) (L := []) (H := ⟨0, []⟩) rfl rfl rfl rfl rfl (astep_do rfl (emv (eV (v := (SL 5 cNd t1)) rfl)))) (dcons (dstep1 (Tm := [(5, (I v2))]) (L := []) (H := ⟨0, []⟩) rfl rfl rfl rfl rfl (astep_do rfl (emv (eV (v := (I v2)) rfl)))) (dcons (dstep1 (Tm := [(21, (SL 5 cNd t1)), (22, (I v2))]) (L := []) (H := ⟨0, []⟩) rfl rfl rfl rfl rfl (astep_do rfl (tx_idxD (c := cNd) (xs := t1) (i := v2) ce_api_Node Tryz.underlying25 s_54 rfl rfl hx5))) (dcons (dstep1 (Tm := [(23, (DP (cNd x5)))]) (L := []) (H := ⟨0, []⟩) rfl rfl rfl rfl rfl (astep_do rfl (tx_ldDA (vs := (cNd x5)) Tryz.underlying54 rfl s_54 (by decide) rfl (Nat.le_of_ble_eq_true rfl) rfl))) (dcons (dstep1 (Tm := [(20, (Value.agg (cNd x4).toArray)), (24, (Value.agg (cNd x5).toArray))]) (L := []) (H := ⟨0, []⟩) rfl rfl rfl rfl rfl (astep_do rfl (ex_bin (vx := (Value.agg (cNd x4).toArray)) (vy := (Value.agg (cNd x5).toArray)) rfl rfl neq_54))) dnil))))))))) ⟨rfl, rfl⟩) (by kernel_rfl) (by kernel_rfl) ?_
        show AWp _ _ _ _
        rcases Bool.eq_false_or_eq_true (!decide (x4 = x5)) with hb6 | hb6
        · rw [condT hb6] at h
          refine awp_condT (boT hb6) ?_
          refine awp_seq ?_
          refine awr ?_
          refine ado rfl rfl rfl (eas (eV (v := (Bo false)) rfl)) ?_
          refine ake [4] 0 0 (st' := ⟨26, 0, [(4, (Bo false))], [], ⟨0, []⟩⟩) (by kernel_rfl) (by kernel_rfl) ?_
          show AWp _ _ _ _
          refine awp_ret ?_
          cases h
          exact ares1 (rtmp rfl (eV rfl))
        · rw [condF hb6] at h
          refine awp_condF (boF hb6) ?_
          refine awp_skip ?_
          show AWp _ _ _ _
          refine awr ?_
          refine ado rfl rfl rfl (emv (eV (v := (I v2)) rfl)) ?_
          refine ado rfl rfl rfl (ex_bin (vx := (I v2)) (vy := (I 1)) rfl rfl addI_ok) ?_
          refine ado rfl rfl rfl (eas (eV (v := (I (w64 (v2 + 1)))) rfl)) ?_
          refine ake [0, 1, 5] 0 0 (st' := ⟨26, 0, [(0, (SL 5 cNd t0)), (1, (SL 5 cNd t1)), (5, (I (w64 (v2 + 1))))], [], ⟨0, []⟩⟩) (by kernel_rfl) (by kernel_rfl) ?_
          exact Exists.intro n1 (And.intro (Nat.lt_succ_self _) (Exists.intro (w64 (v2 + 1)) (And.intro rfl h)))
      · rw [condF hb3] at h
        refine awp_condF (boF hb3) ?_
        refine awp_exit ?_
        show AWp _ _ _ _
        refine awp_seq ?_
        refine awr ?_
        refine ado rfl rfl rfl (eas (eV (v := (Bo true)) rfl)) ?_
        refine ake [4] 0 0 (st' := ⟨26, 0, [(4, (Bo true))], [], ⟨0, []⟩⟩) (by kernel_rfl) (by kernel_rfl) ?_
        show AWp _ _ _ _
        refine awp_ret ?_
        cases h
        exact ares1 (rtmp rfl (eV rfl))

noncomputable def M_ref11_Read_l1 (t0 : (List G_api_Node)) (t2 : Int) (t3 : Int) (x1 : (Int × Int)) (x4 : G_api_Node) : Nat → Int → Option (Str × Int)
  | 0, _ => none
  | n1 + 1, v5 =>
  cond (decide (v5 < (w64 ((min t2 (x4.Body.length : Int)) + (min t3 (w64 ((x4.Body.length : Int) - (min t2 (x4.Body.length : Int))))))))) (Option.bind (getI t0 x1.1) fun (x7 : G_api_Node) => Option.bind (quoI v5 32) fun (x8 : Int) => Option.bind (shrI x7.Bad x8) fun (x9 : Int) => cond ((andI x9 1) == 1) (some ([], 12)) ((M_ref11_Read_l1 t0 t2 t3 x1 x4 n1) (w64 (v5 + 1)))) (Option.bind (slL x4.Body (min t2 (x4.Body.length : Int)) (w64 ((min t2 (x4.Body.length : Int)) + (min t3 (w64 ((x4.Body.length : Int) - (min t2 (x4.Body.length : Int)))))))) fun (x11 : Str) => some (x11, 0))
noncomputable def M_ref11_Read (t0 : (List G_api_Node)) (t1 : Str) (t2 : Int) (t3 : Int) : Option (Str × Int) :=
  Option.bind (M_ref11_file t0 t1) fun (x1 : (Int × Int)) => cond (x1.2 != 0) (some ([], x1.2)) (cond ((decide (t2 < 0)) || (decide (t3 < 0))) (some ([], 1)) (Option.bind (getI t0 x1.1) fun (x4 : G_api_Node) => M_ref11_Read_l1 t0 t2 t3 x1 x4 fuel (min t2 (x4.Body.length : Int))))
theorem ok_ref11_Read (t0 : (List G_api_Node)) (t1 : Str) (t2 : Int) (t3 : Int) (r : (Str × Int)) (h : M_ref11_Read t0 t1 t2 t3 = some r) : FFn Tryz.prog 18 [(SL 5 cNd t0), (S t1), (I t2), (I t3)] (Value.tuple #[(S r.1), (I r.2)]) := by
  refine FFn.of_body (n := 68) Tryz.func18 rfl Tryz.ntmps18 rfl rfl rfl rfl ?_
  show AWp _ _ _ ⟨68, 0, [(0, (SL 5 cNd t0)), (1, (S t1)), (2, (I t2)), (3, (I t3))], [], ⟨0, []⟩⟩
  unfold M_ref11_Read at h
  refine awp_seq ?_
  refine awr ?_
  refine ado rfl rfl rfl (eas (eV (v := (S [])) rfl)) ?_
  refine ado rfl rfl rfl (eas (eV (v := (I 0)) rfl)) ?_
  refine ake [0, 1, 2, 3] 0 0 (st' := ⟨68, 0, [(0, (SL 5 cNd t0)), (1, (S t1)), (2, (I t2)), (3, (I t3))], [], ⟨0, []⟩⟩) (by kernel_rfl) (by kernel_rfl) ?_
  show AWp _ _ _ _
  refine awp_seq ?_
  refine awr ?_
  refine ado rfl rfl rfl (emv (eV (v := (SL 5 cNd t0)) rfl)) ?_
  refine ado rfl rfl rfl (emv (eV (v := (S t1)) rfl)) ?_
  obtain ⟨x1, hx1, h⟩ := bindS h
  refine ado rfl rfl rfl (ex_call0 (vs := [(SL 5 cNd t0), (S t1)]) (v := (Value.tuple #[(I x1.1), (I x1.2)])) rfl en_37 (cargs (evs rfl (evs rfl evs_nil))) rfl (ok_ref11_file t0 t1 x1 hx1) rfl) ?_
  refine ado rfl rfl rfl (emv (eV (v := (Value.tuple #[(I x1.1), (I x1.2)])) rfl)) ?_
  refine ado rfl rfl rfl (ex_extract (vx := (Value.tuple #[(I x1.1), (I x1.2)])) (v := (I x1.1)) rfl rfl) ?_
  refine ado rfl rfl rfl (ex_extract (vx := (Value.tuple #[(I x1.1), (I x1.2)])) (v := (I x1.2)) rfl rfl) ?_
  refine ado rfl rfl rfl (eas (eV (v := (I x1.1)) rfl)) ?_
  refine ado rfl rfl rfl (eas (eV (v := (I x1.2)) rfl)) ?_
  refine ake [0, 2, 3, 10, 11] 0 0 (st' := ⟨68, 0, [(0, (SL 5 cNd t0)), (2, (I t2)), (3, (I t3)), (10, (I x1.1)), (11, (I x1.2))], [], ⟨0, []⟩⟩) (by kernel_rfl) (by kernel_rfl) ?_
  show AWp _ _ _ _
  refine awp_seq ?_
  refine awp_seq ?_
  refine awr ?_
  refine ado rfl rfl rfl (emv (eV (v := (I x1.2)) rfl)) ?_
  refine ado rfl rfl rfl (ex_bin (vx := (I x1.2)) (vy := (I 0)) rfl rfl neqI_ok) ?_
  refine ake [0, 2, 3, 10, 11, 23] 0 0 (st' := ⟨68, 0, [(0, (SL 5 cNd t0)), (2, (I t2)), (3, (I t3)), (10, (I x1.1)), (11, (I x1.2)), (23, (Bo (x1.2 != 0)))], [], ⟨0, []⟩⟩) (by kernel_rfl) (by kernel_rfl) ?_
  show AWp _ _ _ _
  rcases Bool.eq_false_or_eq_true (x1.2 != 0) with hb2 | hb2
  · rw [condT hb2] at h
    refine awp_condT (boT hb2) ?_
    refine awp_seq ?_
    refine awr ?_
    refine ado rfl rfl rfl (emv (eV (v := (I x1.2)) rfl)) ?_
    refine ado rfl rfl rfl (eas (eV (v := (S [])) rfl)) ?_
    refine ado rfl rfl rfl (eas (eV (v := (I x1.2)) rfl)) ?_
    refine ake [8, 9] 0 0 (st' := ⟨68, 0, [(8, (S [])), (9, (I x1.2))], [], ⟨0, []⟩⟩) (by kernel_rfl) (by kernel_rfl) ?_
    show AWp _ _ _ _
    refine awp_ret ?_
    cases h
    exact aresN rfl (L2.cons (rtmp rfl (eV rfl)) (L2.cons (rtmp rfl (eV rfl)) L2.nil)) rfl
  · rw [condF hb2] at h
    refine awp_condF (boF hb2) ?_
    refine awp_skip ?_
    show AWp _ _ _ _
    refine awp_seq ?_
    refine awp_seq ?_
    refine awr ?_
    refine ado rfl rfl rfl (emv (eV (v := (I t2)) rfl)) ?_
    refine ado rfl rfl rfl (ex_bin (vx := (I t2)) (vy := (I 0)) rfl rfl lssI_ok) ?_
    refine ado rfl rfl rfl (emv (eV (v := (Bo (decide (t2 < 0)))) rfl)) ?_
    refine arun_guard (v := (I t3)) ((decide (t2 < 0)) == false) rfl rfl rfl (fun hc => emv (eV (v := (I t3)) rfl)) ?_
    refine arun_guard (v := (Bo (decide (t3 < 0)))) ((decide (t2 < 0)) == false) rfl rfl rfl (fun hc => ex_bin (vx := (I t3)) (vy := (I 0)) (cond_of hc) rfl lssI_ok) ?_
    refine ado rfl rfl rfl (ex_pick rfl pkOr) ?_
    refine ake [0, 2, 3, 10, 30] 0 0 (st' := ⟨68, 0, [(0, (SL 5 cNd t0)), (2, (I t2)), (3, (I t3)), (10, (I x1.1)), (30, (Bo ((decide (t2 < 0)) || (decide (t3 < 0)))))], [], ⟨0, []⟩⟩) (by kernel_rfl) (by kernel_rfl) ?_
    show AWp _ _ _ _
    rcases Bool.eq_false_or_eq_true ((decide (t2 < 0)) || (decide (t3 < 0))) with hb3 | hb3
    · rw [condT hb3] at h
      refine awp_condT (boT hb3) ?_
      refine awp_seq ?_
      refine awr ?_
      refine ado rfl rfl rfl (eas (eV (v := (S [])) rfl)) ?_
      refine ado rfl rfl rfl (eas (eV (v := (I 1)) rfl)) ?_
      refine ake [8, 9] 0 0 (st' := ⟨68, 0, [(8, (S [])), (9, (I 1))], [], ⟨0, []⟩⟩) (by kernel_rfl) (by kernel_rfl) ?_
      show AWp _ _ _ _
      refine awp_ret ?_
      cases h
      exact aresN rfl (L2.cons (rtmp rfl (eV rfl)) (L2.cons (rtmp rfl (eV rfl)) L2.nil)) rfl
    · rw [condF hb3] at h
      refine awp_condF (boF hb3) ?_
      refine awp_skip ?_
      show AWp _ _ _ _
      refine awp_seq ?_
      refine awr ?_
      refine ado rfl rfl rfl (emv (eV (v := (SL 5 cNd t0)) rfl)) ?_
      refine ado rfl rfl rfl (emv (eV (v := (I x1.1)) rfl)) ?_
      obtain ⟨x4, hx4, h⟩ := bindS h
      refine ado rfl rfl rfl (tx_idxD (c := cNd) (xs := t0) (i := x1.1) ce_api_Node Tryz.underlying25 s_54 rfl rfl hx4) ?_
      refine ado rfl rfl rfl (ex_fieldAddrD (vs := (List.drop 3 (cNd x4))) Tryz.underlying54 rfl s_9 (by decide) rfl rfl) ?_
      refine ado rfl rfl rfl (tx_ldD1 (v := (S x4.Body)) Tryz.underlying9 rfl rfl rfl) ?_
      refine ado rfl rfl rfl (eas (eV (v := (S x4.Body)) rfl)) ?_
      refine ake [0, 2, 3, 10, 12] 0 0 (st' := ⟨68, 0, [(0, (SL 5 cNd t0)), (2, (I t2)), (3, (I t3)), (10, (I x1.1)), (12, (S x4.Body))], [], ⟨0, []⟩⟩) (by kernel_rfl) (by kernel_rfl) ?_
      show AWp _ _ _ _
      refine awp_seq ?_
      refine awr ?_
      refine ado rfl rfl rfl (emv (eV (v := (I t2)) rfl)) ?_
      refine ado rfl rfl rfl (emv (eV (v := (S x4.Body)) rfl)) ?_
      refine ado rfl rfl rfl (tx_lenS Tryz.underlying9 rfl) ?_
      refine ado rfl rfl rfl (ex_min (m := t2) (n := (x4.Body.length : Int)) rfl rfl) ?_
      refine ado rfl rfl rfl (eas (eV (v := (I (min t2 (x4.Body.length : Int)))) rfl)) ?_
      refine ake [0, 3, 10, 12, 13] 0 0 (st' := ⟨68, 0, [(0, (SL 5 cNd t0)), (3, (I t3)), (10, (I x1.1)), (12, (S x4.Body)), (13, (I (min t2 (x4.Body.length : Int))))], [], ⟨0, []⟩⟩) (by kernel_rfl) (by kernel_rfl) ?_
      show AWp _ _ _ _
      refine awp_seq ?_
      refine awr ?_
      refine ado rfl rfl rfl (emv (eV (v := (I (min t2 (x4.Body.length : Int)))) rfl)) ?_
      refine ado rfl rfl rfl (emv (eV (v := (I t3)) rfl)) ?_
      refine ado rfl rfl rfl (emv (eV (v := (S x4.Body)) rfl)) ?_
      refine ado rfl rfl rfl (tx_lenS Tryz.underlying9 rfl) ?_
      refine ado rfl rfl rfl (emv (eV (v := (I (min t2 (x4.Body.length : Int)))) rfl)) ?_
      refine ado rfl rfl rfl (ex_bin (vx := (I (x4.Body.length : Int))) (vy := (I (min t2 (x4.Body.length : Int)))) rfl rfl subI_ok) ?_
      refine ado rfl rfl rfl (ex_min (m := t3) (n := (w64 ((x4.Body.length : Int) - (min t2 (x4.Body.length : Int))))) rfl rfl) ?_
      refine ado rfl rfl rfl (ex_bin (vx := (I (min t2 (x4.Body.length : Int)))) (vy := (I (min t3 (w64 ((x4.Body.length : Int) - (min t2 (x4.Body.length : Int))))))) rfl rfl addI_ok) ?_
      refine ado rfl rfl rfl (eas (eV (v := (I (w64 ((min t2 (x4.Body.length : Int)) + (min t3 (w64 ((x4.Body.length : Int) - (min t2 (x4.Body.length : Int))))))))) rfl)) ?_
      refine ake [0, 10, 12, 13, 14] 0 0 (st' := ⟨68, 0, [(0, (SL 5 cNd t0)), (10, (I x1.1)), (12, (S x4.Body)), (13, (I (min t2 (x4.Body.length : Int)))), (14, (I (w64 ((min t2 (x4.Body.length : Int)) + (min t3 (w64 ((x4.Body.length : Int) - (min t2 (x4.Body.length : Int)))))))))], [], ⟨0, []⟩⟩) (by kernel_rfl) (by kernel_rfl) ?_
      show AWp _ _ _ _
      refine awp_seq ?_
      refine awp_seq ?_
      refine awr ?_
      refine ado rfl rfl rfl (emv (eV (v := (I (min t2 (x4.Body.length : Int)))) rfl)) ?_
      refine ado rfl rfl rfl (eas (eV (v := (I (min t2 (x4.Body.length : Int)))) rfl)) ?_
      refine ake [0, 10, 12, 13, 14, 15] 0 0 (st' := ⟨68, 0, [(0, (SL 5 cNd t0)), (10, (I x1.1)), (12, (S x4.Body)), (13, (I (min t2 (x4.Body.length : Int)))), (14, (I (w64 ((min t2 (x4.Body.length : Int)) + (min t3 (w64 ((x4.Body.length : Int) - (min t2 (x4.Body.length : Int))))))))), (15, (I (min t2 (x4.Body.length : Int))))], [], ⟨0, []⟩⟩) (by kernel_rfl) (by kernel_rfl) ?_
      show AWp _ _ _ _
      refine awp_block ?_
      refine awp_loop (fun n s => ∃ (v5 : Int), s = ⟨68, 0, [(0, (SL 5 cNd t0)), (10, (I x1.1)), (12, (S x4.Body)), (13, (I (min t2 (x4.Body.length : Int)))), (14, (I (w64 ((min t2 (x4.Body.length : Int)) + (min t3 (w64 ((x4.Body.length : Int) - (min t2 (x4.Body.length : Int))))))))), (15, (I v5))], [], ⟨0, []⟩⟩ ∧ M_ref11_Read_l1 t0 t2 t3 x1 x4 n v5 = some r) fuel (Exists.intro (min t2 (x4.Body.length : Int)) (And.intro rfl h)) ?_
      rintro n s ⟨v5, rfl, h⟩ -
      cases n with
      | zero => cases h
      | succ n1 =>
        unfold M_ref11_Read_l1 at h
        refine awp_seq ?_
        refine awp_seq ?_
        refine awr ?_
        refine ado rfl rfl rfl (emv (eV (v := (I v5)) rfl)) ?_
        refine ado rfl rfl rfl (emv (eV (v := (I (w64 ((min t2 (x4.Body.length : Int)) + (min t3 (w64 ((x4.Body.length : Int) - (min t2 (x4.Body.length : Int))))))))) rfl)) ?_
        refine ado rfl rfl rfl (ex_bin (vx := (I v5)) (vy := (I (w64 ((min t2 (x4.Body.length : Int)) + (min t3 (w64 ((x4.Body.length : Int) - (min t2 (x4.Body.length : Int))))))))) rfl rfl lssI_ok) ?_
        refine ake [0, 10, 12, 13, 14, 15, 51] 0 0 (st' := ⟨68, 0, [(0, (SL 5 cNd t0)), (10, (I x1.1)), (12, (S x4.Body)), (13, (I (min t2 (x4.Body.length : Int)))), (14, (I (w64 ((min t2 (x4.Body.length : Int)) + (min t3 (w64 ((x4.Body.length : Int) - (min t2 (x4.Body.length : Int))))))))), (15, (I v5)), (51, (Bo (decide (v5 < (w64 ((min t2 (x4.Body.length : Int)) + (min t3 (w64 ((x4.Body.length : Int) - (min t2 (x4.Body.length : Int)))))))))))], [], ⟨0, []⟩⟩) (by kernel_rfl) (by kernel_rfl) ?_
        show AWp _ _ _ _
        rcases Bool.eq_false_or_eq_true (decide (v5 < (w64 ((min t2 (x4.Body.length : Int)) + (min t3 (w64 ((x4.Body.length : Int) - (min t2 (x4.Body.length : Int))))))))) with hb6 | hb6
        · rw [condT hb6] at h
          refine awp_condT (boT hb6) ?_
          refine awp_skip ?_
          show AWp _ _ _ _
          refine awp_seq ?_
          refine awp_block ?_
          refine awp_seq ?_
          refine awr ?_
          refine ado rfl rfl rfl (emv (eV (v := (SL 5 cNd t0)) rfl)) ?_
          refine ado rfl rfl rfl (emv (eV (v := (I x1.1)) rfl)) ?_
          obtain ⟨x7, hx7, h⟩ := bindS h
          refine ado rfl rfl rfl (tx_idxD (c := cNd) (xs := t0) (i := x1.1) ce_api_Node Tryz.underlying25 s_54 rfl rfl hx7) ?_
          refine ado rfl rfl rfl (ex_fieldAddrD (vs := (List.drop 4 (cNd x7))) Tryz.underlying54 rfl s_3 (by decide) rfl rfl) ?_
          refine ado rfl rfl rfl (tx_ldD1 (v := (I x7.Bad)) Tryz.underlying3 rfl rfl rfl) ?_
          refine ado rfl rfl rfl (emv (eV (v := (I v5)) rfl)) ?_
          obtain ⟨x8, hx8, h⟩ := bindS h
          refine ado rfl rfl rfl (ex_bin (vx := (I v5)) (vy := (I 32)) rfl rfl (quoI_ok hx8)) ?_
          obtain ⟨x9, hx9, h⟩ := bindS h
          refine ado rfl rfl rfl (ex_bin (vx := (I x7.Bad)) (vy := (I x8)) rfl rfl (shrI_ok hx9)) ?_
          refine ado rfl rfl rfl (ex_bin (vx := (I x9)) (vy := (I 1)) rfl rfl andI_ok) ?_
          refine ado rfl rfl rfl (ex_bin (vx := (I (andI x9 1))) (vy := (I 1)) rfl rfl eqlI_ok) ?_
          refine ake [0, 10, 12, 13, 14, 15, 63] 0 0 (st' := ⟨68, 0, [(0, (SL 5 cNd t0)), (10, (I x1.1)), (12, (S x4.Body)), (13, (I (min t2 (x4.Body.length : Int)))), (14, (I (w64 ((min t2 (x4.Body.length : Int)) + (min t3 (w64 ((x4.Body.length : Int) - (min t2 (x4.Body.length : Int))))))))), (15, (I v5)), (63, (Bo ((andI x9 1) == 1)))], [], ⟨0, []⟩⟩) (by kernel_rfl) (by kernel_rfl) ?_
          show AWp _ _ _ _
          rcases Bool.eq_false_or_eq_true ((andI x9 1) == 1) with hb10 | hb10
          · rw [condT hb10] at h
            refine awp_condT (boT hb10) ?_
            refine awp_seq ?_
            refine awr ?_
            refine ado rfl rfl rfl (eas (eV (v := (S [])) rfl)) ?_
            refine ado rfl rfl rfl (eas (eV (v := (I 12)) rfl)) ?_
            refine ake [8, 9] 0 0 (st' := ⟨68, 0, [(8, (S [])), (9, (I 12))], [], ⟨0, []⟩⟩) (by kernel_rfl) (by kernel_rfl) ?_
            show AWp _ _ _ _
            refine awp_ret ?_
            cases h
            exact aresN rfl (L2.cons (rtmp rfl (eV rfl)) (L2.cons (rtmp rfl (eV rfl)) L2.nil)) rfl
          · rw [condF hb10] at h
            refine awp_condF (boF hb10) ?_
            refine awp_skip ?_
            show AWp _ _ _ _
            refine awr ?_
            refine ado rfl rfl rfl (emv (eV (v := (I v5)) rfl)) ?_
            refine ado rfl rfl rfl (ex_bin (vx := (I v5)) (vy := (I 1)) rfl rfl addI_ok) ?_
            refine ado rfl rfl rfl (eas (eV (v := (I (w64 (v5 + 1)))) rfl)) ?_
            refine ake [0, 10, 12, 13, 14, 15] 0 0 (st' := ⟨68, 0, [(0, (SL 5 cNd t0)), (10, (I x1.1)), (12, (S x4.Body)), (13, (I (min t2 (x4.Body.length : Int)))), (14, (I (w64 ((min t2 (x4.Body.length : Int)) + (min t3 (w64 ((x4.Body.length : Int) - (min t2 (x4.Body.length : Int))))))))), (15, (I (w64 (v5 + 1))))], [], ⟨0, []⟩⟩) (by kernel_rfl) (by kernel_rfl) ?_
            exact Exists.intro n1 (And.intro (Nat.lt_succ_self _) (Exists.intro (w64 (v5 + 1)) (And.intro rfl h)))
        · rw [condF hb6] at h
          refine awp_condF (boF hb6) ?_
          refine awp_exit ?_
          show AWp _ _ _ _
          refine awp_seq ?_
          refine awr ?_
          refine ado rfl rfl rfl (emv (eV (v := (S x4.Body)) rfl)) ?_
          refine ado rfl rfl rfl (emv (eV (v := (I (min t2 (x4.Body.length : Int)))) rfl)) ?_
          refine ado rfl rfl rfl (emv (eV (v := (I (w64 ((min t2 (x4.Body.length : Int)) + (min t3 (w64 ((x4.Body.length : Int) - (min t2 (x4.Body.length : Int))))))))) rfl)) ?_
          obtain ⟨x11, hx11, h⟩ := bindS h
          refine ado rfl rfl rfl (tx_slS (u := x4.Body) Tryz.underlying9 rfl (loX (l := (min t2 (x4.Body.length : Int))) rfl) (hiX (l := (w64 ((min t2 (x4.Body.length : Int)) + (min t3 (w64 ((x4.Body.length : Int) - (min t2 (x4.Body.length : Int)))))))) rfl) hx11) ?_
          refine ado rfl rfl rfl (eas (eV (v := (S x11)) rfl)) ?_
          refine ado rfl rfl rfl (eas (eV (v := (I 0)) rfl)) ?_
          refine ake [8, 9] 0 0 (st' := ⟨68, 0, [(8, (S x11)), (9, (I 0))], [], ⟨0, []⟩⟩) (by kernel_rfl) (by kernel_rfl) ?_
          show AWp _ _ _ _
          refine awp_ret ?_
          cases h
          exact aresN rfl (L2.cons (rtmp rfl (eV rfl)) (L2.cons (rtmp rfl (eV rfl)) L2.nil)) rfl

noncomputable def M_ref11_Part (t0 : Str) (t1 : Int) : Option Str :=
  cond (((decide (t1 < 0)) || (decide (t1 ≥ 4))) || (decide ((t0.length : Int) > 128))) (some []) (Option.bind (M_ref11_long t0 128) fun (x2 : Str) => Option.bind (slL x2 (w64 (t1 * 32)) (w64 ((w64 (t1 + 1)) * 32))) fun (x3 : Str) => Option.bind (makeL 1 32 0) fun (x4 : List UInt8) => cond (x3 == x4) (some []) (some x3))
theorem ok_ref11_Part (t0 : Str) (t1 : Int) (r : Str) (h : M_ref11_Part t0 t1 = some r) : FFn Tryz.prog 25 [(S t0), (I t1)] (S r) := by
  refine FFn.of_body (n := 30) Tryz.func25 rfl Tryz.ntmps25 rfl rfl rfl rfl ?_
  show AWp _ _ _ ⟨30, 0, [(0, (S t0)), (1, (I t1))], [], ⟨0, []⟩⟩
  unfold M_ref11_Part at h
  refine awp_seq ?_
  refine awr ?_
  refine ado rfl rfl rfl (eas (eV (v := (S [])) rfl)) ?_
  refine ake [0, 1] 0 0 (st' := ⟨30, 0, [(0, (S t0)), (1, (I t1))], [], ⟨0, []⟩⟩) (by kernel_rfl) (by kernel_rfl) ?_
  show AWp _ _ _ _
  refine awp_seq ?_
  refine awp_seq ?_
  refine awr ?_
  refine ado rfl rfl rfl (emv (eV (v := (I t1)) rfl)) ?_
  refine ado rfl rfl rfl (ex_bin (vx := (I t1)) (vy := (I 0)) rfl rfl lssI_ok) ?_
  refine ado rfl rfl rfl (emv (eV (v := (Bo (decide (t1 < 0)))) rfl)) ?_
  refine arun_guard (v := (I t1)) ((decide (t1 < 0)) == false) rfl rfl rfl (fun hc => emv (eV (v := (I t1)) rfl)) ?_
  refine arun_guard (v := (Bo (decide (t1 ≥ 4)))) ((decide (t1 < 0)) == false) rfl rfl rfl (fun hc => ex_bin (vx := (I t1)) (vy := (I 4)) (cond_of hc) rfl geqI_ok) ?_
  refine ado rfl rfl rfl (ex_pick rfl pkOr) ?_
  refine ado rfl rfl rfl (emv (eV (v := (Bo ((decide (t1 < 0)) || (decide (t1 ≥ 4))))) rfl)) ?_
  refine arun_guard (v := (S t0)) (((decide (t1 < 0)) || (decide (t1 ≥ 4))) == false) rfl rfl rfl (fun hc => emv (eV (v := (S t0)) rfl)) ?_
  refine arun_guard (v := (I (t0.length : Int))) (((decide (t1 < 0)) || (decide (t1 ≥ 4))) == false) rfl rfl rfl (fun hc => tx_lenS Tryz.underlying9 (cond_of hc)) ?_
  refine arun_guard (v := (Bo (decide ((t0.length : Int) > 128)))) (((decide (t1 < 0)) || (decide (t1 ≥ 4))) == false) rfl rfl rfl (fun hc => ex_bin (vx := (I (t0.length : Int))) (vy := (I 128)) (cond_of hc) rfl gtrI_ok) ?_
  refine ado rfl rfl rfl (ex_pick rfl pkOr) ?_
  refine ake [0, 1, 16] 0 0 (st' := ⟨30, 0, [(0, (S t0)), (1, (I t1)), (16, (Bo (((decide (t1 < 0)) || (decide (t1 ≥ 4))) || (decide ((t0.length : Int) > 128)))))], [], ⟨0, []⟩⟩) (by kernel_rfl) (by kernel_rfl) ?_
  show AWp _ _ _ _
  rcases Bool.eq_false_or_eq_true (((decide (t1 < 0)) || (decide (t1 ≥ 4))) || (decide ((t0.length : Int) > 128))) with hb1 | hb1
  · rw [condT hb1] at h
    refine awp_condT (boT hb1) ?_
    refine awp_seq ?_
    refine awr ?_
    refine ado rfl rfl rfl (eas (eV (v := (S [])) rfl)) ?_
    refine ake [4] 0 0 (st' := ⟨30, 0, [(4, (S []))], [], ⟨0, []⟩⟩) (by kernel_rfl) (by kernel_rfl) ?_
    show AWp _ _ _ _
    refine awp_ret ?_
    cases h
    exact ares1 (rtmp rfl (eV rfl))
  · rw [condF hb1] at h
    refine awp_condF (boF hb1) ?_
    refine awp_skip ?_
    show AWp _ _ _ _
    refine awp_seq ?_
    refine awr ?_
    refine ado rfl rfl rfl (emv (eV (v := (S t0)) rfl)) ?_
    obtain ⟨x2, hx2, h⟩ := bindS h
    refine ado rfl rfl rfl (ex_call0 (vs := [(S t0), (I 128)]) (v := (S x2)) rfl en_38 (cargs (evs rfl (evs rfl evs_nil))) rfl (ok_ref11_long t0 128 x2 hx2) rfl) ?_
    refine ado rfl rfl rfl (emv (eV (v := (I t1)) rfl)) ?_
    refine ado rfl rfl rfl (ex_bin (vx := (I t1)) (vy := (I 32)) rfl rfl mulI_ok) ?_
    refine ado rfl rfl rfl (emv (eV (v := (I t1)) rfl)) ?_
    refine ado rfl rfl rfl (ex_bin (vx := (I t1)) (vy := (I 1)) rfl rfl addI_ok) ?_
    refine ado rfl rfl rfl (ex_bin (vx := (I (w64 (t1 + 1)))) (vy := (I 32)) rfl rfl mulI_ok) ?_
    obtain ⟨x3, hx3, h⟩ := bindS h
    refine ado rfl rfl rfl (tx_slS (u := x2) Tryz.underlying9 rfl (loX (l := (w64 (t1 * 32))) rfl) (hiX (l := (w64 ((w64 (t1 + 1)) * 32))) rfl) hx3) ?_
    refine ado rfl rfl rfl (eas (eV (v := (S x3)) rfl)) ?_
    refine ake [5] 0 0 (st' := ⟨30, 0, [(5, (S x3))], [], ⟨0, []⟩⟩) (by kernel_rfl) (by kernel_rfl) ?_
    show AWp _ _ _ _
    refine awp_seq ?_
    refine awp_seq ?_
    refine awr ?_
    refine ado rfl rfl rfl (emv (eV (v := (S x3)) rfl)) ?_
    obtain ⟨x4, hx4, h⟩ := bindS h
    refine ado rfl rfl rfl (tx_makeD (c := c8) (e := 0) ce8 Tryz.underlying22 s_5 b_5 z_5 rfl rfl rfl rfl hx4) ?_
    refine ado rfl rfl rfl (tx_bsD (bs := x4) Tryz.underlying22 Tryz.underlying9 Tryz.underlying5 rfl) ?_
    refine ado rfl rfl rfl (ex_bin (vx := (S x3)) (vy := (S x4)) rfl rfl eqlS_ok) ?_
    refine ake [5, 28] 0 0 (st' := ⟨30, 0, [(5, (S x3)), (28, (Bo (x3 == x4)))], [], ⟨0, []⟩⟩) (by kernel_rfl) (by kernel_rfl) ?_
    show AWp _ _ _ _
    rcases Bool.eq_false_or_eq_true (x3 == x4) with hb5 | hb5
    · rw [condT hb5] at h
      refine awp_condT (boT hb5) ?_
      refine awp_seq ?_
      refine awr ?_
      refine ado rfl rfl rfl (eas (eV (v := (S [])) rfl)) ?_
      refine ake [4] 0 0 (st' := ⟨30, 0, [(4, (S []))], [], ⟨0, []⟩⟩) (by kernel_rfl) (by kernel_rfl) ?_
      show AWp _ _ _ _
      refine awp_ret ?_
      cases h
      exact ares1 (rtmp rfl (eV rfl))
    · rw [condF hb5] at h
      refine awp_condF (boF hb5) ?_
      refine awp_skip ?_
      show AWp _ _ _ _
      refine awp_seq ?_
      refine awr ?_
      refine ado rfl rfl rfl (emv (eV (v := (S x3)) rfl)) ?_
      refine ado rfl rfl rfl (eas (eV (v := (S x3)) rfl)) ?_
      refine ake [4] 0 0 (st' := ⟨30, 0, [(4, (S x3))], [], ⟨0, []⟩⟩) (by kernel_rfl) (by kernel_rfl) ?_
      show AWp _ _ _ _
      refine awp_ret ?_
      cases h
      exact ares1 (rtmp rfl (eV rfl))

end Go.Proofs
