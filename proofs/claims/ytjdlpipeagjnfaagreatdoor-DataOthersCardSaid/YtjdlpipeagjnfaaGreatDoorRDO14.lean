/- Pure models of functions of the program, and that its code does what they say: palimpref11 file, palimpref11 long, palimpref11 Write, palimpref11 Cut. Written by a program. -/
import Derived.Test.YtjdlpipeagjnfaaGreatDoorRDO13
import Derived.Test.YtjdlpipeagjnfaaGreatDoorRDO2
import Derived.Test.YtjdlpipeagjnfaaGreatDoorRDOB
set_option maxRecDepth 20000
set_option maxHeartbeats 4000000
namespace Go.Proofs
open Go Go.Fhl
set_option linter.unusedVariables false
set_option linter.unusedSimpArgs false
noncomputable def M_ref11_file (t0 : (List G_api_Node)) (t1 : Str) : Option (Int × Int) :=
  Option.bind (M_ref11_Find t0 t1) fun (x1 : (Int × Int)) => Option.bind (gd ((x1.2 == 0) == true) (getI t0 x1.1)) fun (x2 : G_api_Node) => cond ((x1.2 == 0) && (x2.Kind == 2)) (some (0, 4)) (some (x1.1, x1.2))
theorem ok_ref11_file (t0 : (List G_api_Node)) (t1 : Str) (r : (Int × Int)) (h : M_ref11_file t0 t1 = some r) : FFn Tryz.prog 69 [(SL 5 cNd t0), (S t1)] (Value.tuple #[(I r.1), (I r.2)]) := by
  refine FFn.of_body (n := 26) Tryz.func69 rfl Tryz.ntmps69 rfl rfl rfl rfl ?_
  show AWp _ _ _ ⟨26, 0, [(0, (SL 5 cNd t0)), (1, (S t1))], [], ⟨0, []⟩⟩
  unfold M_ref11_file at h
  refine awp_seq ?_
  refine awr ?_
  refine ado rfl rfl rfl (eas (eV (v := (I 0)) rfl)) ?_
  refine ado rfl rfl rfl (eas (eV (v := (I 0)) rfl)) ?_
  refine ake [0, 1] 0 0 (st' := ⟨26, 0, [(0, (SL 5 cNd t0)), (1, (S t1))], [], ⟨0, []⟩⟩) (by kernel_rfl) (by kernel_rfl) ?_
  show AWp _ _ _ _
  refine awp_seq ?_
  refine awr ?_
  refine ado rfl rfl rfl (emv (eV (v := (SL 5 cNd t0)) rfl)) ?_
  refine ado rfl rfl rfl (emv (eV (v := (S t1)) rfl)) ?_
  obtain ⟨x1, hx1, h⟩ := bindS h
  refine ado rfl rfl rfl (ex_call0 (vs := [(SL 5 cNd t0), (S t1)]) (v := (Value.tuple #[(I x1.1), (I x1.2)])) rfl en_8 (cargs (evs rfl (evs rfl evs_nil))) rfl (ok_ref11_Find t0 t1 x1 hx1) rfl) ?_
  refine ado rfl rfl rfl (emv (eV (v := (Value.tuple #[(I x1.1), (I x1.2)])) rfl)) ?_
  refine ado rfl rfl rfl (ex_extract (vx := (Value.tuple #[(I x1.1), (I x1.2)])) (v := (I x1.1)) rfl rfl) ?_
  refine ado rfl rfl rfl (ex_extract (vx := (Value.tuple #[(I x1.1), (I x1.2)])) (v := (I x1.2)) rfl rfl) ?_
  refine ado rfl rfl rfl (eas (eV (v := (I x1.1)) rfl)) ?_
  refine ado rfl rfl rfl (eas (eV (v := (I x1.2)) rfl)) ?_
  refine ake [0, 6, 7] 0 0 (st' := ⟨26, 0, [(0, (SL 5 cNd t0)), (6, (I x1.1)), (7, (I x1.2))], [], ⟨0, []⟩⟩) (by kernel_rfl) (by kernel_rfl) ?_
  show AWp _ _ _ _
  refine awp_seq ?_
  refine awp_seq ?_
  refine awr ?_
  refine ado rfl rfl rfl (emv (eV (v := (I x1.2)) rfl)) ?_
  refine ado rfl rfl rfl (ex_bin (vx := (I x1.2)) (vy := (I 0)) rfl rfl eqlI_ok) ?_
  refine ado rfl rfl rfl (emv (eV (v := (Bo (x1.2 == 0))) rfl)) ?_
  refine arun_guard (v := (SL 5 cNd t0)) ((x1.2 == 0) == true) rfl rfl rfl (fun hc => emv (eV (v := (SL 5 cNd t0)) rfl)) ?_
  refine arun_guard (v := (I x1.1)) ((x1.2 == 0) == true) rfl rfl rfl (fun hc => emv (eV (v := (I x1.1)) rfl)) ?_
  obtain ⟨x2, hx2, h⟩ := bindS h
  refine arun_guard (v := (DP (cNd x2))) ((x1.2 == 0) == true) rfl rfl rfl (fun hc => tx_idxD (c := cNd) (xs := t0) (i := x1.1) ce_api_Node Tryz.underlying25 s_38 (cond_of hc) (cond_of hc) (gd_of hc hx2)) ?_
  refine arun_guard (v := (DP (List.drop 0 (cNd x2)))) ((x1.2 == 0) == true) rfl rfl rfl (fun hc => ex_fieldAddrD (vs := (List.drop 0 (cNd x2))) Tryz.underlying38 rfl s_3 (by decide) (cond_of hc) rfl) ?_
  refine arun_guard (v := (I x2.Kind)) ((x1.2 == 0) == true) rfl rfl rfl (fun hc => tx_ldD1 (v := (I x2.Kind)) Tryz.underlying3 rfl (cond_of hc) rfl) ?_
  refine arun_guard (v := (Bo (x2.Kind == 2))) ((x1.2 == 0) == true) rfl rfl rfl (fun hc => ex_bin (vx := (I x2.Kind)) (vy := (I 2)) (cond_of hc) rfl eqlI_ok) ?_
  refine ado rfl rfl rfl (ex_pick rfl pkAnd) ?_
  refine ake [6, 7, 23] 0 0 (st' := ⟨26, 0, [(6, (I x1.1)), (7, (I x1.2)), (23, (Bo ((x1.2 == 0) && (x2.Kind == 2))))], [], ⟨0, []⟩⟩) (by kernel_rfl) (by kernel_rfl) ?_
  show AWp _ _ _ _
  rcases Bool.eq_false_or_eq_true ((x1.2 == 0) && (x2.Kind == 2)) with hb3 | hb3
  · rw [condT hb3] at h
    refine awp_condT (boT hb3) ?_
    refine awp_seq ?_
    refine awr ?_
    refine ado rfl rfl rfl (eas (eV (v := (I 0)) rfl)) ?_
    refine ado rfl rfl rfl (eas (eV (v := (I 4)) rfl)) ?_
    refine ake [4, 5] 0 0 (st' := ⟨26, 0, [(4, (I 0)), (5, (I 4))], [], ⟨0, []⟩⟩) (by kernel_rfl) (by kernel_rfl) ?_
    show AWp _ _ _ _
    refine awp_ret ?_
    cases h
    exact aresN rfl (L2.cons (rtmp rfl (eV rfl)) (L2.cons (rtmp rfl (eV rfl)) L2.nil)) rfl
  · rw [condF hb3] at h
    refine awp_condF (boF hb3) ?_
    refine awp_skip ?_
    show AWp _ _ _ _
    refine awp_seq ?_
    refine awr ?_
    refine ado rfl rfl rfl (emv (eV (v := (I x1.1)) rfl)) ?_
    refine ado rfl rfl rfl (emv (eV (v := (I x1.2)) rfl)) ?_
    refine ado rfl rfl rfl (eas (eV (v := (I x1.1)) rfl)) ?_
    refine ado rfl rfl rfl (eas (eV (v := (I x1.2)) rfl)) ?_
    refine ake [4, 5] 0 0 (st' := ⟨26, 0, [(4, (I x1.1)), (5, (I x1.2))], [], ⟨0, []⟩⟩) (by kernel_rfl) (by kernel_rfl) ?_
    show AWp _ _ _ _
    refine awp_ret ?_
    cases h
    exact aresN rfl (L2.cons (rtmp rfl (eV rfl)) (L2.cons (rtmp rfl (eV rfl)) L2.nil)) rfl

noncomputable def M_ref11_long (t0 : Str) (t1 : Int) : Option Str :=
  Option.bind (makeL 1 t1 0) fun (x1 : List UInt8) => some (copyL x1 0 t0)
theorem ok_ref11_long (t0 : Str) (t1 : Int) (r : Str) (h : M_ref11_long t0 t1 = some r) : FFn Tryz.prog 70 [(S t0), (I t1)] (S r) := by
  refine FFn.of_body (n := 13) Tryz.func70 rfl Tryz.ntmps70 rfl rfl rfl rfl ?_
  show AWp _ _ _ ⟨13, 0, [(0, (S t0)), (1, (I t1))], [], ⟨0, []⟩⟩
  unfold M_ref11_long at h
  refine awp_seq ?_
  refine awr ?_
  refine ado rfl rfl rfl (eas (eV (v := (S [])) rfl)) ?_
  refine ake [0, 1] 0 0 (st' := ⟨13, 0, [(0, (S t0)), (1, (I t1))], [], ⟨0, []⟩⟩) (by kernel_rfl) (by kernel_rfl) ?_
  show AWp _ _ _ _
  refine awp_seq ?_
  refine awr ?_
  refine ado rfl rfl rfl (emv (eV (v := (I t1)) rfl)) ?_
  obtain ⟨x1, hx1, h⟩ := bindS h
  refine ado rfl rfl rfl (tx_make (c := c8) (e := 0) (k := 0) (H' := ⟨1, [(0, ⟨1, ((x1).flatMap c8), false⟩)]⟩) ce8 Tryz.underlying22 s_5 b_5 z_5 rfl rfl (by decide) rfl rfl hx1 rfl rfl) ?_
  refine ado rfl rfl rfl (eas (eV (v := (FV 0 x1.length)) rfl)) ?_
  refine ake [0, 5] 0 1 (st' := ⟨13, 0, [(0, (S t0)), (5, (FV 0 x1.length))], [], ⟨1, [(0, ⟨1, ((x1).flatMap c8), false⟩)]⟩⟩) (by kernel_rfl) (by kernel_rfl) ?_
  show AWp _ _ _ _
  refine awp_seq ?_
  refine awr ?_
  refine ado rfl rfl rfl (emv (eV (v := (FV 0 x1.length)) rfl)) ?_
  refine ado rfl rfl rfl (emv (eV (v := (S t0)) rfl)) ?_
  refine ado rfl rfl rfl (tx_copyF (xs := x1) (H' := ⟨1, [(0, ⟨1, (((copyL x1 0 t0)).flatMap c8), false⟩)]⟩) Tryz.underlying22 s_5 rfl rfl rfl rfl rfl) ?_
  refine ake [5] 0 1 (st' := ⟨13, 0, [(5, (FV 0 x1.length))], [], ⟨1, [(0, ⟨1, (((copyL x1 0 t0)).flatMap c8), false⟩)]⟩⟩) (by kernel_rfl) (by kernel_rfl) ?_
  show AWp _ _ _ _
  refine awp_seq ?_
  refine awr ?_
  refine ado rfl rfl rfl (emv (eV (v := (FV 0 x1.length)) rfl)) ?_
  refine ado rfl rfl rfl (tx_bsF (bs := (copyL x1 0 t0)) Tryz.underlying22 Tryz.underlying9 Tryz.underlying5 rfl rfl (copyL_length x1 0 t0 (Nat.zero_le _)).symm) ?_
  refine ado rfl rfl rfl (eas (eV (v := (S (copyL x1 0 t0))) rfl)) ?_
  refine ake [4] 0 0 (st' := ⟨13, 0, [(4, (S (copyL x1 0 t0)))], [], ⟨0, []⟩⟩) (by kernel_rfl) (by kernel_rfl) ?_
  show AWp _ _ _ _
  refine awp_ret ?_
  cases h
  exact ares1 (rtmp rfl (eV rfl))

noncomputable def M_ref11_Write (t0 : (List G_api_Node)) (t1 : Str) (t2 : Int) (t3 : Str) : Option ((List G_api_Node) × Int) :=
  Option.bind (M_ref11_file t0 t1) fun (x1 : (Int × Int)) => cond (x1.2 != 0) (some (t0, x1.2)) (cond (decide (t2 < 0)) (some (t0, 1)) (cond ((decide (t2 > 128)) || (decide ((t3.length : Int) > (w64 (128 - t2))))) (some (t0, 8)) (cond (t3 == []) (some (t0, 0)) (Option.bind (getI t0 x1.1) fun (x6 : G_api_Node) => Option.bind (M_ref11_long x6.Body (max (x6.Body.length : Int) (w64 (t2 + (t3.length : Int))))) fun (x7 : Str) => Option.bind (inS x7.length t2) fun (x8 : Unit) => Option.bind (M_ref11_with t0 x1.1 (G_api_Node.mk x6.Kind x6.Up x6.Name (copyL x7 ((t2 : Int).toNat) t3) x6.Bad)) fun (x9 : (List G_api_Node)) => some (x9, 0)))))
theorem ok_ref11_Write (t0 : (List G_api_Node)) (t1 : Str) (t2 : Int) (t3 : Str) (r : ((List G_api_Node) × Int)) (h : M_ref11_Write t0 t1 t2 t3 = some r) : FFn Tryz.prog 54 [(SL 5 cNd t0), (S t1), (I t2), (S t3)] (Value.tuple #[(SL 5 cNd r.1), (I r.2)]) := by
  refine FFn.of_body (n := 68) Tryz.func54 rfl Tryz.ntmps54 rfl rfl rfl rfl ?_
  show AWp _ _ _ ⟨68, 0, [(0, (SL 5 cNd t0)), (1, (S t1)), (2, (I t2)), (3, (S t3))], [], ⟨0, []⟩⟩
  unfold M_ref11_Write at h
  refine awp_seq ?_
  refine awr ?_
  refine ado rfl rfl rfl (eas (eV (v := (Value.slice none 0 0)) rfl)) ?_
  refine ado rfl rfl rfl (eas (eV (v := (I 0)) rfl)) ?_
  refine ake [0, 1, 2, 3] 0 0 (st' := ⟨68, 0, [(0, (SL 5 cNd t0)), (1, (S t1)), (2, (I t2)), (3, (S t3))], [], ⟨0, []⟩⟩) (by kernel_rfl) (by kernel_rfl) ?_
  show AWp _ _ _ _
  refine awp_seq ?_
  refine awr ?_
  refine ado rfl rfl rfl (emv (eV (v := (SL 5 cNd t0)) rfl)) ?_
  refine ado rfl rfl rfl (emv (eV (v := (S t1)) rfl)) ?_
  obtain ⟨x1, hx1, h⟩ := bindS h
  refine ado rfl rfl rfl (ex_call0 (vs := [(SL 5 cNd t0), (S t1)]) (v := (Value.tuple #[(I x1.1), (I x1.2)])) rfl en_69 (cargs (evs rfl (evs rfl evs_nil))) rfl (ok_ref11_file t0 t1 x1 hx1) rfl) ?_
  refine ado rfl rfl rfl (emv (eV (v := (Value.tuple #[(I x1.1), (I x1.2)])) rfl)) ?_
  refine ado rfl rfl rfl (ex_extract (vx := (Value.tuple #[(I x1.1), (I x1.2)])) (v := (I x1.1)) rfl rfl) ?_
  refine ado rfl rfl rfl (ex_extract (vx := (Value.tuple #[(I x1.1), (I x1.2)])) (v := (I x1.2)) rfl rfl) ?_
  refine ado rfl rfl rfl (eas (eV (v := (I x1.1)) rfl)) ?_
  refine ado rfl rfl rfl (eas (eV (v := (I x1.2)) rfl)) ?_
  refine ake [0, 2, 3, 10, 11] 0 0 (st' := ⟨68, 0, [(0, (SL 5 cNd t0)), (2, (I t2)), (3, (S t3)), (10, (I x1.1)), (11, (I x1.2))], [], ⟨0, []⟩⟩) (by kernel_rfl) (by kernel_rfl) ?_
  show AWp _ _ _ _
  refine awp_seq ?_
  refine awp_seq ?_
  refine awr ?_
  refine ado rfl rfl rfl (emv (eV (v := (I x1.2)) rfl)) ?_
  refine ado rfl rfl rfl (ex_bin (vx := (I x1.2)) (vy := (I 0)) rfl rfl neqI_ok) ?_
  refine ake [0, 2, 3, 10, 11, 21] 0 0 (st' := ⟨68, 0, [(0, (SL 5 cNd t0)), (2, (I t2)), (3, (S t3)), (10, (I x1.1)), (11, (I x1.2)), (21, (Bo (x1.2 != 0)))], [], ⟨0, []⟩⟩) (by kernel_rfl) (by kernel_rfl) ?_
  show AWp _ _ _ _
  rcases Bool.eq_false_or_eq_true (x1.2 != 0) with hb2 | hb2
  · rw [condT hb2] at h
    refine awp_condT (boT hb2) ?_
    refine awp_seq ?_
    refine awr ?_
    refine ado rfl rfl rfl (emv (eV (v := (SL 5 cNd t0)) rfl)) ?_
    refine ado rfl rfl rfl (emv (eV (v := (I x1.2)) rfl)) ?_
    refine ado rfl rfl rfl (eas (eV (v := (SL 5 cNd t0)) rfl)) ?_
    refine ado rfl rfl rfl (eas (eV (v := (I x1.2)) rfl)) ?_
    refine ake [8, 9] 0 0 (st' := ⟨68, 0, [(8, (SL 5 cNd t0)), (9, (I x1.2))], [], ⟨0, []⟩⟩) (by kernel_rfl) (by kernel_rfl) ?_
    show AWp _ _ _ _
    refine awp_ret ?_
    cases h
    exact aresN rfl (L2.cons (rtmp rfl (eV rfl)) (L2.cons (rtmp rfl (eV rfl)) L2.nil)) rfl
  · rw [condF hb2] at h
    refine awp_condF (boF hb2) ?_
    refine awp_skip ?_
    show AWp _ _ _ _
    refine awp_seq ?_
    refine awp_seq ?_
    refine awr ?_
    refine ado rfl rfl rfl (emv (eV (v := (I t2)) rfl)) ?_
    refine ado rfl rfl rfl (ex_bin (vx := (I t2)) (vy := (I 0)) rfl rfl lssI_ok) ?_
    refine ake [0, 2, 3, 10, 25] 0 0 (st' := ⟨68, 0, [(0, (SL 5 cNd t0)), (2, (I t2)), (3, (S t3)), (10, (I x1.1)), (25, (Bo (decide (t2 < 0))))], [], ⟨0, []⟩⟩) (by kernel_rfl) (by kernel_rfl) ?_
    show AWp _ _ _ _
    rcases Bool.eq_false_or_eq_true (decide (t2 < 0)) with hb3 | hb3
    · rw [condT hb3] at h
      refine awp_condT (boT hb3) ?_
      refine awp_seq ?_
      refine awr ?_
      refine ado rfl rfl rfl (emv (eV (v := (SL 5 cNd t0)) rfl)) ?_
      refine ado rfl rfl rfl (eas (eV (v := (SL 5 cNd t0)) rfl)) ?_
      refine ado rfl rfl rfl (eas (eV (v := (I 1)) rfl)) ?_
      refine ake [8, 9] 0 0 (st' := ⟨68, 0, [(8, (SL 5 cNd t0)), (9, (I 1))], [], ⟨0, []⟩⟩) (by kernel_rfl) (by kernel_rfl) ?_
      show AWp _ _ _ _
      refine awp_ret ?_
      cases h
      exact aresN rfl (L2.cons (rtmp rfl (eV rfl)) (L2.cons (rtmp rfl (eV rfl)) L2.nil)) rfl
    · rw [condF hb3] at h
      refine awp_condF (boF hb3) ?_
      refine awp_skip ?_
      show AWp _ _ _ _
      refine awp_seq ?_
      refine awp_seq ?_
      refine awr ?_
      refine ado rfl rfl rfl (emv (eV (v := (I t2)) rfl)) ?_
      refine ado rfl rfl rfl (ex_bin (vx := (I t2)) (vy := (I 128)) rfl rfl gtrI_ok) ?_
      refine ado rfl rfl rfl (emv (eV (v := (Bo (decide (t2 > 128)))) rfl)) ?_
      refine arun_guard (v := (S t3)) ((decide (t2 > 128)) == false) rfl rfl rfl (fun hc => emv (eV (v := (S t3)) rfl)) ?_
      refine arun_guard (v := (I (t3.length : Int))) ((decide (t2 > 128)) == false) rfl rfl rfl (fun hc => tx_lenS Tryz.underlying9 (cond_of hc)) ?_
      refine arun_guard (v := (I t2)) ((decide (t2 > 128)) == false) rfl rfl rfl (fun hc => emv (eV (v := (I t2)) rfl)) ?_
      refine arun_guard (v := (I (w64 (128 - t2)))) ((decide (t2 > 128)) == false) rfl rfl rfl (fun hc => ex_bin (vx := (I 128)) (vy := (I t2)) rfl (cond_of hc) subI_ok) ?_
      refine arun_guard (v := (Bo (decide ((t3.length : Int) > (w64 (128 - t2)))))) ((decide (t2 > 128)) == false) rfl rfl rfl (fun hc => ex_bin (vx := (I (t3.length : Int))) (vy := (I (w64 (128 - t2)))) (cond_of hc) (cond_of hc) gtrI_ok) ?_
      refine ado rfl rfl rfl (ex_pick rfl pkOr) ?_
      refine ake [0, 2, 3, 10, 35] 0 0 (st' := ⟨68, 0, [(0, (SL 5 cNd t0)), (2, (I t2)), (3, (S t3)), (10, (I x1.1)), (35, (Bo ((decide (t2 > 128)) || (decide ((t3.length : Int) > (w64 (128 - t2)))))))], [], ⟨0, []⟩⟩) (by kernel_rfl) (by kernel_rfl) ?_
      show AWp _ _ _ _
      rcases Bool.eq_false_or_eq_true ((decide (t2 > 128)) || (decide ((t3.length : Int) > (w64 (128 - t2))))) with hb4 | hb4
      · rw [condT hb4] at h
        refine awp_condT (boT hb4) ?_
        refine awp_seq ?_
        refine awr ?_
        refine ado rfl rfl rfl (emv (eV (v := (SL 5 cNd t0)) rfl)) ?_
        refine ado rfl rfl rfl (eas (eV (v := (SL 5 cNd t0)) rfl)) ?_
        refine ado rfl rfl rfl (eas (eV (v := (I 8)) rfl)) ?_
        refine ake [8, 9] 0 0 (st' := ⟨68, 0, [(8, (SL 5 cNd t0)), (9, (I 8))], [], ⟨0, []⟩⟩) (by kernel_rfl) (by kernel_rfl) ?_
        show AWp _ _ _ _
        refine awp_ret ?_
        cases h
        exact aresN rfl (L2.cons (rtmp rfl (eV rfl)) (L2.cons (rtmp rfl (eV rfl)) L2.nil)) rfl
      · rw [condF hb4] at h
        refine awp_condF (boF hb4) ?_
        refine awp_skip ?_
        show AWp _ _ _ _
        refine awp_seq ?_
        refine awp_seq ?_
        refine awr ?_
        refine ado rfl rfl rfl (emv (eV (v := (S t3)) rfl)) ?_
        refine ado rfl rfl rfl (ex_bin (vx := (S t3)) (vy := (S [])) rfl rfl eqlS_ok) ?_
        refine ake [0, 2, 3, 10, 38] 0 0 (st' := ⟨68, 0, [(0, (SL 5 cNd t0)), (2, (I t2)), (3, (S t3)), (10, (I x1.1)), (38, (Bo (t3 == [])))], [], ⟨0, []⟩⟩) (by kernel_rfl) (by kernel_rfl) ?_
        show AWp _ _ _ _
        rcases Bool.eq_false_or_eq_true (t3 == []) with hb5 | hb5
        · rw [condT hb5] at h
          refine awp_condT (boT hb5) ?_
          refine awp_seq ?_
          refine awr ?_
          refine ado rfl rfl rfl (emv (eV (v := (SL 5 cNd t0)) rfl)) ?_
          refine ado rfl rfl rfl (eas (eV (v := (SL 5 cNd t0)) rfl)) ?_
          refine ado rfl rfl rfl (eas (eV (v := (I 0)) rfl)) ?_
          refine ake [8, 9] 0 0 (st' := ⟨68, 0, [(8, (SL 5 cNd t0)), (9, (I 0))], [], ⟨0, []⟩⟩) (by kernel_rfl) (by kernel_rfl) ?_
          show AWp _ _ _ _
          refine awp_ret ?_
          cases h
          exact aresN rfl (L2.cons (rtmp rfl (eV rfl)) (L2.cons (rtmp rfl (eV rfl)) L2.nil)) rfl
        · rw [condF hb5] at h
          refine awp_condF (boF hb5) ?_
          refine awp_skip ?_
          show AWp _ _ _ _
          refine awp_seq ?_
          refine awr ?_
          refine ado rfl rfl rfl (emv (eV (v := (SL 5 cNd t0)) rfl)) ?_
          refine ado rfl rfl rfl (emv (eV (v := (I x1.1)) rfl)) ?_
          obtain ⟨x6, hx6, h⟩ := bindS h
          refine ado rfl rfl rfl (tx_idxD (c := cNd) (xs := t0) (i := x1.1) ce_api_Node Tryz.underlying25 s_38 rfl rfl hx6) ?_
          refine ado rfl rfl rfl (tx_ldDA (vs := (cNd x6)) Tryz.underlying38 rfl s_38 (by decide) rfl (Nat.le_of_ble_eq_true rfl) rfl) ?_
          refine ado rfl rfl rfl (ex_alloc (k := 0) (zs := (cNd (G_api_Node.mk 0 0 [] [] 0))) (L' := [(cNd (G_api_Node.mk 0 0 [] [] 0))]) z_38 rfl rfl rfl rfl) ?_
          refine arun_do0 rfl rfl (ex_storeL (vy := (Value.agg (cNd x6).toArray)) (cs := (cNd (G_api_Node.mk 0 0 [] [] 0))) (vs := (cNd x6)) (L' := [(cNd x6)]) rfl (eV (v := (Value.agg (cNd x6).toArray)) rfl) rfl s_38 rfl (Nat.le_of_ble_eq_true rfl) (by kernel_rfl)) ?_
          refine ake [0, 2, 3, 10, 12] 1 0 (st' := ⟨68, 0, [(0, (SL 5 cNd t0)), (2, (I t2)), (3, (S t3)), (10, (I x1.1)), (12, (LP 0 0))], [(cNd x6)], ⟨0, []⟩⟩) (by kernel_rfl) (by kernel_rfl) ?_
          show AWp _ _ _ _
          refine awp_seq ?_
          refine awr ?_
          refine ado rfl rfl rfl (ex_fieldAddr (v := (LP 0 3)) Tryz.underlying38 rfl s_9 (by decide) rfl rfl) ?_
          refine ado rfl rfl rfl (tx_ldL1 (v := (S x6.Body)) Tryz.underlying9 rfl rfl rfl rfl) ?_
          refine ado rfl rfl rfl (ex_fieldAddr (v := (LP 0 3)) Tryz.underlying38 rfl s_9 (by decide) rfl rfl) ?_
          refine ado rfl rfl rfl (tx_ldL1 (v := (S x6.Body)) Tryz.underlying9 rfl rfl rfl rfl) ?_
          refine ado rfl rfl rfl (tx_lenS Tryz.underlying9 rfl) ?_
          refine ado rfl rfl rfl (emv (eV (v := (I t2)) rfl)) ?_
          refine ado rfl rfl rfl (emv (eV (v := (S t3)) rfl)) ?_
          refine ado rfl rfl rfl (tx_lenS Tryz.underlying9 rfl) ?_
          refine ado rfl rfl rfl (ex_bin (vx := (I t2)) (vy := (I (t3.length : Int))) rfl rfl addI_ok) ?_
          refine ado rfl rfl rfl (ex_max (m := (x6.Body.length : Int)) (n := (w64 (t2 + (t3.length : Int)))) rfl rfl) ?_
          obtain ⟨x7, hx7, h⟩ := bindS h
          refine ado rfl rfl rfl (ex_call0 (vs := [(S x6.Body), (I (max (x6.Body.length : Int) (w64 (t2 + (t3.length : Int)))))]) (v := (S x7)) rfl en_70 (cargs (evs rfl (evs rfl evs_nil))) rfl (ok_ref11_long x6.Body (max (x6.Body.length : Int) (w64 (t2 + (t3.length : Int)))) x7 hx7) rfl) ?_
          refine ado rfl rfl rfl (tx_sbG (k := 0) (H' := ⟨1, [(0, ⟨1, ((x7).flatMap c8), true⟩)]⟩) Tryz.underlying9 Tryz.underlying22 Tryz.underlying5 rfl rfl rfl) ?_
          refine ado rfl rfl rfl (eas (eV (v := (GV 0 x7.length)) rfl)) ?_
          refine ake [0, 2, 3, 10, 12, 13] 1 1 (st' := ⟨68, 0, [(0, (SL 5 cNd t0)), (2, (I t2)), (3, (S t3)), (10, (I x1.1)), (12, (LP 0 0)), (13, (GV 0 x7.length))], [(cNd x6)], ⟨1, [(0, ⟨1, ((x7).flatMap c8), true⟩)]⟩⟩) (by kernel_rfl) (by kernel_rfl) ?_
          show AWp _ _ _ _
          refine awp_seq ?_
          refine awr ?_
          refine ado rfl rfl rfl (emv (eV (v := (GV 0 x7.length)) rfl)) ?_
          refine ado rfl rfl rfl (emv (eV (v := (I t2)) rfl)) ?_
          obtain ⟨x8, hx8, h⟩ := bindS h
          refine ado rfl rfl rfl (tx_subG (xs := x7) Tryz.underlying22 s_5 rfl rfl rfl (loX (l := t2) rfl) (inS_ok hx8)) ?_
          refine ado rfl rfl rfl (emv (eV (v := (S t3)) rfl)) ?_
          refine ado rfl rfl rfl (tx_copyS (xs := x7) (off := (t2 : Int).toNat) (H' := ⟨1, [(0, ⟨1, (((copyL x7 ((t2 : Int).toNat) t3)).flatMap c8), true⟩)]⟩) Tryz.underlying22 s_5 rfl rfl rfl (by have := (inS_ok hx8); omega) rfl rfl) ?_
          refine ake [0, 10, 12, 13] 1 1 (st' := ⟨68, 0, [(0, (SL 5 cNd t0)), (10, (I x1.1)), (12, (LP 0 0)), (13, (GV 0 x7.length))], [(cNd x6)], ⟨1, [(0, ⟨1, (((copyL x7 ((t2 : Int).toNat) t3)).flatMap c8), true⟩)]⟩⟩) (by kernel_rfl) (by kernel_rfl) ?_
          show AWp _ _ _ _
          refine awp_seq ?_
          refine awr ?_
          refine ado rfl rfl rfl (emv (eV (v := (GV 0 x7.length)) rfl)) ?_
          refine ado rfl rfl rfl (tx_bsG (bs := (copyL x7 ((t2 : Int).toNat) t3)) Tryz.underlying22 Tryz.underlying9 Tryz.underlying5 rfl rfl (copyL_length x7 ((t2 : Int).toNat) t3 (by have := (inS_ok hx8); omega)).symm) ?_
          refine ado rfl rfl rfl (ex_fieldAddr (v := (LP 0 3)) Tryz.underlying38 rfl s_9 (by decide) rfl rfl) ?_
          refine arun_do0 rfl rfl (ex_storeL (vy := (S (copyL x7 ((t2 : Int).toNat) t3))) (cs := (cNd x6)) (vs := [(S (copyL x7 ((t2 : Int).toNat) t3))]) (L' := [(cNd (G_api_Node.mk x6.Kind x6.Up x6.Name (copyL x7 ((t2 : Int).toNat) t3) x6.Bad))]) rfl (eV (v := (S (copyL x7 ((t2 : Int).toNat) t3))) rfl) rfl s_9 rfl (Nat.le_of_ble_eq_true rfl) (by kernel_rfl)) ?_
          refine ake [0, 10, 12] 1 0 (st' := ⟨68, 0, [(0, (SL 5 cNd t0)), (10, (I x1.1)), (12, (LP 0 0))], [(cNd (G_api_Node.mk x6.Kind x6.Up x6.Name (copyL x7 ((t2 : Int).toNat) t3) x6.Bad))], ⟨0, []⟩⟩) (by kernel_rfl) (by kernel_rfl) ?_
          show AWp _ _ _ _
          refine awp_seq ?_
          refine awr ?_
          refine ado rfl rfl rfl (emv (eV (v := (SL 5 cNd t0)) rfl)) ?_
          refine ado rfl rfl rfl (emv (eV (v := (I x1.1)) rfl)) ?_
          refine ado rfl rfl rfl (tx_ldLA (vs := (cNd (G_api_Node.mk x6.Kind x6.Up x6.Name (copyL x7 ((t2 : Int).toNat) t3) x6.Bad))) Tryz.underlying38 rfl s_38 (by decide) rfl rfl rfl rfl) ?_
          obtain ⟨x9, hx9, h⟩ := bindS h
          refine ado rfl rfl rfl (ex_call0 (vs := [(SL 5 cNd t0), (I x1.1), (Value.agg (cNd (G_api_Node.mk x6.Kind x6.Up x6.Name (copyL x7 ((t2 : Int).toNat) t3) x6.Bad)).toArray)]) (v := (SL 5 cNd x9)) rfl en_33 (cargs (evs rfl (evs rfl (evs rfl evs_nil)))) rfl (ok_ref11_with t0 x1.1 (G_api_Node.mk x6.Kind x6.Up x6.Name (copyL x7 ((t2 : Int).toNat) t3) x6.Bad) x9 hx9) rfl) ?_
          refine ado rfl rfl rfl (eas (eV (v := (SL 5 cNd x9)) rfl)) ?_
          refine ado rfl rfl rfl (eas (eV (v := (I 0)) rfl)) ?_
          refine ake [8, 9] 0 0 (st' := ⟨68, 0, [(8, (SL 5 cNd x9)), (9, (I 0))], [], ⟨0, []⟩⟩) (by kernel_rfl) (by kernel_rfl) ?_
          show AWp _ _ _ _
          refine awp_ret ?_
          cases h
          exact aresN rfl (L2.cons (rtmp rfl (eV rfl)) (L2.cons (rtmp rfl (eV rfl)) L2.nil)) rfl

noncomputable def M_ref11_Cut (t0 : (List G_api_Node)) (t1 : Str) (t2 : Int) : Option ((List G_api_Node) × Int) :=
  Option.bind (M_ref11_file t0 t1) fun (x1 : (Int × Int)) => cond (x1.2 != 0) (some (t0, x1.2)) (cond (decide (t2 < 0)) (some (t0, 1)) (cond (decide (t2 > 128)) (some (t0, 8)) (Option.bind (getI t0 x1.1) fun (x5 : G_api_Node) => Option.bind (M_ref11_long x5.Body t2) fun (x6 : Str) => Option.bind (M_ref11_with t0 x1.1 (G_api_Node.mk x5.Kind x5.Up x5.Name x6 x5.Bad)) fun (x7 : (List G_api_Node)) => some (x7, 0))))
theorem ok_ref11_Cut (t0 : (List G_api_Node)) (t1 : Str) (t2 : Int) (r : ((List G_api_Node) × Int)) (h : M_ref11_Cut t0 t1 t2 = some r) : FFn Tryz.prog 55 [(SL 5 cNd t0), (S t1), (I t2)] (Value.tuple #[(SL 5 cNd r.1), (I r.2)]) := by
  refine FFn.of_body (n := 40) Tryz.func55 rfl Tryz.ntmps55 rfl rfl rfl rfl ?_
  show AWp _ _ _ ⟨40, 0, [(0, (SL 5 cNd t0)), (1, (S t1)), (2, (I t2))], [], ⟨0, []⟩⟩
  unfold M_ref11_Cut at h
  refine awp_seq ?_
  refine awr ?_
  refine ado rfl rfl rfl (eas (eV (v := (Value.slice none 0 0)) rfl)) ?_
  refine ado rfl rfl rfl (eas (eV (v := (I 0)) rfl)) ?_
  refine ake [0, 1, 2] 0 0 (st' := ⟨40, 0, [(0, (SL 5 cNd t0)), (1, (S t1)), (2, (I t2))], [], ⟨0, []⟩⟩) (by kernel_rfl) (by kernel_rfl) ?_
  show AWp _ _ _ _
  refine awp_seq ?_
  refine awr ?_
  refine ado rfl rfl rfl (emv (eV (v := (SL 5 cNd t0)) rfl)) ?_
  refine ado rfl rfl rfl (emv (eV (v := (S t1)) rfl)) ?_
  obtain ⟨x1, hx1, h⟩ := bindS h
  refine ado rfl rfl rfl (ex_call0 (vs := [(SL 5 cNd t0), (S t1)]) (v := (Value.tuple #[(I x1.1), (I x1.2)])) rfl en_69 (cargs (evs rfl (evs rfl evs_nil))) rfl (ok_ref11_file t0 t1 x1 hx1) rfl) ?_
  refine ado rfl rfl rfl (emv (eV (v := (Value.tuple #[(I x1.1), (I x1.2)])) rfl)) ?_
  refine ado rfl rfl rfl (ex_extract (vx := (Value.tuple #[(I x1.1), (I x1.2)])) (v := (I x1.1)) rfl rfl) ?_
  refine ado rfl rfl rfl (ex_extract (vx := (Value.tuple #[(I x1.1), (I x1.2)])) (v := (I x1.2)) rfl rfl) ?_
  refine ado rfl rfl rfl (eas (eV (v := (I x1.1)) rfl)) ?_
  refine ado rfl rfl rfl (eas (eV (v := (I x1.2)) rfl)) ?_
  refine ake [0, 2, 8, 9] 0 0 (st' := ⟨40, 0, [(0, (SL 5 cNd t0)), (2, (I t2)), (8, (I x1.1)), (9, (I x1.2))], [], ⟨0, []⟩⟩) (by kernel_rfl) (by kernel_rfl) ?_
  show AWp _ _ _ _
  refine awp_seq ?_
  refine awp_seq ?_
  refine awr ?_
  refine ado rfl rfl rfl (emv (eV (v := (I x1.2)) rfl)) ?_
  refine ado rfl rfl rfl (ex_bin (vx := (I x1.2)) (vy := (I 0)) rfl rfl neqI_ok) ?_
  refine ake [0, 2, 8, 9, 18] 0 0 (st' := ⟨40, 0, [(0, (SL 5 cNd t0)), (2, (I t2)), (8, (I x1.1)), (9, (I x1.2)), (18, (Bo (x1.2 != 0)))], [], ⟨0, []⟩⟩) (by kernel_rfl) (by kernel_rfl) ?_
  show AWp _ _ _ _
  rcases Bool.eq_false_or_eq_true (x1.2 != 0) with hb2 | hb2
  · rw [condT hb2] at h
    refine awp_condT (boT hb2) ?_
    refine awp_seq ?_
    refine awr ?_
    refine ado rfl rfl rfl (emv (eV (v := (SL 5 cNd t0)) rfl)) ?_
    refine ado rfl rfl rfl (emv (eV (v := (I x1.2)) rfl)) ?_
    refine ado rfl rfl rfl (eas (eV (v := (SL 5 cNd t0)) rfl)) ?_
    refine ado rfl rfl rfl (eas (eV (v := (I x1.2)) rfl)) ?_
    refine ake [6, 7] 0 0 (st' := ⟨40, 0, [(6, (SL 5 cNd t0)), (7, (I x1.2))], [], ⟨0, []⟩⟩) (by kernel_rfl) (by kernel_rfl) ?_
    show AWp _ _ _ _
    refine awp_ret ?_
    cases h
    exact aresN rfl (L2.cons (rtmp rfl (eV rfl)) (L2.cons (rtmp rfl (eV rfl)) L2.nil)) rfl
  · rw [condF hb2] at h
    refine awp_condF (boF hb2) ?_
    refine awp_skip ?_
    show AWp _ _ _ _
    refine awp_seq ?_
    refine awp_seq ?_
    refine awr ?_
    refine ado rfl rfl rfl (emv (eV (v := (I t2)) rfl)) ?_
    refine ado rfl rfl rfl (ex_bin (vx := (I t2)) (vy := (I 0)) rfl rfl lssI_ok) ?_
    refine ake [0, 2, 8, 22] 0 0 (st' := ⟨40, 0, [(0, (SL 5 cNd t0)), (2, (I t2)), (8, (I x1.1)), (22, (Bo (decide (t2 < 0))))], [], ⟨0, []⟩⟩) (by kernel_rfl) (by kernel_rfl) ?_
    show AWp _ _ _ _
    rcases Bool.eq_false_or_eq_true (decide (t2 < 0)) with hb3 | hb3
    · rw [condT hb3] at h
      refine awp_condT (boT hb3) ?_
      refine awp_seq ?_
      refine awr ?_
      refine ado rfl rfl rfl (emv (eV (v := (SL 5 cNd t0)) rfl)) ?_
      refine ado rfl rfl rfl (eas (eV (v := (SL 5 cNd t0)) rfl)) ?_
      refine ado rfl rfl rfl (eas (eV (v := (I 1)) rfl)) ?_
      refine ake [6, 7] 0 0 (st' := ⟨40, 0, [(6, (SL 5 cNd t0)), (7, (I 1))], [], ⟨0, []⟩⟩) (by kernel_rfl) (by kernel_rfl) ?_
      show AWp _ _ _ _
      refine awp_ret ?_
      cases h
      exact aresN rfl (L2.cons (rtmp rfl (eV rfl)) (L2.cons (rtmp rfl (eV rfl)) L2.nil)) rfl
    · rw [condF hb3] at h
      refine awp_condF (boF hb3) ?_
      refine awp_skip ?_
      show AWp _ _ _ _
      refine awp_seq ?_
      refine awp_seq ?_
      refine awr ?_
      refine ado rfl rfl rfl (emv (eV (v := (I t2)) rfl)) ?_
      refine ado rfl rfl rfl (ex_bin (vx := (I t2)) (vy := (I 128)) rfl rfl gtrI_ok) ?_
      refine ake [0, 2, 8, 25] 0 0 (st' := ⟨40, 0, [(0, (SL 5 cNd t0)), (2, (I t2)), (8, (I x1.1)), (25, (Bo (decide (t2 > 128))))], [], ⟨0, []⟩⟩) (by kernel_rfl) (by kernel_rfl) ?_
      show AWp _ _ _ _
      rcases Bool.eq_false_or_eq_true (decide (t2 > 128)) with hb4 | hb4
      · rw [condT hb4] at h
        refine awp_condT (boT hb4) ?_
        refine awp_seq ?_
        refine awr ?_
        refine ado rfl rfl rfl (emv (eV (v := (SL 5 cNd t0)) rfl)) ?_
        refine ado rfl rfl rfl (eas (eV (v := (SL 5 cNd t0)) rfl)) ?_
        refine ado rfl rfl rfl (eas (eV (v := (I 8)) rfl)) ?_
        refine ake [6, 7] 0 0 (st' := ⟨40, 0, [(6, (SL 5 cNd t0)), (7, (I 8))], [], ⟨0, []⟩⟩) (by kernel_rfl) (by kernel_rfl) ?_
        show AWp _ _ _ _
        refine awp_ret ?_
        cases h
        exact aresN rfl (L2.cons (rtmp rfl (eV rfl)) (L2.cons (rtmp rfl (eV rfl)) L2.nil)) rfl
      · rw [condF hb4] at h
        refine awp_condF (boF hb4) ?_
        refine awp_skip ?_
        show AWp _ _ _ _
        refine awp_seq ?_
        refine awr ?_
        refine ado rfl rfl rfl (emv (eV (v := (SL 5 cNd t0)) rfl)) ?_
        refine ado rfl rfl rfl (emv (eV (v := (I x1.1)) rfl)) ?_
        obtain ⟨x5, hx5, h⟩ := bindS h
        refine ado rfl rfl rfl (tx_idxD (c := cNd) (xs := t0) (i := x1.1) ce_api_Node Tryz.underlying25 s_38 rfl rfl hx5) ?_
        refine ado rfl rfl rfl (tx_ldDA (vs := (cNd x5)) Tryz.underlying38 rfl s_38 (by decide) rfl (Nat.le_of_ble_eq_true rfl) rfl) ?_
        refine ado rfl rfl rfl (ex_alloc (k := 0) (zs := (cNd (G_api_Node.mk 0 0 [] [] 0))) (L' := [(cNd (G_api_Node.mk 0 0 [] [] 0))]) z_38 rfl rfl rfl rfl) ?_
        refine arun_do0 rfl rfl (ex_storeL (vy := (Value.agg (cNd x5).toArray)) (cs := (cNd (G_api_Node.mk 0 0 [] [] 0))) (vs := (cNd x5)) (L' := [(cNd x5)]) rfl (eV (v := (Value.agg (cNd x5).toArray)) rfl) rfl s_38 rfl (Nat.le_of_ble_eq_true rfl) (by kernel_rfl)) ?_
        refine ake [0, 2, 8, 10] 1 0 (st' := ⟨40, 0, [(0, (SL 5 cNd t0)), (2, (I t2)), (8, (I x1.1)), (10, (LP 0 0))], [(cNd x5)], ⟨0, []⟩⟩) (by kernel_rfl) (by kernel_rfl) ?_
        show AWp _ _ _ _
        refine awp_seq ?_
        refine awr ?_
        refine ado rfl rfl rfl (ex_fieldAddr (v := (LP 0 3)) Tryz.underlying38 rfl s_9 (by decide) rfl rfl) ?_
        refine ado rfl rfl rfl (tx_ldL1 (v := (S x5.Body)) Tryz.underlying9 rfl rfl rfl rfl) ?_
        refine ado rfl rfl rfl (emv (eV (v := (I t2)) rfl)) ?_
        obtain ⟨x6, hx6, h⟩ := bindS h
        refine ado rfl rfl rfl (ex_call0 (vs := [(S x5.Body), (I t2)]) (v := (S x6)) rfl en_70 (cargs (evs rfl (evs rfl evs_nil))) rfl (ok_ref11_long x5.Body t2 x6 hx6) rfl) ?_
        refine ado rfl rfl rfl (ex_fieldAddr (v := (LP 0 3)) Tryz.underlying38 rfl s_9 (by decide) rfl rfl) ?_
        refine arun_do0 rfl rfl (ex_storeL (vy := (S x6)) (cs := (cNd x5)) (vs := [(S x6)]) (L' := [(cNd (G_api_Node.mk x5.Kind x5.Up x5.Name x6 x5.Bad))]) rfl (eV (v := (S x6)) rfl) rfl s_9 rfl (Nat.le_of_ble_eq_true rfl) (by kernel_rfl)) ?_
        refine ake [0, 8, 10] 1 0 (st' := ⟨40, 0, [(0, (SL 5 cNd t0)), (8, (I x1.1)), (10, (LP 0 0))], [(cNd (G_api_Node.mk x5.Kind x5.Up x5.Name x6 x5.Bad))], ⟨0, []⟩⟩) (by kernel_rfl) (by kernel_rfl) ?_
        show AWp _ _ _ _
        refine awp_seq ?_
        refine awr ?_
        refine ado rfl rfl rfl (emv (eV (v := (SL 5 cNd t0)) rfl)) ?_
        refine ado rfl rfl rfl (emv (eV (v := (I x1.1)) rfl)) ?_
        refine ado rfl rfl rfl (tx_ldLA (vs := (cNd (G_api_Node.mk x5.Kind x5.Up x5.Name x6 x5.Bad))) Tryz.underlying38 rfl s_38 (by decide) rfl rfl rfl rfl) ?_
        obtain ⟨x7, hx7, h⟩ := bindS h
        refine ado rfl rfl rfl (ex_call0 (vs := [(SL 5 cNd t0), (I x1.1), (Value.agg (cNd (G_api_Node.mk x5.Kind x5.Up x5.Name x6 x5.Bad)).toArray)]) (v := (SL 5 cNd x7)) rfl en_33 (cargs (evs rfl (evs rfl (evs rfl evs_nil)))) rfl (ok_ref11_with t0 x1.1 (G_api_Node.mk x5.Kind x5.Up x5.Name x6 x5.Bad) x7 hx7) rfl) ?_
        refine ado rfl rfl rfl (eas (eV (v := (SL 5 cNd x7)) rfl)) ?_
        refine ado rfl rfl rfl (eas (eV (v := (I 0)) rfl)) ?_
        refine ake [6, 7] 0 0 (st' := ⟨40, 0, [(6, (SL 5 cNd x7)), (7, (I 0))], [], ⟨0, []⟩⟩) (by kernel_rfl) (by kernel_rfl) ?_
        show AWp _ _ _ _
        refine awp_ret ?_
        cases h
        exact aresN rfl (L2.cons (rtmp rfl (eV rfl)) (L2.cons (rtmp rfl (eV rfl)) L2.nil)) rfl

end Go.Proofs
