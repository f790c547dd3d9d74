/- Pure models of functions of the program, and that its code does what they say: palimpref11 Free, palimpref11 with, palimpref11 Make, strings genSplit. Written by a program. -/
import Derived.Test.YtjdlpipeagjnfaaGreatDoorRDO1
import Derived.Test.YtjdlpipeagjnfaaGreatDoorRDOB
import Derived.Test.YtjdlpipeagjnfaaGreatDoorRDOX
set_option maxRecDepth 20000
set_option maxHeartbeats 4000000
namespace Go.Proofs
open Go Go.Fhl
set_option linter.unusedVariables false
set_option linter.unusedSimpArgs false
noncomputable def M_ref11_Free_l1 (t0 : (List G_api_Node)) : Nat → Int → Option (Int × Bool)
  | 0, _ => none
  | n1 + 1, v1 =>
  cond (decide (v1 < (t0.length : Int))) (Option.bind (getI t0 v1) fun (x3 : G_api_Node) => cond (x3.Kind == 0) (some (v1, true)) ((M_ref11_Free_l1 t0 n1) (w64 (v1 + 1)))) (some (0, false))
noncomputable def M_ref11_Free (t0 : (List G_api_Node)) : Option (Int × Bool) :=
  M_ref11_Free_l1 t0 fuel 0
theorem ok_ref11_Free (t0 : (List G_api_Node)) (r : (Int × Bool)) (h : M_ref11_Free t0 = some r) : FFn Tryz.prog 32 [(SL 5 cNd t0)] (Value.tuple #[(I r.1), (Bo r.2)]) := by
  refine FFn.of_body (n := 18) Tryz.func32 rfl Tryz.ntmps32 rfl rfl rfl rfl ?_
  show AWp _ _ _ ⟨18, 0, [(0, (SL 5 cNd t0))], [], ⟨0, []⟩⟩
  unfold M_ref11_Free at h
  refine awp_seq ?_
  refine awr ?_
  refine ado rfl rfl rfl (eas (eV (v := (I 0)) rfl)) ?_
  refine ado rfl rfl rfl (eas (eV (v := (Bo false)) rfl)) ?_
  refine ake [0] 0 0 (st' := ⟨18, 0, [(0, (SL 5 cNd t0))], [], ⟨0, []⟩⟩) (by kernel_rfl) (by kernel_rfl) ?_
  show AWp _ _ _ _
  refine awp_seq ?_
  refine awp_seq ?_
  refine awr ?_
  refine ado rfl rfl rfl (eas (eV (v := (I 0)) rfl)) ?_
  refine ake [0, 4] 0 0 (st' := ⟨18, 0, [(0, (SL 5 cNd t0)), (4, (I 0))], [], ⟨0, []⟩⟩) (by kernel_rfl) (by kernel_rfl) ?_
  show AWp _ _ _ _
  refine awp_block ?_
  refine awp_loop (fun n s => ∃ (v1 : Int), s = ⟨18, 0, [(0, (SL 5 cNd t0)), (4, (I v1))], [], ⟨0, []⟩⟩ ∧ M_ref11_Free_l1 t0 n v1 = some r) fuel (Exists.intro 0 (And.intro rfl h)) ?_
  rintro n s ⟨v1, rfl, h⟩ -
  cases n with
  | zero => cases h
  | succ n1 =>
    unfold M_ref11_Free_l1 at h
    refine awp_seq ?_
    refine awp_seq ?_
    refine awr ?_
    refine ado rfl rfl rfl (emv (eV (v := (I v1)) rfl)) ?_
    refine ado rfl rfl rfl (emv (eV (v := (SL 5 cNd t0)) rfl)) ?_
    refine ado rfl rfl rfl (tx_lenD (xs := t0) ce_api_Node Tryz.underlying25 rfl) ?_
    refine ado rfl rfl rfl (ex_bin (vx := (I v1)) (vy := (I (t0.length : Int))) rfl rfl lssI_ok) ?_
    refine ake [0, 4, 8] 0 0 (st' := ⟨18, 0, [(0, (SL 5 cNd t0)), (4, (I v1)), (8, (Bo (decide (v1 < (t0.length : Int)))))], [], ⟨0, []⟩⟩) (by kernel_rfl) (by kernel_rfl) ?_
    show AWp _ _ _ _
    rcases Bool.eq_false_or_eq_true (decide (v1 < (t0.length : Int))) with hb2 | hb2
    · rw [condT hb2] at h
      refine awp_condT (boT hb2) ?_
      refine awp_skip ?_
      show AWp _ _ _ _
      refine awp_seq ?_
      refine awp_block ?_
      refine awp_seq ?_
      refine awr ?_
      refine ado rfl rfl rfl (emv (eV (v := (SL 5 cNd t0)) rfl)) ?_
      refine ado rfl rfl rfl (emv (eV (v := (I v1)) rfl)) ?_
      obtain ⟨x3, hx3, h⟩ := bindS h
      refine ado rfl rfl rfl (tx_idxD (c := cNd) (xs := t0) (i := v1) ce_api_Node Tryz.underlying25 s_38 rfl rfl hx3) ?_
      refine ado rfl rfl rfl (ex_fieldAddrD (vs := (List.drop 0 (cNd x3))) Tryz.underlying38 rfl s_3 (by decide) rfl rfl) ?_
      refine ado rfl rfl rfl (tx_ldD1 (v := (I x3.Kind)) Tryz.underlying3 rfl rfl rfl) ?_
      refine ado rfl rfl rfl (ex_bin (vx := (I x3.Kind)) (vy := (I 0)) rfl rfl eqlI_ok) ?_
      refine ake [0, 4, 16] 0 0 (st' := ⟨18, 0, [(0, (SL 5 cNd t0)), (4, (I v1)), (16, (Bo (x3.Kind == 0)))], [], ⟨0, []⟩⟩) (by kernel_rfl) (by kernel_rfl) ?_
      show AWp _ _ _ _
      rcases Bool.eq_false_or_eq_true (x3.Kind == 0) with hb4 | hb4
      · rw [condT hb4] at h
        refine awp_condT (boT hb4) ?_
        refine awp_seq ?_
        refine awr ?_
        refine ado rfl rfl rfl (emv (eV (v := (I v1)) rfl)) ?_
        refine ado rfl rfl rfl (eas (eV (v := (I v1)) rfl)) ?_
        refine ado rfl rfl rfl (eas (eV (v := (Bo true)) rfl)) ?_
        refine ake [2, 3] 0 0 (st' := ⟨18, 0, [(2, (I v1)), (3, (Bo true))], [], ⟨0, []⟩⟩) (by kernel_rfl) (by kernel_rfl) ?_
        show AWp _ _ _ _
        refine awp_ret ?_
        cases h
        exact aresN rfl (L2.cons (rtmp rfl (eV rfl)) (L2.cons (rtmp rfl (eV rfl)) L2.nil)) rfl
      · rw [condF hb4] at h
        refine awp_condF (boF hb4) ?_
        refine awp_skip ?_
        show AWp _ _ _ _
        refine awr ?_
        refine ado rfl rfl rfl (emv (eV (v := (I v1)) rfl)) ?_
        refine ado rfl rfl rfl (ex_bin (vx := (I v1)) (vy := (I 1)) rfl rfl addI_ok) ?_
        refine ado rfl rfl rfl (eas (eV (v := (I (w64 (v1 + 1)))) rfl)) ?_
        refine ake [0, 4] 0 0 (st' := ⟨18, 0, [(0, (SL 5 cNd t0)), (4, (I (w64 (v1 + 1))))], [], ⟨0, []⟩⟩) (by kernel_rfl) (by kernel_rfl) ?_
        exact Exists.intro n1 (And.intro (Nat.lt_succ_self _) (Exists.intro (w64 (v1 + 1)) (And.intro rfl h)))
    · rw [condF hb2] at h
      refine awp_condF (boF hb2) ?_
      refine awp_exit ?_
      show AWp _ _ _ _
      refine awp_seq ?_
      refine awr ?_
      refine ado rfl rfl rfl (eas (eV (v := (I 0)) rfl)) ?_
      refine ado rfl rfl rfl (eas (eV (v := (Bo false)) rfl)) ?_
      refine ake [2, 3] 0 0 (st' := ⟨18, 0, [(2, (I 0)), (3, (Bo false))], [], ⟨0, []⟩⟩) (by kernel_rfl) (by kernel_rfl) ?_
      show AWp _ _ _ _
      refine awp_ret ?_
      cases h
      exact aresN rfl (L2.cons (rtmp rfl (eV rfl)) (L2.cons (rtmp rfl (eV rfl)) L2.nil)) rfl

noncomputable def M_ref11_with_k1 (y2 : List G_api_Node) : Option (List G_api_Node) :=
  some y2
noncomputable def M_ref11_with (t0 : (List G_api_Node)) (t1 : Int) (t2 : G_api_Node) : Option (List G_api_Node) :=
  Option.bind (appL 56 ([] : List G_api_Node) t0) fun (x1 : List G_api_Node) => cond ((decide (t1 ≥ 0)) && (decide (t1 < ((x1.length : Nat) : Int)))) (Option.bind (getI x1 t1) fun (x4 : G_api_Node) => Option.bind (setI x1 t1 t2) fun (x5 : List G_api_Node) => M_ref11_with_k1 x5) (M_ref11_with_k1 x1)
theorem ok_ref11_with (t0 : (List G_api_Node)) (t1 : Int) (t2 : G_api_Node) (r : (List G_api_Node)) (h : M_ref11_with t0 t1 t2 = some r) : FFn Tryz.prog 33 [(SL 5 cNd t0), (I t1), (Value.agg (cNd t2).toArray)] (SL 5 cNd r) := by
  refine FFn.of_body (n := 24) Tryz.func33 rfl Tryz.ntmps33 rfl rfl rfl rfl ?_
  show AWp _ _ _ ⟨24, 0, [(0, (SL 5 cNd t0)), (1, (I t1)), (2, (Value.agg (cNd t2).toArray))], [], ⟨0, []⟩⟩
  unfold M_ref11_with at h
  refine awp_seq ?_
  refine awr ?_
  refine ado rfl rfl rfl (ex_box (vx := (Value.agg (cNd t2).toArray)) (cs := (cNd t2)) (k := 0) (L' := [(cNd t2)]) (eV (v := (Value.agg (cNd t2).toArray)) rfl) rfl rfl rfl) ?_
  refine ado rfl rfl rfl (eas (eV (v := (Value.slice none 0 0)) rfl)) ?_
  refine ake [0, 1, 5] 1 0 (st' := ⟨24, 0, [(0, (SL 5 cNd t0)), (1, (I t1)), (5, (LP 0 0))], [(cNd t2)], ⟨0, []⟩⟩) (by kernel_rfl) (by kernel_rfl) ?_
  show AWp _ _ _ _
  refine awp_seq ?_
  refine awr ?_
  refine ado rfl rfl rfl (ex_buildSliceG (k := 0) (qs := []) (cells := (([] : List G_api_Node).flatMap cNd)) (H' := ⟨1, [(0, ⟨5, (([] : List G_api_Node).flatMap cNd), true⟩)]⟩) Tryz.underlying25 s_38 (by decide) (by decide) evp_nil rfl (by kernel_rfl) (by kernel_rfl) (by kernel_rfl) rfl rfl) ?_
  refine ado rfl rfl rfl (emv (eV (v := (SL 5 cNd t0)) rfl)) ?_
  obtain ⟨x1, hx1, h⟩ := bindS h
  refine ado rfl rfl rfl (tx_appG (c := cNd) (xs := []) (H' := ⟨1, [(0, ⟨5, ((x1).flatMap cNd), true⟩)]⟩) ce_api_Node e_38 rfl rfl rfl (tsrcD (ys := t0) ce_api_Node Tryz.underlying25 s_38 Tryz.underlying25 rfl) hx1 rfl) ?_
  refine ado rfl rfl rfl (eas (eV (v := (GV 0 x1.length)) rfl)) ?_
  refine ake [1, 5, 7] 1 1 (st' := ⟨24, 0, [(1, (I t1)), (5, (LP 0 0)), (7, (GV 0 x1.length))], [(cNd t2)], ⟨1, [(0, ⟨5, ((x1).flatMap cNd), true⟩)]⟩⟩) (by kernel_rfl) (by kernel_rfl) ?_
  show AWp _ _ _ _
  refine awp_seqJ (fun s => ∃ (y2 : List G_api_Node), s = ⟨24, 0, [(7, (GV 0 y2.length))], [], ⟨1, [(0, ⟨5, ((y2).flatMap cNd), true⟩)]⟩⟩ ∧ M_ref11_with_k1 y2 = some r) ?_ ?_
  · refine awp_seq ?_
    refine awr ?_
    refine ado rfl rfl rfl (emv (eV (v := (I t1)) rfl)) ?_
    refine ado rfl rfl rfl (ex_bin (vx := (I t1)) (vy := (I 0)) rfl rfl geqI_ok) ?_
    refine ado rfl rfl rfl (emv (eV (v := (Bo (decide (t1 ≥ 0)))) rfl)) ?_
    refine arun_guard (v := (I t1)) ((decide (t1 ≥ 0)) == true) rfl rfl rfl (fun hc => emv (eV (v := (I t1)) rfl)) ?_
    refine arun_guard (v := (GV 0 x1.length)) ((decide (t1 ≥ 0)) == true) rfl rfl rfl (fun hc => emv (eV (v := (GV 0 x1.length)) rfl)) ?_
    refine arun_guard (v := (I ((x1.length : Nat) : Int))) ((decide (t1 ≥ 0)) == true) rfl rfl rfl (fun hc => ex_lenN (n := x1.length) Tryz.underlying25 (cond_of hc)) ?_
    refine arun_guard (v := (Bo (decide (t1 < ((x1.length : Nat) : Int))))) ((decide (t1 ≥ 0)) == true) rfl rfl rfl (fun hc => ex_bin (vx := (I t1)) (vy := (I ((x1.length : Nat) : Int))) (cond_of hc) (cond_of hc) lssI_ok) ?_
    refine ado rfl rfl rfl (ex_pick rfl pkAnd) ?_
    refine ake [1, 5, 7, 18] 1 1 (st' := ⟨24, 0, [(1, (I t1)), (5, (LP 0 0)), (7, (GV 0 x1.length)), (18, (Bo ((decide (t1 ≥ 0)) && (decide (t1 < ((x1.length : Nat) : Int))))))], [(cNd t2)], ⟨1, [(0, ⟨5, ((x1).flatMap cNd), true⟩)]⟩⟩) (by kernel_rfl) (by kernel_rfl) ?_
    show AWp _ _ _ _
    rcases Bool.eq_false_or_eq_true ((decide (t1 ≥ 0)) && (decide (t1 < ((x1.length : Nat) : Int)))) with hb3 | hb3
    · rw [condT hb3] at h
      refine awp_condT (boT hb3) ?_
      refine awr ?_
      refine ado rfl rfl rfl (emv (eV (v := (GV 0 x1.length)) rfl)) ?_
      refine ado rfl rfl rfl (emv (eV (v := (I t1)) rfl)) ?_
      refine ado rfl rfl rfl (tx_ldLA (vs := (cNd t2)) Tryz.underlying38 rfl s_38 (by decide) rfl rfl rfl rfl) ?_
      obtain ⟨x4, hx4, h⟩ := bindS h
      refine ado rfl rfl rfl (tx_idxG (c := cNd) (xs := x1) (i := t1) ce_api_Node Tryz.underlying25 s_38 rfl rfl rfl rfl hx4) ?_
      obtain ⟨x5, hx5, h⟩ := bindS h
      refine arun_do0 rfl rfl (tx_stG (c := cNd) (xs := x1) (e := t2) (H' := ⟨1, [(0, ⟨5, ((x5).flatMap cNd), true⟩)]⟩) ce_api_Node s_38 rfl (eV (v := (Value.agg (cNd t2).toArray)) rfl) rfl rfl hx5 rfl) ?_
      refine arun_fewer (T' := [(1, (I t1)), (5, (LP 0 0)), (7, (GV 0 x5.length)), (18, (Bo ((decide (t1 ≥ 0)) && (decide (t1 < ((x1.length : Nat) : Int)))))), (19, (GV 0 x5.length)), (20, (I t1)), (21, (Value.agg (cNd t2).toArray))]) (ReT.keep (v := (I t1)) rfl (ReT.keep (v := (LP 0 0)) rfl (ReT.gv rfl (setI_len hx5) (ReT.keep (v := (Bo ((decide (t1 ≥ 0)) && (decide (t1 < ((x1.length : Nat) : Int)))))) rfl (ReT.gv rfl (setI_len hx5) (ReT.keep (v := (I t1)) rfl (ReT.keep (v := (Value.agg (cNd t2).toArray)) rfl ReT.nil))))))) ?_
      refine ake [7] 0 1 (st' := ⟨24, 0, [(7, (GV 0 x5.length))], [], ⟨1, [(0, ⟨5, ((x5).flatMap cNd), true⟩)]⟩⟩) (by kernel_rfl) (by kernel_rfl) ?_
      exact (Exists.intro x5 (And.intro rfl h))
    · rw [condF hb3] at h
      refine awp_condF (boF hb3) ?_
      refine awp_keepE [7] 0 1 (st' := ⟨24, 0, [(7, (GV 0 x1.length))], [], ⟨1, [(0, ⟨5, ((x1).flatMap cNd), true⟩)]⟩⟩) (by kernel_rfl) (by kernel_rfl) ?_
      refine awp_skip ?_
      exact (Exists.intro x1 (And.intro rfl h))
  · rintro s ⟨y2, rfl, h⟩
    unfold M_ref11_with_k1 at h
    refine awp_seq ?_
    refine awr ?_
    refine ado rfl rfl rfl (emv (eV (v := (GV 0 y2.length)) rfl)) ?_
    refine ado rfl rfl rfl (eas (eV (v := (GV 0 y2.length)) rfl)) ?_
    refine ake [6] 0 1 (st' := ⟨24, 0, [(6, (GV 0 y2.length))], [], ⟨1, [(0, ⟨5, ((y2).flatMap cNd), true⟩)]⟩⟩) (by kernel_rfl) (by kernel_rfl) ?_
    show AWp _ _ _ _
    refine awp_freeze 0 (bk := ⟨5, ((y2).flatMap cNd), true⟩) (T' := [(6, (SL 5 cNd y2))]) (L' := []) rfl (fzG ce_api_Node rfl rfl FzT.nil) (FzL.refl _) ?_
    show AWp _ _ _ ⟨24, 0, [(6, (SL 5 cNd y2))], [], ⟨1, []⟩⟩
    refine awp_ret ?_
    cases h
    exact ares1 (rtmp rfl (eV rfl))

noncomputable def M_ref11_Make (t0 : (List G_api_Node)) (t1 : Str) (t2 : Int) : Option ((List G_api_Node) × Int) :=
  cond ((t2 != 1) && (t2 != 2)) (some (t0, 1)) (Option.bind (M_ref11_Place t0 t1) fun (x2 : (Int × Str × Int)) => cond (x2.2.2 != 0) (some (t0, x2.2.2)) (Option.bind (M_ref11_Kid t0 x2.1 x2.2.1) fun (x4 : (Int × Bool)) => cond x4.2 (some (t0, 3)) (Option.bind (M_ref11_Free t0) fun (x6 : (Int × Bool)) => cond (!x6.2) (some (t0, 8)) (Option.bind (M_ref11_with t0 x6.1 (G_api_Node.mk t2 x2.1 x2.2.1 [] 0)) fun (x8 : (List G_api_Node)) => some (x8, 0)))))
theorem ok_ref11_Make (t0 : (List G_api_Node)) (t1 : Str) (t2 : Int) (r : ((List G_api_Node) × Int)) (h : M_ref11_Make t0 t1 t2 = some r) : FFn Tryz.prog 13 [(SL 5 cNd t0), (S t1), (I t2)] (Value.tuple #[(SL 5 cNd r.1), (I r.2)]) := by
  refine FFn.of_body (n := 57) Tryz.func13 rfl Tryz.ntmps13 rfl rfl rfl rfl ?_
  show AWp _ _ _ ⟨57, 0, [(0, (SL 5 cNd t0)), (1, (S t1)), (2, (I t2))], [], ⟨0, []⟩⟩
  unfold M_ref11_Make at h
  refine awp_seq ?_
  refine awr ?_
  refine ado rfl rfl rfl (eas (eV (v := (Value.slice none 0 0)) rfl)) ?_
  refine ado rfl rfl rfl (eas (eV (v := (I 0)) rfl)) ?_
  refine ake [0, 1, 2] 0 0 (st' := ⟨57, 0, [(0, (SL 5 cNd t0)), (1, (S t1)), (2, (I t2))], [], ⟨0, []⟩⟩) (by kernel_rfl) (by kernel_rfl) ?_
  show AWp _ _ _ _
  refine awp_seq ?_
  refine awp_seq ?_
  refine awr ?_
  refine ado rfl rfl rfl (emv (eV (v := (I t2)) rfl)) ?_
  refine ado rfl rfl rfl (ex_bin (vx := (I t2)) (vy := (I 1)) rfl rfl neqI_ok) ?_
  refine ado rfl rfl rfl (emv (eV (v := (Bo (t2 != 1))) rfl)) ?_
  refine arun_guard (v := (I t2)) ((t2 != 1) == true) rfl rfl rfl (fun hc => emv (eV (v := (I t2)) rfl)) ?_
  refine arun_guard (v := (Bo (t2 != 2))) ((t2 != 1) == true) rfl rfl rfl (fun hc => ex_bin (vx := (I t2)) (vy := (I 2)) (cond_of hc) rfl neqI_ok) ?_
  refine ado rfl rfl rfl (ex_pick rfl pkAnd) ?_
  refine ake [0, 1, 2, 20] 0 0 (st' := ⟨57, 0, [(0, (SL 5 cNd t0)), (1, (S t1)), (2, (I t2)), (20, (Bo ((t2 != 1) && (t2 != 2))))], [], ⟨0, []⟩⟩) (by kernel_rfl) (by kernel_rfl) ?_
  show AWp _ _ _ _
  rcases Bool.eq_false_or_eq_true ((t2 != 1) && (t2 != 2)) with hb1 | hb1
  · rw [condT hb1] at h
    refine awp_condT (boT hb1) ?_
    refine awp_seq ?_
    refine awr ?_
    refine ado rfl rfl rfl (emv (eV (v := (SL 5 cNd t0)) rfl)) ?_
    refine ado rfl rfl rfl (eas (eV (v := (SL 5 cNd t0)) rfl)) ?_
    refine ado rfl rfl rfl (eas (eV (v := (I 1)) rfl)) ?_
    refine ake [6, 7] 0 0 (st' := ⟨57, 0, [(6, (SL 5 cNd t0)), (7, (I 1))], [], ⟨0, []⟩⟩) (by kernel_rfl) (by kernel_rfl) ?_
    show AWp _ _ _ _
    refine awp_ret ?_
    cases h
    exact aresN rfl (L2.cons (rtmp rfl (eV rfl)) (L2.cons (rtmp rfl (eV rfl)) L2.nil)) rfl
  · rw [condF hb1] at h
    refine awp_condF (boF hb1) ?_
    refine awp_skip ?_
    show AWp _ _ _ _
    refine awp_seq ?_
    refine awr ?_
    refine ado rfl rfl rfl (emv (eV (v := (SL 5 cNd t0)) rfl)) ?_
    refine ado rfl rfl rfl (emv (eV (v := (S t1)) rfl)) ?_
    obtain ⟨x2, hx2, h⟩ := bindS h
    refine ado rfl rfl rfl (ex_call0 (vs := [(SL 5 cNd t0), (S t1)]) (v := (Value.tuple #[(I x2.1), (S x2.2.1), (I x2.2.2)])) rfl en_30 (cargs (evs rfl (evs rfl evs_nil))) rfl (ok_ref11_Place t0 t1 x2 hx2) rfl) ?_
    refine ado rfl rfl rfl (emv (eV (v := (Value.tuple #[(I x2.1), (S x2.2.1), (I x2.2.2)])) rfl)) ?_
    refine ado rfl rfl rfl (ex_extract (vx := (Value.tuple #[(I x2.1), (S x2.2.1), (I x2.2.2)])) (v := (I x2.1)) rfl rfl) ?_
    refine ado rfl rfl rfl (ex_extract (vx := (Value.tuple #[(I x2.1), (S x2.2.1), (I x2.2.2)])) (v := (S x2.2.1)) rfl rfl) ?_
    refine ado rfl rfl rfl (ex_extract (vx := (Value.tuple #[(I x2.1), (S x2.2.1), (I x2.2.2)])) (v := (I x2.2.2)) rfl rfl) ?_
    refine ado rfl rfl rfl (eas (eV (v := (I x2.1)) rfl)) ?_
    refine ado rfl rfl rfl (eas (eV (v := (S x2.2.1)) rfl)) ?_
    refine ado rfl rfl rfl (eas (eV (v := (I x2.2.2)) rfl)) ?_
    refine ake [0, 2, 8, 9, 10] 0 0 (st' := ⟨57, 0, [(0, (SL 5 cNd t0)), (2, (I t2)), (8, (I x2.1)), (9, (S x2.2.1)), (10, (I x2.2.2))], [], ⟨0, []⟩⟩) (by kernel_rfl) (by kernel_rfl) ?_
    show AWp _ _ _ _
    refine awp_seq ?_
    refine awp_seq ?_
    refine awr ?_
    refine ado rfl rfl rfl (emv (eV (v := (I x2.2.2)) rfl)) ?_
    refine ado rfl rfl rfl (ex_bin (vx := (I x2.2.2)) (vy := (I 0)) rfl rfl neqI_ok) ?_
    refine ake [0, 2, 8, 9, 10, 30] 0 0 (st' := ⟨57, 0, [(0, (SL 5 cNd t0)), (2, (I t2)), (8, (I x2.1)), (9, (S x2.2.1)), (10, (I x2.2.2)), (30, (Bo (x2.2.2 != 0)))], [], ⟨0, []⟩⟩) (by kernel_rfl) (by kernel_rfl) ?_
    show AWp _ _ _ _
    rcases Bool.eq_false_or_eq_true (x2.2.2 != 0) with hb3 | hb3
    · rw [condT hb3] at h
      refine awp_condT (boT hb3) ?_
      refine awp_seq ?_
      refine awr ?_
      refine ado rfl rfl rfl (emv (eV (v := (SL 5 cNd t0)) rfl)) ?_
      refine ado rfl rfl rfl (emv (eV (v := (I x2.2.2)) rfl)) ?_
      refine ado rfl rfl rfl (eas (eV (v := (SL 5 cNd t0)) rfl)) ?_
      refine ado rfl rfl rfl (eas (eV (v := (I x2.2.2)) rfl)) ?_
      refine ake [6, 7] 0 0 (st' := ⟨57, 0, [(6, (SL 5 cNd t0)), (7, (I x2.2.2))], [], ⟨0, []⟩⟩) (by kernel_rfl) (by kernel_rfl) ?_
      show AWp _ _ _ _
      refine awp_ret ?_
      cases h
      exact aresN rfl (L2.cons (rtmp rfl (eV rfl)) (L2.cons (rtmp rfl (eV rfl)) L2.nil)) rfl
    · rw [condF hb3] at h
      refine awp_condF (boF hb3) ?_
      refine awp_skip ?_
      show AWp _ _ _ _
      refine awp_seq ?_
      refine awr ?_
      refine ado rfl rfl rfl (emv (eV (v := (SL 5 cNd t0)) rfl)) ?_
      refine ado rfl rfl rfl (emv (eV (v := (I x2.1)) rfl)) ?_
      refine ado rfl rfl rfl (emv (eV (v := (S x2.2.1)) rfl)) ?_
      obtain ⟨x4, hx4, h⟩ := bindS h
      refine ado rfl rfl rfl (ex_call0 (vs := [(SL 5 cNd t0), (I x2.1), (S x2.2.1)]) (v := (Value.tuple #[(I x4.1), (Bo x4.2)])) rfl en_31 (cargs (evs rfl (evs rfl (evs rfl evs_nil)))) rfl (ok_ref11_Kid t0 x2.1 x2.2.1 x4 hx4) rfl) ?_
      refine ado rfl rfl rfl (emv (eV (v := (Value.tuple #[(I x4.1), (Bo x4.2)])) rfl)) ?_
      refine ado rfl rfl rfl (ex_extract (vx := (Value.tuple #[(I x4.1), (Bo x4.2)])) (v := (I x4.1)) rfl rfl) ?_
      refine ado rfl rfl rfl (ex_extract (vx := (Value.tuple #[(I x4.1), (Bo x4.2)])) (v := (Bo x4.2)) rfl rfl) ?_
      refine ado rfl rfl rfl (eas (eV (v := (I x4.1)) rfl)) ?_
      refine ado rfl rfl rfl (eas (eV (v := (Bo x4.2)) rfl)) ?_
      refine ake [0, 2, 8, 9, 12] 0 0 (st' := ⟨57, 0, [(0, (SL 5 cNd t0)), (2, (I t2)), (8, (I x2.1)), (9, (S x2.2.1)), (12, (Bo x4.2))], [], ⟨0, []⟩⟩) (by kernel_rfl) (by kernel_rfl) ?_
      show AWp _ _ _ _
      refine awp_seq ?_
      refine awp_seq ?_
      refine awr ?_
      refine ado rfl rfl rfl (emv (eV (v := (Bo x4.2)) rfl)) ?_
      refine ake [0, 2, 8, 9, 40] 0 0 (st' := ⟨57, 0, [(0, (SL 5 cNd t0)), (2, (I t2)), (8, (I x2.1)), (9, (S x2.2.1)), (40, (Bo x4.2))], [], ⟨0, []⟩⟩) (by kernel_rfl) (by kernel_rfl) ?_
      show AWp _ _ _ _
      rcases Bool.eq_false_or_eq_true x4.2 with hb5 | hb5
      · rw [condT hb5] at h
        refine awp_condT (boT hb5) ?_
        refine awp_seq ?_
        refine awr ?_
        refine ado rfl rfl rfl (emv (eV (v := (SL 5 cNd t0)) rfl)) ?_
        refine ado rfl rfl rfl (eas (eV (v := (SL 5 cNd t0)) rfl)) ?_
        refine ado rfl rfl rfl (eas (eV (v := (I 3)) rfl)) ?_
        refine ake [6, 7] 0 0 (st' := ⟨57, 0, [(6, (SL 5 cNd t0)), (7, (I 3))], [], ⟨0, []⟩⟩) (by kernel_rfl) (by kernel_rfl) ?_
        show AWp _ _ _ _
        refine awp_ret ?_
        cases h
        exact aresN rfl (L2.cons (rtmp rfl (eV rfl)) (L2.cons (rtmp rfl (eV rfl)) L2.nil)) rfl
      · rw [condF hb5] at h
        refine awp_condF (boF hb5) ?_
        refine awp_skip ?_
        show AWp _ _ _ _
        refine awp_seq ?_
        refine awr ?_
        refine ado rfl rfl rfl (emv (eV (v := (SL 5 cNd t0)) rfl)) ?_
        obtain ⟨x6, hx6, h⟩ := bindS h
        refine ado rfl rfl rfl (ex_call0 (vs := [(SL 5 cNd t0)]) (v := (Value.tuple #[(I x6.1), (Bo x6.2)])) rfl en_32 (cargs (evs rfl evs_nil)) rfl (ok_ref11_Free t0 x6 hx6) rfl) ?_
        refine ado rfl rfl rfl (emv (eV (v := (Value.tuple #[(I x6.1), (Bo x6.2)])) rfl)) ?_
        refine ado rfl rfl rfl (ex_extract (vx := (Value.tuple #[(I x6.1), (Bo x6.2)])) (v := (I x6.1)) rfl rfl) ?_
        refine ado rfl rfl rfl (ex_extract (vx := (Value.tuple #[(I x6.1), (Bo x6.2)])) (v := (Bo x6.2)) rfl rfl) ?_
        refine ado rfl rfl rfl (eas (eV (v := (I x6.1)) rfl)) ?_
        refine ado rfl rfl rfl (eas (eV (v := (Bo x6.2)) rfl)) ?_
        refine ake [0, 2, 8, 9, 13, 14] 0 0 (st' := ⟨57, 0, [(0, (SL 5 cNd t0)), (2, (I t2)), (8, (I x2.1)), (9, (S x2.2.1)), (13, (I x6.1)), (14, (Bo x6.2))], [], ⟨0, []⟩⟩) (by kernel_rfl) (by kernel_rfl) ?_
        show AWp _ _ _ _
        refine awp_seq ?_
        refine awp_seq ?_
        refine awr ?_
        refine ado rfl rfl rfl (emv (eV (v := (Bo x6.2)) rfl)) ?_
        refine ado rfl rfl rfl (ex_un (vx := (Bo x6.2)) rfl notB_ok) ?_
        refine ake [0, 2, 8, 9, 13, 48] 0 0 (st' := ⟨57, 0, [(0, (SL 5 cNd t0)), (2, (I t2)), (8, (I x2.1)), (9, (S x2.2.1)), (13, (I x6.1)), (48, (Bo (!x6.2)))], [], ⟨0, []⟩⟩) (by kernel_rfl) (by kernel_rfl) ?_
        show AWp _ _ _ _
        rcases Bool.eq_false_or_eq_true (!x6.2) with hb7 | hb7
        · rw [condT hb7] at h
          refine awp_condT (boT hb7) ?_
          refine awp_seq ?_
          refine awr ?_
          refine ado rfl rfl rfl (emv (eV (v := (SL 5 cNd t0)) rfl)) ?_
          refine ado rfl rfl rfl (eas (eV (v := (SL 5 cNd t0)) rfl)) ?_
          refine ado rfl rfl rfl (eas (eV (v := (I 8)) rfl)) ?_
          refine ake [6, 7] 0 0 (st' := ⟨57, 0, [(6, (SL 5 cNd t0)), (7, (I 8))], [], ⟨0, []⟩⟩) (by kernel_rfl) (by kernel_rfl) ?_
          show AWp _ _ _ _
          refine awp_ret ?_
          cases h
          exact aresN rfl (L2.cons (rtmp rfl (eV rfl)) (L2.cons (rtmp rfl (eV rfl)) L2.nil)) rfl
        · rw [condF hb7] at h
          refine awp_condF (boF hb7) ?_
          refine awp_skip ?_
          show AWp _ _ _ _
          refine awp_seq ?_
          refine awr ?_
          refine ado rfl rfl rfl (emv (eV (v := (SL 5 cNd t0)) rfl)) ?_
          refine ado rfl rfl rfl (emv (eV (v := (I x6.1)) rfl)) ?_
          refine ado rfl rfl rfl (emv (eV (v := (I t2)) rfl)) ?_
          refine ado rfl rfl rfl (emv (eV (v := (I x2.1)) rfl)) ?_
          refine ado rfl rfl rfl (emv (eV (v := (S x2.2.1)) rfl)) ?_
          refine ado rfl rfl rfl (ex_build (qs := [(0, (I t2)), (1, (I x2.1)), (2, (S x2.2.1))]) (v := (Value.agg (cNd (G_api_Node.mk t2 x2.1 x2.2.1 [] 0)).toArray)) (evp rfl (evp rfl (evp rfl evp_nil))) (by kernel_rfl)) ?_
          obtain ⟨x8, hx8, h⟩ := bindS h
          refine ado rfl rfl rfl (ex_call0 (vs := [(SL 5 cNd t0), (I x6.1), (Value.agg (cNd (G_api_Node.mk t2 x2.1 x2.2.1 [] 0)).toArray)]) (v := (SL 5 cNd x8)) rfl en_33 (cargs (evs rfl (evs rfl (evs rfl evs_nil)))) rfl (ok_ref11_with t0 x6.1 (G_api_Node.mk t2 x2.1 x2.2.1 [] 0) x8 hx8) rfl) ?_
          refine ado rfl rfl rfl (eas (eV (v := (SL 5 cNd x8)) rfl)) ?_
          refine ado rfl rfl rfl (eas (eV (v := (I 0)) rfl)) ?_
          refine ake [6, 7] 0 0 (st' := ⟨57, 0, [(6, (SL 5 cNd x8)), (7, (I 0))], [], ⟨0, []⟩⟩) (by kernel_rfl) (by kernel_rfl) ?_
          show AWp _ _ _ _
          refine awp_ret ?_
          cases h
          exact aresN rfl (L2.cons (rtmp rfl (eV rfl)) (L2.cons (rtmp rfl (eV rfl)) L2.nil)) rfl

noncomputable def M_strings_genSplit_k2 (y8 : Str) (y9 : Int) (y10 : List Str) : Option (List Str) :=
  Option.bind (getI y10 y9) fun (x21 : Str) => Option.bind (setI y10 y9 y8) fun (x22 : List Str) => Option.bind (slL x22 0 (w64 (y9 + 1))) fun (x23 : (List Str)) => some x23
noncomputable def M_strings_genSplit_l1 (t0 : Str) (t1 : Str) (t2 : Int) (y4 : Int) : Nat → Str → Int → List Str → Option (List Str)
  | 0, _, _, _ => none
  | n1 + 1, v11, v12, v13 =>
  cond (decide (v12 < (w64 ((min y4 (w64 ((t0.length : Int) + 1))) - 1)))) (Option.bind (M_strings_Index v11 t1) fun (x15 : Int) => cond (decide (x15 < 0)) (M_strings_genSplit_k2 v11 v12 v13) (Option.bind (slL v11 0 (w64 (x15 + t2))) fun (x17 : Str) => Option.bind (getI v13 v12) fun (x18 : Str) => Option.bind (setI v13 v12 x17) fun (x19 : List Str) => Option.bind (slL v11 (w64 (x15 + (t1.length : Int))) (v11.length : Int)) fun (x20 : Str) => (M_strings_genSplit_l1 t0 t1 t2 y4 n1) x20 (w64 (v12 + 1)) x19)) (M_strings_genSplit_k2 v11 v12 v13)
noncomputable def M_strings_genSplit_k1 (t0 : Str) (t1 : Str) (t2 : Int) (y4 : Int) : Option (List Str) :=
  Option.bind (makeL 16 (min y4 (w64 ((t0.length : Int) + 1))) ([] : Str)) fun (x7 : List Str) => M_strings_genSplit_l1 t0 t1 t2 y4 fuel t0 0 x7
noncomputable def M_strings_genSplit (t0 : Str) (t1 : Str) (t2 : Int) (t3 : Int) : Option (List Str) :=
  cond (t3 == 0) (some []) (cond (t1 == []) (Option.bind (M_strings_explode t0 t3) fun (x3 : (List Str)) => some x3) (cond (decide (t3 < 0)) (Option.bind (M_strings_Count t0 t1) fun (x6 : Int) => M_strings_genSplit_k1 t0 t1 t2 (w64 (x6 + 1))) (M_strings_genSplit_k1 t0 t1 t2 t3)))
theorem ok_strings_genSplit (t0 : Str) (t1 : Str) (t2 : Int) (t3 : Int) (r : (List Str)) (h : M_strings_genSplit t0 t1 t2 t3 = some r) : FFn Tryz.prog 93 [(S t0), (S t1), (I t2), (I t3)] (SL 1 cS r) := by
  refine FFn.of_body (n := 66) Tryz.func93 rfl Tryz.ntmps93 rfl rfl rfl rfl ?_
  show AWp _ _ _ ⟨66, 0, [(0, (S t0)), (1, (S t1)), (2, (I t2)), (3, (I t3))], [], ⟨0, []⟩⟩
  unfold M_strings_genSplit at h
  refine awp_seq ?_
  refine awr ?_
  refine ado rfl rfl rfl (eas (eV (v := (Value.slice none 0 0)) rfl)) ?_
  refine ake [0, 1, 2, 3] 0 0 (st' := ⟨66, 0, [(0, (S t0)), (1, (S t1)), (2, (I t2)), (3, (I t3))], [], ⟨0, []⟩⟩) (by kernel_rfl) (by kernel_rfl) ?_
  show AWp _ _ _ _
  refine awp_seq ?_
  refine awp_seq ?_
  refine awr ?_
  refine ado rfl rfl rfl (emv (eV (v := (I t3)) rfl)) ?_
  refine ado rfl rfl rfl (ex_bin (vx := (I t3)) (vy := (I 0)) rfl rfl eqlI_ok) ?_
  refine ake [0, 1, 2, 3, 13] 0 0 (st' := ⟨66, 0, [(0, (S t0)), (1, (S t1)), (2, (I t2)), (3, (I t3)), (13, (Bo (t3 == 0)))], [], ⟨0, []⟩⟩) (by kernel_rfl) (by kernel_rfl) ?_
  show AWp _ _ _ _
  rcases Bool.eq_false_or_eq_true (t3 == 0) with hb1 | hb1
  · rw [condT hb1] at h
    refine awp_condT (boT hb1) ?_
    refine awp_seq ?_
    refine awr ?_
    refine ado rfl rfl rfl (eas (eV (v := (Value.slice none 0 0)) rfl)) ?_
    refine ake [8] 0 0 (st' := ⟨66, 0, [(8, (Value.slice none 0 0))], [], ⟨0, []⟩⟩) (by kernel_rfl) (by kernel_rfl) ?_
    show AWp _ _ _ _
    refine awp_ret ?_
    cases h
    exact ares1 (rtmp rfl (eN rfl))
  · rw [condF hb1] at h
    refine awp_condF (boF hb1) ?_
    refine awp_skip ?_
    show AWp _ _ _ _
    refine awp_seq ?_
    refine awp_seq ?_
    refine awr ?_
    refine ado rfl rfl rfl (emv (eV (v := (S t1)) rfl)) ?_
    refine ado rfl rfl rfl (ex_bin (vx := (S t1)) (vy := (S [])) rfl rfl eqlS_ok) ?_
    refine ake [0, 1, 2, 3, 15] 0 0 (st' := ⟨66, 0, [(0, (S t0)), (1, (S t1)), (2, (I t2)), (3, (I t3)), (15, (Bo (t1 == [])))], [], ⟨0, []⟩⟩) (by kernel_rfl) (by kernel_rfl) ?_
    show AWp _ _ _ _
    rcases Bool.eq_false_or_eq_true (t1 == []) with hb2 | hb2
    · rw [condT hb2] at h
      refine awp_condT (boT hb2) ?_
      refine awp_seq ?_
      refine awr ?_
      refine ado rfl rfl rfl (emv (eV (v := (S t0)) rfl)) ?_
      refine ado rfl rfl rfl (emv (eV (v := (I t3)) rfl)) ?_
      obtain ⟨x3, hx3, h⟩ := bindS h
      refine ado rfl rfl rfl (ex_call0 (vs := [(S t0), (I t3)]) (v := (SL 1 cS x3)) rfl en_103 (cargs (evs rfl (evs rfl evs_nil))) rfl (ok_strings_explode t0 t3 x3 hx3) rfl) ?_
      refine ado rfl rfl rfl (eas (eV (v := (SL 1 cS x3)) rfl)) ?_
      refine ake [8] 0 0 (st' := ⟨66, 0, [(8, (SL 1 cS x3))], [], ⟨0, []⟩⟩) (by kernel_rfl) (by kernel_rfl) ?_
      show AWp _ _ _ _
      refine awp_ret ?_
      cases h
      exact ares1 (rtmp rfl (eV rfl))
    · rw [condF hb2] at h
      refine awp_condF (boF hb2) ?_
      refine awp_skip ?_
      show AWp _ _ _ _
      refine awp_seqJ (fun s => ∃ (y4 : Int), s = ⟨66, 0, [(0, (S t0)), (1, (S t1)), (2, (I t2)), (3, (I y4))], [], ⟨0, []⟩⟩ ∧ M_strings_genSplit_k1 t0 t1 t2 y4 = some r) ?_ ?_
      · refine awp_seq ?_
        refine awr ?_
        refine ado rfl rfl rfl (emv (eV (v := (I t3)) rfl)) ?_
        refine ado rfl rfl rfl (ex_bin (vx := (I t3)) (vy := (I 0)) rfl rfl lssI_ok) ?_
        refine ake [0, 1, 2, 3, 20] 0 0 (st' := ⟨66, 0, [(0, (S t0)), (1, (S t1)), (2, (I t2)), (3, (I t3)), (20, (Bo (decide (t3 < 0))))], [], ⟨0, []⟩⟩) (by kernel_rfl) (by kernel_rfl) ?_
        show AWp _ _ _ _
        rcases Bool.eq_false_or_eq_true (decide (t3 < 0)) with hb5 | hb5
        · rw [condT hb5] at h
          refine awp_condT (boT hb5) ?_
          refine awr ?_
          refine ado rfl rfl rfl (emv (eV (v := (S t0)) rfl)) ?_
          refine ado rfl rfl rfl (emv (eV (v := (S t1)) rfl)) ?_
          obtain ⟨x6, hx6, h⟩ := bindS h
          refine ado rfl rfl rfl (ex_call0 (vs := [(S t0), (S t1)]) (v := (I x6)) rfl en_104 (cargs (evs rfl (evs rfl evs_nil))) rfl (ok_strings_Count t0 t1 x6 hx6) rfl) ?_
          refine ado rfl rfl rfl (ex_bin (vx := (I x6)) (vy := (I 1)) rfl rfl addI_ok) ?_
          refine ado rfl rfl rfl (eas (eV (v := (I (w64 (x6 + 1)))) rfl)) ?_
          refine ake [0, 1, 2, 3] 0 0 (st' := ⟨66, 0, [(0, (S t0)), (1, (S t1)), (2, (I t2)), (3, (I (w64 (x6 + 1))))], [], ⟨0, []⟩⟩) (by kernel_rfl) (by kernel_rfl) ?_
          exact (Exists.intro (w64 (x6 + 1)) (And.intro rfl h))
        · rw [condF hb5] at h
          refine awp_condF (boF hb5) ?_
          refine awp_keepE [0, 1, 2, 3] 0 0 (st' := ⟨66, 0, [(0, (S t0)), (1, (S t1)), (2, (I t2)), (3, (I t3))], [], ⟨0, []⟩⟩) (by kernel_rfl) (by kernel_rfl) ?_
          refine awp_skip ?_
          exact (Exists.intro t3 (And.intro rfl h))
      · rintro s ⟨y4, rfl, h⟩
        unfold M_strings_genSplit_k1 at h
        refine awp_seq ?_
        refine awr ?_
        refine ado rfl rfl rfl (emv (eV (v := (I y4)) rfl)) ?_
        refine ado rfl rfl rfl (emv (eV (v := (S t0)) rfl)) ?_
        refine ado rfl rfl rfl (tx_lenS Tryz.underlying9 rfl) ?_
        refine ado rfl rfl rfl (ex_bin (vx := (I (t0.length : Int))) (vy := (I 1)) rfl rfl addI_ok) ?_
        refine ado rfl rfl rfl (ex_min (m := y4) (n := (w64 ((t0.length : Int) + 1))) rfl rfl) ?_
        refine ado rfl rfl rfl (eas (eV (v := (I (min y4 (w64 ((t0.length : Int) + 1))))) rfl)) ?_
        refine ake [0, 1, 2, 3] 0 0 (st' := ⟨66, 0, [(0, (S t0)), (1, (S t1)), (2, (I t2)), (3, (I (min y4 (w64 ((t0.length : Int) + 1)))))], [], ⟨0, []⟩⟩) (by kernel_rfl) (by kernel_rfl) ?_
        show AWp _ _ _ _
        refine awp_seq ?_
        refine awr ?_
        refine ado rfl rfl rfl (emv (eV (v := (I (min y4 (w64 ((t0.length : Int) + 1))))) rfl)) ?_
        obtain ⟨x7, hx7, h⟩ := bindS h
        refine ado rfl rfl rfl (tx_make (c := cS) (e := []) (k := 0) (H' := ⟨1, [(0, ⟨1, ((x7).flatMap cS), false⟩)]⟩) ceS Tryz.underlying48 s_9 b_9 z_9 rfl rfl (by decide) rfl rfl hx7 rfl rfl) ?_
        refine ado rfl rfl rfl (eas (eV (v := (FV 0 x7.length)) rfl)) ?_
        refine ake [0, 1, 2, 3, 9] 0 1 (st' := ⟨66, 0, [(0, (S t0)), (1, (S t1)), (2, (I t2)), (3, (I (min y4 (w64 ((t0.length : Int) + 1))))), (9, (FV 0 x7.length))], [], ⟨1, [(0, ⟨1, ((x7).flatMap cS), false⟩)]⟩⟩) (by kernel_rfl) (by kernel_rfl) ?_
        show AWp _ _ _ _
        refine awp_seq ?_
        refine awr ?_
        refine ado rfl rfl rfl (emv (eV (v := (I (min y4 (w64 ((t0.length : Int) + 1))))) rfl)) ?_
        refine ado rfl rfl rfl (ex_bin (vx := (I (min y4 (w64 ((t0.length : Int) + 1))))) (vy := (I 1)) rfl rfl subI_ok) ?_
        refine ado rfl rfl rfl (eas (eV (v := (I (w64 ((min y4 (w64 ((t0.length : Int) + 1))) - 1)))) rfl)) ?_
        refine ake [0, 1, 2, 3, 9] 0 1 (st' := ⟨66, 0, [(0, (S t0)), (1, (S t1)), (2, (I t2)), (3, (I (w64 ((min y4 (w64 ((t0.length : Int) + 1))) - 1)))), (9, (FV 0 x7.length))], [], ⟨1, [(0, ⟨1, ((x7).flatMap cS), false⟩)]⟩⟩) (by kernel_rfl) (by kernel_rfl) ?_
        show AWp _ _ _ _
        refine awp_seq ?_
        refine awr ?_
        refine ado rfl rfl rfl (eas (eV (v := (I 0)) rfl)) ?_
        refine ake [0, 1, 2, 3, 9, 10] 0 1 (st' := ⟨66, 0, [(0, (S t0)), (1, (S t1)), (2, (I t2)), (3, (I (w64 ((min y4 (w64 ((t0.length : Int) + 1))) - 1)))), (9, (FV 0 x7.length)), (10, (I 0))], [], ⟨1, [(0, ⟨1, ((x7).flatMap cS), false⟩)]⟩⟩) (by kernel_rfl) (by kernel_rfl) ?_
        show AWp _ _ _ _
        refine awp_seqJ (fun s => ∃ (y8 : Str) (y9 : Int) (y10 : List Str), s = ⟨66, 0, [(0, (S y8)), (9, (FV 0 y10.length)), (10, (I y9))], [], ⟨1, [(0, ⟨1, ((y10).flatMap cS), false⟩)]⟩⟩ ∧ M_strings_genSplit_k2 y8 y9 y10 = some r) ?_ ?_
        · refine awp_block ?_
          refine awp_loop (fun n s => ∃ (v11 : Str) (v12 : Int) (v13 : List Str), s = ⟨66, 0, [(0, (S v11)), (1, (S t1)), (2, (I t2)), (3, (I (w64 ((min y4 (w64 ((t0.length : Int) + 1))) - 1)))), (9, (FV 0 v13.length)), (10, (I v12))], [], ⟨1, [(0, ⟨1, ((v13).flatMap cS), false⟩)]⟩⟩ ∧ M_strings_genSplit_l1 t0 t1 t2 y4 n v11 v12 v13 = some r) fuel (Exists.intro t0 (Exists.intro 0 (Exists.intro x7 (And.intro rfl h)))) ?_
          rintro n s ⟨v11, v12, v13, rfl, h⟩ -
          cases n with
          | zero => cases h
          | succ n1 =>
            unfold M_strings_genSplit_l1 at h
            refine awp_seq ?_
            refine awp_seq ?_
            refine awr ?_
            refine ado rfl rfl rfl (emv (eV (v := (I v12)) rfl)) ?_
            refine ado rfl rfl rfl (emv (eV (v := (I (w64 ((min y4 (w64 ((t0.length : Int) + 1))) - 1)))) rfl)) ?_
            refine ado rfl rfl rfl (ex_bin (vx := (I v12)) (vy := (I (w64 ((min y4 (w64 ((t0.length : Int) + 1))) - 1)))) rfl rfl lssI_ok) ?_
            refine ake [0, 1, 2, 3, 9, 10, 36] 0 1 (st' := ⟨66, 0, [(0, (S v11)), (1, (S t1)), (2, (I t2)), (3, (I (w64 ((min y4 (w64 ((t0.length : Int) + 1))) - 1)))), (9, (FV 0 v13.length)), (10, (I v12)), (36, (Bo (decide (v12 < (w64 ((min y4 (w64 ((t0.length : Int) + 1))) - 1))))))], [], ⟨1, [(0, ⟨1, ((v13).flatMap cS), false⟩)]⟩⟩) (by kernel_rfl) (by kernel_rfl) ?_
            show AWp _ _ _ _
            rcases Bool.eq_false_or_eq_true (decide (v12 < (w64 ((min y4 (w64 ((t0.length : Int) + 1))) - 1)))) with hb14 | hb14
            · rw [condT hb14] at h
              refine awp_condT (boT hb14) ?_
              refine awp_skip ?_
              show AWp _ _ _ _
              refine awp_block ?_
              refine awp_seq ?_
              refine awr ?_
              refine ado rfl rfl rfl (emv (eV (v := (S v11)) rfl)) ?_
              refine ado rfl rfl rfl (emv (eV (v := (S t1)) rfl)) ?_
              obtain ⟨x15, hx15, h⟩ := bindS h
              refine ado rfl rfl rfl (ex_call0 (vs := [(S v11), (S t1)]) (v := (I x15)) rfl en_105 (cargs (evs rfl (evs rfl evs_nil))) rfl (ok_strings_Index v11 t1 x15 hx15) rfl) ?_
              refine ado rfl rfl rfl (eas (eV (v := (I x15)) rfl)) ?_
              refine ake [0, 1, 2, 3, 9, 10, 11] 0 1 (st' := ⟨66, 0, [(0, (S v11)), (1, (S t1)), (2, (I t2)), (3, (I (w64 ((min y4 (w64 ((t0.length : Int) + 1))) - 1)))), (9, (FV 0 v13.length)), (10, (I v12)), (11, (I x15))], [], ⟨1, [(0, ⟨1, ((v13).flatMap cS), false⟩)]⟩⟩) (by kernel_rfl) (by kernel_rfl) ?_
              show AWp _ _ _ _
              refine awp_seq ?_
              refine awp_seq ?_
              refine awr ?_
              refine ado rfl rfl rfl (emv (eV (v := (I x15)) rfl)) ?_
              refine ado rfl rfl rfl (ex_bin (vx := (I x15)) (vy := (I 0)) rfl rfl lssI_ok) ?_
              refine ake [0, 1, 2, 3, 9, 10, 11, 41] 0 1 (st' := ⟨66, 0, [(0, (S v11)), (1, (S t1)), (2, (I t2)), (3, (I (w64 ((min y4 (w64 ((t0.length : Int) + 1))) - 1)))), (9, (FV 0 v13.length)), (10, (I v12)), (11, (I x15)), (41, (Bo (decide (x15 < 0))))], [], ⟨1, [(0, ⟨1, ((v13).flatMap cS), false⟩)]⟩⟩) (by kernel_rfl) (by kernel_rfl) ?_
              show AWp _ _ _ _
              rcases Bool.eq_false_or_eq_true (decide (x15 < 0)) with hb16 | hb16
              · rw [condT hb16] at h
                refine awp_condT (boT hb16) ?_
                refine awp_keepE [0, 9, 10] 0 1 (st' := ⟨66, 0, [(0, (S v11)), (9, (FV 0 v13.length)), (10, (I v12))], [], ⟨1, [(0, ⟨1, ((v13).flatMap cS), false⟩)]⟩⟩) (by kernel_rfl) (by kernel_rfl) ?_
                refine awp_exit ?_
                exact (Exists.intro v11 (Exists.intro v12 (Exists.intro v13 (And.intro rfl h))))
              · rw [condF hb16] at h
                refine awp_condF (boF hb16) ?_
                refine awp_skip ?_
                show AWp _ _ _ _
                refine awp_seq ?_
                refine awr ?_
                refine ado rfl rfl rfl (emv (eV (v := (FV 0 v13.length)) rfl)) ?_
                refine ado rfl rfl rfl (emv (eV (v := (I v12)) rfl)) ?_
                refine ado rfl rfl rfl (emv (eV (v := (S v11)) rfl)) ?_
                refine ado rfl rfl rfl (emv (eV (v := (I x15)) rfl)) ?_
                refine ado rfl rfl rfl (emv (eV (v := (I t2)) rfl)) ?_
                refine ado rfl rfl rfl (ex_bin (vx := (I x15)) (vy := (I t2)) rfl rfl addI_ok) ?_
                obtain ⟨x17, hx17, h⟩ := bindS h
                refine ado rfl rfl rfl (tx_slS (u := v11) Tryz.underlying9 rfl lo0 (hiX (l := (w64 (x15 + t2))) rfl) hx17) ?_
                obtain ⟨x18, hx18, h⟩ := bindS h
                refine ado rfl rfl rfl (tx_idxF (c := cS) (xs := v13) (i := v12) ceS Tryz.underlying48 s_9 rfl rfl rfl hx18) ?_
                obtain ⟨x19, hx19, h⟩ := bindS h
                refine arun_do0 rfl rfl (tx_stF (c := cS) (xs := v13) (e := x17) (H' := ⟨1, [(0, ⟨1, ((x19).flatMap cS), false⟩)]⟩) ceS s_9 rfl (eV (v := (S x17)) rfl) rfl rfl hx19 rfl) ?_
                refine arun_fewer (T' := [(0, (S v11)), (1, (S t1)), (2, (I t2)), (3, (I (w64 ((min y4 (w64 ((t0.length : Int) + 1))) - 1)))), (9, (FV 0 x19.length)), (10, (I v12)), (11, (I x15)), (41, (Bo (decide (x15 < 0)))), (42, (FV 0 x19.length)), (43, (I v12)), (44, (S v11)), (45, (I x15)), (46, (I t2)), (47, (I (w64 (x15 + t2)))), (48, (S x17))]) (ReT.keep (v := (S v11)) rfl (ReT.keep (v := (S t1)) rfl (ReT.keep (v := (I t2)) rfl (ReT.keep (v := (I (w64 ((min y4 (w64 ((t0.length : Int) + 1))) - 1)))) rfl (ReT.fv rfl (setI_len hx19) (ReT.keep (v := (I v12)) rfl (ReT.keep (v := (I x15)) rfl (ReT.keep (v := (Bo (decide (x15 < 0)))) rfl (ReT.fv rfl (setI_len hx19) (ReT.keep (v := (I v12)) rfl (ReT.keep (v := (S v11)) rfl (ReT.keep (v := (I x15)) rfl (ReT.keep (v := (I t2)) rfl (ReT.keep (v := (I (w64 (x15 + t2)))) rfl (ReT.keep (v := (S x17)) rfl ReT.nil))))))))))))))) ?_
                refine ake [0, 1, 2, 3, 9, 10, 11] 0 1 (st' := ⟨66, 0, [(0, (S v11)), (1, (S t1)), (2, (I t2)), (3, (I (w64 ((min y4 (w64 ((t0.length : Int) + 1))) - 1)))), (9, (FV 0 x19.length)), (10, (I v12)), (11, (I x15))], [], ⟨1, [(0, ⟨1, ((x19).flatMap cS), false⟩)]⟩⟩) (by kernel_rfl) (by kernel_rfl) ?_
                show AWp _ _ _ _
                refine awp_seq ?_
                refine awr ?_
                refine ado rfl rfl rfl (emv (eV (v := (S v11)) rfl)) ?_
                refine ado rfl rfl rfl (emv (eV (v := (I x15)) rfl)) ?_
                refine ado rfl rfl rfl (emv (eV (v := (S t1)) rfl)) ?_
                refine ado rfl rfl rfl (tx_lenS Tryz.underlying9 rfl) ?_
                refine ado rfl rfl rfl (ex_bin (vx := (I x15)) (vy := (I (t1.length : Int))) rfl rfl addI_ok) ?_
                obtain ⟨x20, hx20, h⟩ := bindS h
                refine ado rfl rfl rfl (tx_slS (u := v11) Tryz.underlying9 rfl (loX (l := (w64 (x15 + (t1.length : Int)))) rfl) hiN hx20) ?_
                refine ado rfl rfl rfl (eas (eV (v := (S x20)) rfl)) ?_
                refine ake [0, 1, 2, 3, 9, 10] 0 1 (st' := ⟨66, 0, [(0, (S x20)), (1, (S t1)), (2, (I t2)), (3, (I (w64 ((min y4 (w64 ((t0.length : Int) + 1))) - 1)))), (9, (FV 0 x19.length)), (10, (I v12))], [], ⟨1, [(0, ⟨1, ((x19).flatMap cS), false⟩)]⟩⟩) (by kernel_rfl) (by kernel_rfl) ?_
                show AWp _ _ _ _
                refine awr ?_
                refine ado rfl rfl rfl (emv (eV (v := (I v12)) rfl)) ?_
                refine ado rfl rfl rfl (ex_bin (vx := (I v12)) (vy := (I 1)) rfl rfl addI_ok) ?_
                refine ado rfl rfl rfl (eas (eV (v := (I (w64 (v12 + 1)))) rfl)) ?_
                refine ake [0, 1, 2, 3, 9, 10] 0 1 (st' := ⟨66, 0, [(0, (S x20)), (1, (S t1)), (2, (I t2)), (3, (I (w64 ((min y4 (w64 ((t0.length : Int) + 1))) - 1)))), (9, (FV 0 x19.length)), (10, (I (w64 (v12 + 1))))], [], ⟨1, [(0, ⟨1, ((x19).flatMap cS), false⟩)]⟩⟩) (by kernel_rfl) (by kernel_rfl) ?_
                exact Exists.intro n1 (And.intro (Nat.lt_succ_self _) (Exists.intro x20 (Exists.intro (w64 (v12 + 1)) (Exists.intro x19 (And.intro rfl h)))))
            · rw [condF hb14] at h
              refine awp_condF (boF hb14) ?_
              refine awp_keepE [0, 9, 10] 0 1 (st' := ⟨66, 0, [(0, (S v11)), (9, (FV 0 v13.length)), (10, (I v12))], [], ⟨1, [(0, ⟨1, ((v13).flatMap cS), false⟩)]⟩⟩) (by kernel_rfl) (by kernel_rfl) ?_
              refine awp_exit ?_
              exact (Exists.intro v11 (Exists.intro v12 (Exists.intro v13 (And.intro rfl h))))
        · rintro s ⟨y8, y9, y10, rfl, h⟩
          unfold M_strings_genSplit_k2 at h
          refine awp_seq ?_
          refine awr ?_
          refine ado rfl rfl rfl (emv (eV (v := (FV 0 y10.length)) rfl)) ?_
          refine ado rfl rfl rfl (emv (eV (v := (I y9)) rfl)) ?_
          refine ado rfl rfl rfl (emv (eV (v := (S y8)) rfl)) ?_
          obtain ⟨x21, hx21, h⟩ := bindS h
          refine ado rfl rfl rfl (tx_idxF (c := cS) (xs := y10) (i := y9) ceS Tryz.underlying48 s_9 rfl rfl rfl hx21) ?_
          obtain ⟨x22, hx22, h⟩ := bindS h
          refine arun_do0 rfl rfl (tx_stF (c := cS) (xs := y10) (e := y8) (H' := ⟨1, [(0, ⟨1, ((x22).flatMap cS), false⟩)]⟩) ceS s_9 rfl (eV (v := (S y8)) rfl) rfl rfl hx22 rfl) ?_
          refine arun_fewer (T' := [(0, (S y8)), (9, (FV 0 x22.length)), (10, (I y9)), (58, (FV 0 x22.length)), (59, (I y9)), (60, (S y8))]) (ReT.keep (v := (S y8)) rfl (ReT.fv rfl (setI_len hx22) (ReT.keep (v := (I y9)) rfl (ReT.fv rfl (setI_len hx22) (ReT.keep (v := (I y9)) rfl (ReT.keep (v := (S y8)) rfl ReT.nil)))))) ?_
          refine ake [9, 10] 0 1 (st' := ⟨66, 0, [(9, (FV 0 x22.length)), (10, (I y9))], [], ⟨1, [(0, ⟨1, ((x22).flatMap cS), false⟩)]⟩⟩) (by kernel_rfl) (by kernel_rfl) ?_
          show AWp _ _ _ _
          refine awp_seq ?_
          refine awr ?_
          refine ado rfl rfl rfl (emv (eV (v := (FV 0 x22.length)) rfl)) ?_
          refine ado rfl rfl rfl (emv (eV (v := (I y9)) rfl)) ?_
          refine ado rfl rfl rfl (ex_bin (vx := (I y9)) (vy := (I 1)) rfl rfl addI_ok) ?_
          refine arun_freeze 0 (bk := ⟨1, ((x22).flatMap cS), false⟩) (T' := [(9, (SL 1 cS x22)), (10, (I y9)), (62, (SL 1 cS x22)), (63, (I y9)), (64, (I (w64 (y9 + 1))))]) (L' := []) rfl (fzF ceS rfl rfl (FzT.keep (v := (I y9)) rfl (fzF ceS rfl rfl (FzT.keep (v := (I y9)) rfl (FzT.keep (v := (I (w64 (y9 + 1)))) rfl FzT.nil))))) (FzL.refl _) ?_
          show ARun _ _ _ _ _ ⟨66, 0, [(9, (SL 1 cS x22)), (10, (I y9)), (62, (SL 1 cS x22)), (63, (I y9)), (64, (I (w64 (y9 + 1))))], [], ⟨1, []⟩⟩
          obtain ⟨x23, hx23, h⟩ := bindS h
          refine ado rfl rfl rfl (tx_slD (c := cS) (xs := x22) ceS Tryz.underlying48 s_9 rfl lo0 (hiX (l := (w64 (y9 + 1))) rfl) hx23) ?_
          refine ado rfl rfl rfl (eas (eV (v := (SL 1 cS x23)) rfl)) ?_
          refine ake [8] 0 0 (st' := ⟨66, 0, [(8, (SL 1 cS x23))], [], ⟨0, []⟩⟩) (by kernel_rfl) (by kernel_rfl) ?_
          show AWp _ _ _ _
          refine awp_ret ?_
          cases h
          exact ares1 (rtmp rfl (eV rfl))

end Go.Proofs
