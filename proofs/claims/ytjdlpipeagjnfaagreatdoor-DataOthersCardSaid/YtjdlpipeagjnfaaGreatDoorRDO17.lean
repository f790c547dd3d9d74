/- Pure models of functions of the program, and that its code does what they say: palimpref11 bad, palimpref11 broken, palimpref11 May. Written by a program. -/
import Derived.Test.YtjdlpipeagjnfaaGreatDoorRDO1
import Derived.Test.YtjdlpipeagjnfaaGreatDoorRDO16
import Derived.Test.YtjdlpipeagjnfaaGreatDoorRDOB
set_option maxRecDepth 20000
set_option maxHeartbeats 4000000
namespace Go.Proofs
open Go Go.Fhl
set_option linter.unusedVariables false
set_option linter.unusedSimpArgs false
noncomputable def M_ref11_bad_l1 (t0 : (List G_api_Node)) : Nat → Int → Option Bool
  | 0, _ => none
  | n1 + 1, v1 =>
  cond (decide (v1 < (t0.length : Int))) (Option.bind (getI t0 v1) fun (x3 : G_api_Node) => cond (x3.Bad != 0) (some true) ((M_ref11_bad_l1 t0 n1) (w64 (v1 + 1)))) (some false)
noncomputable def M_ref11_bad (t0 : (List G_api_Node)) : Option Bool :=
  M_ref11_bad_l1 t0 fuel 0
theorem ok_ref11_bad (t0 : (List G_api_Node)) (r : Bool) (h : M_ref11_bad t0 = some r) : FFn Tryz.prog 46 [(SL 5 cNd t0)] (Bo r) := by
  refine FFn.of_body (n := 16) Tryz.func46 rfl Tryz.ntmps46 rfl rfl rfl rfl ?_
  show AWp _ _ _ ⟨16, 0, [(0, (SL 5 cNd t0))], [], ⟨0, []⟩⟩
  unfold M_ref11_bad at h
  refine awp_seq ?_
  refine awr ?_
  refine ado rfl rfl rfl (eas (eV (v := (Bo false)) rfl)) ?_
  refine ake [0] 0 0 (st' := ⟨16, 0, [(0, (SL 5 cNd t0))], [], ⟨0, []⟩⟩) (by kernel_rfl) (by kernel_rfl) ?_
  show AWp _ _ _ _
  refine awp_seq ?_
  refine awp_seq ?_
  refine awr ?_
  refine ado rfl rfl rfl (eas (eV (v := (I 0)) rfl)) ?_
  refine ake [0, 3] 0 0 (st' := ⟨16, 0, [(0, (SL 5 cNd t0)), (3, (I 0))], [], ⟨0, []⟩⟩) (by kernel_rfl) (by kernel_rfl) ?_
  show AWp _ _ _ _
  refine awp_block ?_
  refine awp_loop (fun n s => ∃ (v1 : Int), s = ⟨16, 0, [(0, (SL 5 cNd t0)), (3, (I v1))], [], ⟨0, []⟩⟩ ∧ M_ref11_bad_l1 t0 n v1 = some r) fuel (Exists.intro 0 (And.intro rfl h)) ?_
  rintro n s ⟨v1, rfl, h⟩ -
  cases n with
  | zero => cases h
  | succ n1 =>
    unfold M_ref11_bad_l1 at h
    refine awp_seq ?_
    refine awp_seq ?_
    refine awr ?_
    refine ado rfl rfl rfl (emv (eV (v := (I v1)) rfl)) ?_
    refine ado rfl rfl rfl (emv (eV (v := (SL 5 cNd t0)) rfl)) ?_
    refine ado rfl rfl rfl (tx_lenD (xs := t0) ce_api_Node Tryz.underlying25 rfl) ?_
    refine ado rfl rfl rfl (ex_bin (vx := (I v1)) (vy := (I (t0.length : Int))) rfl rfl lssI_ok) ?_
    refine ake [0, 3, 7] 0 0 (st' := ⟨16, 0, [(0, (SL 5 cNd t0)), (3, (I v1)), (7, (Bo (decide (v1 < (t0.length : Int)))))], [], ⟨0, []⟩⟩) (by kernel_rfl) (by kernel_rfl) ?_
    show AWp _ _ _ _
    rcases Bool.eq_false_or_eq_true (decide (v1 < (t0.length : Int))) with hb2 | hb2
    · rw [condT hb2] at h
      refine awp_condT (boT hb2) ?_
      refine awp_skip ?_
      show AWp _ _ _ _
      refine awp_seq ?_
      refine awp_block ?_
      refine awp_seq ?_
      refine awr ?_
      refine ado rfl rfl rfl (emv (eV (v := (SL 5 cNd t0)) rfl)) ?_
      refine ado rfl rfl rfl (emv (eV (v := (I v1)) rfl)) ?_
      obtain ⟨x3, hx3, h⟩ := bindS h
      refine ado rfl rfl rfl (tx_idxD (c := cNd) (xs := t0) (i := v1) ce_api_Node Tryz.underlying25 s_38 rfl rfl hx3) ?_
      refine ado rfl rfl rfl (ex_fieldAddrD (vs := (List.drop 4 (cNd x3))) Tryz.underlying38 rfl s_3 (by decide) rfl rfl) ?_
      refine ado rfl rfl rfl (tx_ldD1 (v := (I x3.Bad)) Tryz.underlying3 rfl rfl rfl) ?_
      refine ado rfl rfl rfl (ex_bin (vx := (I x3.Bad)) (vy := (I 0)) rfl rfl neqI_ok) ?_
      refine ake [0, 3, 15] 0 0 (st' := ⟨16, 0, [(0, (SL 5 cNd t0)), (3, (I v1)), (15, (Bo (x3.Bad != 0)))], [], ⟨0, []⟩⟩) (by kernel_rfl) (by kernel_rfl) ?_
      show AWp _ _ _ _
      rcases Bool.eq_false_or_eq_true (x3.Bad != 0) with hb4 | hb4
      · rw [condT hb4] at h
        refine awp_condT (boT hb4) ?_
        refine awp_seq ?_
        refine awr ?_
        refine ado rfl rfl rfl (eas (eV (v := (Bo true)) rfl)) ?_
        refine ake [2] 0 0 (st' := ⟨16, 0, [(2, (Bo true))], [], ⟨0, []⟩⟩) (by kernel_rfl) (by kernel_rfl) ?_
        show AWp _ _ _ _
        refine awp_ret ?_
        cases h
        exact ares1 (rtmp rfl (eV rfl))
      · rw [condF hb4] at h
        refine awp_condF (boF hb4) ?_
        refine awp_skip ?_
        show AWp _ _ _ _
        refine awr ?_
        refine ado rfl rfl rfl (emv (eV (v := (I v1)) rfl)) ?_
        refine ado rfl rfl rfl (ex_bin (vx := (I v1)) (vy := (I 1)) rfl rfl addI_ok) ?_
        refine ado rfl rfl rfl (eas (eV (v := (I (w64 (v1 + 1)))) rfl)) ?_
        refine ake [0, 3] 0 0 (st' := ⟨16, 0, [(0, (SL 5 cNd t0)), (3, (I (w64 (v1 + 1))))], [], ⟨0, []⟩⟩) (by kernel_rfl) (by kernel_rfl) ?_
        exact Exists.intro n1 (And.intro (Nat.lt_succ_self _) (Exists.intro (w64 (v1 + 1)) (And.intro rfl h)))
    · rw [condF hb2] at h
      refine awp_condF (boF hb2) ?_
      refine awp_exit ?_
      show AWp _ _ _ _
      refine awp_seq ?_
      refine awr ?_
      refine ado rfl rfl rfl (eas (eV (v := (Bo false)) rfl)) ?_
      refine ake [2] 0 0 (st' := ⟨16, 0, [(2, (Bo false))], [], ⟨0, []⟩⟩) (by kernel_rfl) (by kernel_rfl) ?_
      show AWp _ _ _ _
      refine awp_ret ?_
      cases h
      exact ares1 (rtmp rfl (eV rfl))

noncomputable def M_ref11_broken (t0 : (List G_api_Node)) : Option Bool :=
  Option.bind (M_ref11_lost t0) fun (x1 : Bool) => Option.bind (gd (x1 == false) (M_ref11_bad t0)) fun (x2 : Bool) => some (x1 || x2)
theorem ok_ref11_broken (t0 : (List G_api_Node)) (r : Bool) (h : M_ref11_broken t0 = some r) : FFn Tryz.prog 29 [(SL 5 cNd t0)] (Bo r) := by
  refine FFn.of_body (n := 9) Tryz.func29 rfl Tryz.ntmps29 rfl rfl rfl rfl ?_
  show AWp _ _ _ ⟨9, 0, [(0, (SL 5 cNd t0))], [], ⟨0, []⟩⟩
  unfold M_ref11_broken at h
  refine awp_seq ?_
  refine awr ?_
  refine ado rfl rfl rfl (eas (eV (v := (Bo false)) rfl)) ?_
  refine ake [0] 0 0 (st' := ⟨9, 0, [(0, (SL 5 cNd t0))], [], ⟨0, []⟩⟩) (by kernel_rfl) (by kernel_rfl) ?_
  show AWp _ _ _ _
  refine awp_seq ?_
  refine awr ?_
  refine ado rfl rfl rfl (emv (eV (v := (SL 5 cNd t0)) rfl)) ?_
  obtain ⟨x1, hx1, h⟩ := bindS h
  refine ado rfl rfl rfl (ex_call0 (vs := [(SL 5 cNd t0)]) (v := (Bo x1)) rfl en_42 (cargs (evs rfl evs_nil)) rfl (ok_ref11_lost t0 x1 hx1) rfl) ?_
  refine ado rfl rfl rfl (emv (eV (v := (Bo x1)) rfl)) ?_
  refine arun_guard (v := (SL 5 cNd t0)) (x1 == false) rfl rfl rfl (fun hc => emv (eV (v := (SL 5 cNd t0)) rfl)) ?_
  obtain ⟨x2, hx2, h⟩ := bindS h
  refine arun_guard (v := (Bo x2)) (x1 == false) rfl rfl rfl (fun hc => ex_call0 (vs := [(SL 5 cNd t0)]) (v := (Bo x2)) rfl en_46 (cargs (evs (cond_of hc) evs_nil)) rfl (ok_ref11_bad t0 x2 (gd_of hc hx2)) rfl) ?_
  refine ado rfl rfl rfl (ex_pick rfl pkOr) ?_
  refine ado rfl rfl rfl (eas (eV (v := (Bo (x1 || x2))) rfl)) ?_
  refine ake [2] 0 0 (st' := ⟨9, 0, [(2, (Bo (x1 || x2)))], [], ⟨0, []⟩⟩) (by kernel_rfl) (by kernel_rfl) ?_
  show AWp _ _ _ _
  refine awp_ret ?_
  cases h
  exact ares1 (rtmp rfl (eV rfl))

noncomputable def M_ref11_May (t0 : (List G_api_Node)) : Option Bool :=
  Option.bind (M_ref11_Torn t0) fun (x1 : Bool) => Option.bind (gd (x1 == true) (M_ref11_broken t0)) fun (x2 : Bool) => some (x1 && (!x2))
theorem ok_ref11_May (t0 : (List G_api_Node)) (r : Bool) (h : M_ref11_May t0 = some r) : FFn Tryz.prog 12 [(SL 5 cNd t0)] (Bo r) := by
  refine FFn.of_body (n := 10) Tryz.func12 rfl Tryz.ntmps12 rfl rfl rfl rfl ?_
  show AWp _ _ _ ⟨10, 0, [(0, (SL 5 cNd t0))], [], ⟨0, []⟩⟩
  unfold M_ref11_May at h
  refine awp_seq ?_
  refine awr ?_
  refine ado rfl rfl rfl (eas (eV (v := (Bo false)) rfl)) ?_
  refine ake [0] 0 0 (st' := ⟨10, 0, [(0, (SL 5 cNd t0))], [], ⟨0, []⟩⟩) (by kernel_rfl) (by kernel_rfl) ?_
  show AWp _ _ _ _
  refine awp_seq ?_
  refine awr ?_
  refine ado rfl rfl rfl (emv (eV (v := (SL 5 cNd t0)) rfl)) ?_
  obtain ⟨x1, hx1, h⟩ := bindS h
  refine ado rfl rfl rfl (ex_call0 (vs := [(SL 5 cNd t0)]) (v := (Bo x1)) rfl en_28 (cargs (evs rfl evs_nil)) rfl (ok_ref11_Torn t0 x1 hx1) rfl) ?_
  refine ado rfl rfl rfl (emv (eV (v := (Bo x1)) rfl)) ?_
  refine arun_guard (v := (SL 5 cNd t0)) (x1 == true) rfl rfl rfl (fun hc => emv (eV (v := (SL 5 cNd t0)) rfl)) ?_
  obtain ⟨x2, hx2, h⟩ := bindS h
  refine arun_guard (v := (Bo x2)) (x1 == true) rfl rfl rfl (fun hc => ex_call0 (vs := [(SL 5 cNd t0)]) (v := (Bo x2)) rfl en_29 (cargs (evs (cond_of hc) evs_nil)) rfl (ok_ref11_broken t0 x2 (gd_of hc hx2)) rfl) ?_
  refine arun_guard (v := (Bo (!x2))) (x1 == true) rfl rfl rfl (fun hc => ex_un (vx := (Bo x2)) (cond_of hc) notB_ok) ?_
  refine ado rfl rfl rfl (ex_pick rfl pkAnd) ?_
  refine ado rfl rfl rfl (eas (eV (v := (Bo (x1 && (!x2)))) rfl)) ?_
  refine ake [2] 0 0 (st' := ⟨10, 0, [(2, (Bo (x1 && (!x2))))], [], ⟨0, []⟩⟩) (by kernel_rfl) (by kernel_rfl) ?_
  show AWp _ _ _ _
  refine awp_ret ?_
  cases h
  exact ares1 (rtmp rfl (eV rfl))

end Go.Proofs
