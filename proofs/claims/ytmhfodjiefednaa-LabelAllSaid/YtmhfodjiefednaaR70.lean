/- Pure models of functions of the program, and that its code does what they say: label may, ptr May, uber root may, uber May, label At, label Slot. Written by a program. -/
import Derived.Test.YtmhfodjiefednaaR7B
set_option maxRecDepth 20000
set_option maxHeartbeats 4000000
namespace Go.Proofs
open Go Go.Fhl
set_option linter.unusedVariables false
set_option linter.unusedSimpArgs false
noncomputable def M_label_may (t0 : Int) : Option Bool :=
  some ((decide (t0 ≥ 40)) && (decide (t0 ≤ 240)))
theorem ok_label_may (t0 : Int) (r : Bool) (h : M_label_may t0 = some r) : FFn Try.prog 29 [(I t0)] (Bo r) := by
  refine FFn.of_body (n := 9) Try.func29 rfl Try.ntmps29 rfl rfl rfl rfl ?_
  show AWp _ _ _ ⟨9, 0, [(0, (I t0))], [], ⟨0, []⟩⟩
  unfold M_label_may at h
  refine aws ?_
  refine awr ?_
  refine ado rfl rfl rfl (eas (eV (v := (Bo false)) rfl)) ?_
  refine ake [0] 0 0 (st' := ⟨9, 0, [(0, (I t0))], [], ⟨0, []⟩⟩) (by kernel_rfl) (by kernel_rfl) ?_
  show AWp _ _ _ _
  refine aws ?_
  refine awr ?_
  refine ado rfl rfl rfl (emv (eV (v := (I t0)) rfl)) ?_
  refine ado rfl rfl rfl (ex_bin (vx := (I t0)) (vy := (I 40)) rfl rfl geqI_ok) ?_
  refine ado rfl rfl rfl (emv (eV (v := (Bo (decide (t0 ≥ 40)))) rfl)) ?_
  refine agu (v := (I t0)) ((decide (t0 ≥ 40)) == true) rfl rfl rfl (fun hc => emv (eV (v := (I t0)) rfl)) ?_
  refine agu (v := (Bo (decide (t0 ≤ 240)))) ((decide (t0 ≥ 40)) == true) rfl rfl rfl (fun hc => ex_bin (vx := (I t0)) (vy := (I 240)) (cdo hc) rfl leqI_ok) ?_
  refine ado rfl rfl rfl (ex_pick rfl pkAnd) ?_
  refine ado rfl rfl rfl (eas (eV (v := (Bo ((decide (t0 ≥ 40)) && (decide (t0 ≤ 240))))) rfl)) ?_
  refine ake [2] 0 0 (st' := ⟨9, 0, [(2, (Bo ((decide (t0 ≥ 40)) && (decide (t0 ≤ 240)))))], [], ⟨0, []⟩⟩) (by kernel_rfl) (by kernel_rfl) ?_
  show AWp _ _ _ _
  refine awp_ret ?_
  cases h
  exact ares1 (rtmp rfl (eV rfl))

noncomputable def M_ptr_May (t0 : GPt) : Option Bool :=
  cond (t0.Addr == 0) (some (decide (t0 = (GPt.mk 0 0 (A4.mk 0 0 0 0))))) (some ((((decide (t0.Addr > 0)) && (decide (t0.Addr ≤ 65535))) && (decide (t0.Birth ≥ 0))) && (decide (t0.Birth ≤ 1073741824))))
theorem ok_ptr_May (t0 : GPt) (r : Bool) (h : M_ptr_May t0 = some r) : FFn Try.prog 65 [(Value.agg (cPt t0).toArray)] (Bo r) := by
  refine FFn.of_body (n := 27) Try.func65 rfl Try.ntmps65 rfl rfl rfl rfl ?_
  show AWp _ _ _ ⟨27, 0, [(0, (Value.agg (cPt t0).toArray))], [], ⟨0, []⟩⟩
  unfold M_ptr_May at h
  refine aws ?_
  refine awr ?_
  refine ado rfl rfl rfl (ex_box (vx := (Value.agg (cPt t0).toArray)) (cs := (cPt t0)) (k := 0) (L' := [(cPt t0)]) (eV (v := (Value.agg (cPt t0).toArray)) rfl) rfl rfl rfl) ?_
  refine ado rfl rfl rfl (eas (eV (v := (Bo false)) rfl)) ?_
  refine ake [1] 1 0 (st' := ⟨27, 0, [(1, (LP 0 0))], [(cPt t0)], ⟨0, []⟩⟩) (by kernel_rfl) (by kernel_rfl) ?_
  show AWp _ _ _ _
  refine aws ?_
  refine aws ?_
  refine awr ?_
  refine ado rfl rfl rfl (efa (v := (LP 0 0)) Try.underlying35 rfl s_3 (by decide) rfl rfl) ?_
  refine ado rfl rfl rfl (tx_ldL1 (v := (I t0.Addr)) Try.underlying3 rfl rfl rfl rfl) ?_
  refine ado rfl rfl rfl (ex_bin (vx := (I t0.Addr)) (vy := (I 0)) rfl rfl eqlI_ok) ?_
  refine ake [1, 5] 1 0 (st' := ⟨27, 0, [(1, (LP 0 0)), (5, (Bo (t0.Addr == 0)))], [(cPt t0)], ⟨0, []⟩⟩) (by kernel_rfl) (by kernel_rfl) ?_
  show AWp _ _ _ _
  rcases Bool.eq_false_or_eq_true (t0.Addr == 0) with hb1 | hb1
  · rw [condT hb1] at h
    refine awp_condT (boT hb1) ?_
    refine aws ?_
    refine awr ?_
    refine ado rfl rfl rfl (tx_ldLA (vs := (cPt t0)) Try.underlying35 rfl s_35 (by decide) rfl rfl rfl rfl) ?_
    refine ado rfl rfl rfl (ex_build (qs := []) (v := (Value.agg (cPt (GPt.mk 0 0 (A4.mk 0 0 0 0))).toArray)) evp_nil (by kernel_rfl)) ?_
    refine ado rfl rfl rfl (ex_bin (vx := (Value.agg (cPt t0).toArray)) (vy := (Value.agg (cPt (GPt.mk 0 0 (A4.mk 0 0 0 0))).toArray)) rfl rfl eql_35) ?_
    refine ado rfl rfl rfl (eas (eV (v := (Bo (decide (t0 = (GPt.mk 0 0 (A4.mk 0 0 0 0)))))) rfl)) ?_
    refine ake [2] 0 0 (st' := ⟨27, 0, [(2, (Bo (decide (t0 = (GPt.mk 0 0 (A4.mk 0 0 0 0))))))], [], ⟨0, []⟩⟩) (by kernel_rfl) (by kernel_rfl) ?_
    show AWp _ _ _ _
    refine awp_ret ?_
    cases h
    exact ares1 (rtmp rfl (eV rfl))
  · rw [condF hb1] at h
    refine awp_condF (boF hb1) ?_
    refine awp_skip ?_
    show AWp _ _ _ _
    refine aws ?_
    refine awr ?_
    refine ado rfl rfl rfl (efa (v := (LP 0 0)) Try.underlying35 rfl s_3 (by decide) rfl rfl) ?_
    refine ado rfl rfl rfl (tx_ldL1 (v := (I t0.Addr)) Try.underlying3 rfl rfl rfl rfl) ?_
    refine ado rfl rfl rfl (ex_bin (vx := (I t0.Addr)) (vy := (I 0)) rfl rfl gtrI_ok) ?_
    refine ado rfl rfl rfl (emv (eV (v := (Bo (decide (t0.Addr > 0)))) rfl)) ?_
    refine agu (v := (LP 0 0)) ((decide (t0.Addr > 0)) == true) rfl rfl rfl (fun hc => efa (v := (LP 0 0)) Try.underlying35 rfl s_3 (by decide) rfl rfl) ?_
    refine agu (v := (I t0.Addr)) ((decide (t0.Addr > 0)) == true) rfl rfl rfl (fun hc => tx_ldL1 (v := (I t0.Addr)) Try.underlying3 rfl (cdo hc) rfl rfl) ?_
    refine agu (v := (Bo (decide (t0.Addr ≤ 65535)))) ((decide (t0.Addr > 0)) == true) rfl rfl rfl (fun hc => ex_bin (vx := (I t0.Addr)) (vy := (I 65535)) (cdo hc) rfl leqI_ok) ?_
    refine ado rfl rfl rfl (ex_pick rfl pkAnd) ?_
    refine ado rfl rfl rfl (emv (eV (v := (Bo ((decide (t0.Addr > 0)) && (decide (t0.Addr ≤ 65535))))) rfl)) ?_
    refine agu (v := (LP 0 1)) (((decide (t0.Addr > 0)) && (decide (t0.Addr ≤ 65535))) == true) rfl rfl rfl (fun hc => efa (v := (LP 0 1)) Try.underlying35 rfl s_3 (by decide) rfl rfl) ?_
    refine agu (v := (I t0.Birth)) (((decide (t0.Addr > 0)) && (decide (t0.Addr ≤ 65535))) == true) rfl rfl rfl (fun hc => tx_ldL1 (v := (I t0.Birth)) Try.underlying3 rfl (cdo hc) rfl rfl) ?_
    refine agu (v := (Bo (decide (t0.Birth ≥ 0)))) (((decide (t0.Addr > 0)) && (decide (t0.Addr ≤ 65535))) == true) rfl rfl rfl (fun hc => ex_bin (vx := (I t0.Birth)) (vy := (I 0)) (cdo hc) rfl geqI_ok) ?_
    refine ado rfl rfl rfl (ex_pick rfl pkAnd) ?_
    refine ado rfl rfl rfl (emv (eV (v := (Bo (((decide (t0.Addr > 0)) && (decide (t0.Addr ≤ 65535))) && (decide (t0.Birth ≥ 0))))) rfl)) ?_
    refine agu (v := (LP 0 1)) ((((decide (t0.Addr > 0)) && (decide (t0.Addr ≤ 65535))) && (decide (t0.Birth ≥ 0))) == true) rfl rfl rfl (fun hc => efa (v := (LP 0 1)) Try.underlying35 rfl s_3 (by decide) rfl rfl) ?_
    refine agu (v := (I t0.Birth)) ((((decide (t0.Addr > 0)) && (decide (t0.Addr ≤ 65535))) && (decide (t0.Birth ≥ 0))) == true) rfl rfl rfl (fun hc => tx_ldL1 (v := (I t0.Birth)) Try.underlying3 rfl (cdo hc) rfl rfl) ?_
    refine agu (v := (Bo (decide (t0.Birth ≤ 1073741824)))) ((((decide (t0.Addr > 0)) && (decide (t0.Addr ≤ 65535))) && (decide (t0.Birth ≥ 0))) == true) rfl rfl rfl (fun hc => ex_bin (vx := (I t0.Birth)) (vy := (I 1073741824)) (cdo hc) rfl leqI_ok) ?_
    refine ado rfl rfl rfl (ex_pick rfl pkAnd) ?_
    refine ado rfl rfl rfl (eas (eV (v := (Bo ((((decide (t0.Addr > 0)) && (decide (t0.Addr ≤ 65535))) && (decide (t0.Birth ≥ 0))) && (decide (t0.Birth ≤ 1073741824))))) rfl)) ?_
    refine ake [2] 0 0 (st' := ⟨27, 0, [(2, (Bo ((((decide (t0.Addr > 0)) && (decide (t0.Addr ≤ 65535))) && (decide (t0.Birth ≥ 0))) && (decide (t0.Birth ≤ 1073741824)))))], [], ⟨0, []⟩⟩) (by kernel_rfl) (by kernel_rfl) ?_
    show AWp _ _ _ _
    refine awp_ret ?_
    cases h
    exact ares1 (rtmp rfl (eV rfl))

noncomputable def M_uber_root_may (t0 : G_uber_root) : Option Bool :=
  Option.bind (gd (((((((decide (t0.Uber.Txg ≥ 1)) && (decide (t0.Uber.Txg ≤ 1073741824))) && (decide (t0.Uber.Guid ≥ 0))) && (decide (t0.Uber.Guid ≤ 1073741824))) && (decide (t0.Uber.Seat ≥ 0))) && (decide (t0.Uber.Seat < 6))) == true) (M_ptr_May t0.Uber.Root)) fun (x1 : Bool) => some ((((((((decide (t0.Uber.Txg ≥ 1)) && (decide (t0.Uber.Txg ≤ 1073741824))) && (decide (t0.Uber.Guid ≥ 0))) && (decide (t0.Uber.Guid ≤ 1073741824))) && (decide (t0.Uber.Seat ≥ 0))) && (decide (t0.Uber.Seat < 6))) && x1) && (!decide (t0.Uber.Root = (GPt.mk 0 0 (A4.mk 0 0 0 0)))))
theorem ok_uber_root_may (t0 : G_uber_root) (r : Bool) (h : M_uber_root_may t0 = some r) : FFn Try.prog 51 [(Value.agg (c_uber_root t0).toArray)] (Bo r) := by
  refine FFn.of_body (n := 50) Try.func51 rfl Try.ntmps51 rfl rfl rfl rfl ?_
  show AWp _ _ _ ⟨50, 0, [(0, (Value.agg (c_uber_root t0).toArray))], [], ⟨0, []⟩⟩
  unfold M_uber_root_may at h
  refine aws ?_
  refine awr ?_
  refine ado rfl rfl rfl (ex_box (vx := (Value.agg (c_uber_root t0).toArray)) (cs := (c_uber_root t0)) (k := 0) (L' := [(c_uber_root t0)]) (eV (v := (Value.agg (c_uber_root t0).toArray)) rfl) rfl rfl rfl) ?_
  refine ado rfl rfl rfl (eas (eV (v := (Bo false)) rfl)) ?_
  refine ake [1] 1 0 (st' := ⟨50, 0, [(1, (LP 0 0))], [(c_uber_root t0)], ⟨0, []⟩⟩) (by kernel_rfl) (by kernel_rfl) ?_
  show AWp _ _ _ _
  refine aws ?_
  refine awr ?_
  refine ado rfl rfl rfl (efa (v := (LP 0 0)) Try.underlying83 rfl s_37 (by decide) rfl rfl) ?_
  refine ado rfl rfl rfl (efa (v := (LP 0 0)) Try.underlying37 rfl s_3 (by decide) rfl rfl) ?_
  refine ado rfl rfl rfl (tx_ldL1 (v := (I t0.Uber.Txg)) Try.underlying3 rfl rfl rfl rfl) ?_
  refine ado rfl rfl rfl (ex_bin (vx := (I t0.Uber.Txg)) (vy := (I 1)) rfl rfl geqI_ok) ?_
  refine ado rfl rfl rfl (emv (eV (v := (Bo (decide (t0.Uber.Txg ≥ 1)))) rfl)) ?_
  refine agu (v := (LP 0 0)) ((decide (t0.Uber.Txg ≥ 1)) == true) rfl rfl rfl (fun hc => efa (v := (LP 0 0)) Try.underlying83 rfl s_37 (by decide) rfl rfl) ?_
  refine agu (v := (LP 0 0)) ((decide (t0.Uber.Txg ≥ 1)) == true) rfl rfl rfl (fun hc => efa (v := (LP 0 0)) Try.underlying37 rfl s_3 (by decide) (cdo hc) rfl) ?_
  refine agu (v := (I t0.Uber.Txg)) ((decide (t0.Uber.Txg ≥ 1)) == true) rfl rfl rfl (fun hc => tx_ldL1 (v := (I t0.Uber.Txg)) Try.underlying3 rfl (cdo hc) rfl rfl) ?_
  refine agu (v := (Bo (decide (t0.Uber.Txg ≤ 1073741824)))) ((decide (t0.Uber.Txg ≥ 1)) == true) rfl rfl rfl (fun hc => ex_bin (vx := (I t0.Uber.Txg)) (vy := (I 1073741824)) (cdo hc) rfl leqI_ok) ?_
  refine ado rfl rfl rfl (ex_pick rfl pkAnd) ?_
  refine ado rfl rfl rfl (emv (eV (v := (Bo ((decide (t0.Uber.Txg ≥ 1)) && (decide (t0.Uber.Txg ≤ 1073741824))))) rfl)) ?_
  refine agu (v := (LP 0 0)) (((decide (t0.Uber.Txg ≥ 1)) && (decide (t0.Uber.Txg ≤ 1073741824))) == true) rfl rfl rfl (fun hc => efa (v := (LP 0 0)) Try.underlying83 rfl s_37 (by decide) rfl rfl) ?_
  refine agu (v := (LP 0 1)) (((decide (t0.Uber.Txg ≥ 1)) && (decide (t0.Uber.Txg ≤ 1073741824))) == true) rfl rfl rfl (fun hc => efa (v := (LP 0 1)) Try.underlying37 rfl s_3 (by decide) (cdo hc) rfl) ?_
  refine agu (v := (I t0.Uber.Guid)) (((decide (t0.Uber.Txg ≥ 1)) && (decide (t0.Uber.Txg ≤ 1073741824))) == true) rfl rfl rfl (fun hc => tx_ldL1 (v := (I t0.Uber.Guid)) Try.underlying3 rfl (cdo hc) rfl rfl) ?_
  refine agu (v := (Bo (decide (t0.Uber.Guid ≥ 0)))) (((decide (t0.Uber.Txg ≥ 1)) && (decide (t0.Uber.Txg ≤ 1073741824))) == true) rfl rfl rfl (fun hc => ex_bin (vx := (I t0.Uber.Guid)) (vy := (I 0)) (cdo hc) rfl geqI_ok) ?_
  refine ado rfl rfl rfl (ex_pick rfl pkAnd) ?_
  refine ado rfl rfl rfl (emv (eV (v := (Bo (((decide (t0.Uber.Txg ≥ 1)) && (decide (t0.Uber.Txg ≤ 1073741824))) && (decide (t0.Uber.Guid ≥ 0))))) rfl)) ?_
  refine agu (v := (LP 0 0)) ((((decide (t0.Uber.Txg ≥ 1)) && (decide (t0.Uber.Txg ≤ 1073741824))) && (decide (t0.Uber.Guid ≥ 0))) == true) rfl rfl rfl (fun hc => efa (v := (LP 0 0)) Try.underlying83 rfl s_37 (by decide) rfl rfl) ?_
  refine agu (v := (LP 0 1)) ((((decide (t0.Uber.Txg ≥ 1)) && (decide (t0.Uber.Txg ≤ 1073741824))) && (decide (t0.Uber.Guid ≥ 0))) == true) rfl rfl rfl (fun hc => efa (v := (LP 0 1)) Try.underlying37 rfl s_3 (by decide) (cdo hc) rfl) ?_
  refine agu (v := (I t0.Uber.Guid)) ((((decide (t0.Uber.Txg ≥ 1)) && (decide (t0.Uber.Txg ≤ 1073741824))) && (decide (t0.Uber.Guid ≥ 0))) == true) rfl rfl rfl (fun hc => tx_ldL1 (v := (I t0.Uber.Guid)) Try.underlying3 rfl (cdo hc) rfl rfl) ?_
  refine agu (v := (Bo (decide (t0.Uber.Guid ≤ 1073741824)))) ((((decide (t0.Uber.Txg ≥ 1)) && (decide (t0.Uber.Txg ≤ 1073741824))) && (decide (t0.Uber.Guid ≥ 0))) == true) rfl rfl rfl (fun hc => ex_bin (vx := (I t0.Uber.Guid)) (vy := (I 1073741824)) (cdo hc) rfl leqI_ok) ?_
  refine ado rfl rfl rfl (ex_pick rfl pkAnd) ?_
  refine ado rfl rfl rfl (emv (eV (v := (Bo ((((decide (t0.Uber.Txg ≥ 1)) && (decide (t0.Uber.Txg ≤ 1073741824))) && (decide (t0.Uber.Guid ≥ 0))) && (decide (t0.Uber.Guid ≤ 1073741824))))) rfl)) ?_
  refine agu (v := (LP 0 0)) (((((decide (t0.Uber.Txg ≥ 1)) && (decide (t0.Uber.Txg ≤ 1073741824))) && (decide (t0.Uber.Guid ≥ 0))) && (decide (t0.Uber.Guid ≤ 1073741824))) == true) rfl rfl rfl (fun hc => efa (v := (LP 0 0)) Try.underlying83 rfl s_37 (by decide) rfl rfl) ?_
  refine agu (v := (LP 0 2)) (((((decide (t0.Uber.Txg ≥ 1)) && (decide (t0.Uber.Txg ≤ 1073741824))) && (decide (t0.Uber.Guid ≥ 0))) && (decide (t0.Uber.Guid ≤ 1073741824))) == true) rfl rfl rfl (fun hc => efa (v := (LP 0 2)) Try.underlying37 rfl s_3 (by decide) (cdo hc) rfl) ?_
  refine agu (v := (I t0.Uber.Seat)) (((((decide (t0.Uber.Txg ≥ 1)) && (decide (t0.Uber.Txg ≤ 1073741824))) && (decide (t0.Uber.Guid ≥ 0))) && (decide (t0.Uber.Guid ≤ 1073741824))) == true) rfl rfl rfl (fun hc => tx_ldL1 (v := (I t0.Uber.Seat)) Try.underlying3 rfl (cdo hc) rfl rfl) ?_
  refine agu (v := (Bo (decide (t0.Uber.Seat ≥ 0)))) (((((decide (t0.Uber.Txg ≥ 1)) && (decide (t0.Uber.Txg ≤ 1073741824))) && (decide (t0.Uber.Guid ≥ 0))) && (decide (t0.Uber.Guid ≤ 1073741824))) == true) rfl rfl rfl (fun hc => ex_bin (vx := (I t0.Uber.Seat)) (vy := (I 0)) (cdo hc) rfl geqI_ok) ?_
  refine ado rfl rfl rfl (ex_pick rfl pkAnd) ?_
  refine ado rfl rfl rfl (emv (eV (v := (Bo (((((decide (t0.Uber.Txg ≥ 1)) && (decide (t0.Uber.Txg ≤ 1073741824))) && (decide (t0.Uber.Guid ≥ 0))) && (decide (t0.Uber.Guid ≤ 1073741824))) && (decide (t0.Uber.Seat ≥ 0))))) rfl)) ?_
  refine agu (v := (LP 0 0)) ((((((decide (t0.Uber.Txg ≥ 1)) && (decide (t0.Uber.Txg ≤ 1073741824))) && (decide (t0.Uber.Guid ≥ 0))) && (decide (t0.Uber.Guid ≤ 1073741824))) && (decide (t0.Uber.Seat ≥ 0))) == true) rfl rfl rfl (fun hc => efa (v := (LP 0 0)) Try.underlying83 rfl s_37 (by decide) rfl rfl) ?_
  refine agu (v := (LP 0 2)) ((((((decide (t0.Uber.Txg ≥ 1)) && (decide (t0.Uber.Txg ≤ 1073741824))) && (decide (t0.Uber.Guid ≥ 0))) && (decide (t0.Uber.Guid ≤ 1073741824))) && (decide (t0.Uber.Seat ≥ 0))) == true) rfl rfl rfl (fun hc => efa (v := (LP 0 2)) Try.underlying37 rfl s_3 (by decide) (cdo hc) rfl) ?_
  refine agu (v := (I t0.Uber.Seat)) ((((((decide (t0.Uber.Txg ≥ 1)) && (decide (t0.Uber.Txg ≤ 1073741824))) && (decide (t0.Uber.Guid ≥ 0))) && (decide (t0.Uber.Guid ≤ 1073741824))) && (decide (t0.Uber.Seat ≥ 0))) == true) rfl rfl rfl (fun hc => tx_ldL1 (v := (I t0.Uber.Seat)) Try.underlying3 rfl (cdo hc) rfl rfl) ?_
  refine agu (v := (Bo (decide (t0.Uber.Seat < 6)))) ((((((decide (t0.Uber.Txg ≥ 1)) && (decide (t0.Uber.Txg ≤ 1073741824))) && (decide (t0.Uber.Guid ≥ 0))) && (decide (t0.Uber.Guid ≤ 1073741824))) && (decide (t0.Uber.Seat ≥ 0))) == true) rfl rfl rfl (fun hc => ex_bin (vx := (I t0.Uber.Seat)) (vy := (I 6)) (cdo hc) rfl lssI_ok) ?_
  refine ado rfl rfl rfl (ex_pick rfl pkAnd) ?_
  refine ado rfl rfl rfl (emv (eV (v := (Bo ((((((decide (t0.Uber.Txg ≥ 1)) && (decide (t0.Uber.Txg ≤ 1073741824))) && (decide (t0.Uber.Guid ≥ 0))) && (decide (t0.Uber.Guid ≤ 1073741824))) && (decide (t0.Uber.Seat ≥ 0))) && (decide (t0.Uber.Seat < 6))))) rfl)) ?_
  refine agu (v := (LP 0 0)) (((((((decide (t0.Uber.Txg ≥ 1)) && (decide (t0.Uber.Txg ≤ 1073741824))) && (decide (t0.Uber.Guid ≥ 0))) && (decide (t0.Uber.Guid ≤ 1073741824))) && (decide (t0.Uber.Seat ≥ 0))) && (decide (t0.Uber.Seat < 6))) == true) rfl rfl rfl (fun hc => efa (v := (LP 0 0)) Try.underlying83 rfl s_37 (by decide) rfl rfl) ?_
  refine agu (v := (LP 0 3)) (((((((decide (t0.Uber.Txg ≥ 1)) && (decide (t0.Uber.Txg ≤ 1073741824))) && (decide (t0.Uber.Guid ≥ 0))) && (decide (t0.Uber.Guid ≤ 1073741824))) && (decide (t0.Uber.Seat ≥ 0))) && (decide (t0.Uber.Seat < 6))) == true) rfl rfl rfl (fun hc => efa (v := (LP 0 3)) Try.underlying37 rfl s_35 (by decide) (cdo hc) rfl) ?_
  refine agu (v := (Value.agg (cPt t0.Uber.Root).toArray)) (((((((decide (t0.Uber.Txg ≥ 1)) && (decide (t0.Uber.Txg ≤ 1073741824))) && (decide (t0.Uber.Guid ≥ 0))) && (decide (t0.Uber.Guid ≤ 1073741824))) && (decide (t0.Uber.Seat ≥ 0))) && (decide (t0.Uber.Seat < 6))) == true) rfl rfl rfl (fun hc => tx_ldLA (vs := (cPt t0.Uber.Root)) Try.underlying35 rfl s_35 (by decide) (cdo hc) rfl rfl rfl) ?_
  obtain ⟨x1, hx1, h⟩ := bindS h
  refine agu (v := (Bo x1)) (((((((decide (t0.Uber.Txg ≥ 1)) && (decide (t0.Uber.Txg ≤ 1073741824))) && (decide (t0.Uber.Guid ≥ 0))) && (decide (t0.Uber.Guid ≤ 1073741824))) && (decide (t0.Uber.Seat ≥ 0))) && (decide (t0.Uber.Seat < 6))) == true) rfl rfl rfl (fun hc => ex_call0 (vs := [(Value.agg (cPt t0.Uber.Root).toArray)]) (v := (Bo x1)) rfl en_65 (cargs (evs (cdo hc) evs_nil)) rfl (ok_ptr_May t0.Uber.Root x1 (gd_of hc hx1)) rfl) ?_
  refine ado rfl rfl rfl (ex_pick rfl pkAnd) ?_
  refine ado rfl rfl rfl (emv (eV (v := (Bo (((((((decide (t0.Uber.Txg ≥ 1)) && (decide (t0.Uber.Txg ≤ 1073741824))) && (decide (t0.Uber.Guid ≥ 0))) && (decide (t0.Uber.Guid ≤ 1073741824))) && (decide (t0.Uber.Seat ≥ 0))) && (decide (t0.Uber.Seat < 6))) && x1))) rfl)) ?_
  refine agu (v := (LP 0 0)) ((((((((decide (t0.Uber.Txg ≥ 1)) && (decide (t0.Uber.Txg ≤ 1073741824))) && (decide (t0.Uber.Guid ≥ 0))) && (decide (t0.Uber.Guid ≤ 1073741824))) && (decide (t0.Uber.Seat ≥ 0))) && (decide (t0.Uber.Seat < 6))) && x1) == true) rfl rfl rfl (fun hc => efa (v := (LP 0 0)) Try.underlying83 rfl s_37 (by decide) rfl rfl) ?_
  refine agu (v := (LP 0 3)) ((((((((decide (t0.Uber.Txg ≥ 1)) && (decide (t0.Uber.Txg ≤ 1073741824))) && (decide (t0.Uber.Guid ≥ 0))) && (decide (t0.Uber.Guid ≤ 1073741824))) && (decide (t0.Uber.Seat ≥ 0))) && (decide (t0.Uber.Seat < 6))) && x1) == true) rfl rfl rfl (fun hc => efa (v := (LP 0 3)) Try.underlying37 rfl s_35 (by decide) (cdo hc) rfl) ?_
  refine agu (v := (Value.agg (cPt t0.Uber.Root).toArray)) ((((((((decide (t0.Uber.Txg ≥ 1)) && (decide (t0.Uber.Txg ≤ 1073741824))) && (decide (t0.Uber.Guid ≥ 0))) && (decide (t0.Uber.Guid ≤ 1073741824))) && (decide (t0.Uber.Seat ≥ 0))) && (decide (t0.Uber.Seat < 6))) && x1) == true) rfl rfl rfl (fun hc => tx_ldLA (vs := (cPt t0.Uber.Root)) Try.underlying35 rfl s_35 (by decide) (cdo hc) rfl rfl rfl) ?_
  refine agu (v := (Value.agg (cPt (GPt.mk 0 0 (A4.mk 0 0 0 0))).toArray)) ((((((((decide (t0.Uber.Txg ≥ 1)) && (decide (t0.Uber.Txg ≤ 1073741824))) && (decide (t0.Uber.Guid ≥ 0))) && (decide (t0.Uber.Guid ≤ 1073741824))) && (decide (t0.Uber.Seat ≥ 0))) && (decide (t0.Uber.Seat < 6))) && x1) == true) rfl rfl rfl (fun hc => ex_build (qs := []) (v := (Value.agg (cPt (GPt.mk 0 0 (A4.mk 0 0 0 0))).toArray)) evp_nil (by kernel_rfl)) ?_
  refine agu (v := (Bo (!decide (t0.Uber.Root = (GPt.mk 0 0 (A4.mk 0 0 0 0)))))) ((((((((decide (t0.Uber.Txg ≥ 1)) && (decide (t0.Uber.Txg ≤ 1073741824))) && (decide (t0.Uber.Guid ≥ 0))) && (decide (t0.Uber.Guid ≤ 1073741824))) && (decide (t0.Uber.Seat ≥ 0))) && (decide (t0.Uber.Seat < 6))) && x1) == true) rfl rfl rfl (fun hc => ex_bin (vx := (Value.agg (cPt t0.Uber.Root).toArray)) (vy := (Value.agg (cPt (GPt.mk 0 0 (A4.mk 0 0 0 0))).toArray)) (cdo hc) (cdo hc) neq_35) ?_
  refine ado rfl rfl rfl (ex_pick rfl pkAnd) ?_
  refine ado rfl rfl rfl (eas (eV (v := (Bo ((((((((decide (t0.Uber.Txg ≥ 1)) && (decide (t0.Uber.Txg ≤ 1073741824))) && (decide (t0.Uber.Guid ≥ 0))) && (decide (t0.Uber.Guid ≤ 1073741824))) && (decide (t0.Uber.Seat ≥ 0))) && (decide (t0.Uber.Seat < 6))) && x1) && (!decide (t0.Uber.Root = (GPt.mk 0 0 (A4.mk 0 0 0 0))))))) rfl)) ?_
  refine ake [2] 0 0 (st' := ⟨50, 0, [(2, (Bo ((((((((decide (t0.Uber.Txg ≥ 1)) && (decide (t0.Uber.Txg ≤ 1073741824))) && (decide (t0.Uber.Guid ≥ 0))) && (decide (t0.Uber.Guid ≤ 1073741824))) && (decide (t0.Uber.Seat ≥ 0))) && (decide (t0.Uber.Seat < 6))) && x1) && (!decide (t0.Uber.Root = (GPt.mk 0 0 (A4.mk 0 0 0 0)))))))], [], ⟨0, []⟩⟩) (by kernel_rfl) (by kernel_rfl) ?_
  show AWp _ _ _ _
  refine awp_ret ?_
  cases h
  exact ares1 (rtmp rfl (eV rfl))

noncomputable def M_uber_May (t0 : GUb) : Option Bool :=
  Option.bind (M_uber_root_may (G_uber_root.mk t0)) fun (x1 : Bool) => some x1
theorem ok_uber_May (t0 : GUb) (r : Bool) (h : M_uber_May t0 = some r) : FFn Try.prog 32 [(Value.agg (cUb t0).toArray)] (Bo r) := by
  refine FFn.of_body (n := 6) Try.func32 rfl Try.ntmps32 rfl rfl rfl rfl ?_
  show AWp _ _ _ ⟨6, 0, [(0, (Value.agg (cUb t0).toArray))], [], ⟨0, []⟩⟩
  unfold M_uber_May at h
  refine aws ?_
  refine awr ?_
  refine ado rfl rfl rfl (ex_box (vx := (Value.agg (cUb t0).toArray)) (cs := (cUb t0)) (k := 0) (L' := [(cUb t0)]) (eV (v := (Value.agg (cUb t0).toArray)) rfl) rfl rfl rfl) ?_
  refine ado rfl rfl rfl (eas (eV (v := (Bo false)) rfl)) ?_
  refine ake [1] 1 0 (st' := ⟨6, 0, [(1, (LP 0 0))], [(cUb t0)], ⟨0, []⟩⟩) (by kernel_rfl) (by kernel_rfl) ?_
  show AWp _ _ _ _
  refine aws ?_
  refine awr ?_
  refine ado rfl rfl rfl (tx_ldLA (vs := (cUb t0)) Try.underlying37 rfl s_37 (by decide) rfl rfl rfl rfl) ?_
  refine ado rfl rfl rfl (ex_build (qs := [(0, (Value.agg (cUb t0).toArray))]) (v := (Value.agg (c_uber_root (G_uber_root.mk t0)).toArray)) (evp rfl evp_nil) (by kernel_rfl)) ?_
  obtain ⟨x1, hx1, h⟩ := bindS h
  refine ado rfl rfl rfl (ex_call0 (vs := [(Value.agg (c_uber_root (G_uber_root.mk t0)).toArray)]) (v := (Bo x1)) rfl en_51 (cargs (evs rfl evs_nil)) rfl (ok_uber_root_may (G_uber_root.mk t0) x1 hx1) rfl) ?_
  refine ado rfl rfl rfl (eas (eV (v := (Bo x1)) rfl)) ?_
  refine ake [2] 0 0 (st' := ⟨6, 0, [(2, (Bo x1))], [], ⟨0, []⟩⟩) (by kernel_rfl) (by kernel_rfl) ?_
  show AWp _ _ _ _
  refine awp_ret ?_
  cases h
  exact ares1 (rtmp rfl (eV rfl))

noncomputable def M_label_At_k1 (y3 : Int) : Option Int :=
  some y3
noncomputable def M_label_At (t0 : Int) (t1 : Int) : Option Int :=
  Option.bind (M_label_may t0) fun (x1 : Bool) => cond (((!x1) || (decide (t1 < 0))) || (decide (t1 ≥ 4))) (some (-1)) (cond (decide (t1 ≥ 2)) (M_label_At_k1 (w64 ((w64 (t1 * 7)) + t0))) (M_label_At_k1 (w64 (t1 * 7))))
theorem ok_label_At (t0 : Int) (t1 : Int) (r : Int) (h : M_label_At t0 t1 = some r) : FFn Try.prog 10 [(I t0), (I t1)] (I r) := by
  refine FFn.of_body (n := 25) Try.func10 rfl Try.ntmps10 rfl rfl rfl rfl ?_
  show AWp _ _ _ ⟨25, 0, [(0, (I t0)), (1, (I t1))], [], ⟨0, []⟩⟩
  unfold M_label_At at h
  refine aws ?_
  refine awr ?_
  refine ado rfl rfl rfl (eas (eV (v := (I 0)) rfl)) ?_
  refine ake [0, 1] 0 0 (st' := ⟨25, 0, [(0, (I t0)), (1, (I t1))], [], ⟨0, []⟩⟩) (by kernel_rfl) (by kernel_rfl) ?_
  show AWp _ _ _ _
  refine aws ?_
  refine aws ?_
  refine awr ?_
  refine ado rfl rfl rfl (emv (eV (v := (I t0)) rfl)) ?_
  obtain ⟨x1, hx1, h⟩ := bindS h
  refine ado rfl rfl rfl (ex_call0 (vs := [(I t0)]) (v := (Bo x1)) rfl en_29 (cargs (evs rfl evs_nil)) rfl (ok_label_may t0 x1 hx1) rfl) ?_
  refine ado rfl rfl rfl (ex_un (vx := (Bo x1)) rfl notB_ok) ?_
  refine ado rfl rfl rfl (emv (eV (v := (Bo (!x1))) rfl)) ?_
  refine agu (v := (I t1)) ((!x1) == false) rfl rfl rfl (fun hc => emv (eV (v := (I t1)) rfl)) ?_
  refine agu (v := (Bo (decide (t1 < 0)))) ((!x1) == false) rfl rfl rfl (fun hc => ex_bin (vx := (I t1)) (vy := (I 0)) (cdo hc) rfl lssI_ok) ?_
  refine ado rfl rfl rfl (ex_pick rfl pkOr) ?_
  refine ado rfl rfl rfl (emv (eV (v := (Bo ((!x1) || (decide (t1 < 0))))) rfl)) ?_
  refine agu (v := (I t1)) (((!x1) || (decide (t1 < 0))) == false) rfl rfl rfl (fun hc => emv (eV (v := (I t1)) rfl)) ?_
  refine agu (v := (Bo (decide (t1 ≥ 4)))) (((!x1) || (decide (t1 < 0))) == false) rfl rfl rfl (fun hc => ex_bin (vx := (I t1)) (vy := (I 4)) (cdo hc) rfl geqI_ok) ?_
  refine ado rfl rfl rfl (ex_pick rfl pkOr) ?_
  refine ake [0, 1, 16] 0 0 (st' := ⟨25, 0, [(0, (I t0)), (1, (I t1)), (16, (Bo (((!x1) || (decide (t1 < 0))) || (decide (t1 ≥ 4)))))], [], ⟨0, []⟩⟩) (by kernel_rfl) (by kernel_rfl) ?_
  show AWp _ _ _ _
  rcases Bool.eq_false_or_eq_true (((!x1) || (decide (t1 < 0))) || (decide (t1 ≥ 4))) with hb2 | hb2
  · rw [condT hb2] at h
    refine awp_condT (boT hb2) ?_
    refine aws ?_
    refine awr ?_
    refine ado rfl rfl rfl (eas (eV (v := (I (-1))) rfl)) ?_
    refine ake [4] 0 0 (st' := ⟨25, 0, [(4, (I (-1)))], [], ⟨0, []⟩⟩) (by kernel_rfl) (by kernel_rfl) ?_
    show AWp _ _ _ _
    refine awp_ret ?_
    cases h
    exact ares1 (rtmp rfl (eV rfl))
  · rw [condF hb2] at h
    refine awp_condF (boF hb2) ?_
    refine awp_skip ?_
    show AWp _ _ _ _
    refine aws ?_
    refine awr ?_
    refine ado rfl rfl rfl (emv (eV (v := (I t1)) rfl)) ?_
    refine ado rfl rfl rfl (ex_bin (vx := (I t1)) (vy := (I 7)) rfl rfl mulI_ok) ?_
    refine ado rfl rfl rfl (eas (eV (v := (I (w64 (t1 * 7)))) rfl)) ?_
    refine ake [0, 1, 5] 0 0 (st' := ⟨25, 0, [(0, (I t0)), (1, (I t1)), (5, (I (w64 (t1 * 7))))], [], ⟨0, []⟩⟩) (by kernel_rfl) (by kernel_rfl) ?_
    show AWp _ _ _ _
    refine awp_seqJ (fun s => ∃ (y3 : Int), s = ⟨25, 0, [(5, (I y3))], [], ⟨0, []⟩⟩ ∧ M_label_At_k1 y3 = some r) ?_ ?_
    · refine aws ?_
      refine awr ?_
      refine ado rfl rfl rfl (emv (eV (v := (I t1)) rfl)) ?_
      refine ado rfl rfl rfl (ex_bin (vx := (I t1)) (vy := (I 2)) rfl rfl geqI_ok) ?_
      refine ake [0, 5, 20] 0 0 (st' := ⟨25, 0, [(0, (I t0)), (5, (I (w64 (t1 * 7)))), (20, (Bo (decide (t1 ≥ 2))))], [], ⟨0, []⟩⟩) (by kernel_rfl) (by kernel_rfl) ?_
      show AWp _ _ _ _
      rcases Bool.eq_false_or_eq_true (decide (t1 ≥ 2)) with hb4 | hb4
      · rw [condT hb4] at h
        refine awp_condT (boT hb4) ?_
        refine awr ?_
        refine ado rfl rfl rfl (emv (eV (v := (I (w64 (t1 * 7)))) rfl)) ?_
        refine ado rfl rfl rfl (emv (eV (v := (I t0)) rfl)) ?_
        refine ado rfl rfl rfl (ex_bin (vx := (I (w64 (t1 * 7)))) (vy := (I t0)) rfl rfl addI_ok) ?_
        refine ado rfl rfl rfl (eas (eV (v := (I (w64 ((w64 (t1 * 7)) + t0)))) rfl)) ?_
        refine ake [5] 0 0 (st' := ⟨25, 0, [(5, (I (w64 ((w64 (t1 * 7)) + t0))))], [], ⟨0, []⟩⟩) (by kernel_rfl) (by kernel_rfl) ?_
        exact (Exists.intro (w64 ((w64 (t1 * 7)) + t0)) (And.intro rfl h))
      · rw [condF hb4] at h
        refine awp_condF (boF hb4) ?_
        refine awp_keepE [5] 0 0 (st' := ⟨25, 0, [(5, (I (w64 (t1 * 7))))], [], ⟨0, []⟩⟩) (by kernel_rfl) (by kernel_rfl) ?_
        refine awp_skip ?_
        exact (Exists.intro (w64 (t1 * 7)) (And.intro rfl h))
    · rintro s ⟨y3, rfl, h⟩
      unfold M_label_At_k1 at h
      refine aws ?_
      refine awr ?_
      refine ado rfl rfl rfl (emv (eV (v := (I y3)) rfl)) ?_
      refine ado rfl rfl rfl (eas (eV (v := (I y3)) rfl)) ?_
      refine ake [4] 0 0 (st' := ⟨25, 0, [(4, (I y3))], [], ⟨0, []⟩⟩) (by kernel_rfl) (by kernel_rfl) ?_
      show AWp _ _ _ _
      refine awp_ret ?_
      cases h
      exact ares1 (rtmp rfl (eV rfl))

noncomputable def M_label_Slot (t0 : Int) (t1 : Int) (t2 : Int) : Option Int :=
  Option.bind (M_label_At t0 t1) fun (x1 : Int) => cond (((decide (x1 < 0)) || (decide (t2 < 0))) || (decide (t2 ≥ 6))) (some (-1)) (some (w64 ((w64 (x1 + 1)) + t2)))
theorem ok_label_Slot (t0 : Int) (t1 : Int) (t2 : Int) (r : Int) (h : M_label_Slot t0 t1 t2 = some r) : FFn Try.prog 12 [(I t0), (I t1), (I t2)] (I r) := by
  refine FFn.of_body (n := 25) Try.func12 rfl Try.ntmps12 rfl rfl rfl rfl ?_
  show AWp _ _ _ ⟨25, 0, [(0, (I t0)), (1, (I t1)), (2, (I t2))], [], ⟨0, []⟩⟩
  unfold M_label_Slot at h
  refine aws ?_
  refine awr ?_
  refine ado rfl rfl rfl (eas (eV (v := (I 0)) rfl)) ?_
  refine ake [0, 1, 2] 0 0 (st' := ⟨25, 0, [(0, (I t0)), (1, (I t1)), (2, (I t2))], [], ⟨0, []⟩⟩) (by kernel_rfl) (by kernel_rfl) ?_
  show AWp _ _ _ _
  refine aws ?_
  refine awr ?_
  refine ado rfl rfl rfl (emv (eV (v := (I t0)) rfl)) ?_
  refine ado rfl rfl rfl (emv (eV (v := (I t1)) rfl)) ?_
  obtain ⟨x1, hx1, h⟩ := bindS h
  refine ado rfl rfl rfl (ex_call0 (vs := [(I t0), (I t1)]) (v := (I x1)) rfl en_10 (cargs (evs rfl (evs rfl evs_nil))) rfl (ok_label_At t0 t1 x1 hx1) rfl) ?_
  refine ado rfl rfl rfl (eas (eV (v := (I x1)) rfl)) ?_
  refine ake [2, 7] 0 0 (st' := ⟨25, 0, [(2, (I t2)), (7, (I x1))], [], ⟨0, []⟩⟩) (by kernel_rfl) (by kernel_rfl) ?_
  show AWp _ _ _ _
  refine aws ?_
  refine aws ?_
  refine awr ?_
  refine ado rfl rfl rfl (emv (eV (v := (I x1)) rfl)) ?_
  refine ado rfl rfl rfl (ex_bin (vx := (I x1)) (vy := (I 0)) rfl rfl lssI_ok) ?_
  refine ado rfl rfl rfl (emv (eV (v := (Bo (decide (x1 < 0)))) rfl)) ?_
  refine agu (v := (I t2)) ((decide (x1 < 0)) == false) rfl rfl rfl (fun hc => emv (eV (v := (I t2)) rfl)) ?_
  refine agu (v := (Bo (decide (t2 < 0)))) ((decide (x1 < 0)) == false) rfl rfl rfl (fun hc => ex_bin (vx := (I t2)) (vy := (I 0)) (cdo hc) rfl lssI_ok) ?_
  refine ado rfl rfl rfl (ex_pick rfl pkOr) ?_
  refine ado rfl rfl rfl (emv (eV (v := (Bo ((decide (x1 < 0)) || (decide (t2 < 0))))) rfl)) ?_
  refine agu (v := (I t2)) (((decide (x1 < 0)) || (decide (t2 < 0))) == false) rfl rfl rfl (fun hc => emv (eV (v := (I t2)) rfl)) ?_
  refine agu (v := (Bo (decide (t2 ≥ 6)))) (((decide (x1 < 0)) || (decide (t2 < 0))) == false) rfl rfl rfl (fun hc => ex_bin (vx := (I t2)) (vy := (I 6)) (cdo hc) rfl geqI_ok) ?_
  refine ado rfl rfl rfl (ex_pick rfl pkOr) ?_
  refine ake [2, 7, 20] 0 0 (st' := ⟨25, 0, [(2, (I t2)), (7, (I x1)), (20, (Bo (((decide (x1 < 0)) || (decide (t2 < 0))) || (decide (t2 ≥ 6)))))], [], ⟨0, []⟩⟩) (by kernel_rfl) (by kernel_rfl) ?_
  show AWp _ _ _ _
  rcases Bool.eq_false_or_eq_true (((decide (x1 < 0)) || (decide (t2 < 0))) || (decide (t2 ≥ 6))) with hb2 | hb2
  · rw [condT hb2] at h
    refine awp_condT (boT hb2) ?_
    refine aws ?_
    refine awr ?_
    refine ado rfl rfl rfl (eas (eV (v := (I (-1))) rfl)) ?_
    refine ake [6] 0 0 (st' := ⟨25, 0, [(6, (I (-1)))], [], ⟨0, []⟩⟩) (by kernel_rfl) (by kernel_rfl) ?_
    show AWp _ _ _ _
    refine awp_ret ?_
    cases h
    exact ares1 (rtmp rfl (eV rfl))
  · rw [condF hb2] at h
    refine awp_condF (boF hb2) ?_
    refine awp_skip ?_
    show AWp _ _ _ _
    refine aws ?_
    refine awr ?_
    refine ado rfl rfl rfl (emv (eV (v := (I x1)) rfl)) ?_
    refine ado rfl rfl rfl (ex_bin (vx := (I x1)) (vy := (I 1)) rfl rfl addI_ok) ?_
    refine ado rfl rfl rfl (emv (eV (v := (I t2)) rfl)) ?_
    refine ado rfl rfl rfl (ex_bin (vx := (I (w64 (x1 + 1)))) (vy := (I t2)) rfl rfl addI_ok) ?_
    refine ado rfl rfl rfl (eas (eV (v := (I (w64 ((w64 (x1 + 1)) + t2)))) rfl)) ?_
    refine ake [6] 0 0 (st' := ⟨25, 0, [(6, (I (w64 ((w64 (x1 + 1)) + t2))))], [], ⟨0, []⟩⟩) (by kernel_rfl) (by kernel_rfl) ?_
    show AWp _ _ _ _
    refine awp_ret ?_
    cases h
    exact ares1 (rtmp rfl (eV rfl))

end Go.Proofs
