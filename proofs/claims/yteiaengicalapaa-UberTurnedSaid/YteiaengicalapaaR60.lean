/- Pure models of functions of the program, and that its code does what they say: ptr May, uber root may, pack sizes. Written by a program. -/
import Derived.Test.YteiaengicalapaaR6B
set_option maxRecDepth 20000
set_option maxHeartbeats 4000000
namespace Go.Proofs
open Go Go.Fhl
set_option linter.unusedVariables false
set_option linter.unusedSimpArgs false
noncomputable def M_ptr_May (t0 : G_api_Ptr) : Option Bool :=
  cond (t0.Addr == 0) (some (decide (t0 = (G_api_Ptr.mk 0 0 (A4.mk 0 0 0 0))))) (some ((((decide (t0.Addr > 0)) && (decide (t0.Addr ≤ 65535))) && (decide (t0.Birth ≥ 0))) && (decide (t0.Birth ≤ 1073741824))))
theorem ok_ptr_May (t0 : G_api_Ptr) (r : Bool) (h : M_ptr_May t0 = some r) : FFn Try.prog 33 [(Value.agg (c_api_Ptr t0).toArray)] (Bo r) := by
  refine FFn.of_body (n := 27) Try.func33 rfl Try.ntmps33 rfl rfl rfl rfl ?_
  show AWp _ _ _ ⟨27, 0, [(0, (Value.agg (c_api_Ptr t0).toArray))], [], ⟨0, []⟩⟩
  unfold M_ptr_May at h
  refine awp_seq ?_
  refine awp_region ?_
  refine arun_do rfl rfl rfl (ex_box (vx := (Value.agg (c_api_Ptr t0).toArray)) (cs := (c_api_Ptr t0)) (k := 0) (L' := [(c_api_Ptr t0)]) (eV (v := (Value.agg (c_api_Ptr t0).toArray)) rfl) rfl rfl rfl) ?_
  refine arun_do rfl rfl rfl (ex_assign (eV (v := (Bo false)) rfl)) ?_
  refine arun_keepE [1] 1 0 (st' := ⟨27, 0, [(1, (LP 0 0))], [(c_api_Ptr t0)], ⟨0, []⟩⟩) (by kernel_rfl) (by kernel_rfl) ?_
  show AWp _ _ _ _
  refine awp_seq ?_
  refine awp_seq ?_
  refine awp_region ?_
  refine arun_do rfl rfl rfl (ex_fieldAddr (v := (LP 0 0)) Try.underlying26 rfl s_3 (by decide) rfl rfl) ?_
  refine arun_do rfl rfl rfl (tx_ldL1 (v := (I t0.Addr)) Try.underlying3 rfl rfl rfl rfl) ?_
  refine arun_do rfl rfl rfl (ex_bin (vx := (I t0.Addr)) (vy := (I 0)) rfl rfl eqlI_ok) ?_
  refine arun_keepE [1, 5] 1 0 (st' := ⟨27, 0, [(1, (LP 0 0)), (5, (Bo (t0.Addr == 0)))], [(c_api_Ptr t0)], ⟨0, []⟩⟩) (by kernel_rfl) (by kernel_rfl) ?_
  show AWp _ _ _ _
  rcases Bool.eq_false_or_eq_true (t0.Addr == 0) with hb1 | hb1
  · rw [condT hb1] at h
    refine awp_condT (boT hb1) ?_
    refine awp_seq ?_
    refine awp_region ?_
    refine arun_do rfl rfl rfl (tx_ldLA (vs := (c_api_Ptr t0)) Try.underlying26 rfl s_26 (by decide) rfl rfl rfl rfl) ?_
    refine arun_do rfl rfl rfl (ex_build (qs := []) (v := (Value.agg (c_api_Ptr (G_api_Ptr.mk 0 0 (A4.mk 0 0 0 0))).toArray)) evp_nil (by kernel_rfl)) ?_
    refine arun_do rfl rfl rfl (ex_bin (vx := (Value.agg (c_api_Ptr t0).toArray)) (vy := (Value.agg (c_api_Ptr (G_api_Ptr.mk 0 0 (A4.mk 0 0 0 0))).toArray)) rfl rfl eql_26) ?_
    refine arun_do rfl rfl rfl (ex_assign (eV (v := (Bo (decide (t0 = (G_api_Ptr.mk 0 0 (A4.mk 0 0 0 0)))))) rfl)) ?_
    refine arun_keepE [2] 0 0 (st' := ⟨27, 0, [(2, (Bo (decide (t0 = (G_api_Ptr.mk 0 0 (A4.mk 0 0 0 0))))))], [], ⟨0, []⟩⟩) (by kernel_rfl) (by kernel_rfl) ?_
    show AWp _ _ _ _
    refine awp_ret ?_
    cases h
    exact ares1 (rtmp rfl (eV rfl))
  · rw [condF hb1] at h
    refine awp_condF (boF hb1) ?_
    refine awp_skip ?_
    show AWp _ _ _ _
    refine awp_seq ?_
    refine awp_region ?_
    refine arun_do rfl rfl rfl (ex_fieldAddr (v := (LP 0 0)) Try.underlying26 rfl s_3 (by decide) rfl rfl) ?_
    refine arun_do rfl rfl rfl (tx_ldL1 (v := (I t0.Addr)) Try.underlying3 rfl rfl rfl rfl) ?_
    refine arun_do rfl rfl rfl (ex_bin (vx := (I t0.Addr)) (vy := (I 0)) rfl rfl gtrI_ok) ?_
    refine arun_do rfl rfl rfl (ex_move (eV (v := (Bo (decide (t0.Addr > 0)))) rfl)) ?_
    refine arun_guard (v := (LP 0 0)) ((decide (t0.Addr > 0)) == true) rfl rfl rfl (fun hc => ex_fieldAddr (v := (LP 0 0)) Try.underlying26 rfl s_3 (by decide) rfl rfl) ?_
    refine arun_guard (v := (I t0.Addr)) ((decide (t0.Addr > 0)) == true) rfl rfl rfl (fun hc => tx_ldL1 (v := (I t0.Addr)) Try.underlying3 rfl (cond_of hc) rfl rfl) ?_
    refine arun_guard (v := (Bo (decide (t0.Addr ≤ 65535)))) ((decide (t0.Addr > 0)) == true) rfl rfl rfl (fun hc => ex_bin (vx := (I t0.Addr)) (vy := (I 65535)) (cond_of hc) rfl leqI_ok) ?_
    refine arun_do rfl rfl rfl (ex_pick rfl pkAnd) ?_
    refine arun_do rfl rfl rfl (ex_move (eV (v := (Bo ((decide (t0.Addr > 0)) && (decide (t0.Addr ≤ 65535))))) rfl)) ?_
    refine arun_guard (v := (LP 0 1)) (((decide (t0.Addr > 0)) && (decide (t0.Addr ≤ 65535))) == true) rfl rfl rfl (fun hc => ex_fieldAddr (v := (LP 0 1)) Try.underlying26 rfl s_3 (by decide) rfl rfl) ?_
    refine arun_guard (v := (I t0.Birth)) (((decide (t0.Addr > 0)) && (decide (t0.Addr ≤ 65535))) == true) rfl rfl rfl (fun hc => tx_ldL1 (v := (I t0.Birth)) Try.underlying3 rfl (cond_of hc) rfl rfl) ?_
    refine arun_guard (v := (Bo (decide (t0.Birth ≥ 0)))) (((decide (t0.Addr > 0)) && (decide (t0.Addr ≤ 65535))) == true) rfl rfl rfl (fun hc => ex_bin (vx := (I t0.Birth)) (vy := (I 0)) (cond_of hc) rfl geqI_ok) ?_
    refine arun_do rfl rfl rfl (ex_pick rfl pkAnd) ?_
    refine arun_do rfl rfl rfl (ex_move (eV (v := (Bo (((decide (t0.Addr > 0)) && (decide (t0.Addr ≤ 65535))) && (decide (t0.Birth ≥ 0))))) rfl)) ?_
    refine arun_guard (v := (LP 0 1)) ((((decide (t0.Addr > 0)) && (decide (t0.Addr ≤ 65535))) && (decide (t0.Birth ≥ 0))) == true) rfl rfl rfl (fun hc => ex_fieldAddr (v := (LP 0 1)) Try.underlying26 rfl s_3 (by decide) rfl rfl) ?_
    refine arun_guard (v := (I t0.Birth)) ((((decide (t0.Addr > 0)) && (decide (t0.Addr ≤ 65535))) && (decide (t0.Birth ≥ 0))) == true) rfl rfl rfl (fun hc => tx_ldL1 (v := (I t0.Birth)) Try.underlying3 rfl (cond_of hc) rfl rfl) ?_
    refine arun_guard (v := (Bo (decide (t0.Birth ≤ 1073741824)))) ((((decide (t0.Addr > 0)) && (decide (t0.Addr ≤ 65535))) && (decide (t0.Birth ≥ 0))) == true) rfl rfl rfl (fun hc => ex_bin (vx := (I t0.Birth)) (vy := (I 1073741824)) (cond_of hc) rfl leqI_ok) ?_
    refine arun_do rfl rfl rfl (ex_pick rfl pkAnd) ?_
    refine arun_do rfl rfl rfl (ex_assign (eV (v := (Bo ((((decide (t0.Addr > 0)) && (decide (t0.Addr ≤ 65535))) && (decide (t0.Birth ≥ 0))) && (decide (t0.Birth ≤ 1073741824))))) rfl)) ?_
    refine arun_keepE [2] 0 0 (st' := ⟨27, 0, [(2, (Bo ((((decide (t0.Addr > 0)) && (decide (t0.Addr ≤ 65535))) && (decide (t0.Birth ≥ 0))) && (decide (t0.Birth ≤ 1073741824)))))], [], ⟨0, []⟩⟩) (by kernel_rfl) (by kernel_rfl) ?_
    show AWp _ _ _ _
    refine awp_ret ?_
    cases h
    exact ares1 (rtmp rfl (eV rfl))

noncomputable def M_uber_root_may (t0 : G_uber_root) : Option Bool :=
  Option.bind (gd (((((((decide (t0.Uber.Txg ≥ 1)) && (decide (t0.Uber.Txg ≤ 1073741824))) && (decide (t0.Uber.Guid ≥ 0))) && (decide (t0.Uber.Guid ≤ 1073741824))) && (decide (t0.Uber.Seat ≥ 0))) && (decide (t0.Uber.Seat < 6))) == true) (M_ptr_May t0.Uber.Root)) fun (x1 : Bool) => some ((((((((decide (t0.Uber.Txg ≥ 1)) && (decide (t0.Uber.Txg ≤ 1073741824))) && (decide (t0.Uber.Guid ≥ 0))) && (decide (t0.Uber.Guid ≤ 1073741824))) && (decide (t0.Uber.Seat ≥ 0))) && (decide (t0.Uber.Seat < 6))) && x1) && (!decide (t0.Uber.Root = (G_api_Ptr.mk 0 0 (A4.mk 0 0 0 0)))))
theorem ok_uber_root_may (t0 : G_uber_root) (r : Bool) (h : M_uber_root_may t0 = some r) : FFn Try.prog 19 [(Value.agg (c_uber_root t0).toArray)] (Bo r) := by
  refine FFn.of_body (n := 50) Try.func19 rfl Try.ntmps19 rfl rfl rfl rfl ?_
  show AWp _ _ _ ⟨50, 0, [(0, (Value.agg (c_uber_root t0).toArray))], [], ⟨0, []⟩⟩
  unfold M_uber_root_may at h
  refine awp_seq ?_
  refine awp_region ?_
  refine arun_do rfl rfl rfl (ex_box (vx := (Value.agg (c_uber_root t0).toArray)) (cs := (c_uber_root t0)) (k := 0) (L' := [(c_uber_root t0)]) (eV (v := (Value.agg (c_uber_root t0).toArray)) rfl) rfl rfl rfl) ?_
  refine arun_do rfl rfl rfl (ex_assign (eV (v := (Bo false)) rfl)) ?_
  refine arun_keepE [1] 1 0 (st' := ⟨50, 0, [(1, (LP 0 0))], [(c_uber_root t0)], ⟨0, []⟩⟩) (by kernel_rfl) (by kernel_rfl) ?_
  show AWp _ _ _ _
  refine awp_seq ?_
  refine awp_region ?_
  refine arun_do rfl rfl rfl (ex_fieldAddr (v := (LP 0 0)) Try.underlying46 rfl s_28 (by decide) rfl rfl) ?_
  refine arun_do rfl rfl rfl (ex_fieldAddr (v := (LP 0 0)) Try.underlying28 rfl s_3 (by decide) rfl rfl) ?_
  refine arun_do rfl rfl rfl (tx_ldL1 (v := (I t0.Uber.Txg)) Try.underlying3 rfl rfl rfl rfl) ?_
  refine arun_do rfl rfl rfl (ex_bin (vx := (I t0.Uber.Txg)) (vy := (I 1)) rfl rfl geqI_ok) ?_
  refine arun_do rfl rfl rfl (ex_move (eV (v := (Bo (decide (t0.Uber.Txg ≥ 1)))) rfl)) ?_
  refine arun_guard (v := (LP 0 0)) ((decide (t0.Uber.Txg ≥ 1)) == true) rfl rfl rfl (fun hc => ex_fieldAddr (v := (LP 0 0)) Try.underlying46 rfl s_28 (by decide) rfl rfl) ?_
  refine arun_guard (v := (LP 0 0)) ((decide (t0.Uber.Txg ≥ 1)) == true) rfl rfl rfl (fun hc => ex_fieldAddr (v := (LP 0 0)) Try.underlying28 rfl s_3 (by decide) (cond_of hc) rfl) ?_
  refine arun_guard (v := (I t0.Uber.Txg)) ((decide (t0.Uber.Txg ≥ 1)) == true) rfl rfl rfl (fun hc => tx_ldL1 (v := (I t0.Uber.Txg)) Try.underlying3 rfl (cond_of hc) rfl rfl) ?_
  refine arun_guard (v := (Bo (decide (t0.Uber.Txg ≤ 1073741824)))) ((decide (t0.Uber.Txg ≥ 1)) == true) rfl rfl rfl (fun hc => ex_bin (vx := (I t0.Uber.Txg)) (vy := (I 1073741824)) (cond_of hc) rfl leqI_ok) ?_
  refine arun_do rfl rfl rfl (ex_pick rfl pkAnd) ?_
  refine arun_do rfl rfl rfl (ex_move (eV (v := (Bo ((decide (t0.Uber.Txg ≥ 1)) && (decide (t0.Uber.Txg ≤ 1073741824))))) rfl)) ?_
  refine arun_guard (v := (LP 0 0)) (((decide (t0.Uber.Txg ≥ 1)) && (decide (t0.Uber.Txg ≤ 1073741824))) == true) rfl rfl rfl (fun hc => ex_fieldAddr (v := (LP 0 0)) Try.underlying46 rfl s_28 (by decide) rfl rfl) ?_
  refine arun_guard (v := (LP 0 1)) (((decide (t0.Uber.Txg ≥ 1)) && (decide (t0.Uber.Txg ≤ 1073741824))) == true) rfl rfl rfl (fun hc => ex_fieldAddr (v := (LP 0 1)) Try.underlying28 rfl s_3 (by decide) (cond_of hc) rfl) ?_
  refine arun_guard (v := (I t0.Uber.Guid)) (((decide (t0.Uber.Txg ≥ 1)) && (decide (t0.Uber.Txg ≤ 1073741824))) == true) rfl rfl rfl (fun hc => tx_ldL1 (v := (I t0.Uber.Guid)) Try.underlying3 rfl (cond_of hc) rfl rfl) ?_
  refine arun_guard (v := (Bo (decide (t0.Uber.Guid ≥ 0)))) (((decide (t0.Uber.Txg ≥ 1)) && (decide (t0.Uber.Txg ≤ 1073741824))) == true) rfl rfl rfl (fun hc => ex_bin (vx := (I t0.Uber.Guid)) (vy := (I 0)) (cond_of hc) rfl geqI_ok) ?_
  refine arun_do rfl rfl rfl (ex_pick rfl pkAnd) ?_
  refine arun_do rfl rfl rfl (ex_move (eV (v := (Bo (((decide (t0.Uber.Txg ≥ 1)) && (decide (t0.Uber.Txg ≤ 1073741824))) && (decide (t0.Uber.Guid ≥ 0))))) rfl)) ?_
  refine arun_guard (v := (LP 0 0)) ((((decide (t0.Uber.Txg ≥ 1)) && (decide (t0.Uber.Txg ≤ 1073741824))) && (decide (t0.Uber.Guid ≥ 0))) == true) rfl rfl rfl (fun hc => ex_fieldAddr (v := (LP 0 0)) Try.underlying46 rfl s_28 (by decide) rfl rfl) ?_
  refine arun_guard (v := (LP 0 1)) ((((decide (t0.Uber.Txg ≥ 1)) && (decide (t0.Uber.Txg ≤ 1073741824))) && (decide (t0.Uber.Guid ≥ 0))) == true) rfl rfl rfl (fun hc => ex_fieldAddr (v := (LP 0 1)) Try.underlying28 rfl s_3 (by decide) (cond_of hc) rfl) ?_
  refine arun_guard (v := (I t0.Uber.Guid)) ((((decide (t0.Uber.Txg ≥ 1)) && (decide (t0.Uber.Txg ≤ 1073741824))) && (decide (t0.Uber.Guid ≥ 0))) == true) rfl rfl rfl (fun hc => tx_ldL1 (v := (I t0.Uber.Guid)) Try.underlying3 rfl (cond_of hc) rfl rfl) ?_
  refine arun_guard (v := (Bo (decide (t0.Uber.Guid ≤ 1073741824)))) ((((decide (t0.Uber.Txg ≥ 1)) && (decide (t0.Uber.Txg ≤ 1073741824))) && (decide (t0.Uber.Guid ≥ 0))) == true) rfl rfl rfl (fun hc => ex_bin (vx := (I t0.Uber.Guid)) (vy := (I 1073741824)) (cond_of hc) rfl leqI_ok) ?_
  refine arun_do rfl rfl rfl (ex_pick rfl pkAnd) ?_
  refine arun_do rfl rfl rfl (ex_move (eV (v := (Bo ((((decide (t0.Uber.Txg ≥ 1)) && (decide (t0.Uber.Txg ≤ 1073741824))) && (decide (t0.Uber.Guid ≥ 0))) && (decide (t0.Uber.Guid ≤ 1073741824))))) rfl)) ?_
  refine arun_guard (v := (LP 0 0)) (((((decide (t0.Uber.Txg ≥ 1)) && (decide (t0.Uber.Txg ≤ 1073741824))) && (decide (t0.Uber.Guid ≥ 0))) && (decide (t0.Uber.Guid ≤ 1073741824))) == true) rfl rfl rfl (fun hc => ex_fieldAddr (v := (LP 0 0)) Try.underlying46 rfl s_28 (by decide) rfl rfl) ?_
  refine arun_guard (v := (LP 0 2)) (((((decide (t0.Uber.Txg ≥ 1)) && (decide (t0.Uber.Txg ≤ 1073741824))) && (decide (t0.Uber.Guid ≥ 0))) && (decide (t0.Uber.Guid ≤ 1073741824))) == true) rfl rfl rfl (fun hc => ex_fieldAddr (v := (LP 0 2)) Try.underlying28 rfl s_3 (by decide) (cond_of hc) rfl) ?_
  refine arun_guard (v := (I t0.Uber.Seat)) (((((decide (t0.Uber.Txg ≥ 1)) && (decide (t0.Uber.Txg ≤ 1073741824))) && (decide (t0.Uber.Guid ≥ 0))) && (decide (t0.Uber.Guid ≤ 1073741824))) == true) rfl rfl rfl (fun hc => tx_ldL1 (v := (I t0.Uber.Seat)) Try.underlying3 rfl (cond_of hc) rfl rfl) ?_
  refine arun_guard (v := (Bo (decide (t0.Uber.Seat ≥ 0)))) (((((decide (t0.Uber.Txg ≥ 1)) && (decide (t0.Uber.Txg ≤ 1073741824))) && (decide (t0.Uber.Guid ≥ 0))) && (decide (t0.Uber.Guid ≤ 1073741824))) == true) rfl rfl rfl (fun hc => ex_bin (vx := (I t0.Uber.Seat)) (vy := (I 0)) (cond_of hc) rfl geqI_ok) ?_
  refine arun_do rfl rfl rfl (ex_pick rfl pkAnd) ?_
  refine arun_do rfl rfl rfl (ex_move (eV (v := (Bo (((((decide (t0.Uber.Txg ≥ 1)) && (decide (t0.Uber.Txg ≤ 1073741824))) && (decide (t0.Uber.Guid ≥ 0))) && (decide (t0.Uber.Guid ≤ 1073741824))) && (decide (t0.Uber.Seat ≥ 0))))) rfl)) ?_
  refine arun_guard (v := (LP 0 0)) ((((((decide (t0.Uber.Txg ≥ 1)) && (decide (t0.Uber.Txg ≤ 1073741824))) && (decide (t0.Uber.Guid ≥ 0))) && (decide (t0.Uber.Guid ≤ 1073741824))) && (decide (t0.Uber.Seat ≥ 0))) == true) rfl rfl rfl (fun hc => ex_fieldAddr (v := (LP 0 0)) Try.underlying46 rfl s_28 (by decide) rfl rfl) ?_
  refine arun_guard (v := (LP 0 2)) ((((((decide (t0.Uber.Txg ≥ 1)) && (decide (t0.Uber.Txg ≤ 1073741824))) && (decide (t0.Uber.Guid ≥ 0))) && (decide (t0.Uber.Guid ≤ 1073741824))) && (decide (t0.Uber.Seat ≥ 0))) == true) rfl rfl rfl (fun hc => ex_fieldAddr (v := (LP 0 2)) Try.underlying28 rfl s_3 (by decide) (cond_of hc) rfl) ?_
  refine arun_guard (v := (I t0.Uber.Seat)) ((((((decide (t0.Uber.Txg ≥ 1)) && (decide (t0.Uber.Txg ≤ 1073741824))) && (decide (t0.Uber.Guid ≥ 0))) && (decide (t0.Uber.Guid ≤ 1073741824))) && (decide (t0.Uber.Seat ≥ 0))) == true) rfl rfl rfl (fun hc => tx_ldL1 (v := (I t0.Uber.Seat)) Try.underlying3 rfl (cond_of hc) rfl rfl) ?_
  refine arun_guard (v := (Bo (decide (t0.Uber.Seat < 6)))) ((((((decide (t0.Uber.Txg ≥ 1)) && (decide (t0.Uber.Txg ≤ 1073741824))) && (decide (t0.Uber.Guid ≥ 0))) && (decide (t0.Uber.Guid ≤ 1073741824))) && (decide (t0.Uber.Seat ≥ 0))) == true) rfl rfl rfl (fun hc => ex_bin (vx := (I t0.Uber.Seat)) (vy := (I 6)) (cond_of hc) rfl lssI_ok) ?_
  refine arun_do rfl rfl rfl (ex_pick rfl pkAnd) ?_
  refine arun_do rfl rfl rfl (ex_move (eV (v := (Bo ((((((decide (t0.Uber.Txg ≥ 1)) && (decide (t0.Uber.Txg ≤ 1073741824))) && (decide (t0.Uber.Guid ≥ 0))) && (decide (t0.Uber.Guid ≤ 1073741824))) && (decide (t0.Uber.Seat ≥ 0))) && (decide (t0.Uber.Seat < 6))))) rfl)) ?_
  refine arun_guard (v := (LP 0 0)) (((((((decide (t0.Uber.Txg ≥ 1)) && (decide (t0.Uber.Txg ≤ 1073741824))) && (decide (t0.Uber.Guid ≥ 0))) && (decide (t0.Uber.Guid ≤ 1073741824))) && (decide (t0.Uber.Seat ≥ 0))) && (decide (t0.Uber.Seat < 6))) == true) rfl rfl rfl (fun hc => ex_fieldAddr (v := (LP 0 0)) Try.underlying46 rfl s_28 (by decide) rfl rfl) ?_
  refine arun_guard (v := (LP 0 3)) (((((((decide (t0.Uber.Txg ≥ 1)) && (decide (t0.Uber.Txg ≤ 1073741824))) && (decide (t0.Uber.Guid ≥ 0))) && (decide (t0.Uber.Guid ≤ 1073741824))) && (decide (t0.Uber.Seat ≥ 0))) && (decide (t0.Uber.Seat < 6))) == true) rfl rfl rfl (fun hc => ex_fieldAddr (v := (LP 0 3)) Try.underlying28 rfl s_26 (by decide) (cond_of hc) rfl) ?_
  refine arun_guard (v := (Value.agg (c_api_Ptr t0.Uber.Root).toArray)) (((((((decide (t0.Uber.Txg ≥ 1)) && (decide (t0.Uber.Txg ≤ 1073741824))) && (decide (t0.Uber.Guid ≥ 0))) && (decide (t0.Uber.Guid ≤ 1073741824))) && (decide (t0.Uber.Seat ≥ 0))) && (decide (t0.Uber.Seat < 6))) == true) rfl rfl rfl (fun hc => tx_ldLA (vs := (c_api_Ptr t0.Uber.Root)) Try.underlying26 rfl s_26 (by decide) (cond_of hc) rfl rfl rfl) ?_
  obtain ⟨x1, hx1, h⟩ := bindS h
  refine arun_guard (v := (Bo x1)) (((((((decide (t0.Uber.Txg ≥ 1)) && (decide (t0.Uber.Txg ≤ 1073741824))) && (decide (t0.Uber.Guid ≥ 0))) && (decide (t0.Uber.Guid ≤ 1073741824))) && (decide (t0.Uber.Seat ≥ 0))) && (decide (t0.Uber.Seat < 6))) == true) rfl rfl rfl (fun hc => ex_call0 (vs := [(Value.agg (c_api_Ptr t0.Uber.Root).toArray)]) (v := (Bo x1)) rfl en_33 (cargs (evs (cond_of hc) evs_nil)) rfl (ok_ptr_May t0.Uber.Root x1 (gd_of hc hx1)) rfl) ?_
  refine arun_do rfl rfl rfl (ex_pick rfl pkAnd) ?_
  refine arun_do rfl rfl rfl (ex_move (eV (v := (Bo (((((((decide (t0.Uber.Txg ≥ 1)) && (decide (t0.Uber.Txg ≤ 1073741824))) && (decide (t0.Uber.Guid ≥ 0))) && (decide (t0.Uber.Guid ≤ 1073741824))) && (decide (t0.Uber.Seat ≥ 0))) && (decide (t0.Uber.Seat < 6))) && x1))) rfl)) ?_
  refine arun_guard (v := (LP 0 0)) ((((((((decide (t0.Uber.Txg ≥ 1)) && (decide (t0.Uber.Txg ≤ 1073741824))) && (decide (t0.Uber.Guid ≥ 0))) && (decide (t0.Uber.Guid ≤ 1073741824))) && (decide (t0.Uber.Seat ≥ 0))) && (decide (t0.Uber.Seat < 6))) && x1) == true) rfl rfl rfl (fun hc => ex_fieldAddr (v := (LP 0 0)) Try.underlying46 rfl s_28 (by decide) rfl rfl) ?_
  refine arun_guard (v := (LP 0 3)) ((((((((decide (t0.Uber.Txg ≥ 1)) && (decide (t0.Uber.Txg ≤ 1073741824))) && (decide (t0.Uber.Guid ≥ 0))) && (decide (t0.Uber.Guid ≤ 1073741824))) && (decide (t0.Uber.Seat ≥ 0))) && (decide (t0.Uber.Seat < 6))) && x1) == true) rfl rfl rfl (fun hc => ex_fieldAddr (v := (LP 0 3)) Try.underlying28 rfl s_26 (by decide) (cond_of hc) rfl) ?_
  refine arun_guard (v := (Value.agg (c_api_Ptr t0.Uber.Root).toArray)) ((((((((decide (t0.Uber.Txg ≥ 1)) && (decide (t0.Uber.Txg ≤ 1073741824))) && (decide (t0.Uber.Guid ≥ 0))) && (decide (t0.Uber.Guid ≤ 1073741824))) && (decide (t0.Uber.Seat ≥ 0))) && (decide (t0.Uber.Seat < 6))) && x1) == true) rfl rfl rfl (fun hc => tx_ldLA (vs := (c_api_Ptr t0.Uber.Root)) Try.underlying26 rfl s_26 (by decide) (cond_of hc) rfl rfl rfl) ?_
  refine arun_guard (v := (Value.agg (c_api_Ptr (G_api_Ptr.mk 0 0 (A4.mk 0 0 0 0))).toArray)) ((((((((decide (t0.Uber.Txg ≥ 1)) && (decide (t0.Uber.Txg ≤ 1073741824))) && (decide (t0.Uber.Guid ≥ 0))) && (decide (t0.Uber.Guid ≤ 1073741824))) && (decide (t0.Uber.Seat ≥ 0))) && (decide (t0.Uber.Seat < 6))) && x1) == true) rfl rfl rfl (fun hc => ex_build (qs := []) (v := (Value.agg (c_api_Ptr (G_api_Ptr.mk 0 0 (A4.mk 0 0 0 0))).toArray)) evp_nil (by kernel_rfl)) ?_
  refine arun_guard (v := (Bo (!decide (t0.Uber.Root = (G_api_Ptr.mk 0 0 (A4.mk 0 0 0 0)))))) ((((((((decide (t0.Uber.Txg ≥ 1)) && (decide (t0.Uber.Txg ≤ 1073741824))) && (decide (t0.Uber.Guid ≥ 0))) && (decide (t0.Uber.Guid ≤ 1073741824))) && (decide (t0.Uber.Seat ≥ 0))) && (decide (t0.Uber.Seat < 6))) && x1) == true) rfl rfl rfl (fun hc => ex_bin (vx := (Value.agg (c_api_Ptr t0.Uber.Root).toArray)) (vy := (Value.agg (c_api_Ptr (G_api_Ptr.mk 0 0 (A4.mk 0 0 0 0))).toArray)) (cond_of hc) (cond_of hc) neq_26) ?_
  refine arun_do rfl rfl rfl (ex_pick rfl pkAnd) ?_
  refine arun_do rfl rfl rfl (ex_assign (eV (v := (Bo ((((((((decide (t0.Uber.Txg ≥ 1)) && (decide (t0.Uber.Txg ≤ 1073741824))) && (decide (t0.Uber.Guid ≥ 0))) && (decide (t0.Uber.Guid ≤ 1073741824))) && (decide (t0.Uber.Seat ≥ 0))) && (decide (t0.Uber.Seat < 6))) && x1) && (!decide (t0.Uber.Root = (G_api_Ptr.mk 0 0 (A4.mk 0 0 0 0))))))) rfl)) ?_
  refine arun_keepE [2] 0 0 (st' := ⟨50, 0, [(2, (Bo ((((((((decide (t0.Uber.Txg ≥ 1)) && (decide (t0.Uber.Txg ≤ 1073741824))) && (decide (t0.Uber.Guid ≥ 0))) && (decide (t0.Uber.Guid ≤ 1073741824))) && (decide (t0.Uber.Seat ≥ 0))) && (decide (t0.Uber.Seat < 6))) && x1) && (!decide (t0.Uber.Root = (G_api_Ptr.mk 0 0 (A4.mk 0 0 0 0)))))))], [], ⟨0, []⟩⟩) (by kernel_rfl) (by kernel_rfl) ?_
  show AWp _ _ _ _
  refine awp_ret ?_
  cases h
  exact ares1 (rtmp rfl (eV rfl))

noncomputable def M_pack_sizes_l1 (t0 : Str) : Nat → Int → Int → List Int → Option ((List Int) × Int × Bool)
  | 0, _, _, _ => none
  | n1 + 1, v1, v2, v3 =>
  cond (decide (v2 < (t0.length : Int))) (Option.bind (getI t0 v2) fun (x5 : UInt8) => cond ((decide ((w64 ((x5.toNat : Int) - 48)) < 1)) || (decide ((w64 ((x5.toNat : Int) - 48)) > 4))) (some ([], 0, false)) (Option.bind (appL 8 v3 ([(w64 ((x5.toNat : Int) - 48))] : List Int)) fun (x7 : List Int) => (M_pack_sizes_l1 t0 n1) (w64 (v1 + (w64 ((x5.toNat : Int) - 48)))) (w64 (v2 + 1)) x7)) (some (v3, v1, true))
noncomputable def M_pack_sizes (t0 : Str) : Option ((List Int) × Int × Bool) :=
  M_pack_sizes_l1 t0 fuel 0 0 ([] : List Int)
theorem ok_pack_sizes (t0 : Str) (r : ((List Int) × Int × Bool)) (h : M_pack_sizes t0 = some r) : FFn Try.prog 39 [(S t0)] (Value.tuple #[(SL 1 cI r.1), (I r.2.1), (Bo r.2.2)]) := by
  refine FFn.of_body (n := 34) Try.func39 rfl Try.ntmps39 rfl rfl rfl rfl ?_
  show AWp _ _ _ ⟨34, 0, [(0, (S t0))], [], ⟨0, []⟩⟩
  unfold M_pack_sizes at h
  refine awp_seq ?_
  refine awp_region ?_
  refine arun_do rfl rfl rfl (ex_assign (eV (v := (Value.slice none 0 0)) rfl)) ?_
  refine arun_do rfl rfl rfl (ex_assign (eV (v := (I 0)) rfl)) ?_
  refine arun_do rfl rfl rfl (ex_assign (eV (v := (Bo false)) rfl)) ?_
  refine arun_keepE [0, 2, 3] 0 0 (st' := ⟨34, 0, [(0, (S t0)), (2, (Value.slice none 0 0)), (3, (I 0))], [], ⟨0, []⟩⟩) (by kernel_rfl) (by kernel_rfl) ?_
  show AWp _ _ _ _
  refine awp_seq ?_
  refine awp_seq ?_
  refine awp_region ?_
  refine arun_do rfl rfl rfl (ex_move (eV (v := (S t0)) rfl)) ?_
  refine arun_do rfl rfl rfl (tx_sbD Try.underlying9 Try.underlying35 Try.underlying5 rfl) ?_
  refine arun_do rfl rfl rfl (tx_lenD (xs := t0) ce8 Try.underlying35 rfl) ?_
  refine arun_do rfl rfl rfl (ex_move (eV (v := (I 0)) rfl)) ?_
  refine arun_keepE [2, 3, 9, 10, 11] 0 0 (st' := ⟨34, 0, [(2, (Value.slice none 0 0)), (3, (I 0)), (9, (SL 1 c8 t0)), (10, (I (t0.length : Int))), (11, (I 0))], [], ⟨0, []⟩⟩) (by kernel_rfl) (by kernel_rfl) ?_
  show AWp _ _ _ _
  refine awp_block ?_
  refine awp_nilGro 2 1 rfl (by decide) ?_
  refine awp_keepE [2, 3, 9, 10, 11] 0 1 (st' := ⟨34, 0, [(2, (GV 0 0)), (3, (I 0)), (9, (SL 1 c8 t0)), (10, (I (t0.length : Int))), (11, (I 0))], [], ⟨1, [(0, ⟨1, (([] : List Int).flatMap cI), true⟩)]⟩⟩) (by kernel_rfl) (by kernel_rfl) ?_
  refine awp_loop (fun n s => ∃ (v1 : Int) (v2 : Int) (v3 : List Int), s = ⟨34, 0, [(2, (GV 0 v3.length)), (3, (I v1)), (9, (SL 1 c8 t0)), (10, (I (t0.length : Int))), (11, (I v2))], [], ⟨1, [(0, ⟨1, ((v3).flatMap cI), true⟩)]⟩⟩ ∧ M_pack_sizes_l1 t0 n v1 v2 v3 = some r) fuel (Exists.intro 0 (Exists.intro 0 (Exists.intro ([] : List Int) (And.intro rfl h)))) ?_
  rintro n s ⟨v1, v2, v3, rfl, h⟩ -
  cases n with
  | zero => cases h
  | succ n1 =>
    unfold M_pack_sizes_l1 at h
    refine awp_seq ?_
    refine awp_region ?_
    refine arun_do rfl rfl rfl (ex_bin (vx := (I v2)) (vy := (I (t0.length : Int))) rfl rfl lssI_ok) ?_
    refine arun_keepE [2, 3, 9, 10, 11, 12] 0 1 (st' := ⟨34, 0, [(2, (GV 0 v3.length)), (3, (I v1)), (9, (SL 1 c8 t0)), (10, (I (t0.length : Int))), (11, (I v2)), (12, (Bo (decide (v2 < (t0.length : Int)))))], [], ⟨1, [(0, ⟨1, ((v3).flatMap cI), true⟩)]⟩⟩) (by kernel_rfl) (by kernel_rfl) ?_
    show AWp _ _ _ _
    refine awp_seq ?_
    rcases Bool.eq_false_or_eq_true (decide (v2 < (t0.length : Int))) with hb4 | hb4
    · rw [condT hb4] at h
      refine awp_condT (boT hb4) ?_
      refine awp_skip ?_
      show AWp _ _ _ _
      refine awp_seq ?_
      refine awp_block ?_
      refine awp_seq ?_
      refine awp_region ?_
      obtain ⟨x5, hx5, h⟩ := bindS h
      refine arun_do rfl rfl rfl (tx_idxD (c := c8) (xs := t0) (i := v2) ce8 Try.underlying35 s_5 rfl rfl hx5) ?_
      refine arun_do rfl rfl rfl (tx_ldD1 (v := (U8 x5)) Try.underlying5 rfl rfl rfl) ?_
      refine arun_do rfl rfl rfl (ex_assign (eV (v := (U8 x5)) rfl)) ?_
      refine arun_keepE [2, 3, 6, 9, 10, 11] 0 1 (st' := ⟨34, 0, [(2, (GV 0 v3.length)), (3, (I v1)), (6, (U8 x5)), (9, (SL 1 c8 t0)), (10, (I (t0.length : Int))), (11, (I v2))], [], ⟨1, [(0, ⟨1, ((v3).flatMap cI), true⟩)]⟩⟩) (by kernel_rfl) (by kernel_rfl) ?_
      show AWp _ _ _ _
      refine awp_seq ?_
      refine awp_region ?_
      refine arun_do rfl rfl rfl (ex_move (eV (v := (U8 x5)) rfl)) ?_
      refine arun_do rfl rfl rfl (tx_8_64 Try.underlying5 Try.underlying3 rfl) ?_
      refine arun_do rfl rfl rfl (ex_bin (vx := (I (x5.toNat : Int))) (vy := (I 48)) rfl rfl subI_ok) ?_
      refine arun_do rfl rfl rfl (ex_assign (eV (v := (I (w64 ((x5.toNat : Int) - 48)))) rfl)) ?_
      refine arun_keepE [2, 3, 7, 9, 10, 11] 0 1 (st' := ⟨34, 0, [(2, (GV 0 v3.length)), (3, (I v1)), (7, (I (w64 ((x5.toNat : Int) - 48)))), (9, (SL 1 c8 t0)), (10, (I (t0.length : Int))), (11, (I v2))], [], ⟨1, [(0, ⟨1, ((v3).flatMap cI), true⟩)]⟩⟩) (by kernel_rfl) (by kernel_rfl) ?_
      show AWp _ _ _ _
      refine awp_seq ?_
      refine awp_seq ?_
      refine awp_region ?_
      refine arun_do rfl rfl rfl (ex_move (eV (v := (I (w64 ((x5.toNat : Int) - 48)))) rfl)) ?_
      refine arun_do rfl rfl rfl (ex_bin (vx := (I (w64 ((x5.toNat : Int) - 48)))) (vy := (I 1)) rfl rfl lssI_ok) ?_
      refine arun_do rfl rfl rfl (ex_move (eV (v := (Bo (decide ((w64 ((x5.toNat : Int) - 48)) < 1)))) rfl)) ?_
      refine arun_guard (v := (I (w64 ((x5.toNat : Int) - 48)))) ((decide ((w64 ((x5.toNat : Int) - 48)) < 1)) == false) rfl rfl rfl (fun hc => ex_move (eV (v := (I (w64 ((x5.toNat : Int) - 48)))) rfl)) ?_
      refine arun_guard (v := (Bo (decide ((w64 ((x5.toNat : Int) - 48)) > 4)))) ((decide ((w64 ((x5.toNat : Int) - 48)) < 1)) == false) rfl rfl rfl (fun hc => ex_bin (vx := (I (w64 ((x5.toNat : Int) - 48)))) (vy := (I 4)) (cond_of hc) rfl gtrI_ok) ?_
      refine arun_do rfl rfl rfl (ex_pick rfl pkOr) ?_
      refine arun_keepE [2, 3, 7, 9, 10, 11, 23] 0 1 (st' := ⟨34, 0, [(2, (GV 0 v3.length)), (3, (I v1)), (7, (I (w64 ((x5.toNat : Int) - 48)))), (9, (SL 1 c8 t0)), (10, (I (t0.length : Int))), (11, (I v2)), (23, (Bo ((decide ((w64 ((x5.toNat : Int) - 48)) < 1)) || (decide ((w64 ((x5.toNat : Int) - 48)) > 4)))))], [], ⟨1, [(0, ⟨1, ((v3).flatMap cI), true⟩)]⟩⟩) (by kernel_rfl) (by kernel_rfl) ?_
      show AWp _ _ _ _
      rcases Bool.eq_false_or_eq_true ((decide ((w64 ((x5.toNat : Int) - 48)) < 1)) || (decide ((w64 ((x5.toNat : Int) - 48)) > 4))) with hb6 | hb6
      · rw [condT hb6] at h
        refine awp_condT (boT hb6) ?_
        refine awp_seq ?_
        refine awp_region ?_
        refine arun_do rfl rfl rfl (ex_assign (eV (v := (Value.slice none 0 0)) rfl)) ?_
        refine arun_do rfl rfl rfl (ex_assign (eV (v := (I 0)) rfl)) ?_
        refine arun_do rfl rfl rfl (ex_assign (eV (v := (Bo false)) rfl)) ?_
        refine arun_keepE [2, 3, 4] 0 0 (st' := ⟨34, 0, [(2, (Value.slice none 0 0)), (3, (I 0)), (4, (Bo false))], [], ⟨0, []⟩⟩) (by kernel_rfl) (by kernel_rfl) ?_
        show AWp _ _ _ _
        refine awp_ret ?_
        cases h
        exact aresN rfl (L2.cons (rtmp rfl (eN rfl)) (L2.cons (rtmp rfl (eV rfl)) (L2.cons (rtmp rfl (eV rfl)) L2.nil))) rfl
      · rw [condF hb6] at h
        refine awp_condF (boF hb6) ?_
        refine awp_skip ?_
        show AWp _ _ _ _
        refine awp_region ?_
        refine arun_do rfl rfl rfl (ex_move (eV (v := (GV 0 v3.length)) rfl)) ?_
        refine arun_do rfl rfl rfl (ex_move (eV (v := (I (w64 ((x5.toNat : Int) - 48)))) rfl)) ?_
        refine arun_do rfl rfl rfl (ex_buildSliceD (qs := [(0, (I (w64 ((x5.toNat : Int) - 48))))]) (cells := (([(w64 ((x5.toNat : Int) - 48))] : List Int).flatMap cI)) Try.underlying52 s_3 (by decide) (evp rfl evp_nil) rfl (by kernel_rfl) (by kernel_rfl) (by kernel_rfl)) ?_
        obtain ⟨x7, hx7, h⟩ := bindS h
        refine arun_do rfl rfl rfl (tx_appG (c := cI) (xs := v3) (H' := ⟨1, [(0, ⟨1, ((x7).flatMap cI), true⟩)]⟩) ceI e_3 rfl rfl rfl (tsrcD (ys := ([(w64 ((x5.toNat : Int) - 48))] : List Int)) ceI Try.underlying52 s_3 Try.underlying52 rfl) hx7 rfl) ?_
        refine arun_do rfl rfl rfl (ex_move (eV (v := (I v1)) rfl)) ?_
        refine arun_do rfl rfl rfl (ex_move (eV (v := (I (w64 ((x5.toNat : Int) - 48)))) rfl)) ?_
        refine arun_do rfl rfl rfl (ex_bin (vx := (I v1)) (vy := (I (w64 ((x5.toNat : Int) - 48)))) rfl rfl addI_ok) ?_
        refine arun_do rfl rfl rfl (ex_assign (eV (v := (GV 0 x7.length)) rfl)) ?_
        refine arun_do rfl rfl rfl (ex_assign (eV (v := (I (w64 (v1 + (w64 ((x5.toNat : Int) - 48)))))) rfl)) ?_
        refine arun_keepE [2, 3, 9, 10, 11] 0 1 (st' := ⟨34, 0, [(2, (GV 0 x7.length)), (3, (I (w64 (v1 + (w64 ((x5.toNat : Int) - 48)))))), (9, (SL 1 c8 t0)), (10, (I (t0.length : Int))), (11, (I v2))], [], ⟨1, [(0, ⟨1, ((x7).flatMap cI), true⟩)]⟩⟩) (by kernel_rfl) (by kernel_rfl) ?_
        show AWp _ _ _ _
        refine awp_region ?_
        refine arun_do rfl rfl rfl (ex_bin (vx := (I v2)) (vy := (I 1)) rfl rfl addI_ok) ?_
        refine arun_do rfl rfl rfl (ex_move (eV (v := (I (w64 (v2 + 1)))) rfl)) ?_
        refine arun_keepE [2, 3, 9, 10, 11] 0 1 (st' := ⟨34, 0, [(2, (GV 0 x7.length)), (3, (I (w64 (v1 + (w64 ((x5.toNat : Int) - 48)))))), (9, (SL 1 c8 t0)), (10, (I (t0.length : Int))), (11, (I (w64 (v2 + 1))))], [], ⟨1, [(0, ⟨1, ((x7).flatMap cI), true⟩)]⟩⟩) (by kernel_rfl) (by kernel_rfl) ?_
        exact Exists.intro n1 (And.intro (Nat.lt_succ_self _) (Exists.intro (w64 (v1 + (w64 ((x5.toNat : Int) - 48)))) (Exists.intro (w64 (v2 + 1)) (Exists.intro x7 (And.intro rfl h)))))
    · rw [condF hb4] at h
      refine awp_condF (boF hb4) ?_
      refine awp_exit ?_
      show AWp _ _ _ _
      refine awp_seq ?_
      refine awp_region ?_
      refine arun_do rfl rfl rfl (ex_move (eV (v := (GV 0 v3.length)) rfl)) ?_
      refine arun_do rfl rfl rfl (ex_move (eV (v := (I v1)) rfl)) ?_
      refine arun_do rfl rfl rfl (ex_assign (eV (v := (GV 0 v3.length)) rfl)) ?_
      refine arun_do rfl rfl rfl (ex_assign (eV (v := (I v1)) rfl)) ?_
      refine arun_do rfl rfl rfl (ex_assign (eV (v := (Bo true)) rfl)) ?_
      refine arun_keepE [2, 3, 4] 0 1 (st' := ⟨34, 0, [(2, (GV 0 v3.length)), (3, (I v1)), (4, (Bo true))], [], ⟨1, [(0, ⟨1, ((v3).flatMap cI), true⟩)]⟩⟩) (by kernel_rfl) (by kernel_rfl) ?_
      show AWp _ _ _ _
      refine awp_freeze 0 (bk := ⟨1, ((v3).flatMap cI), true⟩) (T' := [(2, (SL 1 cI v3)), (3, (I v1)), (4, (Bo true))]) (L' := []) rfl (fzG ceI rfl rfl (FzT.keep (v := (I v1)) rfl (FzT.keep (v := (Bo true)) rfl FzT.nil))) (FzL.refl _) ?_
      show AWp _ _ _ ⟨34, 0, [(2, (SL 1 cI v3)), (3, (I v1)), (4, (Bo true))], [], ⟨1, []⟩⟩
      refine awp_ret ?_
      cases h
      exact aresN rfl (L2.cons (rtmp rfl (eV rfl)) (L2.cons (rtmp rfl (eV rfl)) (L2.cons (rtmp rfl (eV rfl)) L2.nil))) rfl

end Go.Proofs
