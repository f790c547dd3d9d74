/- Pure models of functions of the program, and that its code does what they say: palimpref1 num, palimpref1 MayPtr, palimpref1 MayUber, palimpref1 Put, palimpref1 PutPtrs. Written by a program. -/
import Derived.Test.YteiaengicalapaaR6B
set_option maxRecDepth 20000
set_option maxHeartbeats 4000000
namespace Go.Proofs
open Go Go.Fhl
set_option linter.unusedVariables false
set_option linter.unusedSimpArgs false
noncomputable def M_ref1_num (t0 : Int) : Option Bool :=
  some ((decide (t0 ≥ 0)) && (decide (t0 ≤ 1073741824)))
theorem ok_ref1_num (t0 : Int) (r : Bool) (h : M_ref1_num t0 = some r) : FFn Try.prog 20 [(I t0)] (Bo r) := by
  refine FFn.of_body (n := 9) Try.func20 rfl Try.ntmps20 rfl rfl rfl rfl ?_
  show AWp _ _ _ ⟨9, 0, [(0, (I t0))], [], ⟨0, []⟩⟩
  unfold M_ref1_num at h
  refine awp_seq ?_
  refine awp_region ?_
  refine arun_do rfl rfl rfl (ex_assign (eV (v := (Bo false)) rfl)) ?_
  refine arun_keepE [0] 0 0 (st' := ⟨9, 0, [(0, (I t0))], [], ⟨0, []⟩⟩) (by kernel_rfl) (by kernel_rfl) ?_
  show AWp _ _ _ _
  refine awp_seq ?_
  refine awp_region ?_
  refine arun_do rfl rfl rfl (ex_move (eV (v := (I t0)) rfl)) ?_
  refine arun_do rfl rfl rfl (ex_bin (vx := (I t0)) (vy := (I 0)) rfl rfl geqI_ok) ?_
  refine arun_do rfl rfl rfl (ex_move (eV (v := (Bo (decide (t0 ≥ 0)))) rfl)) ?_
  refine arun_guard (v := (I t0)) ((decide (t0 ≥ 0)) == true) rfl rfl rfl (fun hc => ex_move (eV (v := (I t0)) rfl)) ?_
  refine arun_guard (v := (Bo (decide (t0 ≤ 1073741824)))) ((decide (t0 ≥ 0)) == true) rfl rfl rfl (fun hc => ex_bin (vx := (I t0)) (vy := (I 1073741824)) (cond_of hc) rfl leqI_ok) ?_
  refine arun_do rfl rfl rfl (ex_pick rfl pkAnd) ?_
  refine arun_do rfl rfl rfl (ex_assign (eV (v := (Bo ((decide (t0 ≥ 0)) && (decide (t0 ≤ 1073741824))))) rfl)) ?_
  refine arun_keepE [2] 0 0 (st' := ⟨9, 0, [(2, (Bo ((decide (t0 ≥ 0)) && (decide (t0 ≤ 1073741824)))))], [], ⟨0, []⟩⟩) (by kernel_rfl) (by kernel_rfl) ?_
  show AWp _ _ _ _
  refine awp_ret ?_
  cases h
  exact ares1 (rtmp rfl (eV rfl))

noncomputable def M_ref1_MayPtr (t0 : G_api_Ptr) : Option Bool :=
  Option.bind (gd (((decide (t0.Addr ≥ 0)) && (decide (t0.Addr ≤ 65535))) == true) (M_ref1_num t0.Birth)) fun (x1 : Bool) => some ((((decide (t0.Addr ≥ 0)) && (decide (t0.Addr ≤ 65535))) && x1) && ((decide (t0.Addr > 0)) || (decide (t0 = (G_api_Ptr.mk 0 0 (A4.mk 0 0 0 0))))))
theorem ok_ref1_MayPtr (t0 : G_api_Ptr) (r : Bool) (h : M_ref1_MayPtr t0 = some r) : FFn Try.prog 21 [(Value.agg (c_api_Ptr t0).toArray)] (Bo r) := by
  refine FFn.of_body (n := 26) Try.func21 rfl Try.ntmps21 rfl rfl rfl rfl ?_
  show AWp _ _ _ ⟨26, 0, [(0, (Value.agg (c_api_Ptr t0).toArray))], [], ⟨0, []⟩⟩
  unfold M_ref1_MayPtr at h
  refine awp_seq ?_
  refine awp_region ?_
  refine arun_do rfl rfl rfl (ex_box (vx := (Value.agg (c_api_Ptr t0).toArray)) (cs := (c_api_Ptr t0)) (k := 0) (L' := [(c_api_Ptr t0)]) (eV (v := (Value.agg (c_api_Ptr t0).toArray)) rfl) rfl rfl rfl) ?_
  refine arun_do rfl rfl rfl (ex_assign (eV (v := (Bo false)) rfl)) ?_
  refine arun_keepE [1] 1 0 (st' := ⟨26, 0, [(1, (LP 0 0))], [(c_api_Ptr t0)], ⟨0, []⟩⟩) (by kernel_rfl) (by kernel_rfl) ?_
  show AWp _ _ _ _
  refine awp_seq ?_
  refine awp_region ?_
  refine arun_do rfl rfl rfl (ex_fieldAddr (v := (LP 0 0)) Try.underlying26 rfl s_3 (by decide) rfl rfl) ?_
  refine arun_do rfl rfl rfl (tx_ldL1 (v := (I t0.Addr)) Try.underlying3 rfl rfl rfl rfl) ?_
  refine arun_do rfl rfl rfl (ex_bin (vx := (I t0.Addr)) (vy := (I 0)) rfl rfl geqI_ok) ?_
  refine arun_do rfl rfl rfl (ex_move (eV (v := (Bo (decide (t0.Addr ≥ 0)))) rfl)) ?_
  refine arun_guard (v := (LP 0 0)) ((decide (t0.Addr ≥ 0)) == true) rfl rfl rfl (fun hc => ex_fieldAddr (v := (LP 0 0)) Try.underlying26 rfl s_3 (by decide) rfl rfl) ?_
  refine arun_guard (v := (I t0.Addr)) ((decide (t0.Addr ≥ 0)) == true) rfl rfl rfl (fun hc => tx_ldL1 (v := (I t0.Addr)) Try.underlying3 rfl (cond_of hc) rfl rfl) ?_
  refine arun_guard (v := (Bo (decide (t0.Addr ≤ 65535)))) ((decide (t0.Addr ≥ 0)) == true) rfl rfl rfl (fun hc => ex_bin (vx := (I t0.Addr)) (vy := (I 65535)) (cond_of hc) rfl leqI_ok) ?_
  refine arun_do rfl rfl rfl (ex_pick rfl pkAnd) ?_
  refine arun_do rfl rfl rfl (ex_move (eV (v := (Bo ((decide (t0.Addr ≥ 0)) && (decide (t0.Addr ≤ 65535))))) rfl)) ?_
  refine arun_guard (v := (LP 0 1)) (((decide (t0.Addr ≥ 0)) && (decide (t0.Addr ≤ 65535))) == true) rfl rfl rfl (fun hc => ex_fieldAddr (v := (LP 0 1)) Try.underlying26 rfl s_3 (by decide) rfl rfl) ?_
  refine arun_guard (v := (I t0.Birth)) (((decide (t0.Addr ≥ 0)) && (decide (t0.Addr ≤ 65535))) == true) rfl rfl rfl (fun hc => tx_ldL1 (v := (I t0.Birth)) Try.underlying3 rfl (cond_of hc) rfl rfl) ?_
  obtain ⟨x1, hx1, h⟩ := bindS h
  refine arun_guard (v := (Bo x1)) (((decide (t0.Addr ≥ 0)) && (decide (t0.Addr ≤ 65535))) == true) rfl rfl rfl (fun hc => ex_call0 (vs := [(I t0.Birth)]) (v := (Bo x1)) rfl en_20 (cargs (evs (cond_of hc) evs_nil)) rfl (ok_ref1_num t0.Birth x1 (gd_of hc hx1)) rfl) ?_
  refine arun_do rfl rfl rfl (ex_pick rfl pkAnd) ?_
  refine arun_do rfl rfl rfl (ex_move (eV (v := (Bo (((decide (t0.Addr ≥ 0)) && (decide (t0.Addr ≤ 65535))) && x1))) rfl)) ?_
  refine arun_guard (v := (LP 0 0)) ((((decide (t0.Addr ≥ 0)) && (decide (t0.Addr ≤ 65535))) && x1) == true) rfl rfl rfl (fun hc => ex_fieldAddr (v := (LP 0 0)) Try.underlying26 rfl s_3 (by decide) rfl rfl) ?_
  refine arun_guard (v := (I t0.Addr)) ((((decide (t0.Addr ≥ 0)) && (decide (t0.Addr ≤ 65535))) && x1) == true) rfl rfl rfl (fun hc => tx_ldL1 (v := (I t0.Addr)) Try.underlying3 rfl (cond_of hc) rfl rfl) ?_
  refine arun_guard (v := (Bo (decide (t0.Addr > 0)))) ((((decide (t0.Addr ≥ 0)) && (decide (t0.Addr ≤ 65535))) && x1) == true) rfl rfl rfl (fun hc => ex_bin (vx := (I t0.Addr)) (vy := (I 0)) (cond_of hc) rfl gtrI_ok) ?_
  refine arun_guard (v := (Bo (decide (t0.Addr > 0)))) ((((decide (t0.Addr ≥ 0)) && (decide (t0.Addr ≤ 65535))) && x1) == true) rfl rfl rfl (fun hc => ex_move (eV (v := (Bo (decide (t0.Addr > 0)))) (cond_of hc))) ?_
  refine arun_guard (v := (Value.agg (c_api_Ptr t0).toArray)) (((((decide (t0.Addr ≥ 0)) && (decide (t0.Addr ≤ 65535))) && x1) == true) && ((decide (t0.Addr > 0)) == false)) rfl rfl gv_nest (fun hc => tx_ldLA (vs := (c_api_Ptr t0)) Try.underlying26 rfl s_26 (by decide) rfl rfl rfl rfl) ?_
  refine arun_guard (v := (Value.agg (c_api_Ptr (G_api_Ptr.mk 0 0 (A4.mk 0 0 0 0))).toArray)) (((((decide (t0.Addr ≥ 0)) && (decide (t0.Addr ≤ 65535))) && x1) == true) && ((decide (t0.Addr > 0)) == false)) rfl rfl gv_nest (fun hc => ex_build (qs := []) (v := (Value.agg (c_api_Ptr (G_api_Ptr.mk 0 0 (A4.mk 0 0 0 0))).toArray)) evp_nil (by kernel_rfl)) ?_
  refine arun_guard (v := (Bo (decide (t0 = (G_api_Ptr.mk 0 0 (A4.mk 0 0 0 0)))))) (((((decide (t0.Addr ≥ 0)) && (decide (t0.Addr ≤ 65535))) && x1) == true) && ((decide (t0.Addr > 0)) == false)) rfl rfl gv_nest (fun hc => ex_bin (vx := (Value.agg (c_api_Ptr t0).toArray)) (vy := (Value.agg (c_api_Ptr (G_api_Ptr.mk 0 0 (A4.mk 0 0 0 0))).toArray)) (cond_of hc) (cond_of hc) eql_26) ?_
  refine arun_guard (v := (Bo ((decide (t0.Addr > 0)) || (decide (t0 = (G_api_Ptr.mk 0 0 (A4.mk 0 0 0 0))))))) ((((decide (t0.Addr ≥ 0)) && (decide (t0.Addr ≤ 65535))) && x1) == true) rfl rfl rfl (fun hc => ex_pick (cond_of hc) (pkOrN hc)) ?_
  refine arun_do rfl rfl rfl (ex_pick rfl pkAnd) ?_
  refine arun_do rfl rfl rfl (ex_assign (eV (v := (Bo ((((decide (t0.Addr ≥ 0)) && (decide (t0.Addr ≤ 65535))) && x1) && ((decide (t0.Addr > 0)) || (decide (t0 = (G_api_Ptr.mk 0 0 (A4.mk 0 0 0 0)))))))) rfl)) ?_
  refine arun_keepE [2] 0 0 (st' := ⟨26, 0, [(2, (Bo ((((decide (t0.Addr ≥ 0)) && (decide (t0.Addr ≤ 65535))) && x1) && ((decide (t0.Addr > 0)) || (decide (t0 = (G_api_Ptr.mk 0 0 (A4.mk 0 0 0 0))))))))], [], ⟨0, []⟩⟩) (by kernel_rfl) (by kernel_rfl) ?_
  show AWp _ _ _ _
  refine awp_ret ?_
  cases h
  exact ares1 (rtmp rfl (eV rfl))

noncomputable def M_ref1_MayUber (t0 : G_api_Uber) : Option Bool :=
  Option.bind (gd ((decide (t0.Txg ≥ 1)) == true) (M_ref1_num t0.Txg)) fun (x1 : Bool) => Option.bind (gd (((decide (t0.Txg ≥ 1)) && x1) == true) (M_ref1_num t0.Guid)) fun (x2 : Bool) => Option.bind (gd ((((((decide (t0.Txg ≥ 1)) && x1) && x2) && (decide (t0.Seat ≥ 0))) && (decide (t0.Seat < 6))) == true) (M_ref1_MayPtr t0.Root)) fun (x3 : Bool) => some (((((((decide (t0.Txg ≥ 1)) && x1) && x2) && (decide (t0.Seat ≥ 0))) && (decide (t0.Seat < 6))) && x3) && (decide (t0.Root.Addr > 0)))
theorem ok_ref1_MayUber (t0 : G_api_Uber) (r : Bool) (h : M_ref1_MayUber t0 = some r) : FFn Try.prog 10 [(Value.agg (c_api_Uber t0).toArray)] (Bo r) := by
  refine FFn.of_body (n := 37) Try.func10 rfl Try.ntmps10 rfl rfl rfl rfl ?_
  show AWp _ _ _ ⟨37, 0, [(0, (Value.agg (c_api_Uber t0).toArray))], [], ⟨0, []⟩⟩
  unfold M_ref1_MayUber at h
  refine awp_seq ?_
  refine awp_region ?_
  refine arun_do rfl rfl rfl (ex_box (vx := (Value.agg (c_api_Uber t0).toArray)) (cs := (c_api_Uber t0)) (k := 0) (L' := [(c_api_Uber t0)]) (eV (v := (Value.agg (c_api_Uber t0).toArray)) rfl) rfl rfl rfl) ?_
  refine arun_do rfl rfl rfl (ex_assign (eV (v := (Bo false)) rfl)) ?_
  refine arun_keepE [1] 1 0 (st' := ⟨37, 0, [(1, (LP 0 0))], [(c_api_Uber t0)], ⟨0, []⟩⟩) (by kernel_rfl) (by kernel_rfl) ?_
  show AWp _ _ _ _
  refine awp_seq ?_
  refine awp_region ?_
  refine arun_do rfl rfl rfl (ex_fieldAddr (v := (LP 0 0)) Try.underlying28 rfl s_3 (by decide) rfl rfl) ?_
  refine arun_do rfl rfl rfl (tx_ldL1 (v := (I t0.Txg)) Try.underlying3 rfl rfl rfl rfl) ?_
  refine arun_do rfl rfl rfl (ex_bin (vx := (I t0.Txg)) (vy := (I 1)) rfl rfl geqI_ok) ?_
  refine arun_do rfl rfl rfl (ex_move (eV (v := (Bo (decide (t0.Txg ≥ 1)))) rfl)) ?_
  refine arun_guard (v := (LP 0 0)) ((decide (t0.Txg ≥ 1)) == true) rfl rfl rfl (fun hc => ex_fieldAddr (v := (LP 0 0)) Try.underlying28 rfl s_3 (by decide) rfl rfl) ?_
  refine arun_guard (v := (I t0.Txg)) ((decide (t0.Txg ≥ 1)) == true) rfl rfl rfl (fun hc => tx_ldL1 (v := (I t0.Txg)) Try.underlying3 rfl (cond_of hc) rfl rfl) ?_
  obtain ⟨x1, hx1, h⟩ := bindS h
  refine arun_guard (v := (Bo x1)) ((decide (t0.Txg ≥ 1)) == true) rfl rfl rfl (fun hc => ex_call0 (vs := [(I t0.Txg)]) (v := (Bo x1)) rfl en_20 (cargs (evs (cond_of hc) evs_nil)) rfl (ok_ref1_num t0.Txg x1 (gd_of hc hx1)) rfl) ?_
  refine arun_do rfl rfl rfl (ex_pick rfl pkAnd) ?_
  refine arun_do rfl rfl rfl (ex_move (eV (v := (Bo ((decide (t0.Txg ≥ 1)) && x1))) rfl)) ?_
  refine arun_guard (v := (LP 0 1)) (((decide (t0.Txg ≥ 1)) && x1) == true) rfl rfl rfl (fun hc => ex_fieldAddr (v := (LP 0 1)) Try.underlying28 rfl s_3 (by decide) rfl rfl) ?_
  refine arun_guard (v := (I t0.Guid)) (((decide (t0.Txg ≥ 1)) && x1) == true) rfl rfl rfl (fun hc => tx_ldL1 (v := (I t0.Guid)) Try.underlying3 rfl (cond_of hc) rfl rfl) ?_
  obtain ⟨x2, hx2, h⟩ := bindS h
  refine arun_guard (v := (Bo x2)) (((decide (t0.Txg ≥ 1)) && x1) == true) rfl rfl rfl (fun hc => ex_call0 (vs := [(I t0.Guid)]) (v := (Bo x2)) rfl en_20 (cargs (evs (cond_of hc) evs_nil)) rfl (ok_ref1_num t0.Guid x2 (gd_of hc hx2)) rfl) ?_
  refine arun_do rfl rfl rfl (ex_pick rfl pkAnd) ?_
  refine arun_do rfl rfl rfl (ex_move (eV (v := (Bo (((decide (t0.Txg ≥ 1)) && x1) && x2))) rfl)) ?_
  refine arun_guard (v := (LP 0 2)) ((((decide (t0.Txg ≥ 1)) && x1) && x2) == true) rfl rfl rfl (fun hc => ex_fieldAddr (v := (LP 0 2)) Try.underlying28 rfl s_3 (by decide) rfl rfl) ?_
  refine arun_guard (v := (I t0.Seat)) ((((decide (t0.Txg ≥ 1)) && x1) && x2) == true) rfl rfl rfl (fun hc => tx_ldL1 (v := (I t0.Seat)) Try.underlying3 rfl (cond_of hc) rfl rfl) ?_
  refine arun_guard (v := (Bo (decide (t0.Seat ≥ 0)))) ((((decide (t0.Txg ≥ 1)) && x1) && x2) == true) rfl rfl rfl (fun hc => ex_bin (vx := (I t0.Seat)) (vy := (I 0)) (cond_of hc) rfl geqI_ok) ?_
  refine arun_do rfl rfl rfl (ex_pick rfl pkAnd) ?_
  refine arun_do rfl rfl rfl (ex_move (eV (v := (Bo ((((decide (t0.Txg ≥ 1)) && x1) && x2) && (decide (t0.Seat ≥ 0))))) rfl)) ?_
  refine arun_guard (v := (LP 0 2)) (((((decide (t0.Txg ≥ 1)) && x1) && x2) && (decide (t0.Seat ≥ 0))) == true) rfl rfl rfl (fun hc => ex_fieldAddr (v := (LP 0 2)) Try.underlying28 rfl s_3 (by decide) rfl rfl) ?_
  refine arun_guard (v := (I t0.Seat)) (((((decide (t0.Txg ≥ 1)) && x1) && x2) && (decide (t0.Seat ≥ 0))) == true) rfl rfl rfl (fun hc => tx_ldL1 (v := (I t0.Seat)) Try.underlying3 rfl (cond_of hc) rfl rfl) ?_
  refine arun_guard (v := (Bo (decide (t0.Seat < 6)))) (((((decide (t0.Txg ≥ 1)) && x1) && x2) && (decide (t0.Seat ≥ 0))) == true) rfl rfl rfl (fun hc => ex_bin (vx := (I t0.Seat)) (vy := (I 6)) (cond_of hc) rfl lssI_ok) ?_
  refine arun_do rfl rfl rfl (ex_pick rfl pkAnd) ?_
  refine arun_do rfl rfl rfl (ex_move (eV (v := (Bo (((((decide (t0.Txg ≥ 1)) && x1) && x2) && (decide (t0.Seat ≥ 0))) && (decide (t0.Seat < 6))))) rfl)) ?_
  refine arun_guard (v := (LP 0 3)) ((((((decide (t0.Txg ≥ 1)) && x1) && x2) && (decide (t0.Seat ≥ 0))) && (decide (t0.Seat < 6))) == true) rfl rfl rfl (fun hc => ex_fieldAddr (v := (LP 0 3)) Try.underlying28 rfl s_26 (by decide) rfl rfl) ?_
  refine arun_guard (v := (Value.agg (c_api_Ptr t0.Root).toArray)) ((((((decide (t0.Txg ≥ 1)) && x1) && x2) && (decide (t0.Seat ≥ 0))) && (decide (t0.Seat < 6))) == true) rfl rfl rfl (fun hc => tx_ldLA (vs := (c_api_Ptr t0.Root)) Try.underlying26 rfl s_26 (by decide) (cond_of hc) rfl rfl rfl) ?_
  obtain ⟨x3, hx3, h⟩ := bindS h
  refine arun_guard (v := (Bo x3)) ((((((decide (t0.Txg ≥ 1)) && x1) && x2) && (decide (t0.Seat ≥ 0))) && (decide (t0.Seat < 6))) == true) rfl rfl rfl (fun hc => ex_call0 (vs := [(Value.agg (c_api_Ptr t0.Root).toArray)]) (v := (Bo x3)) rfl en_21 (cargs (evs (cond_of hc) evs_nil)) rfl (ok_ref1_MayPtr t0.Root x3 (gd_of hc hx3)) rfl) ?_
  refine arun_do rfl rfl rfl (ex_pick rfl pkAnd) ?_
  refine arun_do rfl rfl rfl (ex_move (eV (v := (Bo ((((((decide (t0.Txg ≥ 1)) && x1) && x2) && (decide (t0.Seat ≥ 0))) && (decide (t0.Seat < 6))) && x3))) rfl)) ?_
  refine arun_guard (v := (LP 0 3)) (((((((decide (t0.Txg ≥ 1)) && x1) && x2) && (decide (t0.Seat ≥ 0))) && (decide (t0.Seat < 6))) && x3) == true) rfl rfl rfl (fun hc => ex_fieldAddr (v := (LP 0 3)) Try.underlying28 rfl s_26 (by decide) rfl rfl) ?_
  refine arun_guard (v := (LP 0 3)) (((((((decide (t0.Txg ≥ 1)) && x1) && x2) && (decide (t0.Seat ≥ 0))) && (decide (t0.Seat < 6))) && x3) == true) rfl rfl rfl (fun hc => ex_fieldAddr (v := (LP 0 3)) Try.underlying26 rfl s_3 (by decide) (cond_of hc) rfl) ?_
  refine arun_guard (v := (I t0.Root.Addr)) (((((((decide (t0.Txg ≥ 1)) && x1) && x2) && (decide (t0.Seat ≥ 0))) && (decide (t0.Seat < 6))) && x3) == true) rfl rfl rfl (fun hc => tx_ldL1 (v := (I t0.Root.Addr)) Try.underlying3 rfl (cond_of hc) rfl rfl) ?_
  refine arun_guard (v := (Bo (decide (t0.Root.Addr > 0)))) (((((((decide (t0.Txg ≥ 1)) && x1) && x2) && (decide (t0.Seat ≥ 0))) && (decide (t0.Seat < 6))) && x3) == true) rfl rfl rfl (fun hc => ex_bin (vx := (I t0.Root.Addr)) (vy := (I 0)) (cond_of hc) rfl gtrI_ok) ?_
  refine arun_do rfl rfl rfl (ex_pick rfl pkAnd) ?_
  refine arun_do rfl rfl rfl (ex_assign (eV (v := (Bo (((((((decide (t0.Txg ≥ 1)) && x1) && x2) && (decide (t0.Seat ≥ 0))) && (decide (t0.Seat < 6))) && x3) && (decide (t0.Root.Addr > 0))))) rfl)) ?_
  refine arun_keepE [2] 0 0 (st' := ⟨37, 0, [(2, (Bo (((((((decide (t0.Txg ≥ 1)) && x1) && x2) && (decide (t0.Seat ≥ 0))) && (decide (t0.Seat < 6))) && x3) && (decide (t0.Root.Addr > 0)))))], [], ⟨0, []⟩⟩) (by kernel_rfl) (by kernel_rfl) ?_
  show AWp _ _ _ _
  refine awp_ret ?_
  cases h
  exact ares1 (rtmp rfl (eV rfl))

noncomputable def M_ref1_Put_l2 (c_1 : (Str → Int → Option Str)) (t0 : Str) (t1 : (List Int)) (v3 : Int) : Nat → Str → Int → Option Str
  | 0, _, _ => none
  | n2 + 1, v7, v8 =>
  cond (decide (v8 ≥ 0)) (Option.bind (getI t1 v3) fun (x10 : Int) => Option.bind (shrI x10 (w64 (8 * v8))) fun (x11 : Int) => Option.bind (addS v7 ([(UInt8.ofInt x11)] : List UInt8)) fun (x12 : Str) => (M_ref1_Put_l2 c_1 t0 t1 v3 n2) x12 (w64 (v8 - 1))) (c_1 v7 (w64 (v3 + 1)))
noncomputable def M_ref1_Put_l1 (t0 : Str) (t1 : (List Int)) : Nat → Str → Int → Option Str
  | 0, _, _ => none
  | n1 + 1, v2, v3 =>
  cond (decide (v3 < (t0.length : Int))) (Option.bind (getI t0 v3) fun (x5 : UInt8) => cond ((decide ((w64 ((x5.toNat : Int) - 48)) < 1)) || (decide ((w64 ((x5.toNat : Int) - 48)) > 4))) (some []) (M_ref1_Put_l2 (M_ref1_Put_l1 t0 t1 n1) t0 t1 v3 fuel v2 (w64 ((w64 ((x5.toNat : Int) - 48)) - 1)))) (some v2)
noncomputable def M_ref1_Put (t0 : Str) (t1 : (List Int)) : Option Str :=
  cond ((t0.length : Int) != (t1.length : Int)) (some []) (M_ref1_Put_l1 t0 t1 fuel ([] : Str) 0)
theorem ok_ref1_Put (t0 : Str) (t1 : (List Int)) (r : Str) (h : M_ref1_Put t0 t1 = some r) : FFn Try.prog 24 [(S t0), (SL 1 cI t1)] (S r) := by
  refine FFn.of_body (n := 50) Try.func24 rfl Try.ntmps24 rfl rfl rfl rfl ?_
  show AWp _ _ _ ⟨50, 0, [(0, (S t0)), (1, (SL 1 cI t1))], [], ⟨0, []⟩⟩
  unfold M_ref1_Put at h
  refine awp_seq ?_
  refine awp_region ?_
  refine arun_do rfl rfl rfl (ex_assign (eV (v := (S [])) rfl)) ?_
  refine arun_keepE [0, 1] 0 0 (st' := ⟨50, 0, [(0, (S t0)), (1, (SL 1 cI t1))], [], ⟨0, []⟩⟩) (by kernel_rfl) (by kernel_rfl) ?_
  show AWp _ _ _ _
  refine awp_seq ?_
  refine awp_seq ?_
  refine awp_region ?_
  refine arun_do rfl rfl rfl (ex_move (eV (v := (S t0)) rfl)) ?_
  refine arun_do rfl rfl rfl (tx_lenS Try.underlying9 rfl) ?_
  refine arun_do rfl rfl rfl (ex_move (eV (v := (SL 1 cI t1)) rfl)) ?_
  refine arun_do rfl rfl rfl (tx_lenD (xs := t1) ceI Try.underlying52 rfl) ?_
  refine arun_do rfl rfl rfl (ex_bin (vx := (I (t0.length : Int))) (vy := (I (t1.length : Int))) rfl rfl neqI_ok) ?_
  refine arun_keepE [0, 1, 13] 0 0 (st' := ⟨50, 0, [(0, (S t0)), (1, (SL 1 cI t1)), (13, (Bo ((t0.length : Int) != (t1.length : Int))))], [], ⟨0, []⟩⟩) (by kernel_rfl) (by kernel_rfl) ?_
  show AWp _ _ _ _
  rcases Bool.eq_false_or_eq_true ((t0.length : Int) != (t1.length : Int)) with hb1 | hb1
  · rw [condT hb1] at h
    refine awp_condT (boT hb1) ?_
    refine awp_seq ?_
    refine awp_region ?_
    refine arun_do rfl rfl rfl (ex_assign (eV (v := (S [])) rfl)) ?_
    refine arun_keepE [4] 0 0 (st' := ⟨50, 0, [(4, (S []))], [], ⟨0, []⟩⟩) (by kernel_rfl) (by kernel_rfl) ?_
    show AWp _ _ _ _
    refine awp_ret ?_
    cases h
    exact ares1 (rtmp rfl (eV rfl))
  · rw [condF hb1] at h
    refine awp_condF (boF hb1) ?_
    refine awp_skip ?_
    show AWp _ _ _ _
    refine awp_seq ?_
    refine awp_region ?_
    refine arun_do rfl rfl rfl (ex_assign (eV (v := (S [])) rfl)) ?_
    refine arun_keepE [0, 1, 5] 0 0 (st' := ⟨50, 0, [(0, (S t0)), (1, (SL 1 cI t1)), (5, (S []))], [], ⟨0, []⟩⟩) (by kernel_rfl) (by kernel_rfl) ?_
    show AWp _ _ _ _
    refine awp_seq ?_
    refine awp_seq ?_
    refine awp_region ?_
    refine arun_do rfl rfl rfl (ex_assign (eV (v := (I 0)) rfl)) ?_
    refine arun_keepE [0, 1, 5, 6] 0 0 (st' := ⟨50, 0, [(0, (S t0)), (1, (SL 1 cI t1)), (5, (S [])), (6, (I 0))], [], ⟨0, []⟩⟩) (by kernel_rfl) (by kernel_rfl) ?_
    show AWp _ _ _ _
    refine awp_block ?_
    refine awp_loop (fun n s => ∃ (v2 : Str) (v3 : Int), s = ⟨50, 0, [(0, (S t0)), (1, (SL 1 cI t1)), (5, (S v2)), (6, (I v3))], [], ⟨0, []⟩⟩ ∧ M_ref1_Put_l1 t0 t1 n v2 v3 = some r) fuel (Exists.intro ([] : Str) (Exists.intro 0 (And.intro rfl h))) ?_
    rintro n s ⟨v2, v3, rfl, h⟩ -
    cases n with
    | zero => cases h
    | succ n1 =>
      unfold M_ref1_Put_l1 at h
      refine awp_seq ?_
      refine awp_seq ?_
      refine awp_region ?_
      refine arun_do rfl rfl rfl (ex_move (eV (v := (I v3)) rfl)) ?_
      refine arun_do rfl rfl rfl (ex_move (eV (v := (S t0)) rfl)) ?_
      refine arun_do rfl rfl rfl (tx_lenS Try.underlying9 rfl) ?_
      refine arun_do rfl rfl rfl (ex_bin (vx := (I v3)) (vy := (I (t0.length : Int))) rfl rfl lssI_ok) ?_
      refine arun_keepE [0, 1, 5, 6, 17] 0 0 (st' := ⟨50, 0, [(0, (S t0)), (1, (SL 1 cI t1)), (5, (S v2)), (6, (I v3)), (17, (Bo (decide (v3 < (t0.length : Int)))))], [], ⟨0, []⟩⟩) (by kernel_rfl) (by kernel_rfl) ?_
      show AWp _ _ _ _
      rcases Bool.eq_false_or_eq_true (decide (v3 < (t0.length : Int))) with hb4 | hb4
      · rw [condT hb4] at h
        refine awp_condT (boT hb4) ?_
        refine awp_skip ?_
        show AWp _ _ _ _
        refine awp_seq ?_
        refine awp_block ?_
        refine awp_seq ?_
        refine awp_region ?_
        refine arun_do rfl rfl rfl (ex_move (eV (v := (S t0)) rfl)) ?_
        refine arun_do rfl rfl rfl (ex_move (eV (v := (I v3)) rfl)) ?_
        obtain ⟨x5, hx5, h⟩ := bindS h
        refine arun_do rfl rfl rfl (tx_idxS (u := t0) (i := v3) Try.underlying9 rfl rfl hx5) ?_
        refine arun_do rfl rfl rfl (tx_8_64 Try.underlying5 Try.underlying3 rfl) ?_
        refine arun_do rfl rfl rfl (ex_bin (vx := (I (x5.toNat : Int))) (vy := (I 48)) rfl rfl subI_ok) ?_
        refine arun_do rfl rfl rfl (ex_assign (eV (v := (I (w64 ((x5.toNat : Int) - 48)))) rfl)) ?_
        refine arun_keepE [0, 1, 5, 6, 7] 0 0 (st' := ⟨50, 0, [(0, (S t0)), (1, (SL 1 cI t1)), (5, (S v2)), (6, (I v3)), (7, (I (w64 ((x5.toNat : Int) - 48))))], [], ⟨0, []⟩⟩) (by kernel_rfl) (by kernel_rfl) ?_
        show AWp _ _ _ _
        refine awp_seq ?_
        refine awp_seq ?_
        refine awp_region ?_
        refine arun_do rfl rfl rfl (ex_move (eV (v := (I (w64 ((x5.toNat : Int) - 48)))) rfl)) ?_
        refine arun_do rfl rfl rfl (ex_bin (vx := (I (w64 ((x5.toNat : Int) - 48)))) (vy := (I 1)) rfl rfl lssI_ok) ?_
        refine arun_do rfl rfl rfl (ex_move (eV (v := (Bo (decide ((w64 ((x5.toNat : Int) - 48)) < 1)))) rfl)) ?_
        refine arun_guard (v := (I (w64 ((x5.toNat : Int) - 48)))) ((decide ((w64 ((x5.toNat : Int) - 48)) < 1)) == false) rfl rfl rfl (fun hc => ex_move (eV (v := (I (w64 ((x5.toNat : Int) - 48)))) rfl)) ?_
        refine arun_guard (v := (Bo (decide ((w64 ((x5.toNat : Int) - 48)) > 4)))) ((decide ((w64 ((x5.toNat : Int) - 48)) < 1)) == false) rfl rfl rfl (fun hc => ex_bin (vx := (I (w64 ((x5.toNat : Int) - 48)))) (vy := (I 4)) (cond_of hc) rfl gtrI_ok) ?_
        refine arun_do rfl rfl rfl (ex_pick rfl pkOr) ?_
        refine arun_keepE [0, 1, 5, 6, 7, 30] 0 0 (st' := ⟨50, 0, [(0, (S t0)), (1, (SL 1 cI t1)), (5, (S v2)), (6, (I v3)), (7, (I (w64 ((x5.toNat : Int) - 48)))), (30, (Bo ((decide ((w64 ((x5.toNat : Int) - 48)) < 1)) || (decide ((w64 ((x5.toNat : Int) - 48)) > 4)))))], [], ⟨0, []⟩⟩) (by kernel_rfl) (by kernel_rfl) ?_
        show AWp _ _ _ _
        rcases Bool.eq_false_or_eq_true ((decide ((w64 ((x5.toNat : Int) - 48)) < 1)) || (decide ((w64 ((x5.toNat : Int) - 48)) > 4))) with hb6 | hb6
        · rw [condT hb6] at h
          refine awp_condT (boT hb6) ?_
          refine awp_seq ?_
          refine awp_region ?_
          refine arun_do rfl rfl rfl (ex_assign (eV (v := (S [])) rfl)) ?_
          refine arun_keepE [4] 0 0 (st' := ⟨50, 0, [(4, (S []))], [], ⟨0, []⟩⟩) (by kernel_rfl) (by kernel_rfl) ?_
          show AWp _ _ _ _
          refine awp_ret ?_
          cases h
          exact ares1 (rtmp rfl (eV rfl))
        · rw [condF hb6] at h
          refine awp_condF (boF hb6) ?_
          refine awp_skip ?_
          show AWp _ _ _ _
          refine awp_seq ?_
          refine awp_region ?_
          refine arun_do rfl rfl rfl (ex_move (eV (v := (I (w64 ((x5.toNat : Int) - 48)))) rfl)) ?_
          refine arun_do rfl rfl rfl (ex_bin (vx := (I (w64 ((x5.toNat : Int) - 48)))) (vy := (I 1)) rfl rfl subI_ok) ?_
          refine arun_do rfl rfl rfl (ex_assign (eV (v := (I (w64 ((w64 ((x5.toNat : Int) - 48)) - 1)))) rfl)) ?_
          refine arun_keepE [0, 1, 5, 6, 8] 0 0 (st' := ⟨50, 0, [(0, (S t0)), (1, (SL 1 cI t1)), (5, (S v2)), (6, (I v3)), (8, (I (w64 ((w64 ((x5.toNat : Int) - 48)) - 1))))], [], ⟨0, []⟩⟩) (by kernel_rfl) (by kernel_rfl) ?_
          show AWp _ _ _ _
          refine awp_block ?_
          refine awp_loop (fun n s => ∃ (v7 : Str) (v8 : Int), s = ⟨50, 0, [(0, (S t0)), (1, (SL 1 cI t1)), (5, (S v7)), (6, (I v3)), (8, (I v8))], [], ⟨0, []⟩⟩ ∧ M_ref1_Put_l2 (M_ref1_Put_l1 t0 t1 n1) t0 t1 v3 n v7 v8 = some r) fuel (Exists.intro v2 (Exists.intro (w64 ((w64 ((x5.toNat : Int) - 48)) - 1)) (And.intro rfl h))) ?_
          rintro n s ⟨v7, v8, rfl, h⟩ -
          cases n with
          | zero => cases h
          | succ n2 =>
            unfold M_ref1_Put_l2 at h
            refine awp_seq ?_
            refine awp_seq ?_
            refine awp_region ?_
            refine arun_do rfl rfl rfl (ex_move (eV (v := (I v8)) rfl)) ?_
            refine arun_do rfl rfl rfl (ex_bin (vx := (I v8)) (vy := (I 0)) rfl rfl geqI_ok) ?_
            refine arun_keepE [0, 1, 5, 6, 8, 34] 0 0 (st' := ⟨50, 0, [(0, (S t0)), (1, (SL 1 cI t1)), (5, (S v7)), (6, (I v3)), (8, (I v8)), (34, (Bo (decide (v8 ≥ 0))))], [], ⟨0, []⟩⟩) (by kernel_rfl) (by kernel_rfl) ?_
            show AWp _ _ _ _
            rcases Bool.eq_false_or_eq_true (decide (v8 ≥ 0)) with hb9 | hb9
            · rw [condT hb9] at h
              refine awp_condT (boT hb9) ?_
              refine awp_skip ?_
              show AWp _ _ _ _
              refine awp_seq ?_
              refine awp_block ?_
              refine awp_region ?_
              refine arun_do rfl rfl rfl (ex_move (eV (v := (S v7)) rfl)) ?_
              refine arun_do rfl rfl rfl (ex_move (eV (v := (SL 1 cI t1)) rfl)) ?_
              refine arun_do rfl rfl rfl (ex_move (eV (v := (I v3)) rfl)) ?_
              obtain ⟨x10, hx10, h⟩ := bindS h
              refine arun_do rfl rfl rfl (tx_idxD (c := cI) (xs := t1) (i := v3) ceI Try.underlying52 s_3 rfl rfl hx10) ?_
              refine arun_do rfl rfl rfl (tx_ldD1 (v := (I x10)) Try.underlying3 rfl rfl rfl) ?_
              refine arun_do rfl rfl rfl (ex_move (eV (v := (I v8)) rfl)) ?_
              refine arun_do rfl rfl rfl (ex_bin (vx := (I 8)) (vy := (I v8)) rfl rfl mulI_ok) ?_
              obtain ⟨x11, hx11, h⟩ := bindS h
              refine arun_do rfl rfl rfl (ex_bin (vx := (I x10)) (vy := (I (w64 (8 * v8)))) rfl rfl (shrI_ok hx11)) ?_
              refine arun_do rfl rfl rfl (tx_64_8 Try.underlying3 Try.underlying5 rfl) ?_
              refine arun_do rfl rfl rfl (ex_buildSliceD (qs := [(0, (U8 (UInt8.ofInt x11)))]) (cells := (([(UInt8.ofInt x11)] : List UInt8).flatMap c8)) Try.underlying35 s_5 (by decide) (evp rfl evp_nil) rfl (by kernel_rfl) (by kernel_rfl) (by kernel_rfl)) ?_
              refine arun_do rfl rfl rfl (tx_bsD (bs := ([(UInt8.ofInt x11)] : List UInt8)) Try.underlying35 Try.underlying9 Try.underlying5 rfl) ?_
              obtain ⟨x12, hx12, h⟩ := bindS h
              refine arun_do rfl rfl rfl (ex_bin (vx := (S v7)) (vy := (S ([(UInt8.ofInt x11)] : List UInt8))) rfl rfl (addS_ok hx12)) ?_
              refine arun_do rfl rfl rfl (ex_assign (eV (v := (S x12)) rfl)) ?_
              refine arun_keepE [0, 1, 5, 6, 8] 0 0 (st' := ⟨50, 0, [(0, (S t0)), (1, (SL 1 cI t1)), (5, (S x12)), (6, (I v3)), (8, (I v8))], [], ⟨0, []⟩⟩) (by kernel_rfl) (by kernel_rfl) ?_
              show AWp _ _ _ _
              refine awp_region ?_
              refine arun_do rfl rfl rfl (ex_move (eV (v := (I v8)) rfl)) ?_
              refine arun_do rfl rfl rfl (ex_bin (vx := (I v8)) (vy := (I 1)) rfl rfl subI_ok) ?_
              refine arun_do rfl rfl rfl (ex_assign (eV (v := (I (w64 (v8 - 1)))) rfl)) ?_
              refine arun_keepE [0, 1, 5, 6, 8] 0 0 (st' := ⟨50, 0, [(0, (S t0)), (1, (SL 1 cI t1)), (5, (S x12)), (6, (I v3)), (8, (I (w64 (v8 - 1))))], [], ⟨0, []⟩⟩) (by kernel_rfl) (by kernel_rfl) ?_
              exact Exists.intro n2 (And.intro (Nat.lt_succ_self _) (Exists.intro x12 (Exists.intro (w64 (v8 - 1)) (And.intro rfl h))))
            · rw [condF hb9] at h
              refine awp_condF (boF hb9) ?_
              refine awp_exit ?_
              show AWp _ _ _ _
              refine awp_region ?_
              refine arun_do rfl rfl rfl (ex_move (eV (v := (I v3)) rfl)) ?_
              refine arun_do rfl rfl rfl (ex_bin (vx := (I v3)) (vy := (I 1)) rfl rfl addI_ok) ?_
              refine arun_do rfl rfl rfl (ex_assign (eV (v := (I (w64 (v3 + 1)))) rfl)) ?_
              refine arun_keepE [0, 1, 5, 6] 0 0 (st' := ⟨50, 0, [(0, (S t0)), (1, (SL 1 cI t1)), (5, (S v7)), (6, (I (w64 (v3 + 1))))], [], ⟨0, []⟩⟩) (by kernel_rfl) (by kernel_rfl) ?_
              exact Exists.intro n1 (And.intro (Nat.lt_succ_self _) (Exists.intro v7 (Exists.intro (w64 (v3 + 1)) (And.intro rfl h))))
      · rw [condF hb4] at h
        refine awp_condF (boF hb4) ?_
        refine awp_exit ?_
        show AWp _ _ _ _
        refine awp_seq ?_
        refine awp_region ?_
        refine arun_do rfl rfl rfl (ex_move (eV (v := (S v2)) rfl)) ?_
        refine arun_do rfl rfl rfl (ex_assign (eV (v := (S v2)) rfl)) ?_
        refine arun_keepE [4] 0 0 (st' := ⟨50, 0, [(4, (S v2))], [], ⟨0, []⟩⟩) (by kernel_rfl) (by kernel_rfl) ?_
        show AWp _ _ _ _
        refine awp_ret ?_
        cases h
        exact ares1 (rtmp rfl (eV rfl))

noncomputable def M_ref1_PutPtrs_l1 (t0 : (List G_api_Ptr)) : Nat → Str → Int → Option Str
  | 0, _, _ => none
  | n1 + 1, v1, v2 =>
  cond (decide (v2 < (t0.length : Int))) (Option.bind (getI t0 v2) fun (x4 : G_api_Ptr) => Option.bind (M_ref1_MayPtr x4) fun (x5 : Bool) => cond (!x5) (some []) (Option.bind (getI t0 v2) fun (x7 : G_api_Ptr) => Option.bind (M_ref1_Put ([50, 52, 52, 52, 52, 52] : Str) ([x7.Addr, x7.Birth, (x7.Sum.x0.toNat : Int), (x7.Sum.x1.toNat : Int), (x7.Sum.x2.toNat : Int), (x7.Sum.x3.toNat : Int)] : List Int)) fun (x8 : Str) => Option.bind (addS v1 x8) fun (x9 : Str) => (M_ref1_PutPtrs_l1 t0 n1) x9 (w64 (v2 + 1)))) (some v1)
noncomputable def M_ref1_PutPtrs (t0 : (List G_api_Ptr)) : Option Str :=
  M_ref1_PutPtrs_l1 t0 fuel ([] : Str) 0
theorem ok_ref1_PutPtrs (t0 : (List G_api_Ptr)) (r : Str) (h : M_ref1_PutPtrs t0 = some r) : FFn Try.prog 25 [(SL 6 c_api_Ptr t0)] (S r) := by
  refine FFn.of_body (n := 47) Try.func25 rfl Try.ntmps25 rfl rfl rfl rfl ?_
  show AWp _ _ _ ⟨47, 0, [(0, (SL 6 c_api_Ptr t0))], [], ⟨0, []⟩⟩
  unfold M_ref1_PutPtrs at h
  refine awp_seq ?_
  refine awp_region ?_
  refine arun_do rfl rfl rfl (ex_assign (eV (v := (S [])) rfl)) ?_
  refine arun_keepE [0] 0 0 (st' := ⟨47, 0, [(0, (SL 6 c_api_Ptr t0))], [], ⟨0, []⟩⟩) (by kernel_rfl) (by kernel_rfl) ?_
  show AWp _ _ _ _
  refine awp_seq ?_
  refine awp_region ?_
  refine arun_do rfl rfl rfl (ex_assign (eV (v := (S [])) rfl)) ?_
  refine arun_keepE [0, 3] 0 0 (st' := ⟨47, 0, [(0, (SL 6 c_api_Ptr t0)), (3, (S []))], [], ⟨0, []⟩⟩) (by kernel_rfl) (by kernel_rfl) ?_
  show AWp _ _ _ _
  refine awp_seq ?_
  refine awp_seq ?_
  refine awp_region ?_
  refine arun_do rfl rfl rfl (ex_assign (eV (v := (I 0)) rfl)) ?_
  refine arun_keepE [0, 3, 4] 0 0 (st' := ⟨47, 0, [(0, (SL 6 c_api_Ptr t0)), (3, (S [])), (4, (I 0))], [], ⟨0, []⟩⟩) (by kernel_rfl) (by kernel_rfl) ?_
  show AWp _ _ _ _
  refine awp_block ?_
  refine awp_loop (fun n s => ∃ (v1 : Str) (v2 : Int), s = ⟨47, 0, [(0, (SL 6 c_api_Ptr t0)), (3, (S v1)), (4, (I v2))], [], ⟨0, []⟩⟩ ∧ M_ref1_PutPtrs_l1 t0 n v1 v2 = some r) fuel (Exists.intro ([] : Str) (Exists.intro 0 (And.intro rfl h))) ?_
  rintro n s ⟨v1, v2, rfl, h⟩ -
  cases n with
  | zero => cases h
  | succ n1 =>
    unfold M_ref1_PutPtrs_l1 at h
    refine awp_seq ?_
    refine awp_seq ?_
    refine awp_region ?_
    refine arun_do rfl rfl rfl (ex_move (eV (v := (I v2)) rfl)) ?_
    refine arun_do rfl rfl rfl (ex_move (eV (v := (SL 6 c_api_Ptr t0)) rfl)) ?_
    refine arun_do rfl rfl rfl (tx_lenD (xs := t0) ce_api_Ptr Try.underlying54 rfl) ?_
    refine arun_do rfl rfl rfl (ex_bin (vx := (I v2)) (vy := (I (t0.length : Int))) rfl rfl lssI_ok) ?_
    refine arun_keepE [0, 3, 4, 9] 0 0 (st' := ⟨47, 0, [(0, (SL 6 c_api_Ptr t0)), (3, (S v1)), (4, (I v2)), (9, (Bo (decide (v2 < (t0.length : Int)))))], [], ⟨0, []⟩⟩) (by kernel_rfl) (by kernel_rfl) ?_
    show AWp _ _ _ _
    rcases Bool.eq_false_or_eq_true (decide (v2 < (t0.length : Int))) with hb3 | hb3
    · rw [condT hb3] at h
      refine awp_condT (boT hb3) ?_
      refine awp_skip ?_
      show AWp _ _ _ _
      refine awp_seq ?_
      refine awp_block ?_
      refine awp_seq ?_
      refine awp_seq ?_
      refine awp_region ?_
      refine arun_do rfl rfl rfl (ex_move (eV (v := (SL 6 c_api_Ptr t0)) rfl)) ?_
      refine arun_do rfl rfl rfl (ex_move (eV (v := (I v2)) rfl)) ?_
      obtain ⟨x4, hx4, h⟩ := bindS h
      refine arun_do rfl rfl rfl (tx_idxD (c := c_api_Ptr) (xs := t0) (i := v2) ce_api_Ptr Try.underlying54 s_26 rfl rfl hx4) ?_
      refine arun_do rfl rfl rfl (tx_ldDA (vs := (c_api_Ptr x4)) Try.underlying26 rfl s_26 (by decide) rfl (Nat.le_of_ble_eq_true rfl) rfl) ?_
      obtain ⟨x5, hx5, h⟩ := bindS h
      refine arun_do rfl rfl rfl (ex_call0 (vs := [(Value.agg (c_api_Ptr x4).toArray)]) (v := (Bo x5)) rfl en_21 (cargs (evs rfl evs_nil)) rfl (ok_ref1_MayPtr x4 x5 hx5) rfl) ?_
      refine arun_do rfl rfl rfl (ex_un (vx := (Bo x5)) rfl notB_ok) ?_
      refine arun_keepE [0, 3, 4, 17] 0 0 (st' := ⟨47, 0, [(0, (SL 6 c_api_Ptr t0)), (3, (S v1)), (4, (I v2)), (17, (Bo (!x5)))], [], ⟨0, []⟩⟩) (by kernel_rfl) (by kernel_rfl) ?_
      show AWp _ _ _ _
      rcases Bool.eq_false_or_eq_true (!x5) with hb6 | hb6
      · rw [condT hb6] at h
        refine awp_condT (boT hb6) ?_
        refine awp_seq ?_
        refine awp_region ?_
        refine arun_do rfl rfl rfl (ex_assign (eV (v := (S [])) rfl)) ?_
        refine arun_keepE [2] 0 0 (st' := ⟨47, 0, [(2, (S []))], [], ⟨0, []⟩⟩) (by kernel_rfl) (by kernel_rfl) ?_
        show AWp _ _ _ _
        refine awp_ret ?_
        cases h
        exact ares1 (rtmp rfl (eV rfl))
      · rw [condF hb6] at h
        refine awp_condF (boF hb6) ?_
        refine awp_skip ?_
        show AWp _ _ _ _
        refine awp_seq ?_
        refine awp_region ?_
        refine arun_do rfl rfl rfl (ex_move (eV (v := (SL 6 c_api_Ptr t0)) rfl)) ?_
        refine arun_do rfl rfl rfl (ex_move (eV (v := (I v2)) rfl)) ?_
        obtain ⟨x7, hx7, h⟩ := bindS h
        refine arun_do rfl rfl rfl (tx_idxD (c := c_api_Ptr) (xs := t0) (i := v2) ce_api_Ptr Try.underlying54 s_26 rfl rfl hx7) ?_
        refine arun_do rfl rfl rfl (tx_ldDA (vs := (c_api_Ptr x7)) Try.underlying26 rfl s_26 (by decide) rfl (Nat.le_of_ble_eq_true rfl) rfl) ?_
        refine arun_do rfl rfl rfl (ex_alloc (k := 0) (zs := (c_api_Ptr (G_api_Ptr.mk 0 0 (A4.mk 0 0 0 0)))) (L' := [(c_api_Ptr (G_api_Ptr.mk 0 0 (A4.mk 0 0 0 0)))]) z_26 rfl rfl rfl rfl) ?_
        refine arun_do0 rfl rfl (ex_storeL (vy := (Value.agg (c_api_Ptr x7).toArray)) (cs := (c_api_Ptr (G_api_Ptr.mk 0 0 (A4.mk 0 0 0 0)))) (vs := (c_api_Ptr x7)) (L' := [(c_api_Ptr x7)]) rfl (eV (v := (Value.agg (c_api_Ptr x7).toArray)) rfl) rfl s_26 rfl (Nat.le_of_ble_eq_true rfl) (by kernel_rfl)) ?_
        refine arun_keepE [0, 3, 4, 5] 1 0 (st' := ⟨47, 0, [(0, (SL 6 c_api_Ptr t0)), (3, (S v1)), (4, (I v2)), (5, (LP 0 0))], [(c_api_Ptr x7)], ⟨0, []⟩⟩) (by kernel_rfl) (by kernel_rfl) ?_
        show AWp _ _ _ _
        refine awp_region ?_
        refine arun_do rfl rfl rfl (ex_move (eV (v := (S v1)) rfl)) ?_
        refine arun_do rfl rfl rfl (ex_fieldAddr (v := (LP 0 0)) Try.underlying26 rfl s_3 (by decide) rfl rfl) ?_
        refine arun_do rfl rfl rfl (tx_ldL1 (v := (I x7.Addr)) Try.underlying3 rfl rfl rfl rfl) ?_
        refine arun_do rfl rfl rfl (ex_fieldAddr (v := (LP 0 1)) Try.underlying26 rfl s_3 (by decide) rfl rfl) ?_
        refine arun_do rfl rfl rfl (tx_ldL1 (v := (I x7.Birth)) Try.underlying3 rfl rfl rfl rfl) ?_
        refine arun_do rfl rfl rfl (ex_fieldAddr (v := (LP 0 2)) Try.underlying26 rfl s_24 (by decide) rfl rfl) ?_
        refine arun_do rfl rfl rfl (ex_indexAddrA (i := 0) (v := (LP 0 2)) Try.underlying24 s_22 rfl rfl (by decide) rfl) ?_
        refine arun_do rfl rfl rfl (tx_ldL1 (v := (U32 x7.Sum.x0)) Try.underlying22 rfl rfl rfl rfl) ?_
        refine arun_do rfl rfl rfl (tx_32_64 Try.underlying22 Try.underlying3 rfl) ?_
        refine arun_do rfl rfl rfl (ex_fieldAddr (v := (LP 0 2)) Try.underlying26 rfl s_24 (by decide) rfl rfl) ?_
        refine arun_do rfl rfl rfl (ex_indexAddrA (i := 1) (v := (LP 0 3)) Try.underlying24 s_22 rfl rfl (by decide) rfl) ?_
        refine arun_do rfl rfl rfl (tx_ldL1 (v := (U32 x7.Sum.x1)) Try.underlying22 rfl rfl rfl rfl) ?_
        refine arun_do rfl rfl rfl (tx_32_64 Try.underlying22 Try.underlying3 rfl) ?_
        refine arun_do rfl rfl rfl (ex_fieldAddr (v := (LP 0 2)) Try.underlying26 rfl s_24 (by decide) rfl rfl) ?_
        refine arun_do rfl rfl rfl (ex_indexAddrA (i := 2) (v := (LP 0 4)) Try.underlying24 s_22 rfl rfl (by decide) rfl) ?_
        refine arun_do rfl rfl rfl (tx_ldL1 (v := (U32 x7.Sum.x2)) Try.underlying22 rfl rfl rfl rfl) ?_
        refine arun_do rfl rfl rfl (tx_32_64 Try.underlying22 Try.underlying3 rfl) ?_
        refine arun_do rfl rfl rfl (ex_fieldAddr (v := (LP 0 2)) Try.underlying26 rfl s_24 (by decide) rfl rfl) ?_
        refine arun_do rfl rfl rfl (ex_indexAddrA (i := 3) (v := (LP 0 5)) Try.underlying24 s_22 rfl rfl (by decide) rfl) ?_
        refine arun_do rfl rfl rfl (tx_ldL1 (v := (U32 x7.Sum.x3)) Try.underlying22 rfl rfl rfl rfl) ?_
        refine arun_do rfl rfl rfl (tx_32_64 Try.underlying22 Try.underlying3 rfl) ?_
        refine arun_do rfl rfl rfl (ex_buildSliceD (qs := [(0, (I x7.Addr)), (1, (I x7.Birth)), (2, (I (x7.Sum.x0.toNat : Int))), (3, (I (x7.Sum.x1.toNat : Int))), (4, (I (x7.Sum.x2.toNat : Int))), (5, (I (x7.Sum.x3.toNat : Int)))]) (cells := (([x7.Addr, x7.Birth, (x7.Sum.x0.toNat : Int), (x7.Sum.x1.toNat : Int), (x7.Sum.x2.toNat : Int), (x7.Sum.x3.toNat : Int)] : List Int).flatMap cI)) Try.underlying52 s_3 (by decide) (evp rfl (evp rfl (evp rfl (evp rfl (evp rfl (evp rfl evp_nil)))))) rfl (by kernel_rfl) (by kernel_rfl) (by kernel_rfl)) ?_
        obtain ⟨x8, hx8, h⟩ := bindS h
        refine arun_do rfl rfl rfl (ex_call0 (vs := [(S ([50, 52, 52, 52, 52, 52] : Str)), (SL 1 cI ([x7.Addr, x7.Birth, (x7.Sum.x0.toNat : Int), (x7.Sum.x1.toNat : Int), (x7.Sum.x2.toNat : Int), (x7.Sum.x3.toNat : Int)] : List Int))]) (v := (S x8)) rfl en_24 (cargs (evs rfl (evs rfl evs_nil))) rfl (ok_ref1_Put ([50, 52, 52, 52, 52, 52] : Str) ([x7.Addr, x7.Birth, (x7.Sum.x0.toNat : Int), (x7.Sum.x1.toNat : Int), (x7.Sum.x2.toNat : Int), (x7.Sum.x3.toNat : Int)] : List Int) x8 hx8) rfl) ?_
        obtain ⟨x9, hx9, h⟩ := bindS h
        refine arun_do rfl rfl rfl (ex_bin (vx := (S v1)) (vy := (S x8)) rfl rfl (addS_ok hx9)) ?_
        refine arun_do rfl rfl rfl (ex_assign (eV (v := (S x9)) rfl)) ?_
        refine arun_keepE [0, 3, 4] 0 0 (st' := ⟨47, 0, [(0, (SL 6 c_api_Ptr t0)), (3, (S x9)), (4, (I v2))], [], ⟨0, []⟩⟩) (by kernel_rfl) (by kernel_rfl) ?_
        show AWp _ _ _ _
        refine awp_region ?_
        refine arun_do rfl rfl rfl (ex_move (eV (v := (I v2)) rfl)) ?_
        refine arun_do rfl rfl rfl (ex_bin (vx := (I v2)) (vy := (I 1)) rfl rfl addI_ok) ?_
        refine arun_do rfl rfl rfl (ex_assign (eV (v := (I (w64 (v2 + 1)))) rfl)) ?_
        refine arun_keepE [0, 3, 4] 0 0 (st' := ⟨47, 0, [(0, (SL 6 c_api_Ptr t0)), (3, (S x9)), (4, (I (w64 (v2 + 1))))], [], ⟨0, []⟩⟩) (by kernel_rfl) (by kernel_rfl) ?_
        exact Exists.intro n1 (And.intro (Nat.lt_succ_self _) (Exists.intro x9 (Exists.intro (w64 (v2 + 1)) (And.intro rfl h))))
    · rw [condF hb3] at h
      refine awp_condF (boF hb3) ?_
      refine awp_exit ?_
      show AWp _ _ _ _
      refine awp_seq ?_
      refine awp_region ?_
      refine arun_do rfl rfl rfl (ex_move (eV (v := (S v1)) rfl)) ?_
      refine arun_do rfl rfl rfl (ex_assign (eV (v := (S v1)) rfl)) ?_
      refine arun_keepE [2] 0 0 (st' := ⟨47, 0, [(2, (S v1))], [], ⟨0, []⟩⟩) (by kernel_rfl) (by kernel_rfl) ?_
      show AWp _ _ _ _
      refine awp_ret ?_
      cases h
      exact ares1 (rtmp rfl (eV rfl))

end Go.Proofs
