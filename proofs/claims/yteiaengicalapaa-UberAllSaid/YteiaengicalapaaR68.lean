/- Pure models of functions of the program, and that its code does what they say: palimpref1 PutUber, palimpref1 mayData, palimpref1 Config, palimpref1 Take. Written by a program. -/
import Derived.Test.YteiaengicalapaaR66
import Derived.Test.YteiaengicalapaaR67
import Derived.Test.YteiaengicalapaaR6B
set_option maxRecDepth 20000
set_option maxHeartbeats 4000000
namespace Go.Proofs
open Go Go.Fhl
set_option linter.unusedVariables false
set_option linter.unusedSimpArgs false
noncomputable def M_ref1_PutUber (t0 : G_api_Uber) : Option Str :=
  Option.bind (M_ref1_MayUber t0) fun (x1 : Bool) => cond (!x1) (some []) (Option.bind (M_ref1_Put ([49, 52, 52, 49] : Str) ([171, t0.Txg, t0.Guid, t0.Seat] : List Int)) fun (x3 : Str) => Option.bind (M_ref1_PutPtrs ([t0.Root] : List G_api_Ptr)) fun (x4 : Str) => Option.bind (addS x3 x4) fun (x5 : Str) => Option.bind (M_ref1_sealed x5) fun (x6 : Str) => some x6)
theorem ok_ref1_PutUber (t0 : G_api_Uber) (r : Str) (h : M_ref1_PutUber t0 = some r) : FFn Try.prog 12 [(Value.agg (c_api_Uber t0).toArray)] (S r) := by
  refine FFn.of_body (n := 20) Try.func12 rfl Try.ntmps12 rfl rfl rfl rfl ?_
  show AWp _ _ _ ⟨20, 0, [(0, (Value.agg (c_api_Uber t0).toArray))], [], ⟨0, []⟩⟩
  unfold M_ref1_PutUber at h
  refine awp_seq ?_
  refine awp_region ?_
  refine arun_do rfl rfl rfl (ex_box (vx := (Value.agg (c_api_Uber t0).toArray)) (cs := (c_api_Uber t0)) (k := 0) (L' := [(c_api_Uber t0)]) (eV (v := (Value.agg (c_api_Uber t0).toArray)) rfl) rfl rfl rfl) ?_
  refine arun_do rfl rfl rfl (ex_assign (eV (v := (S [])) rfl)) ?_
  refine arun_keepE [1] 1 0 (st' := ⟨20, 0, [(1, (LP 0 0))], [(c_api_Uber t0)], ⟨0, []⟩⟩) (by kernel_rfl) (by kernel_rfl) ?_
  show AWp _ _ _ _
  refine awp_seq ?_
  refine awp_seq ?_
  refine awp_region ?_
  refine arun_do rfl rfl rfl (tx_ldLA (vs := (c_api_Uber t0)) Try.underlying28 rfl s_28 (by decide) rfl rfl rfl rfl) ?_
  obtain ⟨x1, hx1, h⟩ := bindS h
  refine arun_do rfl rfl rfl (ex_call0 (vs := [(Value.agg (c_api_Uber t0).toArray)]) (v := (Bo x1)) rfl en_10 (cargs (evs rfl evs_nil)) rfl (ok_ref1_MayUber t0 x1 hx1) rfl) ?_
  refine arun_do rfl rfl rfl (ex_un (vx := (Bo x1)) rfl notB_ok) ?_
  refine arun_keepE [1, 5] 1 0 (st' := ⟨20, 0, [(1, (LP 0 0)), (5, (Bo (!x1)))], [(c_api_Uber t0)], ⟨0, []⟩⟩) (by kernel_rfl) (by kernel_rfl) ?_
  show AWp _ _ _ _
  rcases Bool.eq_false_or_eq_true (!x1) with hb2 | hb2
  · rw [condT hb2] at h
    refine awp_condT (boT hb2) ?_
    refine awp_seq ?_
    refine awp_region ?_
    refine arun_do rfl rfl rfl (ex_assign (eV (v := (S [])) rfl)) ?_
    refine arun_keepE [2] 0 0 (st' := ⟨20, 0, [(2, (S []))], [], ⟨0, []⟩⟩) (by kernel_rfl) (by kernel_rfl) ?_
    show AWp _ _ _ _
    refine awp_ret ?_
    cases h
    exact ares1 (rtmp rfl (eV rfl))
  · rw [condF hb2] at h
    refine awp_condF (boF hb2) ?_
    refine awp_skip ?_
    show AWp _ _ _ _
    refine awp_seq ?_
    obtain ⟨x3, hx3, h⟩ := bindS h
    obtain ⟨x4, hx4, h⟩ := bindS h
    obtain ⟨x5, hx5, h⟩ := bindS h
    obtain ⟨x6, hx6, h⟩ := bindS h
    refine awp_kn [2] 0 0 (st' := ⟨20, 0, [(2, (S x6))], [], ⟨0, []⟩⟩) (awp_draw (T := [(LP 0 0), (I t0.Txg), (LP 0 1), (I t0.Guid), (LP 0 2), (I t0.Seat), (SL 1 cI ([171, t0.Txg, t0.Guid, t0.Seat] : List Int)), (S x3), (LP 0 3), (Value.agg (c_api_Ptr t0.Root).toArray), (SL 6 c_api_Ptr ([t0.Root] : List G_api_Ptr)), (S x4), (S x5), (S x6), (S x6)]) (LH := [([(c_api_Uber t0)], ⟨0, []⟩)]) (D := [⟨[(1, none)], [], [0], false⟩, ⟨[(6, some 0)], [0], [0], false⟩, ⟨[(1, none)], [], [0], false⟩, ⟨[(8, some 2)], [2], [0], false⟩, ⟨[(1, none)], [], [0], false⟩, ⟨[(10, some 4)], [4], [0], false⟩, ⟨[(7, some 1), (9, some 3), (11, some 5)], [0, 1, 2, 3, 4, 5], [0], false⟩, ⟨[(12, some 6)], [0, 1, 2, 3, 4, 5, 6], [0], false⟩, ⟨[(1, none)], [], [0], false⟩, ⟨[(14, some 8)], [8], [0], false⟩, ⟨[(15, some 9)], [8, 9], [0], false⟩, ⟨[(16, some 10)], [0, 1, 2, 3, 4, 5, 6, 7, 8, 9, 10], [0], false⟩, ⟨[(13, some 7), (17, some 11)], [0, 1, 2, 3, 4, 5, 6, 7, 8, 9, 10, 11], [0], false⟩, ⟨[(18, some 12)], [0, 1, 2, 3, 4, 5, 6, 7, 8, 9, 10, 11, 12], [0], false⟩, ⟨[(19, some 13)], [0, 1, 2, 3, 4, 5, 6, 7, 8, 9, 10, 11, 12, 13], [0], false⟩]) (S := []) (plan := [0, 1, 2, 3, 4, 5, 6, 7, 8, 9, 10, 11, 12, 13, 14]) mo (by kernel_rfl) rfl rfl rfl (dcons (dstep1 (Tm := [(1, (LP 0 0))]) (L := [(c_api_Uber t0)]) (H := ⟨0, []⟩) rfl rfl rfl rfl rfl (astep_do rfl (ex_fieldAddr (v := (LP 0 0)) Try.underlying28 rfl s_3 (by decide) rfl rfl))) (dcons (dstep1 (Tm := [(6, (LP 0 0))]) (L := [(c_api_Uber t0)]) (H := ⟨0, []⟩) rfl rfl rfl rfl rfl (astep_do rfl (tx_ldL1 (v := (I t0.Txg)) Try.underlying3 rfl rfl rfl rfl))) (dcons (dstep1 (Tm := [(1, (LP 0 0))]) (L := [(c_api_Uber t0)]) (H := ⟨0, []⟩) rfl rfl rfl rfl rfl (astep_do rfl (ex_fieldAddr (v := (LP 0 1)) Try.underlying28 rfl s_3 (by decide) rfl rfl))) (dcons (dstep1 (Tm := [(8, (LP 0 1))]) (L := [(c_api_Uber t0)]) (H := ⟨0, []⟩) rfl rfl rfl rfl rfl (astep_do rfl (tx_ldL1 (v := (I t0.Guid)) Try.underlying3 rfl rfl rfl rfl))) (dcons (dstep1 (Tm := [(1, (LP 0 0))]) (L := [(c_api_Uber t0)]) (H := ⟨0, []⟩) rfl rfl rfl rfl rfl (astep_do rfl (ex_fieldAddr (v := (LP 0 2)) Try.underlying28 rfl s_3 (by decide) rfl rfl))) (dcons (dstep1 (Tm := [(10, (LP 0 2))]) (L := [(c_api_Uber t0)]) (H := ⟨0, []⟩) rfl rfl rfl rfl rfl (astep_do rfl (tx_ldL1 (v := (I t0.Seat)) Try.underlying3 rfl rfl rfl rfl))) (dcons (dstep1 (Tm := [(7, (I t0.Txg)), (9, (I t0.Guid)), (11, (I t0.Seat))]) (L := [(c_api_Uber t0)]) (H := ⟨0, []⟩) rfl rfl rfl rfl rfl (astep_do rfl (ex_buildSliceD (qs := [(0, (I 171)), (1, (I t0.Txg)), (2, (I t0.Guid)), (3, (I t0.Seat))]) (cells := (([171, t0.Txg, t0.Guid, t0.Seat] : List Int).flatMap cI)) Try.underlying52 s_3 (by decide) (evp rfl (evp rfl (evp rfl (evp rfl evp_nil)))) rfl (by kernel_rfl) (by kernel_rfl) (by kernel_rfl)))) (dcons (dstep1 (Tm := [(12, (SL 1 cI ([171, t0.Txg, t0.Guid, t0.Seat] : List Int)))]) (L := [(c_api_Uber t0)]) (H := ⟨0, []⟩) rfl rfl rfl rfl rfl (astep_do rfl (ex_call0 (vs := [(S ([49, 52, 52, 49] : Str)), (SL 1 cI ([171, t0.Txg, t0.Guid, t0.Seat] : List Int))]) (v := (S x3)) rfl en_24 (cargs (evs rfl (evs rfl evs_nil))) rfl (ok_ref1_Put ([49, 52, 52, 49] : Str) ([171, t0.Txg, t0.Guid, t0.Seat] : List Int) x3 hx3) rfl))) (dcons (dstep1 (Tm := [(1, (LP 0 0))]) (L := [(c_api_Uber t0)]) (H := ⟨0, []⟩) rfl rfl rfl rfl rfl (astep_do rfl (ex_fieldAddr (v := (LP 0 3)) Try.underlying28 rfl s_26 (by decide) rfl rfl))) (dcons (dstep1 (Tm := [(14, (LP 0 3))]) (L := [(c_api_Uber t0)]) (H := ⟨0, []⟩) rfl rfl rfl rfl rfl (astep_do rfl (tx_ldLA (vs := (c_api_Ptr t0.Root)) Try.underlying26 rfl s_26 (by decide) rfl rfl rfl rfl))) (dcons (dstep1 (Tm := [(15, (Value.agg (c_api_Ptr t0.Root).toArray))]) (L := [(c_api_Uber t0)]) (H := ⟨0, []⟩) rfl rfl rfl rfl rfl (astep_do rfl (ex_buildSliceD (qs := [(0, (Value.agg (c_api_Ptr t0.Root).toArray))]) (cells := (([t0.Root] : List G_api_Ptr).flatMap c_api_Ptr)) Try.underlying54 s_26 (by decide) (evp rfl evp_nil) rfl (by kernel_rfl) (by kernel_rfl) (by kernel_rfl)))) (dcons (dstep1 (Tm := [(16, (SL 6 c_api_Ptr ([t0.Root] : List G_api_Ptr)))]) (L := [(c_api_Uber t0)]) (H := ⟨0, []⟩) rfl rfl rfl rfl rfl (astep_do rfl (ex_call0 (vs := [(SL 6 c_api_Ptr ([t0.Root] : List G_api_Ptr))]) (v := (S x4)) rfl en_25 (cargs (evs rfl evs_nil)) rfl (ok_ref1_PutPtrs ([t0.Root] : List G_api_Ptr) x4 hx4) rfl))) (dcons (dstep1 (Tm := [(13, (S x3)), (17, (S x4))]) (L := [(c_api_Uber t0)]) (H := ⟨0, []⟩) rfl rfl rfl rfl rfl (astep_do rfl (ex_bin (vx := (S x3)) (vy := (S x4)) rfl rfl (addS_ok hx5)))) (dcons (dstep1 (Tm := [(18, (S x5))]) (L := [(c_api_Uber t0)]) (H := ⟨0, []⟩) rfl rfl rfl rfl rfl (astep_do rfl (ex_call0 (vs := [(S x5)]) (v := (S x6)) rfl en_23 (cargs (evs rfl evs_nil)) rfl (ok_ref1_sealed x5 x6 hx6) rfl))) (dcons (dstep1 (Tm := [(19, (S x6))]) (L := [(c_api_Uber t0)]) (H := ⟨0, []⟩) rfl rfl rfl rfl rfl (astep_do rfl (ex_assign (eV (v := (S x6)) rfl)))) dnil))))))))))))))) ⟨rfl, rfl⟩) (by kernel_rfl) (by kernel_rfl) ?_
    show AWp _ _ _ _
    refine awp_ret ?_
    cases h
    exact ares1 (rtmp rfl (eV rfl))

noncomputable def M_ref1_mayData (t0 : Int) : Option Bool :=
  some ((decide (t0 ≥ 40)) && (decide (t0 ≤ 240)))
theorem ok_ref1_mayData (t0 : Int) (r : Bool) (h : M_ref1_mayData t0 = some r) : FFn Try.prog 28 [(I t0)] (Bo r) := by
  refine FFn.of_body (n := 9) Try.func28 rfl Try.ntmps28 rfl rfl rfl rfl ?_
  show AWp _ _ _ ⟨9, 0, [(0, (I t0))], [], ⟨0, []⟩⟩
  unfold M_ref1_mayData at h
  refine awp_seq ?_
  refine awp_region ?_
  refine arun_do rfl rfl rfl (ex_assign (eV (v := (Bo false)) rfl)) ?_
  refine arun_keepE [0] 0 0 (st' := ⟨9, 0, [(0, (I t0))], [], ⟨0, []⟩⟩) (by kernel_rfl) (by kernel_rfl) ?_
  show AWp _ _ _ _
  refine awp_seq ?_
  refine awp_region ?_
  refine arun_do rfl rfl rfl (ex_move (eV (v := (I t0)) rfl)) ?_
  refine arun_do rfl rfl rfl (ex_bin (vx := (I t0)) (vy := (I 40)) rfl rfl geqI_ok) ?_
  refine arun_do rfl rfl rfl (ex_move (eV (v := (Bo (decide (t0 ≥ 40)))) rfl)) ?_
  refine arun_guard (v := (I t0)) ((decide (t0 ≥ 40)) == true) rfl rfl rfl (fun hc => ex_move (eV (v := (I t0)) rfl)) ?_
  refine arun_guard (v := (Bo (decide (t0 ≤ 240)))) ((decide (t0 ≥ 40)) == true) rfl rfl rfl (fun hc => ex_bin (vx := (I t0)) (vy := (I 240)) (cond_of hc) rfl leqI_ok) ?_
  refine arun_do rfl rfl rfl (ex_pick rfl pkAnd) ?_
  refine arun_do rfl rfl rfl (ex_assign (eV (v := (Bo ((decide (t0 ≥ 40)) && (decide (t0 ≤ 240))))) rfl)) ?_
  refine arun_keepE [2] 0 0 (st' := ⟨9, 0, [(2, (Bo ((decide (t0 ≥ 40)) && (decide (t0 ≤ 240)))))], [], ⟨0, []⟩⟩) (by kernel_rfl) (by kernel_rfl) ?_
  show AWp _ _ _ _
  refine awp_ret ?_
  cases h
  exact ares1 (rtmp rfl (eV rfl))

noncomputable def M_ref1_Config (t0 : Int) (t1 : Int) : Option Str :=
  Option.bind (M_ref1_num t0) fun (x1 : Bool) => Option.bind (gd ((!x1) == false) (M_ref1_mayData t1)) fun (x2 : Bool) => cond ((!x1) || (!x2)) (some []) (Option.bind (M_ref1_Put ([49, 52, 50] : Str) ([172, t0, t1] : List Int)) fun (x4 : Str) => Option.bind (M_ref1_sealed x4) fun (x5 : Str) => some x5)
theorem ok_ref1_Config (t0 : Int) (t1 : Int) (r : Str) (h : M_ref1_Config t0 t1 = some r) : FFn Try.prog 14 [(I t0), (I t1)] (S r) := by
  refine FFn.of_body (n := 18) Try.func14 rfl Try.ntmps14 rfl rfl rfl rfl ?_
  show AWp _ _ _ ⟨18, 0, [(0, (I t0)), (1, (I t1))], [], ⟨0, []⟩⟩
  unfold M_ref1_Config at h
  refine awp_seq ?_
  refine awp_region ?_
  refine arun_do rfl rfl rfl (ex_assign (eV (v := (S [])) rfl)) ?_
  refine arun_keepE [0, 1] 0 0 (st' := ⟨18, 0, [(0, (I t0)), (1, (I t1))], [], ⟨0, []⟩⟩) (by kernel_rfl) (by kernel_rfl) ?_
  show AWp _ _ _ _
  refine awp_seq ?_
  refine awp_seq ?_
  refine awp_region ?_
  refine arun_do rfl rfl rfl (ex_move (eV (v := (I t0)) rfl)) ?_
  obtain ⟨x1, hx1, h⟩ := bindS h
  refine arun_do rfl rfl rfl (ex_call0 (vs := [(I t0)]) (v := (Bo x1)) rfl en_20 (cargs (evs rfl evs_nil)) rfl (ok_ref1_num t0 x1 hx1) rfl) ?_
  refine arun_do rfl rfl rfl (ex_un (vx := (Bo x1)) rfl notB_ok) ?_
  refine arun_do rfl rfl rfl (ex_move (eV (v := (Bo (!x1))) rfl)) ?_
  refine arun_guard (v := (I t1)) ((!x1) == false) rfl rfl rfl (fun hc => ex_move (eV (v := (I t1)) rfl)) ?_
  obtain ⟨x2, hx2, h⟩ := bindS h
  refine arun_guard (v := (Bo x2)) ((!x1) == false) rfl rfl rfl (fun hc => ex_call0 (vs := [(I t1)]) (v := (Bo x2)) rfl en_28 (cargs (evs (cond_of hc) evs_nil)) rfl (ok_ref1_mayData t1 x2 (gd_of hc hx2)) rfl) ?_
  refine arun_guard (v := (Bo (!x2))) ((!x1) == false) rfl rfl rfl (fun hc => ex_un (vx := (Bo x2)) (cond_of hc) notB_ok) ?_
  refine arun_do rfl rfl rfl (ex_pick rfl pkOr) ?_
  refine arun_keepE [0, 1, 12] 0 0 (st' := ⟨18, 0, [(0, (I t0)), (1, (I t1)), (12, (Bo ((!x1) || (!x2))))], [], ⟨0, []⟩⟩) (by kernel_rfl) (by kernel_rfl) ?_
  show AWp _ _ _ _
  rcases Bool.eq_false_or_eq_true ((!x1) || (!x2)) with hb3 | hb3
  · rw [condT hb3] at h
    refine awp_condT (boT hb3) ?_
    refine awp_seq ?_
    refine awp_region ?_
    refine arun_do rfl rfl rfl (ex_assign (eV (v := (S [])) rfl)) ?_
    refine arun_keepE [4] 0 0 (st' := ⟨18, 0, [(4, (S []))], [], ⟨0, []⟩⟩) (by kernel_rfl) (by kernel_rfl) ?_
    show AWp _ _ _ _
    refine awp_ret ?_
    cases h
    exact ares1 (rtmp rfl (eV rfl))
  · rw [condF hb3] at h
    refine awp_condF (boF hb3) ?_
    refine awp_skip ?_
    show AWp _ _ _ _
    refine awp_seq ?_
    refine awp_region ?_
    refine arun_do rfl rfl rfl (ex_move (eV (v := (I t0)) rfl)) ?_
    refine arun_do rfl rfl rfl (ex_move (eV (v := (I t1)) rfl)) ?_
    refine arun_do rfl rfl rfl (ex_buildSliceD (qs := [(0, (I 172)), (1, (I t0)), (2, (I t1))]) (cells := (([172, t0, t1] : List Int).flatMap cI)) Try.underlying52 s_3 (by decide) (evp rfl (evp rfl (evp rfl evp_nil))) rfl (by kernel_rfl) (by kernel_rfl) (by kernel_rfl)) ?_
    obtain ⟨x4, hx4, h⟩ := bindS h
    refine arun_do rfl rfl rfl (ex_call0 (vs := [(S ([49, 52, 50] : Str)), (SL 1 cI ([172, t0, t1] : List Int))]) (v := (S x4)) rfl en_24 (cargs (evs rfl (evs rfl evs_nil))) rfl (ok_ref1_Put ([49, 52, 50] : Str) ([172, t0, t1] : List Int) x4 hx4) rfl) ?_
    obtain ⟨x5, hx5, h⟩ := bindS h
    refine arun_do rfl rfl rfl (ex_call0 (vs := [(S x4)]) (v := (S x5)) rfl en_23 (cargs (evs rfl evs_nil)) rfl (ok_ref1_sealed x4 x5 hx5) rfl) ?_
    refine arun_do rfl rfl rfl (ex_assign (eV (v := (S x5)) rfl)) ?_
    refine arun_keepE [4] 0 0 (st' := ⟨18, 0, [(4, (S x5))], [], ⟨0, []⟩⟩) (by kernel_rfl) (by kernel_rfl) ?_
    show AWp _ _ _ _
    refine awp_ret ?_
    cases h
    exact ares1 (rtmp rfl (eV rfl))

noncomputable def M_ref1_Take_l2 (c_1 : (Str → Int → List Int → Option ((List Int) × Str × Bool))) (t0 : Str) (v1 : Str) (v2 : Int) (v3 : List Int) (x5 : UInt8) : Nat → Int → Int → Option ((List Int) × Str × Bool)
  | 0, _, _ => none
  | n2 + 1, v7, v8 =>
  cond (decide (v8 < (w64 ((x5.toNat : Int) - 48)))) (Option.bind (getI v1 v8) fun (x10 : UInt8) => (M_ref1_Take_l2 c_1 t0 v1 v2 v3 x5 n2) (w64 ((w64 (v7 * 256)) + (x10.toNat : Int))) (w64 (v8 + 1))) (Option.bind (appL 8 v3 ([v7] : List Int)) fun (x11 : List Int) => Option.bind (slL v1 (w64 ((x5.toNat : Int) - 48)) (v1.length : Int)) fun (x12 : Str) => c_1 x12 (w64 (v2 + 1)) x11)
noncomputable def M_ref1_Take_l1 (t0 : Str) : Nat → Str → Int → List Int → Option ((List Int) × Str × Bool)
  | 0, _, _, _ => none
  | n1 + 1, v1, v2, v3 =>
  cond (decide (v2 < (t0.length : Int))) (Option.bind (getI t0 v2) fun (x5 : UInt8) => cond (((decide ((w64 ((x5.toNat : Int) - 48)) < 1)) || (decide ((w64 ((x5.toNat : Int) - 48)) > 4))) || (decide ((v1.length : Int) < (w64 ((x5.toNat : Int) - 48))))) (some ([], [], false)) (M_ref1_Take_l2 (M_ref1_Take_l1 t0 n1) t0 v1 v2 v3 x5 fuel 0 0)) (some (v3, v1, true))
noncomputable def M_ref1_Take (t0 : Str) (t1 : Str) : Option ((List Int) × Str × Bool) :=
  M_ref1_Take_l1 t0 fuel t1 0 ([] : List Int)
theorem ok_ref1_Take (t0 : Str) (t1 : Str) (r : ((List Int) × Str × Bool)) (h : M_ref1_Take t0 t1 = some r) : FFn Try.prog 31 [(S t0), (S t1)] (Value.tuple #[(SL 1 cI r.1), (S r.2.1), (Bo r.2.2)]) := by
  refine FFn.of_body (n := 56) Try.func31 rfl Try.ntmps31 rfl rfl rfl rfl ?_
  show AWp _ _ _ ⟨56, 0, [(0, (S t0)), (1, (S t1))], [], ⟨0, []⟩⟩
  unfold M_ref1_Take at h
  refine awp_seq ?_
  refine awp_region ?_
  refine arun_do rfl rfl rfl (ex_assign (eV (v := (Value.slice none 0 0)) rfl)) ?_
  refine arun_do rfl rfl rfl (ex_assign (eV (v := (S [])) rfl)) ?_
  refine arun_do rfl rfl rfl (ex_assign (eV (v := (Bo false)) rfl)) ?_
  refine arun_keepE [0, 1] 0 0 (st' := ⟨56, 0, [(0, (S t0)), (1, (S t1))], [], ⟨0, []⟩⟩) (by kernel_rfl) (by kernel_rfl) ?_
  show AWp _ _ _ _
  refine awp_seq ?_
  refine awp_region ?_
  refine arun_do rfl rfl rfl (ex_assign (eV (v := (Value.slice none 0 0)) rfl)) ?_
  refine arun_keepE [0, 1, 7] 0 0 (st' := ⟨56, 0, [(0, (S t0)), (1, (S t1)), (7, (Value.slice none 0 0))], [], ⟨0, []⟩⟩) (by kernel_rfl) (by kernel_rfl) ?_
  show AWp _ _ _ _
  refine awp_seq ?_
  refine awp_seq ?_
  refine awp_region ?_
  refine arun_do rfl rfl rfl (ex_assign (eV (v := (I 0)) rfl)) ?_
  refine arun_keepE [0, 1, 7, 8] 0 0 (st' := ⟨56, 0, [(0, (S t0)), (1, (S t1)), (7, (Value.slice none 0 0)), (8, (I 0))], [], ⟨0, []⟩⟩) (by kernel_rfl) (by kernel_rfl) ?_
  show AWp _ _ _ _
  refine awp_block ?_
  refine awp_nilGro 7 1 rfl (by decide) ?_
  refine awp_keepE [0, 1, 7, 8] 0 1 (st' := ⟨56, 0, [(0, (S t0)), (1, (S t1)), (7, (GV 0 0)), (8, (I 0))], [], ⟨1, [(0, ⟨1, (([] : List Int).flatMap cI), true⟩)]⟩⟩) (by kernel_rfl) (by kernel_rfl) ?_
  refine awp_loop (fun n s => ∃ (v1 : Str) (v2 : Int) (v3 : List Int), s = ⟨56, 0, [(0, (S t0)), (1, (S v1)), (7, (GV 0 v3.length)), (8, (I v2))], [], ⟨1, [(0, ⟨1, ((v3).flatMap cI), true⟩)]⟩⟩ ∧ M_ref1_Take_l1 t0 n v1 v2 v3 = some r) fuel (Exists.intro t1 (Exists.intro 0 (Exists.intro ([] : List Int) (And.intro rfl h)))) ?_
  rintro n s ⟨v1, v2, v3, rfl, h⟩ -
  cases n with
  | zero => cases h
  | succ n1 =>
    unfold M_ref1_Take_l1 at h
    refine awp_seq ?_
    refine awp_seq ?_
    refine awp_region ?_
    refine arun_do rfl rfl rfl (ex_move (eV (v := (I v2)) rfl)) ?_
    refine arun_do rfl rfl rfl (ex_move (eV (v := (S t0)) rfl)) ?_
    refine arun_do rfl rfl rfl (tx_lenS Try.underlying9 rfl) ?_
    refine arun_do rfl rfl rfl (ex_bin (vx := (I v2)) (vy := (I (t0.length : Int))) rfl rfl lssI_ok) ?_
    refine arun_keepE [0, 1, 7, 8, 15] 0 1 (st' := ⟨56, 0, [(0, (S t0)), (1, (S v1)), (7, (GV 0 v3.length)), (8, (I v2)), (15, (Bo (decide (v2 < (t0.length : Int)))))], [], ⟨1, [(0, ⟨1, ((v3).flatMap cI), true⟩)]⟩⟩) (by kernel_rfl) (by kernel_rfl) ?_
    show AWp _ _ _ _
    rcases Bool.eq_false_or_eq_true (decide (v2 < (t0.length : Int))) with hb4 | hb4
    · rw [condT hb4] at h
      refine awp_condT (boT hb4) ?_
      refine awp_skip ?_
      show AWp _ _ _ _
      refine awp_seq ?_
      refine awp_block ?_
      refine awp_seq ?_
      refine awp_region ?_
      refine arun_do rfl rfl rfl (ex_move (eV (v := (S t0)) rfl)) ?_
      refine arun_do rfl rfl rfl (ex_move (eV (v := (I v2)) rfl)) ?_
      obtain ⟨x5, hx5, h⟩ := bindS h
      refine arun_do rfl rfl rfl (tx_idxS (u := t0) (i := v2) Try.underlying9 rfl rfl hx5) ?_
      refine arun_do rfl rfl rfl (tx_8_64 Try.underlying5 Try.underlying3 rfl) ?_
      refine arun_do rfl rfl rfl (ex_bin (vx := (I (x5.toNat : Int))) (vy := (I 48)) rfl rfl subI_ok) ?_
      refine arun_do rfl rfl rfl (ex_assign (eV (v := (I (w64 ((x5.toNat : Int) - 48)))) rfl)) ?_
      refine arun_keepE [0, 1, 7, 8, 9] 0 1 (st' := ⟨56, 0, [(0, (S t0)), (1, (S v1)), (7, (GV 0 v3.length)), (8, (I v2)), (9, (I (w64 ((x5.toNat : Int) - 48))))], [], ⟨1, [(0, ⟨1, ((v3).flatMap cI), true⟩)]⟩⟩) (by kernel_rfl) (by kernel_rfl) ?_
      show AWp _ _ _ _
      refine awp_seq ?_
      refine awp_seq ?_
      refine awp_region ?_
      refine arun_do rfl rfl rfl (ex_move (eV (v := (I (w64 ((x5.toNat : Int) - 48)))) rfl)) ?_
      refine arun_do rfl rfl rfl (ex_bin (vx := (I (w64 ((x5.toNat : Int) - 48)))) (vy := (I 1)) rfl rfl lssI_ok) ?_
      refine arun_do rfl rfl rfl (ex_move (eV (v := (Bo (decide ((w64 ((x5.toNat : Int) - 48)) < 1)))) rfl)) ?_
      refine arun_guard (v := (I (w64 ((x5.toNat : Int) - 48)))) ((decide ((w64 ((x5.toNat : Int) - 48)) < 1)) == false) rfl rfl rfl (fun hc => ex_move (eV (v := (I (w64 ((x5.toNat : Int) - 48)))) rfl)) ?_
      refine arun_guard (v := (Bo (decide ((w64 ((x5.toNat : Int) - 48)) > 4)))) ((decide ((w64 ((x5.toNat : Int) - 48)) < 1)) == false) rfl rfl rfl (fun hc => ex_bin (vx := (I (w64 ((x5.toNat : Int) - 48)))) (vy := (I 4)) (cond_of hc) rfl gtrI_ok) ?_
      refine arun_do rfl rfl rfl (ex_pick rfl pkOr) ?_
      refine arun_do rfl rfl rfl (ex_move (eV (v := (Bo ((decide ((w64 ((x5.toNat : Int) - 48)) < 1)) || (decide ((w64 ((x5.toNat : Int) - 48)) > 4))))) rfl)) ?_
      refine arun_guard (v := (S v1)) (((decide ((w64 ((x5.toNat : Int) - 48)) < 1)) || (decide ((w64 ((x5.toNat : Int) - 48)) > 4))) == false) rfl rfl rfl (fun hc => ex_move (eV (v := (S v1)) rfl)) ?_
      refine arun_guard (v := (I (v1.length : Int))) (((decide ((w64 ((x5.toNat : Int) - 48)) < 1)) || (decide ((w64 ((x5.toNat : Int) - 48)) > 4))) == false) rfl rfl rfl (fun hc => tx_lenS Try.underlying9 (cond_of hc)) ?_
      refine arun_guard (v := (I (w64 ((x5.toNat : Int) - 48)))) (((decide ((w64 ((x5.toNat : Int) - 48)) < 1)) || (decide ((w64 ((x5.toNat : Int) - 48)) > 4))) == false) rfl rfl rfl (fun hc => ex_move (eV (v := (I (w64 ((x5.toNat : Int) - 48)))) rfl)) ?_
      refine arun_guard (v := (Bo (decide ((v1.length : Int) < (w64 ((x5.toNat : Int) - 48)))))) (((decide ((w64 ((x5.toNat : Int) - 48)) < 1)) || (decide ((w64 ((x5.toNat : Int) - 48)) > 4))) == false) rfl rfl rfl (fun hc => ex_bin (vx := (I (v1.length : Int))) (vy := (I (w64 ((x5.toNat : Int) - 48)))) (cond_of hc) (cond_of hc) lssI_ok) ?_
      refine arun_do rfl rfl rfl (ex_pick rfl pkOr) ?_
      refine arun_keepE [0, 1, 7, 8, 9, 34] 0 1 (st' := ⟨56, 0, [(0, (S t0)), (1, (S v1)), (7, (GV 0 v3.length)), (8, (I v2)), (9, (I (w64 ((x5.toNat : Int) - 48)))), (34, (Bo (((decide ((w64 ((x5.toNat : Int) - 48)) < 1)) || (decide ((w64 ((x5.toNat : Int) - 48)) > 4))) || (decide ((v1.length : Int) < (w64 ((x5.toNat : Int) - 48)))))))], [], ⟨1, [(0, ⟨1, ((v3).flatMap cI), true⟩)]⟩⟩) (by kernel_rfl) (by kernel_rfl) ?_
      show AWp _ _ _ _
      rcases Bool.eq_false_or_eq_true (((decide ((w64 ((x5.toNat : Int) - 48)) < 1)) || (decide ((w64 ((x5.toNat : Int) - 48)) > 4))) || (decide ((v1.length : Int) < (w64 ((x5.toNat : Int) - 48))))) with hb6 | hb6
      · rw [condT hb6] at h
        refine awp_condT (boT hb6) ?_
        refine awp_seq ?_
        refine awp_region ?_
        refine arun_do rfl rfl rfl (ex_assign (eV (v := (Value.slice none 0 0)) rfl)) ?_
        refine arun_do rfl rfl rfl (ex_assign (eV (v := (S [])) rfl)) ?_
        refine arun_do rfl rfl rfl (ex_assign (eV (v := (Bo false)) rfl)) ?_
        refine arun_keepE [4, 5, 6] 0 0 (st' := ⟨56, 0, [(4, (Value.slice none 0 0)), (5, (S [])), (6, (Bo false))], [], ⟨0, []⟩⟩) (by kernel_rfl) (by kernel_rfl) ?_
        show AWp _ _ _ _
        refine awp_ret ?_
        cases h
        exact aresN rfl (L2.cons (rtmp rfl (eN rfl)) (L2.cons (rtmp rfl (eV rfl)) (L2.cons (rtmp rfl (eV rfl)) L2.nil))) rfl
      · rw [condF hb6] at h
        refine awp_condF (boF hb6) ?_
        refine awp_skip ?_
        show AWp _ _ _ _
        refine awp_seq ?_
        refine awp_region ?_
        refine arun_do rfl rfl rfl (ex_assign (eV (v := (I 0)) rfl)) ?_
        refine arun_keepE [0, 1, 7, 8, 9, 10] 0 1 (st' := ⟨56, 0, [(0, (S t0)), (1, (S v1)), (7, (GV 0 v3.length)), (8, (I v2)), (9, (I (w64 ((x5.toNat : Int) - 48)))), (10, (I 0))], [], ⟨1, [(0, ⟨1, ((v3).flatMap cI), true⟩)]⟩⟩) (by kernel_rfl) (by kernel_rfl) ?_
        show AWp _ _ _ _
        refine awp_seq ?_
        refine awp_seq ?_
        refine awp_region ?_
        refine arun_do rfl rfl rfl (ex_assign (eV (v := (I 0)) rfl)) ?_
        refine arun_keepE [0, 1, 7, 8, 9, 10, 11] 0 1 (st' := ⟨56, 0, [(0, (S t0)), (1, (S v1)), (7, (GV 0 v3.length)), (8, (I v2)), (9, (I (w64 ((x5.toNat : Int) - 48)))), (10, (I 0)), (11, (I 0))], [], ⟨1, [(0, ⟨1, ((v3).flatMap cI), true⟩)]⟩⟩) (by kernel_rfl) (by kernel_rfl) ?_
        show AWp _ _ _ _
        refine awp_block ?_
        refine awp_loop (fun n s => ∃ (v7 : Int) (v8 : Int), s = ⟨56, 0, [(0, (S t0)), (1, (S v1)), (7, (GV 0 v3.length)), (8, (I v2)), (9, (I (w64 ((x5.toNat : Int) - 48)))), (10, (I v7)), (11, (I v8))], [], ⟨1, [(0, ⟨1, ((v3).flatMap cI), true⟩)]⟩⟩ ∧ M_ref1_Take_l2 (M_ref1_Take_l1 t0 n1) t0 v1 v2 v3 x5 n v7 v8 = some r) fuel (Exists.intro 0 (Exists.intro 0 (And.intro rfl h))) ?_
        rintro n s ⟨v7, v8, rfl, h⟩ -
        cases n with
        | zero => cases h
        | succ n2 =>
          unfold M_ref1_Take_l2 at h
          refine awp_seq ?_
          refine awp_seq ?_
          refine awp_region ?_
          refine arun_do rfl rfl rfl (ex_move (eV (v := (I v8)) rfl)) ?_
          refine arun_do rfl rfl rfl (ex_move (eV (v := (I (w64 ((x5.toNat : Int) - 48)))) rfl)) ?_
          refine arun_do rfl rfl rfl (ex_bin (vx := (I v8)) (vy := (I (w64 ((x5.toNat : Int) - 48)))) rfl rfl lssI_ok) ?_
          refine arun_keepE [0, 1, 7, 8, 9, 10, 11, 37] 0 1 (st' := ⟨56, 0, [(0, (S t0)), (1, (S v1)), (7, (GV 0 v3.length)), (8, (I v2)), (9, (I (w64 ((x5.toNat : Int) - 48)))), (10, (I v7)), (11, (I v8)), (37, (Bo (decide (v8 < (w64 ((x5.toNat : Int) - 48))))))], [], ⟨1, [(0, ⟨1, ((v3).flatMap cI), true⟩)]⟩⟩) (by kernel_rfl) (by kernel_rfl) ?_
          show AWp _ _ _ _
          rcases Bool.eq_false_or_eq_true (decide (v8 < (w64 ((x5.toNat : Int) - 48)))) with hb9 | hb9
          · rw [condT hb9] at h
            refine awp_condT (boT hb9) ?_
            refine awp_skip ?_
            show AWp _ _ _ _
            refine awp_seq ?_
            refine awp_block ?_
            refine awp_region ?_
            refine arun_do rfl rfl rfl (ex_move (eV (v := (I v7)) rfl)) ?_
            refine arun_do rfl rfl rfl (ex_bin (vx := (I v7)) (vy := (I 256)) rfl rfl mulI_ok) ?_
            refine arun_do rfl rfl rfl (ex_move (eV (v := (S v1)) rfl)) ?_
            refine arun_do rfl rfl rfl (ex_move (eV (v := (I v8)) rfl)) ?_
            obtain ⟨x10, hx10, h⟩ := bindS h
            refine arun_do rfl rfl rfl (tx_idxS (u := v1) (i := v8) Try.underlying9 rfl rfl hx10) ?_
            refine arun_do rfl rfl rfl (tx_8_64 Try.underlying5 Try.underlying3 rfl) ?_
            refine arun_do rfl rfl rfl (ex_bin (vx := (I (w64 (v7 * 256)))) (vy := (I (x10.toNat : Int))) rfl rfl addI_ok) ?_
            refine arun_do rfl rfl rfl (ex_assign (eV (v := (I (w64 ((w64 (v7 * 256)) + (x10.toNat : Int))))) rfl)) ?_
            refine arun_keepE [0, 1, 7, 8, 9, 10, 11] 0 1 (st' := ⟨56, 0, [(0, (S t0)), (1, (S v1)), (7, (GV 0 v3.length)), (8, (I v2)), (9, (I (w64 ((x5.toNat : Int) - 48)))), (10, (I (w64 ((w64 (v7 * 256)) + (x10.toNat : Int))))), (11, (I v8))], [], ⟨1, [(0, ⟨1, ((v3).flatMap cI), true⟩)]⟩⟩) (by kernel_rfl) (by kernel_rfl) ?_
            show AWp _ _ _ _
            refine awp_region ?_
            refine arun_do rfl rfl rfl (ex_move (eV (v := (I v8)) rfl)) ?_
            refine arun_do rfl rfl rfl (ex_bin (vx := (I v8)) (vy := (I 1)) rfl rfl addI_ok) ?_
            refine arun_do rfl rfl rfl (ex_assign (eV (v := (I (w64 (v8 + 1)))) rfl)) ?_
            refine arun_keepE [0, 1, 7, 8, 9, 10, 11] 0 1 (st' := ⟨56, 0, [(0, (S t0)), (1, (S v1)), (7, (GV 0 v3.length)), (8, (I v2)), (9, (I (w64 ((x5.toNat : Int) - 48)))), (10, (I (w64 ((w64 (v7 * 256)) + (x10.toNat : Int))))), (11, (I (w64 (v8 + 1))))], [], ⟨1, [(0, ⟨1, ((v3).flatMap cI), true⟩)]⟩⟩) (by kernel_rfl) (by kernel_rfl) ?_
            exact Exists.intro n2 (And.intro (Nat.lt_succ_self _) (Exists.intro (w64 ((w64 (v7 * 256)) + (x10.toNat : Int))) (Exists.intro (w64 (v8 + 1)) (And.intro rfl h))))
          · rw [condF hb9] at h
            refine awp_condF (boF hb9) ?_
            refine awp_exit ?_
            show AWp _ _ _ _
            obtain ⟨x11, hx11, h⟩ := bindS h
            obtain ⟨x12, hx12, h⟩ := bindS h
            refine awp_kn [0, 1, 7, 8] 0 1 (st' := ⟨56, 0, [(0, (S t0)), (1, (S x12)), (7, (GV 0 x11.length)), (8, (I v2))], [], ⟨1, [(0, ⟨1, ((x11).flatMap cI), true⟩)]⟩⟩) (awp_draw (T := [(GV 0 v3.length), (I v7), (SL 1 cI ([v7] : List Int)), (GV 0 x11.length), (S v1), (I (w64 ((x5.toNat : Int) - 48))), (S x12), (GV 0 x11.length), (S x12)]) (LH := [([], ⟨1, [(0, ⟨1, ((v3).flatMap cI), true⟩)]⟩), ([], ⟨1, [(0, ⟨1, ((x11).flatMap cI), true⟩)]⟩)]) (D := [⟨[(7, none)], [], [0], false⟩, ⟨[(10, none)], [], [0], false⟩, ⟨[(48, some 1)], [1], [0], false⟩, ⟨[(47, some 0), (49, some 2)], [0, 1, 2], [0], true⟩, ⟨[(1, none)], [], [0, 1], false⟩, ⟨[(9, none)], [], [0, 1], false⟩, ⟨[(51, some 4), (52, some 5)], [4, 5], [0, 1], false⟩, ⟨[(50, some 3)], [0, 1, 2, 3], [1], false⟩, ⟨[(53, some 6)], [0, 1, 2, 3, 4, 5, 6, 7], [1], false⟩]) (S := [3]) (plan := [0, 1, 2, 3, 4, 5, 6, 7, 8]) mo (by kernel_rfl) rfl rfl rfl (dcons (dstep1 (Tm := [(7, (GV 0 v3.length))]) (L := []) (H := ⟨1, [(0, ⟨1, ((v3).flatMap cI), true⟩)]⟩) rfl rfl rfl rfl rfl (astep_do rfl (ex_move (eV (v := (GV 0 v3.length)) rfl)))) (dcons (dstep1 (Tm := [(10, (I v7))]) (L := []) (H := ⟨1, [(0, ⟨1, ((v3).flatMap cI), true⟩)]⟩) rfl rfl rfl rfl rfl (astep_do rfl (ex_move (eV (v := (I v7)) rfl)))) (dcons (dstep1 (Tm := [(48, (I v7))]) (L := []) (H := ⟨1, [(0, ⟨1, ((v3).flatMap cI), true⟩)]⟩) rfl rfl rfl rfl rfl (astep_do rfl (ex_buildSliceD (qs := [(0, (I v7))]) (cells := (([v7] : List Int).flatMap cI)) Try.underlying52 s_3 (by decide) (evp rfl evp_nil) rfl (by kernel_rfl) (by kernel_rfl) (by kernel_rfl)))) (dcons (dstep1 (Tm := [(47, (GV 0 v3.length)), (49, (SL 1 cI ([v7] : List Int)))]) (L := []) (H := ⟨1, [(0, ⟨1, ((v3).flatMap cI), true⟩)]⟩) rfl rfl rfl rfl rfl (astep_do rfl (tx_appG (c := cI) (xs := v3) (H' := ⟨1, [(0, ⟨1, ((x11).flatMap cI), true⟩)]⟩) ceI e_3 rfl rfl rfl (tsrcD (ys := ([v7] : List Int)) ceI Try.underlying52 s_3 Try.underlying52 rfl) hx11 rfl))) (dcons (dstepN (by intro k hk; simp only [List.mem_cons, List.not_mem_nil, or_false] at hk; rcases hk with rfl | rfl <;> exact ⟨[(1, (S v1))], _, _, _, _, _, rfl, rfl, rfl, rfl, astep_do rfl (ex_move (eV (v := (S v1)) rfl))⟩)) (dcons (dstepN (by intro k hk; simp only [List.mem_cons, List.not_mem_nil, or_false] at hk; rcases hk with rfl | rfl <;> exact ⟨[(9, (I (w64 ((x5.toNat : Int) - 48))))], _, _, _, _, _, rfl, rfl, rfl, rfl, astep_do rfl (ex_move (eV (v := (I (w64 ((x5.toNat : Int) - 48)))) rfl))⟩)) (dcons (dstepN (by intro k hk; simp only [List.mem_cons, List.not_mem_nil, or_false] at hk; rcases hk with rfl | rfl <;> exact ⟨[(51, (S v1)), (52, (I (w64 ((x5.toNat : Int) - 48))))], _, _, _, _, _, rfl, rfl, rfl, rfl, astep_do rfl (tx_slS (u := v1) Try.underlying9 rfl (loX (l := (w64 ((x5.toNat : Int) - 48))) rfl) hiN hx12)⟩)) (dcons (dstep1 (Tm := [(50, (GV 0 x11.length))]) (L := []) (H := ⟨1, [(0, ⟨1, ((x11).flatMap cI), true⟩)]⟩) rfl rfl rfl rfl rfl (astep_do rfl (ex_assign (eV (v := (GV 0 x11.length)) rfl)))) (dcons (dstep1 (Tm := [(53, (S x12))]) (L := []) (H := ⟨1, [(0, ⟨1, ((x11).flatMap cI), true⟩)]⟩) rfl rfl rfl rfl rfl (astep_do rfl (ex_assign (eV (v := (S x12)) rfl)))) dnil))))))))) ⟨rfl, rfl⟩) (by kernel_rfl) (by kernel_rfl) ?_
            show AWp _ _ _ _
            refine awp_region ?_
            refine arun_do rfl rfl rfl (ex_move (eV (v := (I v2)) rfl)) ?_
            refine arun_do rfl rfl rfl (ex_bin (vx := (I v2)) (vy := (I 1)) rfl rfl addI_ok) ?_
            refine arun_do rfl rfl rfl (ex_assign (eV (v := (I (w64 (v2 + 1)))) rfl)) ?_
            refine arun_keepE [0, 1, 7, 8] 0 1 (st' := ⟨56, 0, [(0, (S t0)), (1, (S x12)), (7, (GV 0 x11.length)), (8, (I (w64 (v2 + 1))))], [], ⟨1, [(0, ⟨1, ((x11).flatMap cI), true⟩)]⟩⟩) (by kernel_rfl) (by kernel_rfl) ?_
            exact Exists.intro n1 (And.intro (Nat.lt_succ_self _) (Exists.intro x12 (Exists.intro (w64 (v2 + 1)) (Exists.intro x11 (And.intro rfl h)))))
    · rw [condF hb4] at h
      refine awp_condF (boF hb4) ?_
      refine awp_exit ?_
      show AWp _ _ _ _
      refine awp_seq ?_
      refine awp_region ?_
      refine arun_do rfl rfl rfl (ex_move (eV (v := (GV 0 v3.length)) rfl)) ?_
      refine arun_do rfl rfl rfl (ex_move (eV (v := (S v1)) rfl)) ?_
      refine arun_do rfl rfl rfl (ex_assign (eV (v := (GV 0 v3.length)) rfl)) ?_
      refine arun_do rfl rfl rfl (ex_assign (eV (v := (S v1)) rfl)) ?_
      refine arun_do rfl rfl rfl (ex_assign (eV (v := (Bo true)) rfl)) ?_
      refine arun_keepE [4, 5, 6] 0 1 (st' := ⟨56, 0, [(4, (GV 0 v3.length)), (5, (S v1)), (6, (Bo true))], [], ⟨1, [(0, ⟨1, ((v3).flatMap cI), true⟩)]⟩⟩) (by kernel_rfl) (by kernel_rfl) ?_
      show AWp _ _ _ _
      refine awp_freeze 0 (bk := ⟨1, ((v3).flatMap cI), true⟩) (T' := [(4, (SL 1 cI v3)), (5, (S v1)), (6, (Bo true))]) (L' := []) rfl (fzG ceI rfl rfl (FzT.keep (v := (S v1)) rfl (FzT.keep (v := (Bo true)) rfl FzT.nil))) (FzL.refl _) ?_
      show AWp _ _ _ ⟨56, 0, [(4, (SL 1 cI v3)), (5, (S v1)), (6, (Bo true))], [], ⟨1, []⟩⟩
      refine awp_ret ?_
      cases h
      exact aresN rfl (L2.cons (rtmp rfl (eV rfl)) (L2.cons (rtmp rfl (eV rfl)) (L2.cons (rtmp rfl (eV rfl)) L2.nil))) rfl

end Go.Proofs
