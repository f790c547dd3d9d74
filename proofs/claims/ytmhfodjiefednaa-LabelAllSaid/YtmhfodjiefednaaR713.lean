/- Pure models of functions of the program, and that its code does what they say: palimpref1 PutUber, palimpref1 Phase, palimpref1 SamePuts, palimpref1 lasting. Written by a program. -/
import Derived.Test.YtmhfodjiefednaaR712
import Derived.Test.YtmhfodjiefednaaR75
import Derived.Test.YtmhfodjiefednaaR76
import Derived.Test.YtmhfodjiefednaaR77
import Derived.Test.YtmhfodjiefednaaR7B
set_option maxRecDepth 20000
set_option maxHeartbeats 4000000
namespace Go.Proofs
open Go Go.Fhl
set_option linter.unusedVariables false
set_option linter.unusedSimpArgs false
noncomputable def M_ref1_PutUber (t0 : GUb) : Option Str :=
  Option.bind (M_ref1_MayUber t0) fun (x1 : Bool) => cond (!x1) (some []) (Option.bind (M_ref1_Put ([49, 52, 52, 49] : Str) ([171, t0.Txg, t0.Guid, t0.Seat] : List Int)) fun (x3 : Str) => Option.bind (M_ref1_PutPtrs ([t0.Root] : List GPt)) fun (x4 : Str) => Option.bind (addS x3 x4) fun (x5 : Str) => Option.bind (M_ref1_sealed x5) fun (x6 : Str) => some x6)
theorem ok_ref1_PutUber (t0 : GUb) (r : Str) (h : M_ref1_PutUber t0 = some r) : FFn Try.prog 20 [(Value.agg (cUb t0).toArray)] (S r) := by
  refine FFn.of_body (n := 20) Try.func20 rfl Try.ntmps20 rfl rfl rfl rfl ?_
  show AWp _ _ _ ⟨20, 0, [(0, (Value.agg (cUb t0).toArray))], [], ⟨0, []⟩⟩
  unfold M_ref1_PutUber at h
  refine aws ?_
  refine awr ?_
  refine ado rfl rfl rfl (ex_box (vx := (Value.agg (cUb t0).toArray)) (cs := (cUb t0)) (k := 0) (L' := [(cUb t0)]) (eV (v := (Value.agg (cUb t0).toArray)) rfl) rfl rfl rfl) ?_
  refine ado rfl rfl rfl (eas (eV (v := (S [])) rfl)) ?_
  refine ake [1] 1 0 (st' := ⟨20, 0, [(1, (LP 0 0))], [(cUb t0)], ⟨0, []⟩⟩) (by kernel_rfl) (by kernel_rfl) ?_
  show AWp _ _ _ _
  refine aws ?_
  refine aws ?_
  refine awr ?_
  refine ado rfl rfl rfl (tx_ldLA (vs := (cUb t0)) Try.underlying37 rfl s_37 (by decide) rfl rfl rfl rfl) ?_
  obtain ⟨x1, hx1, h⟩ := bindS h
  refine ado rfl rfl rfl (ex_call0 (vs := [(Value.agg (cUb t0).toArray)]) (v := (Bo x1)) rfl en_34 (cargs (evs rfl evs_nil)) rfl (ok_ref1_MayUber t0 x1 hx1) rfl) ?_
  refine ado rfl rfl rfl (ex_un (vx := (Bo x1)) rfl notB_ok) ?_
  refine ake [1, 5] 1 0 (st' := ⟨20, 0, [(1, (LP 0 0)), (5, (Bo (!x1)))], [(cUb t0)], ⟨0, []⟩⟩) (by kernel_rfl) (by kernel_rfl) ?_
  show AWp _ _ _ _
  rcases Bool.eq_false_or_eq_true (!x1) with hb2 | hb2
  · rw [condT hb2] at h
    refine awp_condT (boT hb2) ?_
    refine aws ?_
    refine awr ?_
    refine ado rfl rfl rfl (eas (eV (v := (S [])) rfl)) ?_
    refine ake [2] 0 0 (st' := ⟨20, 0, [(2, (S []))], [], ⟨0, []⟩⟩) (by kernel_rfl) (by kernel_rfl) ?_
    show AWp _ _ _ _
    refine awp_ret ?_
    cases h
    exact ares1 (rtmp rfl (eV rfl))
  · rw [condF hb2] at h
    refine awp_condF (boF hb2) ?_
    refine awp_skip ?_
    show AWp _ _ _ _
    refine aws ?_
    obtain ⟨x3, hx3, h⟩ := bindS h
    obtain ⟨x4, hx4, h⟩ := bindS h
    obtain ⟨x5, hx5, h⟩ := bindS h
    obtain ⟨x6, hx6, h⟩ := bindS h
    refine awp_kn [2] 0 0 (st' := ⟨20, 0, [(2, (S x6))], [], ⟨0, []⟩⟩) (awp_draw (T := [(LP 0 0), (I t0.Txg), (LP 0 1), (I t0.Guid), (LP 0 2), (I t0.Seat), (SL 1 cI ([171, t0.Txg, t0.Guid, t0.Seat] : List Int)), (S x3), (LP 0 3), (Value.agg (cPt t0.Root).toArray), (SL 6 cPt ([t0.Root] : List GPt)), (S x4), (S x5), (S x6), (S x6)]) (LH := [([(cUb t0)], ⟨0, []⟩)]) (D := [⟨[(1, none)], [], [0], false⟩, ⟨[(6, some 0)], [0], [0], false⟩, ⟨[(1, none)], [], [0], false⟩, ⟨[(8, some 2)], [2], [0], false⟩, ⟨[(1, none)], [], [0], false⟩, ⟨[(10, some 4)], [4], [0], false⟩, ⟨[(7, some 1), (9, some 3), (11, some 5)], [0, 1, 2, 3, 4, 5], [0], false⟩, ⟨[(12, some 6)], [0, 1, 2, 3, 4, 5, 6], [0], false⟩, ⟨[(1, none)], [], [0], false⟩, ⟨[(14, some 8)], [8], [0], false⟩, ⟨[(15, some 9)], [8, 9], [0], false⟩, ⟨[(16, some 10)], [0, 1, 2, 3, 4, 5, 6, 7, 8, 9, 10], [0], false⟩, ⟨[(13, some 7), (17, some 11)], [0, 1, 2, 3, 4, 5, 6, 7, 8, 9, 10, 11], [0], false⟩, ⟨[(18, some 12)], [0, 1, 2, 3, 4, 5, 6, 7, 8, 9, 10, 11, 12], [0], false⟩, ⟨[(19, some 13)], [0, 1, 2, 3, 4, 5, 6, 7, 8, 9, 10, 11, 12, 13], [0], false⟩]) (S := []) (plan := [0, 1, 2, 3, 4, 5, 6, 7, 8, 9, 10, 11, 12, 13, 14]) mo (by kernel_rfl) rfl rfl rfl (dcons (dst1 (Tm := [(1, (LP 0 0))]) (L := [(cUb t0)]) (H := ⟨0, []⟩) rfl rfl rfl rfl rfl (asd rfl (efa (v := (LP 0 0)) Try.underlying37 rfl s_3 (by decide) rfl rfl))) (dcons (dst1 (Tm := [(6, (LP 0 0))]) (L := [(cUb t0)]) (H := ⟨0, []⟩) rfl rfl rfl rfl rfl (asd rfl (tx_ldL1 (v := (I t0.Txg)) Try.underlying3 rfl rfl rfl rfl))) (dcons (dst1 (Tm := [(1, (LP 0 0))]) (L := [(cUb t0)]) (H := ⟨0, []⟩) rfl rfl rfl rfl rfl (asd rfl (efa (v := (LP 0 1)) Try.underlying37 rfl s_3 (by decide) rfl rfl))) (dcons (dst1 (Tm := [(8, (LP 0 1))]) (L := [(cUb t0)]) (H := ⟨0, []⟩) rfl rfl rfl rfl rfl (asd rfl (tx_ldL1 (v := (I t0.Guid)) Try.underlying3 rfl rfl rfl rfl))) (dcons (dst1 (Tm := [(1, (LP 0 0))]) (L := [(cUb t0)]) (H := ⟨0, []⟩) rfl rfl rfl rfl rfl (asd rfl (efa (v := (LP 0 2)) Try.underlying37 rfl s_3 (by decide) rfl rfl))) (dcons (dst1 (Tm := [(10, (LP 0 2))]) (L := [(cUb t0)]) (H := ⟨0, []⟩) rfl rfl rfl rfl rfl (asd rfl (tx_ldL1 (v := (I t0.Seat)) Try.underlying3 rfl rfl rfl rfl))) (dcons (dst1 (Tm := [(7, (I t0.Txg)), (9, (I t0.Guid)), (11, (I t0.Seat))]) (L := [(cUb t0)]) (H := ⟨0, []⟩) rfl rfl rfl rfl rfl (asd rfl (ex_buildSliceD (qs := [(0, (I 171)), (1, (I t0.Txg)), (2, (I t0.Guid)), (3, (I t0.Seat))]) (cells := (([171, t0.Txg, t0.Guid, t0.Seat] : List Int).flatMap cI)) Try.underlying59 s_3 (by decide) (evp rfl (evp rfl (evp rfl (evp rfl evp_nil)))) rfl (by kernel_rfl) (by kernel_rfl) (by kernel_rfl)))) (dcons (dst1 (Tm := [(12, (SL 1 cI ([171, t0.Txg, t0.Guid, t0.Seat] : List Int)))]) (L := [(cUb t0)]) (H := ⟨0, []⟩) rfl rfl rfl rfl rfl (asd rfl (ex_call0 (vs := [(S ([49, 52, 52, 49] : Str)), (SL 1 cI ([171, t0.Txg, t0.Guid, t0.Seat] : List Int))]) (v := (S x3)) rfl en_37 (cargs (evs rfl (evs rfl evs_nil))) rfl (ok_ref1_Put ([49, 52, 52, 49] : Str) ([171, t0.Txg, t0.Guid, t0.Seat] : List Int) x3 hx3) rfl))) (dcons (dst1 (Tm := [(1, (LP 0 0))]) (L := [(cUb t0)]) (H := ⟨0, []⟩) rfl rfl rfl rfl rfl (asd rfl (efa (v := (LP 0 3)) Try.underlying37 rfl s_35 (by decide) rfl rfl))) (dcons (dst1 (Tm := [(14, (LP 0 3))]) (L := [(cUb t0)]) (H := ⟨0, []⟩) rfl rfl rfl rfl rfl (asd rfl (tx_ldLA (vs := (cPt t0.Root)) Try.underlying35 rfl s_35 (by decide) rfl rfl rfl rfl))) (dcons (dst1 (Tm := [(15, (Value.agg (cPt t0.Root).toArray))]) (L := [(cUb t0)]) (H := ⟨0, []⟩) rfl rfl rfl rfl rfl (asd rfl (ex_buildSliceD (qs := [(0, (Value.agg (cPt t0.Root).toArray))]) (cells := (([t0.Root] : List GPt).flatMap cPt)) Try.underlying70 s_35 (by decide) (evp rfl evp_nil) rfl (by kernel_rfl) (by kernel_rfl) (by kernel_rfl)))) (dcons (dst1 (Tm := [(16, (SL 6 cPt ([t0.Root] : List GPt)))]) (L := [(cUb t0)]) (H := ⟨0, []⟩) rfl rfl rfl rfl rfl (asd rfl (ex_call0 (vs := [(SL 6 cPt ([t0.Root] : List GPt))]) (v := (S x4)) rfl en_38 (cargs (evs rfl evs_nil)) rfl (ok_ref1_PutPtrs ([t0.Root] : List GPt) x4 hx4) rfl))) (dcons (dst1 (Tm := [(13, (S x3)), (17, (S x4))]) (L := [(cUb t0)]) (H := ⟨0, []⟩) rfl rfl rfl rfl rfl (asd rfl (ex_bin (vx := (S x3)) (vy := (S x4)) rfl rfl (addS_ok hx5)))) (dcons (dst1 (Tm := [(18, (S x5))]) (L := [(cUb t0)]) (H := ⟨0, []⟩) rfl rfl rfl rfl rfl (asd rfl (ex_call0 (vs := [(S x5)]) (v := (S x6)) rfl en_36 (cargs (evs rfl evs_nil)) rfl (ok_ref1_sealed x5 x6 hx6) rfl))) (dcons (dst1 (Tm := [(19, (S x6))]) (L := [(cUb t0)]) (H := ⟨0, []⟩) rfl rfl rfl rfl rfl (asd rfl (eas (eV (v := (S x6)) rfl)))) dnil))))))))))))))) ⟨rfl, rfl⟩) (by kernel_rfl) (by kernel_rfl) ?_
    show AWp _ _ _ _
    refine awp_ret ?_
    cases h
    exact ares1 (rtmp rfl (eV rfl))

noncomputable def M_ref1_Phase (t0 : Int) (t1 : GUb) (t2 : Int) : Option (List GPu) :=
  Option.bind (M_ref1_mayData t0) fun (x1 : Bool) => Option.bind (gd ((!x1) == false) (M_ref1_MayUber t1)) fun (x2 : Bool) => cond ((((!x1) || (!x2)) || (decide (t2 < 0))) || (decide (t2 > 1))) (some []) (Option.bind (M_ref1_Slot t0 t2 t1.Seat) fun (x4 : Int) => Option.bind (M_ref1_PutUber t1) fun (x5 : Str) => Option.bind (M_ref1_Slot t0 (w64 (t2 + 2)) t1.Seat) fun (x6 : Int) => Option.bind (M_ref1_PutUber t1) fun (x7 : Str) => some ([(GPu.mk x4 x5), (GPu.mk x6 x7)] : List GPu))
theorem ok_ref1_Phase (t0 : Int) (t1 : GUb) (t2 : Int) (r : (List GPu)) (h : M_ref1_Phase t0 t1 t2 = some r) : FFn Try.prog 18 [(I t0), (Value.agg (cUb t1).toArray), (I t2)] (SL 2 cPu r) := by
  refine FFn.of_body (n := 41) Try.func18 rfl Try.ntmps18 rfl rfl rfl rfl ?_
  show AWp _ _ _ ⟨41, 0, [(0, (I t0)), (1, (Value.agg (cUb t1).toArray)), (2, (I t2))], [], ⟨0, []⟩⟩
  unfold M_ref1_Phase at h
  refine aws ?_
  refine awr ?_
  refine ado rfl rfl rfl (ex_box (vx := (Value.agg (cUb t1).toArray)) (cs := (cUb t1)) (k := 0) (L' := [(cUb t1)]) (eV (v := (Value.agg (cUb t1).toArray)) rfl) rfl rfl rfl) ?_
  refine ado rfl rfl rfl (eas (eV (v := (Value.slice none 0 0)) rfl)) ?_
  refine ake [0, 2, 4] 1 0 (st' := ⟨41, 0, [(0, (I t0)), (2, (I t2)), (4, (LP 0 0))], [(cUb t1)], ⟨0, []⟩⟩) (by kernel_rfl) (by kernel_rfl) ?_
  show AWp _ _ _ _
  refine aws ?_
  refine aws ?_
  refine awr ?_
  refine ado rfl rfl rfl (emv (eV (v := (I t0)) rfl)) ?_
  obtain ⟨x1, hx1, h⟩ := bindS h
  refine ado rfl rfl rfl (ex_call0 (vs := [(I t0)]) (v := (Bo x1)) rfl en_30 (cargs (evs rfl evs_nil)) rfl (ok_ref1_mayData t0 x1 hx1) rfl) ?_
  refine ado rfl rfl rfl (ex_un (vx := (Bo x1)) rfl notB_ok) ?_
  refine ado rfl rfl rfl (emv (eV (v := (Bo (!x1))) rfl)) ?_
  refine agu (v := (Value.agg (cUb t1).toArray)) ((!x1) == false) rfl rfl rfl (fun hc => tx_ldLA (vs := (cUb t1)) Try.underlying37 rfl s_37 (by decide) rfl rfl rfl rfl) ?_
  obtain ⟨x2, hx2, h⟩ := bindS h
  refine agu (v := (Bo x2)) ((!x1) == false) rfl rfl rfl (fun hc => ex_call0 (vs := [(Value.agg (cUb t1).toArray)]) (v := (Bo x2)) rfl en_34 (cargs (evs (cdo hc) evs_nil)) rfl (ok_ref1_MayUber t1 x2 (gd_of hc hx2)) rfl) ?_
  refine agu (v := (Bo (!x2))) ((!x1) == false) rfl rfl rfl (fun hc => ex_un (vx := (Bo x2)) (cdo hc) notB_ok) ?_
  refine ado rfl rfl rfl (ex_pick rfl pkOr) ?_
  refine ado rfl rfl rfl (emv (eV (v := (Bo ((!x1) || (!x2)))) rfl)) ?_
  refine agu (v := (I t2)) (((!x1) || (!x2)) == false) rfl rfl rfl (fun hc => emv (eV (v := (I t2)) rfl)) ?_
  refine agu (v := (Bo (decide (t2 < 0)))) (((!x1) || (!x2)) == false) rfl rfl rfl (fun hc => ex_bin (vx := (I t2)) (vy := (I 0)) (cdo hc) rfl lssI_ok) ?_
  refine ado rfl rfl rfl (ex_pick rfl pkOr) ?_
  refine ado rfl rfl rfl (emv (eV (v := (Bo (((!x1) || (!x2)) || (decide (t2 < 0))))) rfl)) ?_
  refine agu (v := (I t2)) ((((!x1) || (!x2)) || (decide (t2 < 0))) == false) rfl rfl rfl (fun hc => emv (eV (v := (I t2)) rfl)) ?_
  refine agu (v := (Bo (decide (t2 > 1)))) ((((!x1) || (!x2)) || (decide (t2 < 0))) == false) rfl rfl rfl (fun hc => ex_bin (vx := (I t2)) (vy := (I 1)) (cdo hc) rfl gtrI_ok) ?_
  refine ado rfl rfl rfl (ex_pick rfl pkOr) ?_
  refine ake [0, 2, 4, 22] 1 0 (st' := ⟨41, 0, [(0, (I t0)), (2, (I t2)), (4, (LP 0 0)), (22, (Bo ((((!x1) || (!x2)) || (decide (t2 < 0))) || (decide (t2 > 1)))))], [(cUb t1)], ⟨0, []⟩⟩) (by kernel_rfl) (by kernel_rfl) ?_
  show AWp _ _ _ _
  rcases Bool.eq_false_or_eq_true ((((!x1) || (!x2)) || (decide (t2 < 0))) || (decide (t2 > 1))) with hb3 | hb3
  · rw [condT hb3] at h
    refine awp_condT (boT hb3) ?_
    refine aws ?_
    refine awr ?_
    refine ado rfl rfl rfl (eas (eV (v := (Value.slice none 0 0)) rfl)) ?_
    refine ake [6] 0 0 (st' := ⟨41, 0, [(6, (Value.slice none 0 0))], [], ⟨0, []⟩⟩) (by kernel_rfl) (by kernel_rfl) ?_
    show AWp _ _ _ _
    refine awp_ret ?_
    cases h
    exact ares1 (rtmp rfl (eN rfl))
  · rw [condF hb3] at h
    refine awp_condF (boF hb3) ?_
    refine awp_skip ?_
    show AWp _ _ _ _
    refine aws ?_
    obtain ⟨x4, hx4, h⟩ := bindS h
    obtain ⟨x5, hx5, h⟩ := bindS h
    obtain ⟨x6, hx6, h⟩ := bindS h
    obtain ⟨x7, hx7, h⟩ := bindS h
    refine awp_kn [6] 0 0 (st' := ⟨41, 0, [(6, (SL 2 cPu ([(GPu.mk x4 x5), (GPu.mk x6 x7)] : List GPu)))], [], ⟨0, []⟩⟩) (awp_draw (T := [(I t0), (I t2), (LP 0 2), (I t1.Seat), (I x4), (Value.agg (cUb t1).toArray), (S x5), (Value.agg (cPu (GPu.mk x4 x5)).toArray), (I t0), (I t2), (I (w64 (t2 + 2))), (LP 0 2), (I t1.Seat), (I x6), (Value.agg (cUb t1).toArray), (S x7), (Value.agg (cPu (GPu.mk x6 x7)).toArray), (SL 2 cPu ([(GPu.mk x4 x5), (GPu.mk x6 x7)] : List GPu)), (SL 2 cPu ([(GPu.mk x4 x5), (GPu.mk x6 x7)] : List GPu))]) (LH := [([(cUb t1)], ⟨0, []⟩)]) (D := [⟨[(0, none)], [], [0], false⟩, ⟨[(2, none)], [], [0], false⟩, ⟨[(4, none)], [], [0], false⟩, ⟨[(25, some 2)], [2], [0], false⟩, ⟨[(23, some 0), (24, some 1), (26, some 3)], [0, 1, 2, 3], [0], false⟩, ⟨[(4, none)], [], [0], false⟩, ⟨[(28, some 5)], [0, 1, 2, 3, 4, 5], [0], false⟩, ⟨[(27, some 4), (29, some 6)], [0, 1, 2, 3, 4, 5, 6], [0], false⟩, ⟨[(0, none)], [], [0], false⟩, ⟨[(2, none)], [], [0], false⟩, ⟨[(32, some 9)], [9], [0], false⟩, ⟨[(4, none)], [], [0], false⟩, ⟨[(34, some 11)], [11], [0], false⟩, ⟨[(31, some 8), (33, some 10), (35, some 12)], [0, 1, 2, 3, 4, 5, 6, 8, 9, 10, 11, 12], [0], false⟩, ⟨[(4, none)], [], [0], false⟩, ⟨[(37, some 14)], [0, 1, 2, 3, 4, 5, 6, 8, 9, 10, 11, 12, 13, 14], [0], false⟩, ⟨[(36, some 13), (38, some 15)], [0, 1, 2, 3, 4, 5, 6, 8, 9, 10, 11, 12, 13, 14, 15], [0], false⟩, ⟨[(30, some 7), (39, some 16)], [0, 1, 2, 3, 4, 5, 6, 7, 8, 9, 10, 11, 12, 13, 14, 15, 16], [0], false⟩, ⟨[(40, some 17)], [0, 1, 2, 3, 4, 5, 6, 7, 8, 9, 10, 11, 12, 13, 14, 15, 16, 17], [0], false⟩]) (S := []) (plan := [0, 1, 2, 3, 4, 5, 6, 7, 8, 9, 10, 11, 12, 13, 14, 15, 16, 17, 18]) mo (by kernel_rfl) rfl rfl rfl (dcons (dst1 (Tm := [(0, (I t0))]) (L := [(cUb t1)]) (H := ⟨0, []⟩) rfl rfl rfl rfl rfl (asd rfl (emv (eV (v := (I t0)) rfl)))) (dcons (dst1 (Tm := [(2, (I t2))]) (L := [(cUb t1)]) (H := ⟨0, []⟩) rfl rfl rfl rfl rfl (asd rfl (emv (eV (v := (I t2)) rfl)))) (dcons (dst1 (Tm := [(4, (LP 0 0))]) (L := [(cUb t1)]) (H := ⟨0, []⟩) rfl rfl rfl rfl rfl (asd rfl (efa (v := (LP 0 2)) Try.underlying37 rfl s_3 (by decide) rfl rfl))) (dcons (dst1 (Tm := [(25, (LP 0 2))]) (L := [(cUb t1)]) (H := ⟨0, []⟩) rfl rfl rfl rfl rfl (asd rfl (tx_ldL1 (v := (I t1.Seat)) Try.underlying3 rfl rfl rfl rfl))) (dcons (dst1 (Tm := [(23, (I t0)), (24, (I t2)), (26, (I t1.Seat))]) (L := [(cUb t1)]) (H := ⟨0, []⟩) rfl rfl rfl rfl rfl (asd rfl (ex_call0 (vs := [(I t0), (I t2), (I t1.Seat)]) (v := (I x4)) rfl en_13 (cargs (evs rfl (evs rfl (evs rfl evs_nil)))) rfl (ok_ref1_Slot t0 t2 t1.Seat x4 hx4) rfl))) (dcons (dst1 (Tm := [(4, (LP 0 0))]) (L := [(cUb t1)]) (H := ⟨0, []⟩) rfl rfl rfl rfl rfl (asd rfl (tx_ldLA (vs := (cUb t1)) Try.underlying37 rfl s_37 (by decide) rfl rfl rfl rfl))) (dcons (dst1 (Tm := [(28, (Value.agg (cUb t1).toArray))]) (L := [(cUb t1)]) (H := ⟨0, []⟩) rfl rfl rfl rfl rfl (asd rfl (ex_call0 (vs := [(Value.agg (cUb t1).toArray)]) (v := (S x5)) rfl en_20 (cargs (evs rfl evs_nil)) rfl (ok_ref1_PutUber t1 x5 hx5) rfl))) (dcons (dst1 (Tm := [(27, (I x4)), (29, (S x5))]) (L := [(cUb t1)]) (H := ⟨0, []⟩) rfl rfl rfl rfl rfl (asd rfl (ex_build (qs := [(0, (I x4)), (1, (S x5))]) (v := (Value.agg (cPu (GPu.mk x4 x5)).toArray)) (evp rfl (evp rfl evp_nil)) (by kernel_rfl)))) (dcons (dst1 (Tm := [(0, (I t0))]) (L := [(cUb t1)]) (H := ⟨0, []⟩) rfl rfl rfl rfl rfl (asd rfl (emv (eV (v := (I t0)) rfl)))) (dcons (dst1 (Tm := [(2, (I t2))]) (L := [(cUb t1)]) (H := ⟨0, []⟩) rfl rfl rfl rfl rfl (asd rfl (emv (eV (v := (I t2)) rfl)))) (dcons (dst1 (Tm := [(32, (I t2))]) (L := [(cUb t1)]) (H := ⟨0, []⟩) rfl rfl rfl rfl rfl (asd rfl (ex_bin (vx := (I t2)) (vy := (I 2)) rfl rfl addI_ok))) (dcons (dst1 (Tm := [(4, (LP 0 0))]) (L := [(cUb t1)]) (H := ⟨0, []⟩) rfl rfl rfl rfl rfl (asd rfl (efa (v := (LP 0 2)) Try.underlying37 rfl s_3 (by decide) rfl rfl))) (dcons (dst1 (Tm := [(34, (LP 0 2))]) (L := [(cUb t1)]) (H := ⟨0, []⟩) rfl rfl rfl rfl rfl (asd rfl (tx_ldL1 (v := (I t1.Seat)) Try.underlying3 rfl rfl rfl rfl))) (dcons (dst1 (Tm := [(31, (I t0)), (33, (I (w64 (t2 + 2)))), (35, (I t1.Seat))]) (L := [(cUb t1)]) (H := ⟨0, []⟩) rfl rfl rfl rfl rfl (asd rfl (ex_call0 (vs := [(I t0), (I (w64 (t2 + 2))), (I t1.Seat)]) (v := (I x6)) rfl en_13 (cargs (evs rfl (evs rfl (evs rfl evs_nil)))) rfl (ok_ref1_Slot t0 (w64 (t2 + 2)) t1.Seat x6 hx6) rfl))) (dcons (dst1 (Tm := [(4, (LP 0 0))]) (L := [(cUb t1)]) (H := ⟨0, []⟩) rfl rfl rfl rfl rfl (asd rfl (tx_ldLA (vs := (cUb t1)) Try.underlying37 rfl s_37 (by decide) rfl rfl rfl rfl))) (dcons (dst1 (Tm := [(37, (Value.agg (cUb t1).toArray))]) (L := [(cUb t1)]) (H := ⟨0, []⟩) rfl rfl rfl rfl rfl (asd rfl (ex_call0 (vs := [(Value.agg (cUb t1).toArray)]) (v := (S x7)) rfl en_20 (cargs (evs rfl evs_nil)) rfl (ok_ref1_PutUber t1 x7 hx7) rfl))) (dcons (dst1 (Tm := [(36, (I x6)), (38, (S x7))]) (L := [(cUb t1)]) (H := ⟨0, []⟩) rfl rfl rfl rfl rfl (asd rfl (ex_build (qs := [(0, (I x6)), (1, (S x7))]) (v := (Value.agg (cPu (GPu.mk x6 x7)).toArray)) (evp rfl (evp rfl evp_nil)) (by kernel_rfl)))) (dcons (dst1 (Tm := [(30, (Value.agg (cPu (GPu.mk x4 x5)).toArray)), (39, (Value.agg (cPu (GPu.mk x6 x7)).toArray))]) (L := [(cUb t1)]) (H := ⟨0, []⟩) rfl rfl rfl rfl rfl (asd rfl (ex_buildSliceD (qs := [(0, (Value.agg (cPu (GPu.mk x4 x5)).toArray)), (1, (Value.agg (cPu (GPu.mk x6 x7)).toArray))]) (cells := (([(GPu.mk x4 x5), (GPu.mk x6 x7)] : List GPu).flatMap cPu)) Try.underlying27 s_44 (by decide) (evp rfl (evp rfl evp_nil)) rfl (by kernel_rfl) (by kernel_rfl) (by kernel_rfl)))) (dcons (dst1 (Tm := [(40, (SL 2 cPu ([(GPu.mk x4 x5), (GPu.mk x6 x7)] : List GPu)))]) (L := [(cUb t1)]) (H := ⟨0, []⟩) rfl rfl rfl rfl rfl (asd rfl (eas (eV (v := (SL 2 cPu ([(GPu.mk x4 x5), (GPu.mk x6 x7)] : List GPu))) rfl)))) dnil))))))))))))))))))) ⟨rfl, rfl⟩) (by kernel_rfl) (by kernel_rfl) ?_
    show AWp _ _ _ _
    refine awp_ret ?_
    cases h
    exact ares1 (rtmp rfl (eV rfl))

noncomputable def M_ref1_SamePuts_l1 (t0 : (List GPu)) (t1 : (List GPu)) : Nat → Int → Option Bool
  | 0, _ => none
  | n1 + 1, v2 =>
  cond (decide (v2 < (t0.length : Int))) (Option.bind (getI t0 v2) fun (x4 : GPu) => Option.bind (getI t1 v2) fun (x5 : GPu) => cond (!decide (x4 = x5)) (some false) ((M_ref1_SamePuts_l1 t0 t1 n1) (w64 (v2 + 1)))) (some true)
noncomputable def M_ref1_SamePuts (t0 : (List GPu)) (t1 : (List GPu)) : Option Bool :=
  cond ((t0.length : Int) != (t1.length : Int)) (some false) (M_ref1_SamePuts_l1 t0 t1 fuel 0)
theorem ok_ref1_SamePuts (t0 : (List GPu)) (t1 : (List GPu)) (r : Bool) (h : M_ref1_SamePuts t0 t1 = some r) : FFn Try.prog 16 [(SL 2 cPu t0), (SL 2 cPu t1)] (Bo r) := by
  refine FFn.of_body (n := 26) Try.func16 rfl Try.ntmps16 rfl rfl rfl rfl ?_
  show AWp _ _ _ ⟨26, 0, [(0, (SL 2 cPu t0)), (1, (SL 2 cPu t1))], [], ⟨0, []⟩⟩
  unfold M_ref1_SamePuts at h
  refine aws ?_
  refine awr ?_
  refine ado rfl rfl rfl (eas (eV (v := (Bo false)) rfl)) ?_
  refine ake [0, 1] 0 0 (st' := ⟨26, 0, [(0, (SL 2 cPu t0)), (1, (SL 2 cPu t1))], [], ⟨0, []⟩⟩) (by kernel_rfl) (by kernel_rfl) ?_
  show AWp _ _ _ _
  refine aws ?_
  refine aws ?_
  refine awr ?_
  refine ado rfl rfl rfl (emv (eV (v := (SL 2 cPu t0)) rfl)) ?_
  refine ado rfl rfl rfl (tx_lenD (xs := t0) ce_api_Put Try.underlying27 rfl) ?_
  refine ado rfl rfl rfl (emv (eV (v := (SL 2 cPu t1)) rfl)) ?_
  refine ado rfl rfl rfl (tx_lenD (xs := t1) ce_api_Put Try.underlying27 rfl) ?_
  refine ado rfl rfl rfl (ex_bin (vx := (I (t0.length : Int))) (vy := (I (t1.length : Int))) rfl rfl neqI_ok) ?_
  refine ake [0, 1, 10] 0 0 (st' := ⟨26, 0, [(0, (SL 2 cPu t0)), (1, (SL 2 cPu t1)), (10, (Bo ((t0.length : Int) != (t1.length : Int))))], [], ⟨0, []⟩⟩) (by kernel_rfl) (by kernel_rfl) ?_
  show AWp _ _ _ _
  rcases Bool.eq_false_or_eq_true ((t0.length : Int) != (t1.length : Int)) with hb1 | hb1
  · rw [condT hb1] at h
    refine awp_condT (boT hb1) ?_
    refine aws ?_
    refine awr ?_
    refine ado rfl rfl rfl (eas (eV (v := (Bo false)) rfl)) ?_
    refine ake [4] 0 0 (st' := ⟨26, 0, [(4, (Bo false))], [], ⟨0, []⟩⟩) (by kernel_rfl) (by kernel_rfl) ?_
    show AWp _ _ _ _
    refine awp_ret ?_
    cases h
    exact ares1 (rtmp rfl (eV rfl))
  · rw [condF hb1] at h
    refine awp_condF (boF hb1) ?_
    refine awp_skip ?_
    show AWp _ _ _ _
    refine aws ?_
    refine aws ?_
    refine awr ?_
    refine ado rfl rfl rfl (eas (eV (v := (I 0)) rfl)) ?_
    refine ake [0, 1, 5] 0 0 (st' := ⟨26, 0, [(0, (SL 2 cPu t0)), (1, (SL 2 cPu t1)), (5, (I 0))], [], ⟨0, []⟩⟩) (by kernel_rfl) (by kernel_rfl) ?_
    show AWp _ _ _ _
    refine awp_block ?_
    refine awp_loop (fun n s => ∃ (v2 : Int), s = ⟨26, 0, [(0, (SL 2 cPu t0)), (1, (SL 2 cPu t1)), (5, (I v2))], [], ⟨0, []⟩⟩ ∧ M_ref1_SamePuts_l1 t0 t1 n v2 = some r) fuel (Exists.intro 0 (And.intro rfl h)) ?_
    rintro n s ⟨v2, rfl, h⟩ -
    cases n with
    | zero => cases h
    | succ n1 =>
      unfold M_ref1_SamePuts_l1 at h
      refine aws ?_
      refine aws ?_
      refine awr ?_
      refine ado rfl rfl rfl (emv (eV (v := (I v2)) rfl)) ?_
      refine ado rfl rfl rfl (emv (eV (v := (SL 2 cPu t0)) rfl)) ?_
      refine ado rfl rfl rfl (tx_lenD (xs := t0) ce_api_Put Try.underlying27 rfl) ?_
      refine ado rfl rfl rfl (ex_bin (vx := (I v2)) (vy := (I (t0.length : Int))) rfl rfl lssI_ok) ?_
      refine ake [0, 1, 5, 14] 0 0 (st' := ⟨26, 0, [(0, (SL 2 cPu t0)), (1, (SL 2 cPu t1)), (5, (I v2)), (14, (Bo (decide (v2 < (t0.length : Int)))))], [], ⟨0, []⟩⟩) (by kernel_rfl) (by kernel_rfl) ?_
      show AWp _ _ _ _
      rcases Bool.eq_false_or_eq_true (decide (v2 < (t0.length : Int))) with hb3 | hb3
      · rw [condT hb3] at h
        refine awp_condT (boT hb3) ?_
        refine awp_skip ?_
        show AWp _ _ _ _
        refine aws ?_
        refine awp_block ?_
        refine aws ?_
        obtain ⟨x4, hx4, h⟩ := bindS h
        obtain ⟨x5, hx5, h⟩ := bindS h
        refine awp_kn [0, 1, 5, 25] 0 0 (st' := ⟨26, 0, [(0, (SL 2 cPu t0)), (1, (SL 2 cPu t1)), (5, (I v2)), (25, (Bo (!decide (x4 = x5))))], [], ⟨0, []⟩⟩) (awp_draw (T := [(SL 2 cPu t0), (I v2), (DP (cPu x4)), (Value.agg (cPu x4).toArray), (SL 2 cPu t1), (I v2), (DP (cPu x5)), (Value.agg (cPu x5).toArray), (Bo (!decide (x4 = x5)))]) (LH := [([], ⟨0, []⟩)]) (D := [⟨[(0, none)], [], [0], false⟩, ⟨[(5, none)], [], [0], false⟩, ⟨[(17, some 0), (18, some 1)], [0, 1], [0], false⟩, ⟨[(19, some 2)], [0, 1, 2], [0], false⟩, ⟨[(1, none)], [], [0], false⟩, ⟨[(5, none)], [], [0], false⟩, ⟨[(21, some 4), (22, some 5)], [4, 5], [0], false⟩, ⟨[(23, some 6)], [4, 5, 6], [0], false⟩, ⟨[(20, some 3), (24, some 7)], [0, 1, 2, 3, 4, 5, 6, 7], [0], false⟩]) (S := []) (plan := [0, 1, 2, 3, 4, 5, 6, 7, 8]) mo (by kernel_rfl) rfl rfl rfl (dcons (dst1 (Tm := [(0, (SL 2 cPu t0))]) (L := []) (H := ⟨0, []⟩) rfl rfl rfl rfl rfl (asd rfl (emv (eV (v := (SL 2 cPu t0)) rfl)))) (dcons (dst1 (Tm := [(5, (I v2))]) (L := []) (H := ⟨0, []⟩) rfl rfl rfl rfl rfl (asd rfl (emv (eV (v := (I v2)) rfl)))) (dcons (dst1 (Tm := [(17, (SL 2 cPu t0)), (18, (I v2))]) (L := []) (H := ⟨0, []⟩) rfl rfl rfl rfl rfl (asd rfl (tx_idxD (c := cPu) (xs := t0) (i := v2) ce_api_Put Try.underlying27 s_44 rfl rfl hx4))) (dcons (dst1 (Tm := [(19, (DP (cPu x4)))]) (L := []) (H := ⟨0, []⟩) rfl rfl rfl rfl rfl (asd rfl (tx_ldDA (vs := (cPu x4)) Try.underlying44 rfl s_44 (by decide) rfl (Nat.le_of_ble_eq_true rfl) rfl))) (dcons (dst1 (Tm := [(1, (SL 2 cPu t1))]) (L := []) (H := ⟨0, []⟩) rfl rfl rfl rfl rfl (asd rfl (emv (eV (v := (SL 2 cPu t1)) rfl)))) (dcons (dst1 (Tm := [(5, (I v2))]) (L := []) (H := ⟨0, []⟩) rfl rfl rfl rfl rfl (asd rfl (emv (eV (v := (I v2)) rfl)))) (dcons (dst1 (Tm := [(21, (SL 2 cPu t1)), (22, (I v2))]) (L := []) (H := ⟨0, []⟩) rfl rfl rfl rfl rfl (asd rfl (tx_idxD (c := cPu) (xs := t1) (i := v2) ce_api_Put Try.underlying27 s_44 rfl rfl hx5))) (dcons (dst1 (Tm := [(23, (DP (cPu x5)))]) (L := []) (H := ⟨0, []⟩) rfl rfl rfl rfl rfl (asd rfl (tx_ldDA (vs := (cPu x5)) Try.underlying44 rfl s_44 (by decide) rfl (Nat.le_of_ble_eq_true rfl) rfl))) (dcons (dst1 (Tm := [(20, (Value.agg (cPu x4).toArray)), (24, (Value.agg (cPu x5).toArray))]) (L := []) (H := ⟨0, []⟩) rfl rfl rfl rfl rfl (asd rfl (ex_bin (vx := (Value.agg (cPu x4).toArray)) (vy := (Value.agg (cPu x5).toArray)) rfl rfl neq_44))) dnil))))))))) ⟨rfl, rfl⟩) (by kernel_rfl) (by kernel_rfl) ?_
        show AWp _ _ _ _
        rcases Bool.eq_false_or_eq_true (!decide (x4 = x5)) with hb6 | hb6
        · rw [condT hb6] at h
          refine awp_condT (boT hb6) ?_
          refine aws ?_
          refine awr ?_
          refine ado rfl rfl rfl (eas (eV (v := (Bo false)) rfl)) ?_
          refine ake [4] 0 0 (st' := ⟨26, 0, [(4, (Bo false))], [], ⟨0, []⟩⟩) (by kernel_rfl) (by kernel_rfl) ?_
          show AWp _ _ _ _
          refine awp_ret ?_
          cases h
          exact ares1 (rtmp rfl (eV rfl))
        · rw [condF hb6] at h
          refine awp_condF (boF hb6) ?_
          refine awp_skip ?_
          show AWp _ _ _ _
          refine awr ?_
          refine ado rfl rfl rfl (emv (eV (v := (I v2)) rfl)) ?_
          refine ado rfl rfl rfl (ex_bin (vx := (I v2)) (vy := (I 1)) rfl rfl addI_ok) ?_
          refine ado rfl rfl rfl (eas (eV (v := (I (w64 (v2 + 1)))) rfl)) ?_
          refine ake [0, 1, 5] 0 0 (st' := ⟨26, 0, [(0, (SL 2 cPu t0)), (1, (SL 2 cPu t1)), (5, (I (w64 (v2 + 1))))], [], ⟨0, []⟩⟩) (by kernel_rfl) (by kernel_rfl) ?_
          exact Exists.intro n1 (And.intro (Nat.lt_succ_self _) (Exists.intro (w64 (v2 + 1)) (And.intro rfl h)))
      · rw [condF hb3] at h
        refine awp_condF (boF hb3) ?_
        refine awp_exit ?_
        show AWp _ _ _ _
        refine aws ?_
        refine awr ?_
        refine ado rfl rfl rfl (eas (eV (v := (Bo true)) rfl)) ?_
        refine ake [4] 0 0 (st' := ⟨26, 0, [(4, (Bo true))], [], ⟨0, []⟩⟩) (by kernel_rfl) (by kernel_rfl) ?_
        show AWp _ _ _ _
        refine awp_ret ?_
        cases h
        exact ares1 (rtmp rfl (eV rfl))

noncomputable def M_ref1_lasting_k1 (c_1 : (Int → List Str → Option (List Str))) (t0 : GDv) (t1 : (List Int)) (v2 : Int) (y5 : List Str) : Option (List Str) :=
  c_1 (w64 (v2 + 1)) y5
noncomputable def M_ref1_lasting_k3 (c_1 : (Int → List Str → Option (List Str))) (t0 : GDv) (t1 : (List Int)) (v2 : Int) (x6 : GPu) (y9 : Int) (y12 : List Str) : Option (List Str) :=
  cond ((andI y9 2) == 2) (Option.bind (getI y12 x6.At) fun (x21 : Str) => Option.bind (slL x21 0 128) fun (x22 : Str) => Option.bind (slL x6.B 128 (x6.B.length : Int)) fun (x23 : Str) => Option.bind (addS x22 x23) fun (x24 : Str) => Option.bind (getI y12 x6.At) fun (x25 : Str) => Option.bind (setI y12 x6.At x24) fun (x26 : List Str) => M_ref1_lasting_k1 c_1 t0 t1 v2 x26) (M_ref1_lasting_k1 c_1 t0 t1 v2 y12)
noncomputable def M_ref1_lasting_k2 (c_1 : (Int → List Str → Option (List Str))) (t0 : GDv) (t1 : (List Int)) (v2 : Int) (v3 : List Str) (x6 : GPu) (y9 : Int) : Option (List Str) :=
  cond ((andI y9 1) == 1) (Option.bind (slL x6.B 0 128) fun (x14 : Str) => Option.bind (getI v3 x6.At) fun (x15 : Str) => Option.bind (slL x15 128 (x15.length : Int)) fun (x16 : Str) => Option.bind (addS x14 x16) fun (x17 : Str) => Option.bind (getI v3 x6.At) fun (x18 : Str) => Option.bind (setI v3 x6.At x17) fun (x19 : List Str) => M_ref1_lasting_k3 c_1 t0 t1 v2 x6 y9 x19) (M_ref1_lasting_k3 c_1 t0 t1 v2 x6 y9 v3)
noncomputable def M_ref1_lasting_l1 (t0 : GDv) (t1 : (List Int)) : Nat → Int → List Str → Option (List Str)
  | 0, _, _ => none
  | n1 + 1, v2, v3 =>
  cond (decide (v2 < (t0.Wait.length : Int))) (Option.bind (getI t0.Wait v2) fun (x6 : GPu) => Option.bind (gd ((((decide (x6.At < 0)) || (decide (x6.At ≥ ((v3.length : Nat) : Int)))) || ((x6.B.length : Int) != 256)) == false) (getI v3 x6.At)) fun (x7 : Str) => cond ((((decide (x6.At < 0)) || (decide (x6.At ≥ ((v3.length : Nat) : Int)))) || ((x6.B.length : Int) != 256)) || ((x7.length : Int) != 256)) (M_ref1_lasting_k1 (M_ref1_lasting_l1 t0 t1 n1) t0 t1 v2 v3) (cond (decide (v2 < (t1.length : Int))) (Option.bind (getI t1 v2) fun (x11 : Int) => M_ref1_lasting_k2 (M_ref1_lasting_l1 t0 t1 n1) t0 t1 v2 v3 x6 (andI x11 3)) (M_ref1_lasting_k2 (M_ref1_lasting_l1 t0 t1 n1) t0 t1 v2 v3 x6 0))) (some v3)
noncomputable def M_ref1_lasting (t0 : GDv) (t1 : (List Int)) : Option (List Str) :=
  Option.bind (appL 16 ([] : List Str) t0.Last) fun (x1 : List Str) => M_ref1_lasting_l1 t0 t1 fuel 0 x1
theorem ok_ref1_lasting (t0 : GDv) (t1 : (List Int)) (r : (List Str)) (h : M_ref1_lasting t0 t1 = some r) : FFn Try.prog 39 [(Value.agg (cDv t0).toArray), (SL 1 cI t1)] (SL 1 cS r) := by
  refine FFn.of_body (n := 94) Try.func39 rfl Try.ntmps39 rfl rfl rfl rfl ?_
  show AWp _ _ _ ⟨94, 0, [(0, (Value.agg (cDv t0).toArray)), (1, (SL 1 cI t1))], [], ⟨0, []⟩⟩
  unfold M_ref1_lasting at h
  refine aws ?_
  refine awr ?_
  refine ado rfl rfl rfl (ex_box (vx := (Value.agg (cDv t0).toArray)) (cs := (cDv t0)) (k := 0) (L' := [(cDv t0)]) (eV (v := (Value.agg (cDv t0).toArray)) rfl) rfl rfl rfl) ?_
  refine ado rfl rfl rfl (eas (eV (v := (Value.slice none 0 0)) rfl)) ?_
  refine ake [1, 2] 1 0 (st' := ⟨94, 0, [(1, (SL 1 cI t1)), (2, (LP 0 0))], [(cDv t0)], ⟨0, []⟩⟩) (by kernel_rfl) (by kernel_rfl) ?_
  show AWp _ _ _ _
  refine aws ?_
  refine awr ?_
  refine ado rfl rfl rfl (ex_buildSliceG (k := 0) (qs := []) (cells := (([] : List Str).flatMap cS)) (H' := ⟨1, [(0, ⟨1, (([] : List Str).flatMap cS), true⟩)]⟩) Try.underlying26 s_9 (by decide) (by decide) evp_nil rfl (by kernel_rfl) (by kernel_rfl) (by kernel_rfl) rfl rfl) ?_
  refine ado rfl rfl rfl (efa (v := (LP 0 0)) Try.underlying29 rfl s_26 (by decide) rfl rfl) ?_
  refine ado rfl rfl rfl (tx_ldL1 (v := (SL 1 cS t0.Last)) Try.underlying26 rfl rfl rfl rfl) ?_
  obtain ⟨x1, hx1, h⟩ := bindS h
  refine ado rfl rfl rfl (tx_appG (c := cS) (xs := []) (H' := ⟨1, [(0, ⟨1, ((x1).flatMap cS), true⟩)]⟩) ceS e_9 rfl rfl rfl (tsrcD (ys := t0.Last) ceS Try.underlying26 s_9 Try.underlying26 rfl) hx1 rfl) ?_
  refine ado rfl rfl rfl (eas (eV (v := (GV 0 x1.length)) rfl)) ?_
  refine ake [1, 2, 5] 1 1 (st' := ⟨94, 0, [(1, (SL 1 cI t1)), (2, (LP 0 0)), (5, (GV 0 x1.length))], [(cDv t0)], ⟨1, [(0, ⟨1, ((x1).flatMap cS), true⟩)]⟩⟩) (by kernel_rfl) (by kernel_rfl) ?_
  show AWp _ _ _ _
  refine aws ?_
  refine aws ?_
  refine awr ?_
  refine ado rfl rfl rfl (eas (eV (v := (I 0)) rfl)) ?_
  refine ake [1, 2, 5, 6] 1 1 (st' := ⟨94, 0, [(1, (SL 1 cI t1)), (2, (LP 0 0)), (5, (GV 0 x1.length)), (6, (I 0))], [(cDv t0)], ⟨1, [(0, ⟨1, ((x1).flatMap cS), true⟩)]⟩⟩) (by kernel_rfl) (by kernel_rfl) ?_
  show AWp _ _ _ _
  refine awp_block ?_
  refine awp_loop (fun n s => ∃ (v2 : Int) (v3 : List Str), s = ⟨94, 0, [(1, (SL 1 cI t1)), (2, (LP 0 0)), (5, (GV 0 v3.length)), (6, (I v2))], [(cDv t0)], ⟨1, [(0, ⟨1, ((v3).flatMap cS), true⟩)]⟩⟩ ∧ M_ref1_lasting_l1 t0 t1 n v2 v3 = some r) fuel (Exists.intro 0 (Exists.intro x1 (And.intro rfl h))) ?_
  rintro n s ⟨v2, v3, rfl, h⟩ -
  cases n with
  | zero => cases h
  | succ n1 =>
    unfold M_ref1_lasting_l1 at h
    refine aws ?_
    refine aws ?_
    refine awr ?_
    refine ado rfl rfl rfl (emv (eV (v := (I v2)) rfl)) ?_
    refine ado rfl rfl rfl (efa (v := (LP 0 1)) Try.underlying29 rfl s_27 (by decide) rfl rfl) ?_
    refine ado rfl rfl rfl (tx_ldL1 (v := (SL 2 cPu t0.Wait)) Try.underlying27 rfl rfl rfl rfl) ?_
    refine ado rfl rfl rfl (tx_lenD (xs := t0.Wait) ce_api_Put Try.underlying27 rfl) ?_
    refine ado rfl rfl rfl (ex_bin (vx := (I v2)) (vy := (I (t0.Wait.length : Int))) rfl rfl lssI_ok) ?_
    refine ake [1, 2, 5, 6, 17] 1 1 (st' := ⟨94, 0, [(1, (SL 1 cI t1)), (2, (LP 0 0)), (5, (GV 0 v3.length)), (6, (I v2)), (17, (Bo (decide (v2 < (t0.Wait.length : Int)))))], [(cDv t0)], ⟨1, [(0, ⟨1, ((v3).flatMap cS), true⟩)]⟩⟩) (by kernel_rfl) (by kernel_rfl) ?_
    show AWp _ _ _ _
    rcases Bool.eq_false_or_eq_true (decide (v2 < (t0.Wait.length : Int))) with hb4 | hb4
    · rw [condT hb4] at h
      refine awp_condT (boT hb4) ?_
      refine awp_skip ?_
      show AWp _ _ _ _
      refine awp_seqJ (fun s => ∃ (y5 : List Str), s = ⟨94, 0, [(1, (SL 1 cI t1)), (2, (LP 0 0)), (5, (GV 0 y5.length)), (6, (I v2))], [(cDv t0)], ⟨1, [(0, ⟨1, ((y5).flatMap cS), true⟩)]⟩⟩ ∧ M_ref1_lasting_k1 (M_ref1_lasting_l1 t0 t1 n1) t0 t1 v2 y5 = some r) ?_ ?_
      · refine awp_block ?_
        refine aws ?_
        refine awr ?_
        refine ado rfl rfl rfl (efa (v := (LP 0 1)) Try.underlying29 rfl s_27 (by decide) rfl rfl) ?_
        refine ado rfl rfl rfl (tx_ldL1 (v := (SL 2 cPu t0.Wait)) Try.underlying27 rfl rfl rfl rfl) ?_
        refine ado rfl rfl rfl (emv (eV (v := (I v2)) rfl)) ?_
        obtain ⟨x6, hx6, h⟩ := bindS h
        refine ado rfl rfl rfl (tx_idxD (c := cPu) (xs := t0.Wait) (i := v2) ce_api_Put Try.underlying27 s_44 rfl rfl hx6) ?_
        refine ado rfl rfl rfl (tx_ldDA (vs := (cPu x6)) Try.underlying44 rfl s_44 (by decide) rfl (Nat.le_of_ble_eq_true rfl) rfl) ?_
        refine ado rfl rfl rfl (ex_alloc (k := 1) (zs := (cPu (GPu.mk 0 []))) (L' := [(cDv t0), (cPu (GPu.mk 0 []))]) z_44 rfl rfl rfl rfl) ?_
        refine arun_do0 rfl rfl (ex_storeL (vy := (Value.agg (cPu x6).toArray)) (cs := (cPu (GPu.mk 0 []))) (vs := (cPu x6)) (L' := [(cDv t0), (cPu x6)]) rfl (eV (v := (Value.agg (cPu x6).toArray)) rfl) rfl s_44 rfl (Nat.le_of_ble_eq_true rfl) (by kernel_rfl)) ?_
        refine ake [1, 2, 5, 6, 7] 2 1 (st' := ⟨94, 0, [(1, (SL 1 cI t1)), (2, (LP 0 0)), (5, (GV 0 v3.length)), (6, (I v2)), (7, (LP 1 0))], [(cDv t0), (cPu x6)], ⟨1, [(0, ⟨1, ((v3).flatMap cS), true⟩)]⟩⟩) (by kernel_rfl) (by kernel_rfl) ?_
        show AWp _ _ _ _
        refine aws ?_
        refine aws ?_
        refine awr ?_
        refine ado rfl rfl rfl (efa (v := (LP 1 0)) Try.underlying44 rfl s_3 (by decide) rfl rfl) ?_
        refine ado rfl rfl rfl (tx_ldL1 (v := (I x6.At)) Try.underlying3 rfl rfl rfl rfl) ?_
        refine ado rfl rfl rfl (ex_bin (vx := (I x6.At)) (vy := (I 0)) rfl rfl lssI_ok) ?_
        refine ado rfl rfl rfl (emv (eV (v := (Bo (decide (x6.At < 0)))) rfl)) ?_
        refine agu (v := (LP 1 0)) ((decide (x6.At < 0)) == false) rfl rfl rfl (fun hc => efa (v := (LP 1 0)) Try.underlying44 rfl s_3 (by decide) rfl rfl) ?_
        refine agu (v := (I x6.At)) ((decide (x6.At < 0)) == false) rfl rfl rfl (fun hc => tx_ldL1 (v := (I x6.At)) Try.underlying3 rfl (cdo hc) rfl rfl) ?_
        refine agu (v := (GV 0 v3.length)) ((decide (x6.At < 0)) == false) rfl rfl rfl (fun hc => emv (eV (v := (GV 0 v3.length)) rfl)) ?_
        refine agu (v := (I ((v3.length : Nat) : Int))) ((decide (x6.At < 0)) == false) rfl rfl rfl (fun hc => ex_lenN (n := v3.length) Try.underlying26 (cdo hc)) ?_
        refine agu (v := (Bo (decide (x6.At ≥ ((v3.length : Nat) : Int))))) ((decide (x6.At < 0)) == false) rfl rfl rfl (fun hc => ex_bin (vx := (I x6.At)) (vy := (I ((v3.length : Nat) : Int))) (cdo hc) (cdo hc) geqI_ok) ?_
        refine ado rfl rfl rfl (ex_pick rfl pkOr) ?_
        refine ado rfl rfl rfl (emv (eV (v := (Bo ((decide (x6.At < 0)) || (decide (x6.At ≥ ((v3.length : Nat) : Int)))))) rfl)) ?_
        refine agu (v := (LP 1 1)) (((decide (x6.At < 0)) || (decide (x6.At ≥ ((v3.length : Nat) : Int)))) == false) rfl rfl rfl (fun hc => efa (v := (LP 1 1)) Try.underlying44 rfl s_9 (by decide) rfl rfl) ?_
        refine agu (v := (S x6.B)) (((decide (x6.At < 0)) || (decide (x6.At ≥ ((v3.length : Nat) : Int)))) == false) rfl rfl rfl (fun hc => tx_ldL1 (v := (S x6.B)) Try.underlying9 rfl (cdo hc) rfl rfl) ?_
        refine agu (v := (I (x6.B.length : Int))) (((decide (x6.At < 0)) || (decide (x6.At ≥ ((v3.length : Nat) : Int)))) == false) rfl rfl rfl (fun hc => tx_lenS Try.underlying9 (cdo hc)) ?_
        refine agu (v := (Bo ((x6.B.length : Int) != 256))) (((decide (x6.At < 0)) || (decide (x6.At ≥ ((v3.length : Nat) : Int)))) == false) rfl rfl rfl (fun hc => ex_bin (vx := (I (x6.B.length : Int))) (vy := (I 256)) (cdo hc) rfl neqI_ok) ?_
        refine ado rfl rfl rfl (ex_pick rfl pkOr) ?_
        refine ado rfl rfl rfl (emv (eV (v := (Bo (((decide (x6.At < 0)) || (decide (x6.At ≥ ((v3.length : Nat) : Int)))) || ((x6.B.length : Int) != 256)))) rfl)) ?_
        refine agu (v := (GV 0 v3.length)) ((((decide (x6.At < 0)) || (decide (x6.At ≥ ((v3.length : Nat) : Int)))) || ((x6.B.length : Int) != 256)) == false) rfl rfl rfl (fun hc => emv (eV (v := (GV 0 v3.length)) rfl)) ?_
        refine agu (v := (LP 1 0)) ((((decide (x6.At < 0)) || (decide (x6.At ≥ ((v3.length : Nat) : Int)))) || ((x6.B.length : Int) != 256)) == false) rfl rfl rfl (fun hc => efa (v := (LP 1 0)) Try.underlying44 rfl s_3 (by decide) rfl rfl) ?_
        refine agu (v := (I x6.At)) ((((decide (x6.At < 0)) || (decide (x6.At ≥ ((v3.length : Nat) : Int)))) || ((x6.B.length : Int) != 256)) == false) rfl rfl rfl (fun hc => tx_ldL1 (v := (I x6.At)) Try.underlying3 rfl (cdo hc) rfl rfl) ?_
        obtain ⟨x7, hx7, h⟩ := bindS h
        refine agu (v := (GP 0 (x6.At.toNat * 1) (List.flatMap cS v3).length)) ((((decide (x6.At < 0)) || (decide (x6.At ≥ ((v3.length : Nat) : Int)))) || ((x6.B.length : Int) != 256)) == false) rfl rfl rfl (fun hc => tx_idxG (c := cS) (xs := v3) (i := x6.At) ceS Try.underlying26 s_9 (cdo hc) (cdo hc) rfl rfl (gd_of hc hx7)) ?_
        refine agu (v := (S x7)) ((((decide (x6.At < 0)) || (decide (x6.At ≥ ((v3.length : Nat) : Int)))) || ((x6.B.length : Int) != 256)) == false) rfl rfl rfl (fun hc => tx_ldG (v := (S x7)) (s := 1) (cdo hc) rfl (part_elem (off := 0) (v := (S x7)) ceS (gd_of hc hx7) Try.underlying9 rfl (by decide) rfl)) ?_
        refine agu (v := (I (x7.length : Int))) ((((decide (x6.At < 0)) || (decide (x6.At ≥ ((v3.length : Nat) : Int)))) || ((x6.B.length : Int) != 256)) == false) rfl rfl rfl (fun hc => tx_lenS Try.underlying9 (cdo hc)) ?_
        refine agu (v := (Bo ((x7.length : Int) != 256))) ((((decide (x6.At < 0)) || (decide (x6.At ≥ ((v3.length : Nat) : Int)))) || ((x6.B.length : Int) != 256)) == false) rfl rfl rfl (fun hc => ex_bin (vx := (I (x7.length : Int))) (vy := (I 256)) (cdo hc) rfl neqI_ok) ?_
        refine ado rfl rfl rfl (ex_pick rfl pkOr) ?_
        refine ake [1, 2, 5, 6, 7, 49] 2 1 (st' := ⟨94, 0, [(1, (SL 1 cI t1)), (2, (LP 0 0)), (5, (GV 0 v3.length)), (6, (I v2)), (7, (LP 1 0)), (49, (Bo ((((decide (x6.At < 0)) || (decide (x6.At ≥ ((v3.length : Nat) : Int)))) || ((x6.B.length : Int) != 256)) || ((x7.length : Int) != 256))))], [(cDv t0), (cPu x6)], ⟨1, [(0, ⟨1, ((v3).flatMap cS), true⟩)]⟩⟩) (by kernel_rfl) (by kernel_rfl) ?_
        show AWp _ _ _ _
        rcases Bool.eq_false_or_eq_true ((((decide (x6.At < 0)) || (decide (x6.At ≥ ((v3.length : Nat) : Int)))) || ((x6.B.length : Int) != 256)) || ((x7.length : Int) != 256)) with hb8 | hb8
        · rw [condT hb8] at h
          refine awp_condT (boT hb8) ?_
          refine awp_keepE [1, 2, 5, 6] 1 1 (st' := ⟨94, 0, [(1, (SL 1 cI t1)), (2, (LP 0 0)), (5, (GV 0 v3.length)), (6, (I v2))], [(cDv t0)], ⟨1, [(0, ⟨1, ((v3).flatMap cS), true⟩)]⟩⟩) (by kernel_rfl) (by kernel_rfl) ?_
          refine awp_exit ?_
          exact (Exists.intro v3 (And.intro rfl h))
        · rw [condF hb8] at h
          refine awp_condF (boF hb8) ?_
          refine awp_skip ?_
          show AWp _ _ _ _
          refine aws ?_
          refine awr ?_
          refine ado rfl rfl rfl (eas (eV (v := (I 0)) rfl)) ?_
          refine ake [1, 2, 5, 6, 7, 8] 2 1 (st' := ⟨94, 0, [(1, (SL 1 cI t1)), (2, (LP 0 0)), (5, (GV 0 v3.length)), (6, (I v2)), (7, (LP 1 0)), (8, (I 0))], [(cDv t0), (cPu x6)], ⟨1, [(0, ⟨1, ((v3).flatMap cS), true⟩)]⟩⟩) (by kernel_rfl) (by kernel_rfl) ?_
          show AWp _ _ _ _
          refine awp_seqJ (fun s => ∃ (y9 : Int), s = ⟨94, 0, [(1, (SL 1 cI t1)), (2, (LP 0 0)), (5, (GV 0 v3.length)), (6, (I v2)), (7, (LP 1 0)), (8, (I y9))], [(cDv t0), (cPu x6)], ⟨1, [(0, ⟨1, ((v3).flatMap cS), true⟩)]⟩⟩ ∧ M_ref1_lasting_k2 (M_ref1_lasting_l1 t0 t1 n1) t0 t1 v2 v3 x6 y9 = some r) ?_ ?_
          · refine aws ?_
            refine awr ?_
            refine ado rfl rfl rfl (emv (eV (v := (I v2)) rfl)) ?_
            refine ado rfl rfl rfl (emv (eV (v := (SL 1 cI t1)) rfl)) ?_
            refine ado rfl rfl rfl (tx_lenD (xs := t1) ceI Try.underlying59 rfl) ?_
            refine ado rfl rfl rfl (ex_bin (vx := (I v2)) (vy := (I (t1.length : Int))) rfl rfl lssI_ok) ?_
            refine ake [1, 2, 5, 6, 7, 8, 53] 2 1 (st' := ⟨94, 0, [(1, (SL 1 cI t1)), (2, (LP 0 0)), (5, (GV 0 v3.length)), (6, (I v2)), (7, (LP 1 0)), (8, (I 0)), (53, (Bo (decide (v2 < (t1.length : Int)))))], [(cDv t0), (cPu x6)], ⟨1, [(0, ⟨1, ((v3).flatMap cS), true⟩)]⟩⟩) (by kernel_rfl) (by kernel_rfl) ?_
            show AWp _ _ _ _
            rcases Bool.eq_false_or_eq_true (decide (v2 < (t1.length : Int))) with hb10 | hb10
            · rw [condT hb10] at h
              refine awp_condT (boT hb10) ?_
              refine awr ?_
              refine ado rfl rfl rfl (emv (eV (v := (SL 1 cI t1)) rfl)) ?_
              refine ado rfl rfl rfl (emv (eV (v := (I v2)) rfl)) ?_
              obtain ⟨x11, hx11, h⟩ := bindS h
              refine ado rfl rfl rfl (tx_idxD (c := cI) (xs := t1) (i := v2) ceI Try.underlying59 s_3 rfl rfl hx11) ?_
              refine ado rfl rfl rfl (tx_ldD1 (v := (I x11)) Try.underlying3 rfl rfl rfl) ?_
              refine ado rfl rfl rfl (ex_bin (vx := (I x11)) (vy := (I 3)) rfl rfl andI_ok) ?_
              refine ado rfl rfl rfl (eas (eV (v := (I (andI x11 3))) rfl)) ?_
              refine ake [1, 2, 5, 6, 7, 8] 2 1 (st' := ⟨94, 0, [(1, (SL 1 cI t1)), (2, (LP 0 0)), (5, (GV 0 v3.length)), (6, (I v2)), (7, (LP 1 0)), (8, (I (andI x11 3)))], [(cDv t0), (cPu x6)], ⟨1, [(0, ⟨1, ((v3).flatMap cS), true⟩)]⟩⟩) (by kernel_rfl) (by kernel_rfl) ?_
              exact (Exists.intro (andI x11 3) (And.intro rfl h))
            · rw [condF hb10] at h
              refine awp_condF (boF hb10) ?_
              refine awp_keepE [1, 2, 5, 6, 7, 8] 2 1 (st' := ⟨94, 0, [(1, (SL 1 cI t1)), (2, (LP 0 0)), (5, (GV 0 v3.length)), (6, (I v2)), (7, (LP 1 0)), (8, (I 0))], [(cDv t0), (cPu x6)], ⟨1, [(0, ⟨1, ((v3).flatMap cS), true⟩)]⟩⟩) (by kernel_rfl) (by kernel_rfl) ?_
              refine awp_skip ?_
              exact (Exists.intro 0 (And.intro rfl h))
          · rintro s ⟨y9, rfl, h⟩
            unfold M_ref1_lasting_k2 at h
            refine awp_seqJ (fun s => ∃ (y12 : List Str), s = ⟨94, 0, [(1, (SL 1 cI t1)), (2, (LP 0 0)), (5, (GV 0 y12.length)), (6, (I v2)), (7, (LP 1 0)), (8, (I y9))], [(cDv t0), (cPu x6)], ⟨1, [(0, ⟨1, ((y12).flatMap cS), true⟩)]⟩⟩ ∧ M_ref1_lasting_k3 (M_ref1_lasting_l1 t0 t1 n1) t0 t1 v2 x6 y9 y12 = some r) ?_ ?_
            · refine aws ?_
              refine awr ?_
              refine ado rfl rfl rfl (emv (eV (v := (I y9)) rfl)) ?_
              refine ado rfl rfl rfl (ex_bin (vx := (I y9)) (vy := (I 1)) rfl rfl andI_ok) ?_
              refine ado rfl rfl rfl (ex_bin (vx := (I (andI y9 1))) (vy := (I 1)) rfl rfl eqlI_ok) ?_
              refine ake [1, 2, 5, 6, 7, 8, 61] 2 1 (st' := ⟨94, 0, [(1, (SL 1 cI t1)), (2, (LP 0 0)), (5, (GV 0 v3.length)), (6, (I v2)), (7, (LP 1 0)), (8, (I y9)), (61, (Bo ((andI y9 1) == 1)))], [(cDv t0), (cPu x6)], ⟨1, [(0, ⟨1, ((v3).flatMap cS), true⟩)]⟩⟩) (by kernel_rfl) (by kernel_rfl) ?_
              show AWp _ _ _ _
              rcases Bool.eq_false_or_eq_true ((andI y9 1) == 1) with hb13 | hb13
              · rw [condT hb13] at h
                refine awp_condT (boT hb13) ?_
                obtain ⟨x14, hx14, h⟩ := bindS h
                obtain ⟨x15, hx15, h⟩ := bindS h
                obtain ⟨x16, hx16, h⟩ := bindS h
                obtain ⟨x17, hx17, h⟩ := bindS h
                obtain ⟨x18, hx18, h⟩ := bindS h
                obtain ⟨x19, hx19, h⟩ := bindS h
                refine awp_knR [1, 2, 5, 6, 7, 8] 2 1 [(1, (SL 1 cI t1)), (2, (LP 0 0)), (5, (GV 0 x19.length)), (6, (I v2)), (7, (LP 1 0)), (8, (I y9))] (st' := ⟨94, 0, [(1, (SL 1 cI t1)), (2, (LP 0 0)), (5, (GV 0 v3.length)), (6, (I v2)), (7, (LP 1 0)), (8, (I y9))], [(cDv t0), (cPu x6)], ⟨1, [(0, ⟨1, ((x19).flatMap cS), true⟩)]⟩⟩) (awp_draw (T := [(GV 0 v3.length), (LP 1 0), (I x6.At), (LP 1 1), (S x6.B), (S x14), (GV 0 v3.length), (LP 1 0), (I x6.At), (GP 0 (x6.At.toNat * 1) (List.flatMap cS v3).length), (S x15), (S x16), (S x17), (GP 0 (x6.At.toNat * 1) (List.flatMap cS v3).length), undef]) (LH := [([(cDv t0), (cPu x6)], ⟨1, [(0, ⟨1, ((v3).flatMap cS), true⟩)]⟩), ([(cDv t0), (cPu x6)], ⟨1, [(0, ⟨1, ((x19).flatMap cS), true⟩)]⟩)]) (D := [⟨[(5, none)], [], [0], false⟩, ⟨[(7, none)], [], [0], false⟩, ⟨[(63, some 1)], [1], [0], false⟩, ⟨[(7, none)], [], [0], false⟩, ⟨[(65, some 3)], [3], [0], false⟩, ⟨[(66, some 4)], [3, 4], [0], false⟩, ⟨[(5, none)], [], [0], false⟩, ⟨[(7, none)], [], [0], false⟩, ⟨[(69, some 7)], [7], [0], false⟩, ⟨[(68, some 6), (70, some 8)], [6, 7, 8], [0], false⟩, ⟨[(71, some 9)], [6, 7, 8, 9], [0], false⟩, ⟨[(72, some 10)], [6, 7, 8, 9, 10], [0], false⟩, ⟨[(67, some 5), (73, some 11)], [3, 4, 5, 6, 7, 8, 9, 10, 11], [0], false⟩, ⟨[(62, some 0), (64, some 2)], [0, 1, 2, 3, 4, 5, 6, 7, 8, 9, 10, 11, 12], [0], false⟩, ⟨[(75, some 13), (74, some 12)], [0, 1, 2, 3, 4, 5, 6, 7, 8, 9, 10, 11, 12, 13], [0], true⟩]) (S := [14]) (plan := [0, 1, 2, 3, 4, 5, 6, 7, 8, 9, 10, 11, 12, 13, 14]) mo (by kernel_rfl) rfl rfl rfl (dcons (dst1 (Tm := [(5, (GV 0 v3.length))]) (L := [(cDv t0), (cPu x6)]) (H := ⟨1, [(0, ⟨1, ((v3).flatMap cS), true⟩)]⟩) rfl rfl rfl rfl rfl (asd rfl (emv (eV (v := (GV 0 v3.length)) rfl)))) (dcons (dst1 (Tm := [(7, (LP 1 0))]) (L := [(cDv t0), (cPu x6)]) (H := ⟨1, [(0, ⟨1, ((v3).flatMap cS), true⟩)]⟩) rfl rfl rfl rfl rfl (asd rfl (efa (v := (LP 1 0)) Try.underlying44 rfl s_3 (by decide) rfl rfl))) (dcons (dst1 (Tm := [(63, (LP 1 0))]) (L := [(cDv t0), (cPu x6)]) (H := ⟨1, [(0, ⟨1, ((v3).flatMap cS), true⟩)]⟩) rfl rfl rfl rfl rfl (asd rfl (tx_ldL1 (v := (I x6.At)) Try.underlying3 rfl rfl rfl rfl))) (dcons (dst1 (Tm := [(7, (LP 1 0))]) (L := [(cDv t0), (cPu x6)]) (H := ⟨1, [(0, ⟨1, ((v3).flatMap cS), true⟩)]⟩) rfl rfl rfl rfl rfl (asd rfl (efa (v := (LP 1 1)) Try.underlying44 rfl s_9 (by decide) rfl rfl))) (dcons (dst1 (Tm := [(65, (LP 1 1))]) (L := [(cDv t0), (cPu x6)]) (H := ⟨1, [(0, ⟨1, ((v3).flatMap cS), true⟩)]⟩) rfl rfl rfl rfl rfl (asd rfl (tx_ldL1 (v := (S x6.B)) Try.underlying9 rfl rfl rfl rfl))) (dcons (dst1 (Tm := [(66, (S x6.B))]) (L := [(cDv t0), (cPu x6)]) (H := ⟨1, [(0, ⟨1, ((v3).flatMap cS), true⟩)]⟩) rfl rfl rfl rfl rfl (asd rfl (tx_slS (u := x6.B) Try.underlying9 rfl lo0 (hiX (l := 128) rfl) hx14))) (dcons (dst1 (Tm := [(5, (GV 0 v3.length))]) (L := [(cDv t0), (cPu x6)]) (H := ⟨1, [(0, ⟨1, ((v3).flatMap cS), true⟩)]⟩) rfl rfl rfl rfl rfl (asd rfl (emv (eV (v := (GV 0 v3.length)) rfl)))) (dcons (dst1 (Tm := [(7, (LP 1 0))]) (L := [(cDv t0), (cPu x6)]) (H := ⟨1, [(0, ⟨1, ((v3).flatMap cS), true⟩)]⟩) rfl rfl rfl rfl rfl (asd rfl (efa (v := (LP 1 0)) Try.underlying44 rfl s_3 (by decide) rfl rfl))) (dcons (dst1 (Tm := [(69, (LP 1 0))]) (L := [(cDv t0), (cPu x6)]) (H := ⟨1, [(0, ⟨1, ((v3).flatMap cS), true⟩)]⟩) rfl rfl rfl rfl rfl (asd rfl (tx_ldL1 (v := (I x6.At)) Try.underlying3 rfl rfl rfl rfl))) (dcons (dst1 (Tm := [(68, (GV 0 v3.length)), (70, (I x6.At))]) (L := [(cDv t0), (cPu x6)]) (H := ⟨1, [(0, ⟨1, ((v3).flatMap cS), true⟩)]⟩) rfl rfl rfl rfl rfl (asd rfl (tx_idxG (c := cS) (xs := v3) (i := x6.At) ceS Try.underlying26 s_9 rfl rfl rfl rfl hx15))) (dcons (dst1 (Tm := [(71, (GP 0 (x6.At.toNat * 1) (List.flatMap cS v3).length))]) (L := [(cDv t0), (cPu x6)]) (H := ⟨1, [(0, ⟨1, ((v3).flatMap cS), true⟩)]⟩) rfl rfl rfl rfl rfl (asd rfl (tx_ldG (v := (S x15)) (s := 1) rfl rfl (part_elem (off := 0) (v := (S x15)) ceS hx15 Try.underlying9 rfl (by decide) rfl)))) (dcons (dst1 (Tm := [(72, (S x15))]) (L := [(cDv t0), (cPu x6)]) (H := ⟨1, [(0, ⟨1, ((v3).flatMap cS), true⟩)]⟩) rfl rfl rfl rfl rfl (asd rfl (tx_slS (u := x15) Try.underlying9 rfl (loX (l := 128) rfl) hiN hx16))) (dcons (dst1 (Tm := [(67, (S x14)), (73, (S x16))]) (L := [(cDv t0), (cPu x6)]) (H := ⟨1, [(0, ⟨1, ((v3).flatMap cS), true⟩)]⟩) rfl rfl rfl rfl rfl (asd rfl (ex_bin (vx := (S x14)) (vy := (S x16)) rfl rfl (addS_ok hx17)))) (dcons (dst1 (Tm := [(62, (GV 0 v3.length)), (64, (I x6.At))]) (L := [(cDv t0), (cPu x6)]) (H := ⟨1, [(0, ⟨1, ((v3).flatMap cS), true⟩)]⟩) rfl rfl rfl rfl rfl (asd rfl (tx_idxG (c := cS) (xs := v3) (i := x6.At) ceS Try.underlying26 s_9 rfl rfl rfl rfl hx18))) (dcons (dst1 (Tm := [(75, (GP 0 (x6.At.toNat * 1) (List.flatMap cS v3).length)), (74, (S x17))]) (L := [(cDv t0), (cPu x6)]) (H := ⟨1, [(0, ⟨1, ((v3).flatMap cS), true⟩)]⟩) rfl rfl rfl rfl rfl (asd rfl (tx_stG (c := cS) (xs := v3) (e := x17) (H' := ⟨1, [(0, ⟨1, ((x19).flatMap cS), true⟩)]⟩) ceS s_9 rfl (eV (v := (S x17)) rfl) rfl rfl hx19 rfl))) dnil))))))))))))))) ⟨rfl, rfl⟩) (by kernel_rfl) (by kernel_rfl) (ReT.keep (v := (SL 1 cI t1)) rfl (ReT.keep (v := (LP 0 0)) rfl (ReT.gv rfl (setI_len hx19) (ReT.keep (v := (I v2)) rfl (ReT.keep (v := (LP 1 0)) rfl (ReT.keep (v := (I y9)) rfl ReT.nil)))))) ?_
                exact (Exists.intro x19 (And.intro rfl h))
              · rw [condF hb13] at h
                refine awp_condF (boF hb13) ?_
                refine awp_keepE [1, 2, 5, 6, 7, 8] 2 1 (st' := ⟨94, 0, [(1, (SL 1 cI t1)), (2, (LP 0 0)), (5, (GV 0 v3.length)), (6, (I v2)), (7, (LP 1 0)), (8, (I y9))], [(cDv t0), (cPu x6)], ⟨1, [(0, ⟨1, ((v3).flatMap cS), true⟩)]⟩⟩) (by kernel_rfl) (by kernel_rfl) ?_
                refine awp_skip ?_
                exact (Exists.intro v3 (And.intro rfl h))
            · rintro s ⟨y12, rfl, h⟩
              unfold M_ref1_lasting_k3 at h
              refine aws ?_
              refine awr ?_
              refine ado rfl rfl rfl (emv (eV (v := (I y9)) rfl)) ?_
              refine ado rfl rfl rfl (ex_bin (vx := (I y9)) (vy := (I 2)) rfl rfl andI_ok) ?_
              refine ado rfl rfl rfl (ex_bin (vx := (I (andI y9 2))) (vy := (I 2)) rfl rfl eqlI_ok) ?_
              refine ake [1, 2, 5, 6, 7, 78] 2 1 (st' := ⟨94, 0, [(1, (SL 1 cI t1)), (2, (LP 0 0)), (5, (GV 0 y12.length)), (6, (I v2)), (7, (LP 1 0)), (78, (Bo ((andI y9 2) == 2)))], [(cDv t0), (cPu x6)], ⟨1, [(0, ⟨1, ((y12).flatMap cS), true⟩)]⟩⟩) (by kernel_rfl) (by kernel_rfl) ?_
              show AWp _ _ _ _
              rcases Bool.eq_false_or_eq_true ((andI y9 2) == 2) with hb20 | hb20
              · rw [condT hb20] at h
                refine awp_condT (boT hb20) ?_
                obtain ⟨x21, hx21, h⟩ := bindS h
                obtain ⟨x22, hx22, h⟩ := bindS h
                obtain ⟨x23, hx23, h⟩ := bindS h
                obtain ⟨x24, hx24, h⟩ := bindS h
                obtain ⟨x25, hx25, h⟩ := bindS h
                obtain ⟨x26, hx26, h⟩ := bindS h
                refine awp_knR [1, 2, 5, 6] 1 1 [(1, (SL 1 cI t1)), (2, (LP 0 0)), (5, (GV 0 x26.length)), (6, (I v2))] (st' := ⟨94, 0, [(1, (SL 1 cI t1)), (2, (LP 0 0)), (5, (GV 0 y12.length)), (6, (I v2))], [(cDv t0)], ⟨1, [(0, ⟨1, ((x26).flatMap cS), true⟩)]⟩⟩) (awp_draw (T := [(GV 0 y12.length), (LP 1 0), (I x6.At), (GV 0 y12.length), (LP 1 0), (I x6.At), (GP 0 (x6.At.toNat * 1) (List.flatMap cS y12).length), (S x21), (S x22), (LP 1 1), (S x6.B), (S x23), (S x24), (GP 0 (x6.At.toNat * 1) (List.flatMap cS y12).length), undef]) (LH := [([(cDv t0), (cPu x6)], ⟨1, [(0, ⟨1, ((y12).flatMap cS), true⟩)]⟩), ([(cDv t0), (cPu x6)], ⟨1, [(0, ⟨1, ((x26).flatMap cS), true⟩)]⟩)]) (D := [⟨[(5, none)], [], [0], false⟩, ⟨[(7, none)], [], [0], false⟩, ⟨[(80, some 1)], [1], [0], false⟩, ⟨[(5, none)], [], [0], false⟩, ⟨[(7, none)], [], [0], false⟩, ⟨[(83, some 4)], [4], [0], false⟩, ⟨[(82, some 3), (84, some 5)], [3, 4, 5], [0], false⟩, ⟨[(85, some 6)], [3, 4, 5, 6], [0], false⟩, ⟨[(86, some 7)], [3, 4, 5, 6, 7], [0], false⟩, ⟨[(7, none)], [], [0], false⟩, ⟨[(88, some 9)], [9], [0], false⟩, ⟨[(89, some 10)], [9, 10], [0], false⟩, ⟨[(87, some 8), (90, some 11)], [3, 4, 5, 6, 7, 8, 9, 10, 11], [0], false⟩, ⟨[(79, some 0), (81, some 2)], [0, 1, 2, 3, 4, 5, 6, 7, 8, 9, 10, 11, 12], [0], false⟩, ⟨[(92, some 13), (91, some 12)], [0, 1, 2, 3, 4, 5, 6, 7, 8, 9, 10, 11, 12, 13], [0], true⟩]) (S := [14]) (plan := [0, 1, 2, 3, 4, 5, 6, 7, 8, 9, 10, 11, 12, 13, 14]) mo (by kernel_rfl) rfl rfl rfl (dcons (dst1 (Tm := [(5, (GV 0 y12.length))]) (L := [(cDv t0), (cPu x6)]) (H := ⟨1, [(0, ⟨1, ((y12).flatMap cS), true⟩)]⟩) rfl rfl rfl rfl rfl (asd rfl (emv (eV (v := (GV 0 y12.length)) rfl)))) (dcons (dst1 (Tm := [(7, (LP 1 0))]) (L := [(cDv t0), (cPu x6)]) (H := ⟨1, [(0, ⟨1, ((y12).flatMap cS), true⟩)]⟩) rfl rfl rfl rfl rfl (asd rfl (efa (v := (LP 1 0)) Try.underlying44 rfl s_3 (by decide) rfl rfl))) (dcons (dst1 (Tm := [(80, (LP 1 0))]) (L := [(cDv t0), (cPu x6)]) (H := ⟨1, [(0, ⟨1, ((y12).flatMap cS), true⟩)]⟩) rfl rfl rfl rfl rfl (asd rfl (tx_ldL1 (v := (I x6.At)) Try.underlying3 rfl rfl rfl rfl))) (dcons (dst1 (Tm := [(5, (GV 0 y12.length))]) (L := [(cDv t0), (cPu x6)]) (H := ⟨1, [(0, ⟨1, ((y12).flatMap cS), true⟩)]⟩) rfl rfl rfl rfl rfl (asd rfl (emv (eV (v := (GV 0 y12.length)) rfl)))) (dcons (dst1 (Tm := [(7, (LP 1 0))]) (L := [(cDv t0), (cPu x6)]) (H := ⟨1, [(0, ⟨1, ((y12).flatMap cS), true⟩)]⟩) rfl rfl rfl rfl rfl (asd rfl (efa (v := (LP 1 0)) Try.underlying44 rfl s_3 (by decide) rfl rfl))) (dcons (dst1 (Tm := [(83, (LP 1 0))]) (L := [(cDv t0), (cPu x6)]) (H := ⟨1, [(0, ⟨1, ((y12).flatMap cS), true⟩)]⟩) rfl rfl rfl rfl rfl (asd rfl (tx_ldL1 (v := (I x6.At)) Try.underlying3 rfl rfl rfl rfl))) (dcons (dst1 (Tm := [(82, (GV 0 y12.length)), (84, (I x6.At))]) (L := [(cDv t0), (cPu x6)]) (H := ⟨1, [(0, ⟨1, ((y12).flatMap cS), true⟩)]⟩) rfl rfl rfl rfl rfl (asd rfl (tx_idxG (c := cS) (xs := y12) (i := x6.At) ceS Try.underlying26 s_9 rfl rfl rfl rfl hx21))) (dcons (dst1 (Tm := [(85, (GP 0 (x6.At.toNat * 1) (List.flatMap cS y12).length))]) (L := [(cDv t0), (cPu x6)]) (H := ⟨1, [(0, ⟨1, ((y12).flatMap cS), true⟩)]⟩) rfl rfl rfl rfl rfl (asd rfl (tx_ldG (v := (S x21)) (s := 1) rfl rfl (part_elem (off := 0) (v := (S x21)) ceS hx21 Try.underlying9 rfl (by decide) rfl)))) (dcons (dst1 (Tm := [(86, (S x21))]) (L := [(cDv t0), (cPu x6)]) (H := ⟨1, [(0, ⟨1, ((y12).flatMap cS), true⟩)]⟩) rfl rfl rfl rfl rfl (asd rfl (tx_slS (u := x21) Try.underlying9 rfl lo0 (hiX (l := 128) rfl) hx22))) (dcons (dst1 (Tm := [(7, (LP 1 0))]) (L := [(cDv t0), (cPu x6)]) (H := ⟨1, [(0, ⟨1, ((y12).flatMap cS), true⟩)]⟩) rfl rfl rfl rfl rfl (asd rfl (efa (v := (LP 1 1)) Try.underlying44 rfl s_9 (by decide) rfl rfl))) (dcons (dst1 (Tm := [(88, (LP 1 1))]) (L := [(cDv t0), (cPu x6)]) (H := ⟨1, [(0, ⟨1, ((y12).flatMap cS), true⟩)]⟩) rfl rfl rfl rfl rfl (asd rfl (tx_ldL1 (v := (S x6.B)) Try.underlying9 rfl rfl rfl rfl))) (dcons (dst1 (Tm := [(89, (S x6.B))]) (L := [(cDv t0), (cPu x6)]) (H := ⟨1, [(0, ⟨1, ((y12).flatMap cS), true⟩)]⟩) rfl rfl rfl rfl rfl (asd rfl (tx_slS (u := x6.B) Try.underlying9 rfl (loX (l := 128) rfl) hiN hx23))) (dcons (dst1 (Tm := [(87, (S x22)), (90, (S x23))]) (L := [(cDv t0), (cPu x6)]) (H := ⟨1, [(0, ⟨1, ((y12).flatMap cS), true⟩)]⟩) rfl rfl rfl rfl rfl (asd rfl (ex_bin (vx := (S x22)) (vy := (S x23)) rfl rfl (addS_ok hx24)))) (dcons (dst1 (Tm := [(79, (GV 0 y12.length)), (81, (I x6.At))]) (L := [(cDv t0), (cPu x6)]) (H := ⟨1, [(0, ⟨1, ((y12).flatMap cS), true⟩)]⟩) rfl rfl rfl rfl rfl (asd rfl (tx_idxG (c := cS) (xs := y12) (i := x6.At) ceS Try.underlying26 s_9 rfl rfl rfl rfl hx25))) (dcons (dst1 (Tm := [(92, (GP 0 (x6.At.toNat * 1) (List.flatMap cS y12).length)), (91, (S x24))]) (L := [(cDv t0), (cPu x6)]) (H := ⟨1, [(0, ⟨1, ((y12).flatMap cS), true⟩)]⟩) rfl rfl rfl rfl rfl (asd rfl (tx_stG (c := cS) (xs := y12) (e := x24) (H' := ⟨1, [(0, ⟨1, ((x26).flatMap cS), true⟩)]⟩) ceS s_9 rfl (eV (v := (S x24)) rfl) rfl rfl hx26 rfl))) dnil))))))))))))))) ⟨rfl, rfl⟩) (by kernel_rfl) (by kernel_rfl) (ReT.keep (v := (SL 1 cI t1)) rfl (ReT.keep (v := (LP 0 0)) rfl (ReT.gv rfl (setI_len hx26) (ReT.keep (v := (I v2)) rfl ReT.nil)))) ?_
                exact (Exists.intro x26 (And.intro rfl h))
              · rw [condF hb20] at h
                refine awp_condF (boF hb20) ?_
                refine awp_keepE [1, 2, 5, 6] 1 1 (st' := ⟨94, 0, [(1, (SL 1 cI t1)), (2, (LP 0 0)), (5, (GV 0 y12.length)), (6, (I v2))], [(cDv t0)], ⟨1, [(0, ⟨1, ((y12).flatMap cS), true⟩)]⟩⟩) (by kernel_rfl) (by kernel_rfl) ?_
                refine awp_skip ?_
                exact (Exists.intro y12 (And.intro rfl h))
      · rintro s ⟨y5, rfl, h⟩
        unfold M_ref1_lasting_k1 at h
        refine awr ?_
        refine ado rfl rfl rfl (emv (eV (v := (I v2)) rfl)) ?_
        refine ado rfl rfl rfl (ex_bin (vx := (I v2)) (vy := (I 1)) rfl rfl addI_ok) ?_
        refine ado rfl rfl rfl (eas (eV (v := (I (w64 (v2 + 1)))) rfl)) ?_
        refine ake [1, 2, 5, 6] 1 1 (st' := ⟨94, 0, [(1, (SL 1 cI t1)), (2, (LP 0 0)), (5, (GV 0 y5.length)), (6, (I (w64 (v2 + 1))))], [(cDv t0)], ⟨1, [(0, ⟨1, ((y5).flatMap cS), true⟩)]⟩⟩) (by kernel_rfl) (by kernel_rfl) ?_
        exact Exists.intro n1 (And.intro (Nat.lt_succ_self _) (Exists.intro (w64 (v2 + 1)) (Exists.intro y5 (And.intro rfl h))))
    · rw [condF hb4] at h
      refine awp_condF (boF hb4) ?_
      refine awp_exit ?_
      show AWp _ _ _ _
      refine aws ?_
      refine awr ?_
      refine ado rfl rfl rfl (emv (eV (v := (GV 0 v3.length)) rfl)) ?_
      refine ado rfl rfl rfl (eas (eV (v := (GV 0 v3.length)) rfl)) ?_
      refine ake [4] 0 1 (st' := ⟨94, 0, [(4, (GV 0 v3.length))], [], ⟨1, [(0, ⟨1, ((v3).flatMap cS), true⟩)]⟩⟩) (by kernel_rfl) (by kernel_rfl) ?_
      show AWp _ _ _ _
      refine awp_freeze 0 (bk := ⟨1, ((v3).flatMap cS), true⟩) (T' := [(4, (SL 1 cS v3))]) (L' := []) rfl (fzG ceS rfl rfl FzT.nil) (FzL.refl _) ?_
      show AWp _ _ _ ⟨94, 0, [(4, (SL 1 cS v3))], [], ⟨1, []⟩⟩
      refine awp_ret ?_
      cases h
      exact ares1 (rtmp rfl (eV rfl))

end Go.Proofs
