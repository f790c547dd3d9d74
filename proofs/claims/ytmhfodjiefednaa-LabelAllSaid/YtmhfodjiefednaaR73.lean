/- Pure models of functions of the program, and that its code does what they say: uber root bytes, uber Put, label Phase. Written by a program. -/
import Derived.Test.YtmhfodjiefednaaR70
import Derived.Test.YtmhfodjiefednaaR71
import Derived.Test.YtmhfodjiefednaaR72
import Derived.Test.YtmhfodjiefednaaR7B
set_option maxRecDepth 20000
set_option maxHeartbeats 4000000
namespace Go.Proofs
open Go Go.Fhl
set_option linter.unusedVariables false
set_option linter.unusedSimpArgs false
noncomputable def M_uber_root_bytes (t0 : G_uber_root) : Option Str :=
  Option.bind (M_uber_root_may t0) fun (x1 : Bool) => cond (!x1) (some []) (Option.bind (M_pack_Put ([49, 52, 52, 49] : Str) ([171, t0.Uber.Txg, t0.Uber.Guid, t0.Uber.Seat] : List Int)) fun (x3 : Str) => Option.bind (M_ptr_Put ([t0.Uber.Root] : List GPt)) fun (x4 : Str) => Option.bind (addS x3 x4) fun (x5 : Str) => Option.bind (M_uber_sealed x5) fun (x6 : Str) => some x6)
theorem ok_uber_root_bytes (t0 : G_uber_root) (r : Str) (h : M_uber_root_bytes t0 = some r) : FFn Try.prog 52 [(Value.agg (c_uber_root t0).toArray)] (S r) := by
  refine FFn.of_body (n := 24) Try.func52 rfl Try.ntmps52 rfl rfl rfl rfl ?_
  show AWp _ _ _ ⟨24, 0, [(0, (Value.agg (c_uber_root t0).toArray))], [], ⟨0, []⟩⟩
  unfold M_uber_root_bytes at h
  refine aws ?_
  refine awr ?_
  refine ado rfl rfl rfl (ex_box (vx := (Value.agg (c_uber_root t0).toArray)) (cs := (c_uber_root t0)) (k := 0) (L' := [(c_uber_root t0)]) (eV (v := (Value.agg (c_uber_root t0).toArray)) rfl) rfl rfl rfl) ?_
  refine ado rfl rfl rfl (eas (eV (v := (S [])) rfl)) ?_
  refine ake [1] 1 0 (st' := ⟨24, 0, [(1, (LP 0 0))], [(c_uber_root t0)], ⟨0, []⟩⟩) (by kernel_rfl) (by kernel_rfl) ?_
  show AWp _ _ _ _
  refine aws ?_
  refine aws ?_
  refine awr ?_
  refine ado rfl rfl rfl (tx_ldLA (vs := (c_uber_root t0)) Try.underlying83 rfl s_83 (by decide) rfl rfl rfl rfl) ?_
  obtain ⟨x1, hx1, h⟩ := bindS h
  refine ado rfl rfl rfl (ex_call0 (vs := [(Value.agg (c_uber_root t0).toArray)]) (v := (Bo x1)) rfl en_51 (cargs (evs rfl evs_nil)) rfl (ok_uber_root_may t0 x1 hx1) rfl) ?_
  refine ado rfl rfl rfl (ex_un (vx := (Bo x1)) rfl notB_ok) ?_
  refine ake [1, 5] 1 0 (st' := ⟨24, 0, [(1, (LP 0 0)), (5, (Bo (!x1)))], [(c_uber_root t0)], ⟨0, []⟩⟩) (by kernel_rfl) (by kernel_rfl) ?_
  show AWp _ _ _ _
  rcases Bool.eq_false_or_eq_true (!x1) with hb2 | hb2
  · rw [condT hb2] at h
    refine awp_condT (boT hb2) ?_
    refine aws ?_
    refine awr ?_
    refine ado rfl rfl rfl (eas (eV (v := (S [])) rfl)) ?_
    refine ake [2] 0 0 (st' := ⟨24, 0, [(2, (S []))], [], ⟨0, []⟩⟩) (by kernel_rfl) (by kernel_rfl) ?_
    show AWp _ _ _ _
    refine awp_ret ?_
    cases h
    exact ares1 (rtmp rfl (eV rfl))
  · rw [condF hb2] at h
    refine awp_condF (boF hb2) ?_
    refine awp_skip ?_
    show AWp _ _ _ _
    refine aws ?_
    obtain ⟨x3, hx3, h⟩ := bindS h
    obtain ⟨x4, hx4, h⟩ := bindS h
    obtain ⟨x5, hx5, h⟩ := bindS h
    obtain ⟨x6, hx6, h⟩ := bindS h
    refine awp_kn [2] 0 0 (st' := ⟨24, 0, [(2, (S x6))], [], ⟨0, []⟩⟩) (awp_draw (T := [(LP 0 0), (LP 0 0), (I t0.Uber.Txg), (LP 0 0), (LP 0 1), (I t0.Uber.Guid), (LP 0 0), (LP 0 2), (I t0.Uber.Seat), (SL 1 cI ([171, t0.Uber.Txg, t0.Uber.Guid, t0.Uber.Seat] : List Int)), (S x3), (LP 0 0), (LP 0 3), (Value.agg (cPt t0.Uber.Root).toArray), (SL 6 cPt ([t0.Uber.Root] : List GPt)), (S x4), (S x5), (S x6), (S x6)]) (LH := [([(c_uber_root t0)], ⟨0, []⟩)]) (D := [⟨[(1, none)], [], [0], false⟩, ⟨[(6, some 0)], [0], [0], false⟩, ⟨[(7, some 1)], [0, 1], [0], false⟩, ⟨[(1, none)], [], [0], false⟩, ⟨[(9, some 3)], [3], [0], false⟩, ⟨[(10, some 4)], [3, 4], [0], false⟩, ⟨[(1, none)], [], [0], false⟩, ⟨[(12, some 6)], [6], [0], false⟩, ⟨[(13, some 7)], [6, 7], [0], false⟩, ⟨[(8, some 2), (11, some 5), (14, some 8)], [0, 1, 2, 3, 4, 5, 6, 7, 8], [0], false⟩, ⟨[(15, some 9)], [0, 1, 2, 3, 4, 5, 6, 7, 8, 9], [0], false⟩, ⟨[(1, none)], [], [0], false⟩, ⟨[(17, some 11)], [11], [0], false⟩, ⟨[(18, some 12)], [11, 12], [0], false⟩, ⟨[(19, some 13)], [11, 12, 13], [0], false⟩, ⟨[(20, some 14)], [0, 1, 2, 3, 4, 5, 6, 7, 8, 9, 10, 11, 12, 13, 14], [0], false⟩, ⟨[(16, some 10), (21, some 15)], [0, 1, 2, 3, 4, 5, 6, 7, 8, 9, 10, 11, 12, 13, 14, 15], [0], false⟩, ⟨[(22, some 16)], [0, 1, 2, 3, 4, 5, 6, 7, 8, 9, 10, 11, 12, 13, 14, 15, 16], [0], false⟩, ⟨[(23, some 17)], [0, 1, 2, 3, 4, 5, 6, 7, 8, 9, 10, 11, 12, 13, 14, 15, 16, 17], [0], false⟩]) (S := []) (plan := [0, 1, 2, 3, 4, 5, 6, 7, 8, 9, 10, 11, 12, 13, 14, 15, 16, 17, 18]) mo (by kernel_rfl) rfl rfl rfl (dcons (dst1 (Tm := [(1, (LP 0 0))]) (L := [(c_uber_root t0)]) (H := ⟨0, []⟩) rfl rfl rfl rfl rfl (asd rfl (efa (v := (LP 0 0)) Try.underlying83 rfl s_37 (by decide) rfl rfl))) (dcons (dst1 (Tm := [(6, (LP 0 0))]) (L := [(c_uber_root t0)]) (H := ⟨0, []⟩) rfl rfl rfl rfl rfl (asd rfl (efa (v := (LP 0 0)) Try.underlying37 rfl s_3 (by decide) rfl rfl))) (dcons (dst1 (Tm := [(7, (LP 0 0))]) (L := [(c_uber_root t0)]) (H := ⟨0, []⟩) rfl rfl rfl rfl rfl (asd rfl (tx_ldL1 (v := (I t0.Uber.Txg)) Try.underlying3 rfl rfl rfl rfl))) (dcons (dst1 (Tm := [(1, (LP 0 0))]) (L := [(c_uber_root t0)]) (H := ⟨0, []⟩) rfl rfl rfl rfl rfl (asd rfl (efa (v := (LP 0 0)) Try.underlying83 rfl s_37 (by decide) rfl rfl))) (dcons (dst1 (Tm := [(9, (LP 0 0))]) (L := [(c_uber_root t0)]) (H := ⟨0, []⟩) rfl rfl rfl rfl rfl (asd rfl (efa (v := (LP 0 1)) Try.underlying37 rfl s_3 (by decide) rfl rfl))) (dcons (dst1 (Tm := [(10, (LP 0 1))]) (L := [(c_uber_root t0)]) (H := ⟨0, []⟩) rfl rfl rfl rfl rfl (asd rfl (tx_ldL1 (v := (I t0.Uber.Guid)) Try.underlying3 rfl rfl rfl rfl))) (dcons (dst1 (Tm := [(1, (LP 0 0))]) (L := [(c_uber_root t0)]) (H := ⟨0, []⟩) rfl rfl rfl rfl rfl (asd rfl (efa (v := (LP 0 0)) Try.underlying83 rfl s_37 (by decide) rfl rfl))) (dcons (dst1 (Tm := [(12, (LP 0 0))]) (L := [(c_uber_root t0)]) (H := ⟨0, []⟩) rfl rfl rfl rfl rfl (asd rfl (efa (v := (LP 0 2)) Try.underlying37 rfl s_3 (by decide) rfl rfl))) (dcons (dst1 (Tm := [(13, (LP 0 2))]) (L := [(c_uber_root t0)]) (H := ⟨0, []⟩) rfl rfl rfl rfl rfl (asd rfl (tx_ldL1 (v := (I t0.Uber.Seat)) Try.underlying3 rfl rfl rfl rfl))) (dcons (dst1 (Tm := [(8, (I t0.Uber.Txg)), (11, (I t0.Uber.Guid)), (14, (I t0.Uber.Seat))]) (L := [(c_uber_root t0)]) (H := ⟨0, []⟩) rfl rfl rfl rfl rfl (asd rfl (ex_buildSliceD (qs := [(0, (I 171)), (1, (I t0.Uber.Txg)), (2, (I t0.Uber.Guid)), (3, (I t0.Uber.Seat))]) (cells := (([171, t0.Uber.Txg, t0.Uber.Guid, t0.Uber.Seat] : List Int).flatMap cI)) Try.underlying59 s_3 (by decide) (evp rfl (evp rfl (evp rfl (evp rfl evp_nil)))) rfl (by kernel_rfl) (by kernel_rfl) (by kernel_rfl)))) (dcons (dst1 (Tm := [(15, (SL 1 cI ([171, t0.Uber.Txg, t0.Uber.Guid, t0.Uber.Seat] : List Int)))]) (L := [(c_uber_root t0)]) (H := ⟨0, []⟩) rfl rfl rfl rfl rfl (asd rfl (ex_call0 (vs := [(S ([49, 52, 52, 49] : Str)), (SL 1 cI ([171, t0.Uber.Txg, t0.Uber.Guid, t0.Uber.Seat] : List Int))]) (v := (S x3)) rfl en_67 (cargs (evs rfl (evs rfl evs_nil))) rfl (ok_pack_Put ([49, 52, 52, 49] : Str) ([171, t0.Uber.Txg, t0.Uber.Guid, t0.Uber.Seat] : List Int) x3 hx3) rfl))) (dcons (dst1 (Tm := [(1, (LP 0 0))]) (L := [(c_uber_root t0)]) (H := ⟨0, []⟩) rfl rfl rfl rfl rfl (asd rfl (efa (v := (LP 0 0)) Try.underlying83 rfl s_37 (by decide) rfl rfl))) (dcons (dst1 (Tm := [(17, (LP 0 0))]) (L := [(c_uber_root t0)]) (H := ⟨0, []⟩) rfl rfl rfl rfl rfl (asd rfl (efa (v := (LP 0 3)) Try.underlying37 rfl s_35 (by decide) rfl rfl))) (dcons (dst1 (Tm := [(18, (LP 0 3))]) (L := [(c_uber_root t0)]) (H := ⟨0, []⟩) rfl rfl rfl rfl rfl (asd rfl (tx_ldLA (vs := (cPt t0.Uber.Root)) Try.underlying35 rfl s_35 (by decide) rfl rfl rfl rfl))) (dcons (dst1 (Tm := [(19, (Value.agg (cPt t0.Uber.Root).toArray))]) (L := [(c_uber_root t0)]) (H := ⟨0, []⟩) rfl rfl rfl rfl rfl (asd rfl (ex_buildSliceD (qs := [(0, (Value.agg (cPt t0.Uber.Root).toArray))]) (cells := (([t0.Uber.Root] : List GPt).flatMap cPt)) Try.underlying70 s_35 (by decide) (evp rfl evp_nil) rfl (by kernel_rfl) (by kernel_rfl) (by kernel_rfl)))) (dcons (dst1 (Tm := [(20, (SL 6 cPt ([t0.Uber.Root] : List GPt)))]) (L := [(c_uber_root t0)]) (H := ⟨0, []⟩) rfl rfl rfl rfl rfl (asd rfl (ex_call0 (vs := [(SL 6 cPt ([t0.Uber.Root] : List GPt))]) (v := (S x4)) rfl en_68 (cargs (evs rfl evs_nil)) rfl (ok_ptr_Put ([t0.Uber.Root] : List GPt) x4 hx4) rfl))) (dcons (dst1 (Tm := [(16, (S x3)), (21, (S x4))]) (L := [(c_uber_root t0)]) (H := ⟨0, []⟩) rfl rfl rfl rfl rfl (asd rfl (ex_bin (vx := (S x3)) (vy := (S x4)) rfl rfl (addS_ok hx5)))) (dcons (dst1 (Tm := [(22, (S x5))]) (L := [(c_uber_root t0)]) (H := ⟨0, []⟩) rfl rfl rfl rfl rfl (asd rfl (ex_call0 (vs := [(S x5)]) (v := (S x6)) rfl en_66 (cargs (evs rfl evs_nil)) rfl (ok_uber_sealed x5 x6 hx6) rfl))) (dcons (dst1 (Tm := [(23, (S x6))]) (L := [(c_uber_root t0)]) (H := ⟨0, []⟩) rfl rfl rfl rfl rfl (asd rfl (eas (eV (v := (S x6)) rfl)))) dnil))))))))))))))))))) ⟨rfl, rfl⟩) (by kernel_rfl) (by kernel_rfl) ?_
    show AWp _ _ _ _
    refine awp_ret ?_
    cases h
    exact ares1 (rtmp rfl (eV rfl))

noncomputable def M_uber_Put (t0 : GUb) : Option Str :=
  Option.bind (M_uber_root_bytes (G_uber_root.mk t0)) fun (x1 : Str) => some x1
theorem ok_uber_Put (t0 : GUb) (r : Str) (h : M_uber_Put t0 = some r) : FFn Try.prog 33 [(Value.agg (cUb t0).toArray)] (S r) := by
  refine FFn.of_body (n := 6) Try.func33 rfl Try.ntmps33 rfl rfl rfl rfl ?_
  show AWp _ _ _ ⟨6, 0, [(0, (Value.agg (cUb t0).toArray))], [], ⟨0, []⟩⟩
  unfold M_uber_Put at h
  refine aws ?_
  refine awr ?_
  refine ado rfl rfl rfl (ex_box (vx := (Value.agg (cUb t0).toArray)) (cs := (cUb t0)) (k := 0) (L' := [(cUb t0)]) (eV (v := (Value.agg (cUb t0).toArray)) rfl) rfl rfl rfl) ?_
  refine ado rfl rfl rfl (eas (eV (v := (S [])) rfl)) ?_
  refine ake [1] 1 0 (st' := ⟨6, 0, [(1, (LP 0 0))], [(cUb t0)], ⟨0, []⟩⟩) (by kernel_rfl) (by kernel_rfl) ?_
  show AWp _ _ _ _
  refine aws ?_
  refine awr ?_
  refine ado rfl rfl rfl (tx_ldLA (vs := (cUb t0)) Try.underlying37 rfl s_37 (by decide) rfl rfl rfl rfl) ?_
  refine ado rfl rfl rfl (ex_build (qs := [(0, (Value.agg (cUb t0).toArray))]) (v := (Value.agg (c_uber_root (G_uber_root.mk t0)).toArray)) (evp rfl evp_nil) (by kernel_rfl)) ?_
  obtain ⟨x1, hx1, h⟩ := bindS h
  refine ado rfl rfl rfl (ex_call0 (vs := [(Value.agg (c_uber_root (G_uber_root.mk t0)).toArray)]) (v := (S x1)) rfl en_52 (cargs (evs rfl evs_nil)) rfl (ok_uber_root_bytes (G_uber_root.mk t0) x1 hx1) rfl) ?_
  refine ado rfl rfl rfl (eas (eV (v := (S x1)) rfl)) ?_
  refine ake [2] 0 0 (st' := ⟨6, 0, [(2, (S x1))], [], ⟨0, []⟩⟩) (by kernel_rfl) (by kernel_rfl) ?_
  show AWp _ _ _ _
  refine awp_ret ?_
  cases h
  exact ares1 (rtmp rfl (eV rfl))

noncomputable def M_label_Phase_l1 (t0 : Int) (t1 : GUb) : Nat → Int → List GPu → Option (List GPu)
  | 0, _, _ => none
  | n1 + 1, v4, v5 =>
  cond (decide (v4 < 4)) (Option.bind (M_label_Slot t0 v4 t1.Seat) fun (x7 : Int) => Option.bind (M_uber_Put t1) fun (x8 : Str) => Option.bind (appL 24 v5 ([(GPu.mk x7 x8)] : List GPu)) fun (x9 : List GPu) => (M_label_Phase_l1 t0 t1 n1) (w64 (v4 + 2)) x9) (some v5)
noncomputable def M_label_Phase (t0 : Int) (t1 : GUb) (t2 : Int) : Option (List GPu) :=
  Option.bind (M_label_may t0) fun (x1 : Bool) => Option.bind (gd ((!x1) == false) (M_uber_May t1)) fun (x2 : Bool) => cond ((((!x1) || (!x2)) || (decide (t2 < 0))) || (decide (t2 ≥ 2))) (some []) (M_label_Phase_l1 t0 t1 fuel t2 ([] : List GPu))
theorem ok_label_Phase (t0 : Int) (t1 : GUb) (t2 : Int) (r : (List GPu)) (h : M_label_Phase t0 t1 t2 = some r) : FFn Try.prog 17 [(I t0), (Value.agg (cUb t1).toArray), (I t2)] (SL 2 cPu r) := by
  refine FFn.of_body (n := 42) Try.func17 rfl Try.ntmps17 rfl rfl rfl rfl ?_
  show AWp _ _ _ ⟨42, 0, [(0, (I t0)), (1, (Value.agg (cUb t1).toArray)), (2, (I t2))], [], ⟨0, []⟩⟩
  unfold M_label_Phase at h
  refine aws ?_
  refine awr ?_
  refine ado rfl rfl rfl (ex_box (vx := (Value.agg (cUb t1).toArray)) (cs := (cUb t1)) (k := 0) (L' := [(cUb t1)]) (eV (v := (Value.agg (cUb t1).toArray)) rfl) rfl rfl rfl) ?_
  refine ado rfl rfl rfl (eas (eV (v := (Value.slice none 0 0)) rfl)) ?_
  refine ake [0, 2, 4] 1 0 (st' := ⟨42, 0, [(0, (I t0)), (2, (I t2)), (4, (LP 0 0))], [(cUb t1)], ⟨0, []⟩⟩) (by kernel_rfl) (by kernel_rfl) ?_
  show AWp _ _ _ _
  refine aws ?_
  refine aws ?_
  refine awr ?_
  refine ado rfl rfl rfl (emv (eV (v := (I t0)) rfl)) ?_
  obtain ⟨x1, hx1, h⟩ := bindS h
  refine ado rfl rfl rfl (ex_call0 (vs := [(I t0)]) (v := (Bo x1)) rfl en_29 (cargs (evs rfl evs_nil)) rfl (ok_label_may t0 x1 hx1) rfl) ?_
  refine ado rfl rfl rfl (ex_un (vx := (Bo x1)) rfl notB_ok) ?_
  refine ado rfl rfl rfl (emv (eV (v := (Bo (!x1))) rfl)) ?_
  refine agu (v := (Value.agg (cUb t1).toArray)) ((!x1) == false) rfl rfl rfl (fun hc => tx_ldLA (vs := (cUb t1)) Try.underlying37 rfl s_37 (by decide) rfl rfl rfl rfl) ?_
  obtain ⟨x2, hx2, h⟩ := bindS h
  refine agu (v := (Bo x2)) ((!x1) == false) rfl rfl rfl (fun hc => ex_call0 (vs := [(Value.agg (cUb t1).toArray)]) (v := (Bo x2)) rfl en_32 (cargs (evs (cdo hc) evs_nil)) rfl (ok_uber_May t1 x2 (gd_of hc hx2)) rfl) ?_
  refine agu (v := (Bo (!x2))) ((!x1) == false) rfl rfl rfl (fun hc => ex_un (vx := (Bo x2)) (cdo hc) notB_ok) ?_
  refine ado rfl rfl rfl (ex_pick rfl pkOr) ?_
  refine ado rfl rfl rfl (emv (eV (v := (Bo ((!x1) || (!x2)))) rfl)) ?_
  refine agu (v := (I t2)) (((!x1) || (!x2)) == false) rfl rfl rfl (fun hc => emv (eV (v := (I t2)) rfl)) ?_
  refine agu (v := (Bo (decide (t2 < 0)))) (((!x1) || (!x2)) == false) rfl rfl rfl (fun hc => ex_bin (vx := (I t2)) (vy := (I 0)) (cdo hc) rfl lssI_ok) ?_
  refine ado rfl rfl rfl (ex_pick rfl pkOr) ?_
  refine ado rfl rfl rfl (emv (eV (v := (Bo (((!x1) || (!x2)) || (decide (t2 < 0))))) rfl)) ?_
  refine agu (v := (I t2)) ((((!x1) || (!x2)) || (decide (t2 < 0))) == false) rfl rfl rfl (fun hc => emv (eV (v := (I t2)) rfl)) ?_
  refine agu (v := (Bo (decide (t2 ≥ 2)))) ((((!x1) || (!x2)) || (decide (t2 < 0))) == false) rfl rfl rfl (fun hc => ex_bin (vx := (I t2)) (vy := (I 2)) (cdo hc) rfl geqI_ok) ?_
  refine ado rfl rfl rfl (ex_pick rfl pkOr) ?_
  refine ake [0, 2, 4, 24] 1 0 (st' := ⟨42, 0, [(0, (I t0)), (2, (I t2)), (4, (LP 0 0)), (24, (Bo ((((!x1) || (!x2)) || (decide (t2 < 0))) || (decide (t2 ≥ 2)))))], [(cUb t1)], ⟨0, []⟩⟩) (by kernel_rfl) (by kernel_rfl) ?_
  show AWp _ _ _ _
  rcases Bool.eq_false_or_eq_true ((((!x1) || (!x2)) || (decide (t2 < 0))) || (decide (t2 ≥ 2))) with hb3 | hb3
  · rw [condT hb3] at h
    refine awp_condT (boT hb3) ?_
    refine aws ?_
    refine awr ?_
    refine ado rfl rfl rfl (eas (eV (v := (Value.slice none 0 0)) rfl)) ?_
    refine ake [6] 0 0 (st' := ⟨42, 0, [(6, (Value.slice none 0 0))], [], ⟨0, []⟩⟩) (by kernel_rfl) (by kernel_rfl) ?_
    show AWp _ _ _ _
    refine awp_ret ?_
    cases h
    exact ares1 (rtmp rfl (eN rfl))
  · rw [condF hb3] at h
    refine awp_condF (boF hb3) ?_
    refine awp_skip ?_
    show AWp _ _ _ _
    refine aws ?_
    refine awr ?_
    refine ado rfl rfl rfl (eas (eV (v := (Value.slice none 0 0)) rfl)) ?_
    refine ake [0, 2, 4, 7] 1 0 (st' := ⟨42, 0, [(0, (I t0)), (2, (I t2)), (4, (LP 0 0)), (7, (Value.slice none 0 0))], [(cUb t1)], ⟨0, []⟩⟩) (by kernel_rfl) (by kernel_rfl) ?_
    show AWp _ _ _ _
    refine aws ?_
    refine aws ?_
    refine awr ?_
    refine ado rfl rfl rfl (emv (eV (v := (I t2)) rfl)) ?_
    refine ado rfl rfl rfl (eas (eV (v := (I t2)) rfl)) ?_
    refine ake [0, 4, 7, 8] 1 0 (st' := ⟨42, 0, [(0, (I t0)), (4, (LP 0 0)), (7, (Value.slice none 0 0)), (8, (I t2))], [(cUb t1)], ⟨0, []⟩⟩) (by kernel_rfl) (by kernel_rfl) ?_
    show AWp _ _ _ _
    refine awp_block ?_
    refine awp_nilGro 7 2 rfl (by decide) ?_
    refine awp_keepE [0, 4, 7, 8] 1 1 (st' := ⟨42, 0, [(0, (I t0)), (4, (LP 0 0)), (7, (GV 0 0)), (8, (I t2))], [(cUb t1)], ⟨1, [(0, ⟨2, (([] : List GPu).flatMap cPu), true⟩)]⟩⟩) (by kernel_rfl) (by kernel_rfl) ?_
    refine awp_loop (fun n s => ∃ (v4 : Int) (v5 : List GPu), s = ⟨42, 0, [(0, (I t0)), (4, (LP 0 0)), (7, (GV 0 v5.length)), (8, (I v4))], [(cUb t1)], ⟨1, [(0, ⟨2, ((v5).flatMap cPu), true⟩)]⟩⟩ ∧ M_label_Phase_l1 t0 t1 n v4 v5 = some r) fuel (Exists.intro t2 (Exists.intro ([] : List GPu) (And.intro rfl h))) ?_
    rintro n s ⟨v4, v5, rfl, h⟩ -
    cases n with
    | zero => cases h
    | succ n1 =>
      unfold M_label_Phase_l1 at h
      refine aws ?_
      refine aws ?_
      refine awr ?_
      refine ado rfl rfl rfl (emv (eV (v := (I v4)) rfl)) ?_
      refine ado rfl rfl rfl (ex_bin (vx := (I v4)) (vy := (I 4)) rfl rfl lssI_ok) ?_
      refine ake [0, 4, 7, 8, 27] 1 1 (st' := ⟨42, 0, [(0, (I t0)), (4, (LP 0 0)), (7, (GV 0 v5.length)), (8, (I v4)), (27, (Bo (decide (v4 < 4))))], [(cUb t1)], ⟨1, [(0, ⟨2, ((v5).flatMap cPu), true⟩)]⟩⟩) (by kernel_rfl) (by kernel_rfl) ?_
      show AWp _ _ _ _
      rcases Bool.eq_false_or_eq_true (decide (v4 < 4)) with hb6 | hb6
      · rw [condT hb6] at h
        refine awp_condT (boT hb6) ?_
        refine awp_skip ?_
        show AWp _ _ _ _
        refine aws ?_
        refine awp_block ?_
        obtain ⟨x7, hx7, h⟩ := bindS h
        obtain ⟨x8, hx8, h⟩ := bindS h
        obtain ⟨x9, hx9, h⟩ := bindS h
        refine awp_kn [0, 4, 7, 8] 1 1 (st' := ⟨42, 0, [(0, (I t0)), (4, (LP 0 0)), (7, (GV 0 x9.length)), (8, (I v4))], [(cUb t1)], ⟨1, [(0, ⟨2, ((x9).flatMap cPu), true⟩)]⟩⟩) (awp_draw (T := [(GV 0 v5.length), (I t0), (I v4), (LP 0 2), (I t1.Seat), (I x7), (Value.agg (cUb t1).toArray), (S x8), (Value.agg (cPu (GPu.mk x7 x8)).toArray), (SL 2 cPu ([(GPu.mk x7 x8)] : List GPu)), (GV 0 x9.length), (GV 0 x9.length)]) (LH := [([(cUb t1)], ⟨1, [(0, ⟨2, ((v5).flatMap cPu), true⟩)]⟩), ([(cUb t1)], ⟨1, [(0, ⟨2, ((x9).flatMap cPu), true⟩)]⟩)]) (D := [⟨[(7, none)], [], [0], false⟩, ⟨[(0, none)], [], [0], false⟩, ⟨[(8, none)], [], [0], false⟩, ⟨[(4, none)], [], [0], false⟩, ⟨[(33, some 3)], [3], [0], false⟩, ⟨[(31, some 1), (32, some 2), (34, some 4)], [1, 2, 3, 4], [0], false⟩, ⟨[(4, none)], [], [0], false⟩, ⟨[(36, some 6)], [1, 2, 3, 4, 5, 6], [0], false⟩, ⟨[(35, some 5), (37, some 7)], [1, 2, 3, 4, 5, 6, 7], [0], false⟩, ⟨[(38, some 8)], [1, 2, 3, 4, 5, 6, 7, 8], [0], false⟩, ⟨[(30, some 0), (39, some 9)], [0, 1, 2, 3, 4, 5, 6, 7, 8, 9], [0], true⟩, ⟨[(40, some 10)], [0, 1, 2, 3, 4, 5, 6, 7, 8, 9, 10], [1], false⟩]) (S := [10]) (plan := [0, 1, 2, 3, 4, 5, 6, 7, 8, 9, 10, 11]) mo (by kernel_rfl) rfl rfl rfl (dcons (dst1 (Tm := [(7, (GV 0 v5.length))]) (L := [(cUb t1)]) (H := ⟨1, [(0, ⟨2, ((v5).flatMap cPu), true⟩)]⟩) rfl rfl rfl rfl rfl (asd rfl (emv (eV (v := (GV 0 v5.length)) rfl)))) (dcons (dst1 (Tm := [(0, (I t0))]) (L := [(cUb t1)]) (H := ⟨1, [(0, ⟨2, ((v5).flatMap cPu), true⟩)]⟩) rfl rfl rfl rfl rfl (asd rfl (emv (eV (v := (I t0)) rfl)))) (dcons (dst1 (Tm := [(8, (I v4))]) (L := [(cUb t1)]) (H := ⟨1, [(0, ⟨2, ((v5).flatMap cPu), true⟩)]⟩) rfl rfl rfl rfl rfl (asd rfl (emv (eV (v := (I v4)) rfl)))) (dcons (dst1 (Tm := [(4, (LP 0 0))]) (L := [(cUb t1)]) (H := ⟨1, [(0, ⟨2, ((v5).flatMap cPu), true⟩)]⟩) rfl rfl rfl rfl rfl (asd rfl (efa (v := (LP 0 2)) Try.underlying37 rfl s_3 (by decide) rfl rfl))) (dcons (dst1 (Tm := [(33, (LP 0 2))]) (L := [(cUb t1)]) (H := ⟨1, [(0, ⟨2, ((v5).flatMap cPu), true⟩)]⟩) rfl rfl rfl rfl rfl (asd rfl (tx_ldL1 (v := (I t1.Seat)) Try.underlying3 rfl rfl rfl rfl))) (dcons (dst1 (Tm := [(31, (I t0)), (32, (I v4)), (34, (I t1.Seat))]) (L := [(cUb t1)]) (H := ⟨1, [(0, ⟨2, ((v5).flatMap cPu), true⟩)]⟩) rfl rfl rfl rfl rfl (asd rfl (ex_call0 (vs := [(I t0), (I v4), (I t1.Seat)]) (v := (I x7)) rfl en_12 (cargs (evs rfl (evs rfl (evs rfl evs_nil)))) rfl (ok_label_Slot t0 v4 t1.Seat x7 hx7) rfl))) (dcons (dst1 (Tm := [(4, (LP 0 0))]) (L := [(cUb t1)]) (H := ⟨1, [(0, ⟨2, ((v5).flatMap cPu), true⟩)]⟩) rfl rfl rfl rfl rfl (asd rfl (tx_ldLA (vs := (cUb t1)) Try.underlying37 rfl s_37 (by decide) rfl rfl rfl rfl))) (dcons (dst1 (Tm := [(36, (Value.agg (cUb t1).toArray))]) (L := [(cUb t1)]) (H := ⟨1, [(0, ⟨2, ((v5).flatMap cPu), true⟩)]⟩) rfl rfl rfl rfl rfl (asd rfl (ex_call0 (vs := [(Value.agg (cUb t1).toArray)]) (v := (S x8)) rfl en_33 (cargs (evs rfl evs_nil)) rfl (ok_uber_Put t1 x8 hx8) rfl))) (dcons (dst1 (Tm := [(35, (I x7)), (37, (S x8))]) (L := [(cUb t1)]) (H := ⟨1, [(0, ⟨2, ((v5).flatMap cPu), true⟩)]⟩) rfl rfl rfl rfl rfl (asd rfl (ex_build (qs := [(0, (I x7)), (1, (S x8))]) (v := (Value.agg (cPu (GPu.mk x7 x8)).toArray)) (evp rfl (evp rfl evp_nil)) (by kernel_rfl)))) (dcons (dst1 (Tm := [(38, (Value.agg (cPu (GPu.mk x7 x8)).toArray))]) (L := [(cUb t1)]) (H := ⟨1, [(0, ⟨2, ((v5).flatMap cPu), true⟩)]⟩) rfl rfl rfl rfl rfl (asd rfl (ex_buildSliceD (qs := [(0, (Value.agg (cPu (GPu.mk x7 x8)).toArray))]) (cells := (([(GPu.mk x7 x8)] : List GPu).flatMap cPu)) Try.underlying27 s_44 (by decide) (evp rfl evp_nil) rfl (by kernel_rfl) (by kernel_rfl) (by kernel_rfl)))) (dcons (dst1 (Tm := [(30, (GV 0 v5.length)), (39, (SL 2 cPu ([(GPu.mk x7 x8)] : List GPu)))]) (L := [(cUb t1)]) (H := ⟨1, [(0, ⟨2, ((v5).flatMap cPu), true⟩)]⟩) rfl rfl rfl rfl rfl (asd rfl (tx_appG (c := cPu) (xs := v5) (H' := ⟨1, [(0, ⟨2, ((x9).flatMap cPu), true⟩)]⟩) ce_api_Put e_44 rfl rfl rfl (tsrcD (ys := ([(GPu.mk x7 x8)] : List GPu)) ce_api_Put Try.underlying27 s_44 Try.underlying27 rfl) hx9 rfl))) (dcons (dst1 (Tm := [(40, (GV 0 x9.length))]) (L := [(cUb t1)]) (H := ⟨1, [(0, ⟨2, ((x9).flatMap cPu), true⟩)]⟩) rfl rfl rfl rfl rfl (asd rfl (eas (eV (v := (GV 0 x9.length)) rfl)))) dnil)))))))))))) ⟨rfl, rfl⟩) (by kernel_rfl) (by kernel_rfl) ?_
        show AWp _ _ _ _
        refine awr ?_
        refine ado rfl rfl rfl (emv (eV (v := (I v4)) rfl)) ?_
        refine ado rfl rfl rfl (ex_bin (vx := (I v4)) (vy := (I 2)) rfl rfl addI_ok) ?_
        refine ado rfl rfl rfl (eas (eV (v := (I (w64 (v4 + 2)))) rfl)) ?_
        refine ake [0, 4, 7, 8] 1 1 (st' := ⟨42, 0, [(0, (I t0)), (4, (LP 0 0)), (7, (GV 0 x9.length)), (8, (I (w64 (v4 + 2))))], [(cUb t1)], ⟨1, [(0, ⟨2, ((x9).flatMap cPu), true⟩)]⟩⟩) (by kernel_rfl) (by kernel_rfl) ?_
        exact Exists.intro n1 (And.intro (Nat.lt_succ_self _) (Exists.intro (w64 (v4 + 2)) (Exists.intro x9 (And.intro rfl h))))
      · rw [condF hb6] at h
        refine awp_condF (boF hb6) ?_
        refine awp_exit ?_
        show AWp _ _ _ _
        refine aws ?_
        refine awr ?_
        refine ado rfl rfl rfl (emv (eV (v := (GV 0 v5.length)) rfl)) ?_
        refine ado rfl rfl rfl (eas (eV (v := (GV 0 v5.length)) rfl)) ?_
        refine ake [6] 0 1 (st' := ⟨42, 0, [(6, (GV 0 v5.length))], [], ⟨1, [(0, ⟨2, ((v5).flatMap cPu), true⟩)]⟩⟩) (by kernel_rfl) (by kernel_rfl) ?_
        show AWp _ _ _ _
        refine awp_freeze 0 (bk := ⟨2, ((v5).flatMap cPu), true⟩) (T' := [(6, (SL 2 cPu v5))]) (L' := []) rfl (fzG ce_api_Put rfl rfl FzT.nil) (FzL.refl _) ?_
        show AWp _ _ _ ⟨42, 0, [(6, (SL 2 cPu v5))], [], ⟨1, []⟩⟩
        refine awp_ret ?_
        cases h
        exact ares1 (rtmp rfl (eV rfl))


end Go.Proofs
