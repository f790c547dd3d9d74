/- Pure models of functions of the program, and that its code does what they say: uber Config, uber TakeConfig, label Found, palimpref1 num, palimpref1 mayData. Written by a program. -/
import Derived.Test.YtmhfodjiefednaaR70
import Derived.Test.YtmhfodjiefednaaR71
import Derived.Test.YtmhfodjiefednaaR72
import Derived.Test.YtmhfodjiefednaaR74
import Derived.Test.YtmhfodjiefednaaR7B
import Derived.Test.YtmhfodjiefednaaR7RdC
set_option maxRecDepth 20000
set_option maxHeartbeats 4000000
namespace Go.Proofs
open Go Go.Fhl
set_option linter.unusedVariables false
set_option linter.unusedSimpArgs false
noncomputable def M_uber_Config (t0 : Int) (t1 : Int) : Option Str :=
  cond ((((decide (t0 < 0)) || (decide (t0 > 1073741824))) || (decide (t1 < 40))) || (decide (t1 > 240))) (some []) (Option.bind (M_pack_Put ([49, 52, 50] : Str) ([172, t0, t1] : List Int)) fun (x2 : Str) => Option.bind (M_uber_sealed x2) fun (x3 : Str) => some x3)
theorem ok_uber_Config (t0 : Int) (t1 : Int) (r : Str) (h : M_uber_Config t0 t1 = some r) : FFn Try.prog 58 [(I t0), (I t1)] (S r) := by
  refine FFn.of_body (n := 24) Try.func58 rfl Try.ntmps58 rfl rfl rfl rfl ?_
  show AWp _ _ _ ⟨24, 0, [(0, (I t0)), (1, (I t1))], [], ⟨0, []⟩⟩
  unfold M_uber_Config at h
  refine aws ?_
  refine awr ?_
  refine ado rfl rfl rfl (eas (eV (v := (S [])) rfl)) ?_
  refine ake [0, 1] 0 0 (st' := ⟨24, 0, [(0, (I t0)), (1, (I t1))], [], ⟨0, []⟩⟩) (by kernel_rfl) (by kernel_rfl) ?_
  show AWp _ _ _ _
  refine aws ?_
  refine aws ?_
  refine awr ?_
  refine ado rfl rfl rfl (emv (eV (v := (I t0)) rfl)) ?_
  refine ado rfl rfl rfl (ex_bin (vx := (I t0)) (vy := (I 0)) rfl rfl lssI_ok) ?_
  refine ado rfl rfl rfl (emv (eV (v := (Bo (decide (t0 < 0)))) rfl)) ?_
  refine agu (v := (I t0)) ((decide (t0 < 0)) == false) rfl rfl rfl (fun hc => emv (eV (v := (I t0)) rfl)) ?_
  refine agu (v := (Bo (decide (t0 > 1073741824)))) ((decide (t0 < 0)) == false) rfl rfl rfl (fun hc => ex_bin (vx := (I t0)) (vy := (I 1073741824)) (cdo hc) rfl gtrI_ok) ?_
  refine ado rfl rfl rfl (ex_pick rfl pkOr) ?_
  refine ado rfl rfl rfl (emv (eV (v := (Bo ((decide (t0 < 0)) || (decide (t0 > 1073741824))))) rfl)) ?_
  refine agu (v := (I t1)) (((decide (t0 < 0)) || (decide (t0 > 1073741824))) == false) rfl rfl rfl (fun hc => emv (eV (v := (I t1)) rfl)) ?_
  refine agu (v := (Bo (decide (t1 < 40)))) (((decide (t0 < 0)) || (decide (t0 > 1073741824))) == false) rfl rfl rfl (fun hc => ex_bin (vx := (I t1)) (vy := (I 40)) (cdo hc) rfl lssI_ok) ?_
  refine ado rfl rfl rfl (ex_pick rfl pkOr) ?_
  refine ado rfl rfl rfl (emv (eV (v := (Bo (((decide (t0 < 0)) || (decide (t0 > 1073741824))) || (decide (t1 < 40))))) rfl)) ?_
  refine agu (v := (I t1)) ((((decide (t0 < 0)) || (decide (t0 > 1073741824))) || (decide (t1 < 40))) == false) rfl rfl rfl (fun hc => emv (eV (v := (I t1)) rfl)) ?_
  refine agu (v := (Bo (decide (t1 > 240)))) ((((decide (t0 < 0)) || (decide (t0 > 1073741824))) || (decide (t1 < 40))) == false) rfl rfl rfl (fun hc => ex_bin (vx := (I t1)) (vy := (I 240)) (cdo hc) rfl gtrI_ok) ?_
  refine ado rfl rfl rfl (ex_pick rfl pkOr) ?_
  refine ake [0, 1, 18] 0 0 (st' := ⟨24, 0, [(0, (I t0)), (1, (I t1)), (18, (Bo ((((decide (t0 < 0)) || (decide (t0 > 1073741824))) || (decide (t1 < 40))) || (decide (t1 > 240)))))], [], ⟨0, []⟩⟩) (by kernel_rfl) (by kernel_rfl) ?_
  show AWp _ _ _ _
  rcases Bool.eq_false_or_eq_true ((((decide (t0 < 0)) || (decide (t0 > 1073741824))) || (decide (t1 < 40))) || (decide (t1 > 240))) with hb1 | hb1
  · rw [condT hb1] at h
    refine awp_condT (boT hb1) ?_
    refine aws ?_
    refine awr ?_
    refine ado rfl rfl rfl (eas (eV (v := (S [])) rfl)) ?_
    refine ake [4] 0 0 (st' := ⟨24, 0, [(4, (S []))], [], ⟨0, []⟩⟩) (by kernel_rfl) (by kernel_rfl) ?_
    show AWp _ _ _ _
    refine awp_ret ?_
    cases h
    exact ares1 (rtmp rfl (eV rfl))
  · rw [condF hb1] at h
    refine awp_condF (boF hb1) ?_
    refine awp_skip ?_
    show AWp _ _ _ _
    refine aws ?_
    refine awr ?_
    refine ado rfl rfl rfl (emv (eV (v := (I t0)) rfl)) ?_
    refine ado rfl rfl rfl (emv (eV (v := (I t1)) rfl)) ?_
    refine ado rfl rfl rfl (ex_buildSliceD (qs := [(0, (I 172)), (1, (I t0)), (2, (I t1))]) (cells := (([172, t0, t1] : List Int).flatMap cI)) Try.underlying59 s_3 (by decide) (evp rfl (evp rfl (evp rfl evp_nil))) rfl (by kernel_rfl) (by kernel_rfl) (by kernel_rfl)) ?_
    obtain ⟨x2, hx2, h⟩ := bindS h
    refine ado rfl rfl rfl (ex_call0 (vs := [(S ([49, 52, 50] : Str)), (SL 1 cI ([172, t0, t1] : List Int))]) (v := (S x2)) rfl en_67 (cargs (evs rfl (evs rfl evs_nil))) rfl (ok_pack_Put ([49, 52, 50] : Str) ([172, t0, t1] : List Int) x2 hx2) rfl) ?_
    obtain ⟨x3, hx3, h⟩ := bindS h
    refine ado rfl rfl rfl (ex_call0 (vs := [(S x2)]) (v := (S x3)) rfl en_66 (cargs (evs rfl evs_nil)) rfl (ok_uber_sealed x2 x3 hx3) rfl) ?_
    refine ado rfl rfl rfl (eas (eV (v := (S x3)) rfl)) ?_
    refine ake [4] 0 0 (st' := ⟨24, 0, [(4, (S x3))], [], ⟨0, []⟩⟩) (by kernel_rfl) (by kernel_rfl) ?_
    show AWp _ _ _ _
    refine awp_ret ?_
    cases h
    exact ares1 (rtmp rfl (eV rfl))

noncomputable def M_uber_TakeConfig (t0 : Str) : Option (Int × Int × Bool) :=
  Option.bind (M_pack_Take ([49, 52, 50] : Str) t0) fun (x1 : ((List Int) × Str × Bool)) => Option.bind (gd ((!x1.2.2) == false) (getI x1.1 1)) fun (x2 : Int) => Option.bind (gd ((!x1.2.2) == false) (getI x1.1 2)) fun (x3 : Int) => Option.bind (gd ((!x1.2.2) == false) (M_uber_Config x2 x3)) fun (x4 : Str) => cond ((!x1.2.2) || (x4 != t0)) (some (0, 0, false)) (Option.bind (getI x1.1 1) fun (x6 : Int) => Option.bind (getI x1.1 2) fun (x7 : Int) => some (x6, x7, true))
theorem ok_uber_TakeConfig (t0 : Str) (r : (Int × Int × Bool)) (h : M_uber_TakeConfig t0 = some r) : FFn Try.prog 41 [(S t0)] (Value.tuple #[(I r.1), (I r.2.1), (Bo r.2.2)]) := by
  refine FFn.of_body (n := 32) Try.func41 rfl Try.ntmps41 rfl rfl rfl rfl ?_
  show AWp _ _ _ ⟨32, 0, [(0, (S t0))], [], ⟨0, []⟩⟩
  unfold M_uber_TakeConfig at h
  refine aws ?_
  refine awr ?_
  refine ado rfl rfl rfl (eas (eV (v := (I 0)) rfl)) ?_
  refine ado rfl rfl rfl (eas (eV (v := (I 0)) rfl)) ?_
  refine ado rfl rfl rfl (eas (eV (v := (Bo false)) rfl)) ?_
  refine ake [0] 0 0 (st' := ⟨32, 0, [(0, (S t0))], [], ⟨0, []⟩⟩) (by kernel_rfl) (by kernel_rfl) ?_
  show AWp _ _ _ _
  refine aws ?_
  refine awr ?_
  refine ado rfl rfl rfl (emv (eV (v := (S t0)) rfl)) ?_
  obtain ⟨x1, hx1, h⟩ := bindS h
  refine ado rfl rfl rfl (ex_call0 (vs := [(S ([49, 52, 50] : Str)), (S t0)]) (v := (Value.tuple #[(SL 1 cI x1.1), (S x1.2.1), (Bo x1.2.2)])) rfl en_57 (cargs (evs rfl (evs rfl evs_nil))) rfl (ok_pack_Take ([49, 52, 50] : Str) t0 x1 hx1) rfl) ?_
  refine ado rfl rfl rfl (emv (eV (v := (Value.tuple #[(SL 1 cI x1.1), (S x1.2.1), (Bo x1.2.2)])) rfl)) ?_
  refine ado rfl rfl rfl (ex_extract (vx := (Value.tuple #[(SL 1 cI x1.1), (S x1.2.1), (Bo x1.2.2)])) (v := (SL 1 cI x1.1)) rfl rfl) ?_
  refine ado rfl rfl rfl (ex_extract (vx := (Value.tuple #[(SL 1 cI x1.1), (S x1.2.1), (Bo x1.2.2)])) (v := (S x1.2.1)) rfl rfl) ?_
  refine ado rfl rfl rfl (ex_extract (vx := (Value.tuple #[(SL 1 cI x1.1), (S x1.2.1), (Bo x1.2.2)])) (v := (Bo x1.2.2)) rfl rfl) ?_
  refine ado rfl rfl rfl (eas (eV (v := (SL 1 cI x1.1)) rfl)) ?_
  refine ado rfl rfl rfl (eas (eV (v := (S x1.2.1)) rfl)) ?_
  refine ado rfl rfl rfl (eas (eV (v := (Bo x1.2.2)) rfl)) ?_
  refine ake [0, 4, 5] 0 0 (st' := ⟨32, 0, [(0, (S t0)), (4, (Bo x1.2.2)), (5, (SL 1 cI x1.1))], [], ⟨0, []⟩⟩) (by kernel_rfl) (by kernel_rfl) ?_
  show AWp _ _ _ _
  refine aws ?_
  refine aws ?_
  obtain ⟨x2, hx2, h⟩ := bindS h
  obtain ⟨x3, hx3, h⟩ := bindS h
  obtain ⟨x4, hx4, h⟩ := bindS h
  refine awp_kn [5, 25] 0 0 (st' := ⟨32, 0, [(5, (SL 1 cI x1.1)), (25, (Bo ((!x1.2.2) || (x4 != t0))))], [], ⟨0, []⟩⟩) (awp_draw (T := [(Bo x1.2.2), (Bo (!x1.2.2)), (Bo (!x1.2.2)), (cond ((!x1.2.2) == false) (SL 1 cI x1.1) skipV), (cond ((!x1.2.2) == false) (DP (cI x2)) skipV), (cond ((!x1.2.2) == false) (I x2) skipV), (cond ((!x1.2.2) == false) (SL 1 cI x1.1) skipV), (cond ((!x1.2.2) == false) (DP (cI x3)) skipV), (cond ((!x1.2.2) == false) (I x3) skipV), (cond ((!x1.2.2) == false) (S x4) skipV), (cond ((!x1.2.2) == false) (S t0) skipV), (cond ((!x1.2.2) == false) (Bo (x4 != t0)) skipV), (Bo ((!x1.2.2) || (x4 != t0)))]) (LH := [([], ⟨0, []⟩)]) (D := [⟨[(4, none)], [], [0], false⟩, ⟨[(13, some 0)], [0], [0], false⟩, ⟨[(14, some 1)], [0, 1], [0], false⟩, ⟨[(5, none), (15, some 2)], [0, 1, 2], [0], false⟩, ⟨[(16, some 3), (15, some 2)], [0, 1, 2, 3], [0], false⟩, ⟨[(17, some 4), (15, some 2)], [0, 1, 2, 3, 4], [0], false⟩, ⟨[(5, none), (15, some 2)], [0, 1, 2], [0], false⟩, ⟨[(19, some 6), (15, some 2)], [0, 1, 2, 6], [0], false⟩, ⟨[(20, some 7), (15, some 2)], [0, 1, 2, 6, 7], [0], false⟩, ⟨[(18, some 5), (21, some 8), (15, some 2)], [0, 1, 2, 3, 4, 5, 6, 7, 8], [0], false⟩, ⟨[(0, none), (15, some 2)], [0, 1, 2], [0], false⟩, ⟨[(22, some 9), (23, some 10), (15, some 2)], [0, 1, 2, 3, 4, 5, 6, 7, 8, 9, 10], [0], false⟩, ⟨[(15, some 2), (24, some 11)], [0, 1, 2, 3, 4, 5, 6, 7, 8, 9, 10, 11], [0], false⟩]) (S := []) (plan := [0, 1, 2, 3, 4, 5, 6, 7, 8, 9, 10, 11, 12]) mo (by kernel_rfl) rfl rfl rfl (dcons (dst1 (Tm := [(4, (Bo x1.2.2))]) (L := []) (H := ⟨0, []⟩) rfl rfl rfl rfl rfl (asd rfl (emv (eV (v := (Bo x1.2.2)) rfl)))) (dcons (dst1 (Tm := [(13, (Bo x1.2.2))]) (L := []) (H := ⟨0, []⟩) rfl rfl rfl rfl rfl (asd rfl (ex_un (vx := (Bo x1.2.2)) rfl notB_ok))) (dcons (dst1 (Tm := [(14, (Bo (!x1.2.2)))]) (L := []) (H := ⟨0, []⟩) rfl rfl rfl rfl rfl (asd rfl (emv (eV (v := (Bo (!x1.2.2))) rfl)))) (dcons (dst1 (Tm := [(5, (SL 1 cI x1.1)), (15, (Bo (!x1.2.2)))]) (L := []) (H := ⟨0, []⟩) rfl rfl rfl rfl rfl (astep_guard (v := (SL 1 cI x1.1)) ((!x1.2.2) == false) rfl (fun hc => emv (eV (v := (SL 1 cI x1.1)) rfl)))) (dcons (dst1 (Tm := [(16, (cond ((!x1.2.2) == false) (SL 1 cI x1.1) skipV)), (15, (Bo (!x1.2.2)))]) (L := []) (H := ⟨0, []⟩) rfl rfl rfl rfl rfl (astep_guard (v := (DP (cI x2))) ((!x1.2.2) == false) rfl (fun hc => tx_idxD (c := cI) (xs := x1.1) (i := 1) ceI Try.underlying59 s_3 (cdo hc) rfl (gd_of hc hx2)))) (dcons (dst1 (Tm := [(17, (cond ((!x1.2.2) == false) (DP (cI x2)) skipV)), (15, (Bo (!x1.2.2)))]) (L := []) (H := ⟨0, []⟩) rfl rfl rfl rfl rfl (astep_guard (v := (I x2)) ((!x1.2.2) == false) rfl (fun hc => tx_ldD1 (v := (I x2)) Try.underlying3 rfl (cdo hc) rfl))) (dcons (dst1 (Tm := [(5, (SL 1 cI x1.1)), (15, (Bo (!x1.2.2)))]) (L := []) (H := ⟨0, []⟩) rfl rfl rfl rfl rfl (astep_guard (v := (SL 1 cI x1.1)) ((!x1.2.2) == false) rfl (fun hc => emv (eV (v := (SL 1 cI x1.1)) rfl)))) (dcons (dst1 (Tm := [(19, (cond ((!x1.2.2) == false) (SL 1 cI x1.1) skipV)), (15, (Bo (!x1.2.2)))]) (L := []) (H := ⟨0, []⟩) rfl rfl rfl rfl rfl (astep_guard (v := (DP (cI x3))) ((!x1.2.2) == false) rfl (fun hc => tx_idxD (c := cI) (xs := x1.1) (i := 2) ceI Try.underlying59 s_3 (cdo hc) rfl (gd_of hc hx3)))) (dcons (dst1 (Tm := [(20, (cond ((!x1.2.2) == false) (DP (cI x3)) skipV)), (15, (Bo (!x1.2.2)))]) (L := []) (H := ⟨0, []⟩) rfl rfl rfl rfl rfl (astep_guard (v := (I x3)) ((!x1.2.2) == false) rfl (fun hc => tx_ldD1 (v := (I x3)) Try.underlying3 rfl (cdo hc) rfl))) (dcons (dst1 (Tm := [(18, (cond ((!x1.2.2) == false) (I x2) skipV)), (21, (cond ((!x1.2.2) == false) (I x3) skipV)), (15, (Bo (!x1.2.2)))]) (L := []) (H := ⟨0, []⟩) rfl rfl rfl rfl rfl (astep_guard (v := (S x4)) ((!x1.2.2) == false) rfl (fun hc => ex_call0 (vs := [(I x2), (I x3)]) (v := (S x4)) rfl en_58 (cargs (evs (cdo hc) (evs (cdo hc) evs_nil))) rfl (ok_uber_Config x2 x3 x4 (gd_of hc hx4)) rfl))) (dcons (dst1 (Tm := [(0, (S t0)), (15, (Bo (!x1.2.2)))]) (L := []) (H := ⟨0, []⟩) rfl rfl rfl rfl rfl (astep_guard (v := (S t0)) ((!x1.2.2) == false) rfl (fun hc => emv (eV (v := (S t0)) rfl)))) (dcons (dst1 (Tm := [(22, (cond ((!x1.2.2) == false) (S x4) skipV)), (23, (cond ((!x1.2.2) == false) (S t0) skipV)), (15, (Bo (!x1.2.2)))]) (L := []) (H := ⟨0, []⟩) rfl rfl rfl rfl rfl (astep_guard (v := (Bo (x4 != t0))) ((!x1.2.2) == false) rfl (fun hc => ex_bin (vx := (S x4)) (vy := (S t0)) (cdo hc) (cdo hc) neqS_ok))) (dcons (dst1 (Tm := [(15, (Bo (!x1.2.2))), (24, (cond ((!x1.2.2) == false) (Bo (x4 != t0)) skipV))]) (L := []) (H := ⟨0, []⟩) rfl rfl rfl rfl rfl (asd rfl (ex_pick rfl pkOr))) dnil))))))))))))) ⟨rfl, rfl⟩) (by kernel_rfl) (by kernel_rfl) ?_
  show AWp _ _ _ _
  rcases Bool.eq_false_or_eq_true ((!x1.2.2) || (x4 != t0)) with hb5 | hb5
  · rw [condT hb5] at h
    refine awp_condT (boT hb5) ?_
    refine aws ?_
    refine awr ?_
    refine ado rfl rfl rfl (eas (eV (v := (I 0)) rfl)) ?_
    refine ado rfl rfl rfl (eas (eV (v := (I 0)) rfl)) ?_
    refine ado rfl rfl rfl (eas (eV (v := (Bo false)) rfl)) ?_
    refine ake [2, 3, 4] 0 0 (st' := ⟨32, 0, [(2, (I 0)), (3, (I 0)), (4, (Bo false))], [], ⟨0, []⟩⟩) (by kernel_rfl) (by kernel_rfl) ?_
    show AWp _ _ _ _
    refine awp_ret ?_
    cases h
    exact aresN rfl (L2.cons (rtmp rfl (eV rfl)) (L2.cons (rtmp rfl (eV rfl)) (L2.cons (rtmp rfl (eV rfl)) L2.nil))) rfl
  · rw [condF hb5] at h
    refine awp_condF (boF hb5) ?_
    refine awp_skip ?_
    show AWp _ _ _ _
    refine aws ?_
    obtain ⟨x6, hx6, h⟩ := bindS h
    obtain ⟨x7, hx7, h⟩ := bindS h
    refine awp_kn [2, 3, 4] 0 0 (st' := ⟨32, 0, [(2, (I x6)), (3, (I x7)), (4, (Bo true))], [], ⟨0, []⟩⟩) (awp_draw (T := [(SL 1 cI x1.1), (DP (cI x6)), (I x6), (SL 1 cI x1.1), (DP (cI x7)), (I x7), (I x6), (I x7), (Bo true)]) (LH := [([], ⟨0, []⟩)]) (D := [⟨[(5, none)], [], [0], false⟩, ⟨[(26, some 0)], [0], [0], false⟩, ⟨[(27, some 1)], [0, 1], [0], false⟩, ⟨[(5, none)], [], [0], false⟩, ⟨[(29, some 3)], [3], [0], false⟩, ⟨[(30, some 4)], [3, 4], [0], false⟩, ⟨[(28, some 2)], [0, 1, 2], [0], false⟩, ⟨[(31, some 5)], [0, 1, 2, 3, 4, 5, 6], [0], false⟩, ⟨[], [0, 1, 2, 3, 4, 5, 6, 7], [0], false⟩]) (S := []) (plan := [0, 1, 2, 3, 4, 5, 6, 7, 8]) mo (by kernel_rfl) rfl rfl rfl (dcons (dst1 (Tm := [(5, (SL 1 cI x1.1))]) (L := []) (H := ⟨0, []⟩) rfl rfl rfl rfl rfl (asd rfl (emv (eV (v := (SL 1 cI x1.1)) rfl)))) (dcons (dst1 (Tm := [(26, (SL 1 cI x1.1))]) (L := []) (H := ⟨0, []⟩) rfl rfl rfl rfl rfl (asd rfl (tx_idxD (c := cI) (xs := x1.1) (i := 1) ceI Try.underlying59 s_3 rfl rfl hx6))) (dcons (dst1 (Tm := [(27, (DP (cI x6)))]) (L := []) (H := ⟨0, []⟩) rfl rfl rfl rfl rfl (asd rfl (tx_ldD1 (v := (I x6)) Try.underlying3 rfl rfl rfl))) (dcons (dst1 (Tm := [(5, (SL 1 cI x1.1))]) (L := []) (H := ⟨0, []⟩) rfl rfl rfl rfl rfl (asd rfl (emv (eV (v := (SL 1 cI x1.1)) rfl)))) (dcons (dst1 (Tm := [(29, (SL 1 cI x1.1))]) (L := []) (H := ⟨0, []⟩) rfl rfl rfl rfl rfl (asd rfl (tx_idxD (c := cI) (xs := x1.1) (i := 2) ceI Try.underlying59 s_3 rfl rfl hx7))) (dcons (dst1 (Tm := [(30, (DP (cI x7)))]) (L := []) (H := ⟨0, []⟩) rfl rfl rfl rfl rfl (asd rfl (tx_ldD1 (v := (I x7)) Try.underlying3 rfl rfl rfl))) (dcons (dst1 (Tm := [(28, (I x6))]) (L := []) (H := ⟨0, []⟩) rfl rfl rfl rfl rfl (asd rfl (eas (eV (v := (I x6)) rfl)))) (dcons (dst1 (Tm := [(31, (I x7))]) (L := []) (H := ⟨0, []⟩) rfl rfl rfl rfl rfl (asd rfl (eas (eV (v := (I x7)) rfl)))) (dcons (dst1 (Tm := []) (L := []) (H := ⟨0, []⟩) rfl rfl rfl rfl rfl (asd rfl (eas (eV (v := (Bo true)) rfl)))) dnil))))))))) ⟨rfl, rfl⟩) (by kernel_rfl) (by kernel_rfl) ?_
    show AWp _ _ _ _
    refine awp_ret ?_
    cases h
    exact aresN rfl (L2.cons (rtmp rfl (eV rfl)) (L2.cons (rtmp rfl (eV rfl)) (L2.cons (rtmp rfl (eV rfl)) L2.nil))) rfl

noncomputable def M_label_Found_l1 (t0 : GDv) : Nat → Int → Option (Int × Int × Bool)
  | 0, _ => none
  | n1 + 1, v1 =>
  cond (decide (v1 < 4)) (Option.bind (M_label_At (w64 ((t0.Last.length : Int) - 28)) v1) fun (x3 : Int) => Option.bind (M_dev_Read t0 x3) fun (x4 : (Str × Bool)) => Option.bind (M_uber_TakeConfig x4.1) fun (x5 : (Int × Int × Bool)) => cond ((x4.2 && x5.2.2) && (x5.2.1 == (w64 ((t0.Last.length : Int) - 28)))) (some (x5.1, x5.2.1, true)) ((M_label_Found_l1 t0 n1) (w64 (v1 + 1)))) (some (0, 0, false))
noncomputable def M_label_Found (t0 : GDv) : Option (Int × Int × Bool) :=
  M_label_Found_l1 t0 fuel 0
theorem ok_label_Found (t0 : GDv) (r : (Int × Int × Bool)) (h : M_label_Found t0 = some r) : FFn Try.prog 24 [(Value.agg (cDv t0).toArray)] (Value.tuple #[(I r.1), (I r.2.1), (Bo r.2.2)]) := by
  refine FFn.of_body (n := 45) Try.func24 rfl Try.ntmps24 rfl rfl rfl rfl ?_
  show AWp _ _ _ ⟨45, 0, [(0, (Value.agg (cDv t0).toArray))], [], ⟨0, []⟩⟩
  unfold M_label_Found at h
  refine aws ?_
  refine awr ?_
  refine ado rfl rfl rfl (ex_box (vx := (Value.agg (cDv t0).toArray)) (cs := (cDv t0)) (k := 0) (L' := [(cDv t0)]) (eV (v := (Value.agg (cDv t0).toArray)) rfl) rfl rfl rfl) ?_
  refine ado rfl rfl rfl (eas (eV (v := (I 0)) rfl)) ?_
  refine ado rfl rfl rfl (eas (eV (v := (I 0)) rfl)) ?_
  refine ado rfl rfl rfl (eas (eV (v := (Bo false)) rfl)) ?_
  refine ake [1] 1 0 (st' := ⟨45, 0, [(1, (LP 0 0))], [(cDv t0)], ⟨0, []⟩⟩) (by kernel_rfl) (by kernel_rfl) ?_
  show AWp _ _ _ _
  refine aws ?_
  refine awr ?_
  refine ado rfl rfl rfl (efa (v := (LP 0 0)) Try.underlying29 rfl s_26 (by decide) rfl rfl) ?_
  refine ado rfl rfl rfl (tx_ldL1 (v := (SL 1 cS t0.Last)) Try.underlying26 rfl rfl rfl rfl) ?_
  refine ado rfl rfl rfl (tx_lenD (xs := t0.Last) ceS Try.underlying26 rfl) ?_
  refine ado rfl rfl rfl (ex_bin (vx := (I (t0.Last.length : Int))) (vy := (I 28)) rfl rfl subI_ok) ?_
  refine ado rfl rfl rfl (eas (eV (v := (I (w64 ((t0.Last.length : Int) - 28)))) rfl)) ?_
  refine ake [1, 5] 1 0 (st' := ⟨45, 0, [(1, (LP 0 0)), (5, (I (w64 ((t0.Last.length : Int) - 28))))], [(cDv t0)], ⟨0, []⟩⟩) (by kernel_rfl) (by kernel_rfl) ?_
  show AWp _ _ _ _
  refine aws ?_
  refine aws ?_
  refine awr ?_
  refine ado rfl rfl rfl (emv (eV (v := (I 0)) rfl)) ?_
  refine ake [1, 5, 16] 1 0 (st' := ⟨45, 0, [(1, (LP 0 0)), (5, (I (w64 ((t0.Last.length : Int) - 28)))), (16, (I 0))], [(cDv t0)], ⟨0, []⟩⟩) (by kernel_rfl) (by kernel_rfl) ?_
  show AWp _ _ _ _
  refine awp_block ?_
  refine awp_loop (fun n s => ∃ (v1 : Int), s = ⟨45, 0, [(1, (LP 0 0)), (5, (I (w64 ((t0.Last.length : Int) - 28)))), (16, (I v1))], [(cDv t0)], ⟨0, []⟩⟩ ∧ M_label_Found_l1 t0 n v1 = some r) fuel (Exists.intro 0 (And.intro rfl h)) ?_
  rintro n s ⟨v1, rfl, h⟩ -
  cases n with
  | zero => cases h
  | succ n1 =>
    unfold M_label_Found_l1 at h
    refine aws ?_
    refine awr ?_
    refine ado rfl rfl rfl (ex_bin (vx := (I v1)) (vy := (I 4)) rfl rfl lssI_ok) ?_
    refine ake [1, 5, 16, 17] 1 0 (st' := ⟨45, 0, [(1, (LP 0 0)), (5, (I (w64 ((t0.Last.length : Int) - 28)))), (16, (I v1)), (17, (Bo (decide (v1 < 4))))], [(cDv t0)], ⟨0, []⟩⟩) (by kernel_rfl) (by kernel_rfl) ?_
    show AWp _ _ _ _
    refine aws ?_
    rcases Bool.eq_false_or_eq_true (decide (v1 < 4)) with hb2 | hb2
    · rw [condT hb2] at h
      refine awp_condT (boT hb2) ?_
      refine awp_skip ?_
      show AWp _ _ _ _
      refine aws ?_
      refine awp_block ?_
      refine aws ?_
      refine awr ?_
      refine ado rfl rfl rfl (emv (eV (v := (I v1)) rfl)) ?_
      refine ado rfl rfl rfl (eas (eV (v := (I v1)) rfl)) ?_
      refine ake [1, 5, 6, 16] 1 0 (st' := ⟨45, 0, [(1, (LP 0 0)), (5, (I (w64 ((t0.Last.length : Int) - 28)))), (6, (I v1)), (16, (I v1))], [(cDv t0)], ⟨0, []⟩⟩) (by kernel_rfl) (by kernel_rfl) ?_
      show AWp _ _ _ _
      refine aws ?_
      obtain ⟨x3, hx3, h⟩ := bindS h
      obtain ⟨x4, hx4, h⟩ := bindS h
      refine awp_kn [1, 5, 7, 8, 16] 1 0 (st' := ⟨45, 0, [(1, (LP 0 0)), (5, (I (w64 ((t0.Last.length : Int) - 28)))), (7, (S x4.1)), (8, (Bo x4.2)), (16, (I v1))], [(cDv t0)], ⟨0, []⟩⟩) (awp_draw (T := [(Value.agg (cDv t0).toArray), (I (w64 ((t0.Last.length : Int) - 28))), (I v1), (I x3), (Value.tuple #[(S x4.1), (Bo x4.2)]), (Value.tuple #[(S x4.1), (Bo x4.2)]), (S x4.1), (Bo x4.2), (S x4.1), (Bo x4.2)]) (LH := [([(cDv t0)], ⟨0, []⟩)]) (D := [⟨[(1, none)], [], [0], false⟩, ⟨[(5, none)], [], [0], false⟩, ⟨[(6, none)], [], [0], false⟩, ⟨[(21, some 1), (22, some 2)], [1, 2], [0], false⟩, ⟨[(20, some 0), (23, some 3)], [0, 1, 2, 3], [0], false⟩, ⟨[(24, some 4)], [0, 1, 2, 3, 4], [0], false⟩, ⟨[(19, some 5)], [0, 1, 2, 3, 4, 5], [0], false⟩, ⟨[(19, some 5)], [0, 1, 2, 3, 4, 5], [0], false⟩, ⟨[(25, some 6)], [0, 1, 2, 3, 4, 5, 6], [0], false⟩, ⟨[(26, some 7)], [0, 1, 2, 3, 4, 5, 6, 7, 8], [0], false⟩]) (S := []) (plan := [0, 1, 2, 3, 4, 5, 6, 7, 8, 9]) mo (by kernel_rfl) rfl rfl rfl (dcons (dst1 (Tm := [(1, (LP 0 0))]) (L := [(cDv t0)]) (H := ⟨0, []⟩) rfl rfl rfl rfl rfl (asd rfl (tx_ldLA (vs := (cDv t0)) Try.underlying29 rfl s_29 (by decide) rfl rfl rfl rfl))) (dcons (dst1 (Tm := [(5, (I (w64 ((t0.Last.length : Int) - 28))))]) (L := [(cDv t0)]) (H := ⟨0, []⟩) rfl rfl rfl rfl rfl (asd rfl (emv (eV (v := (I (w64 ((t0.Last.length : Int) - 28)))) rfl)))) (dcons (dst1 (Tm := [(6, (I v1))]) (L := [(cDv t0)]) (H := ⟨0, []⟩) rfl rfl rfl rfl rfl (asd rfl (emv (eV (v := (I v1)) rfl)))) (dcons (dst1 (Tm := [(21, (I (w64 ((t0.Last.length : Int) - 28)))), (22, (I v1))]) (L := [(cDv t0)]) (H := ⟨0, []⟩) rfl rfl rfl rfl rfl (asd rfl (ex_call0 (vs := [(I (w64 ((t0.Last.length : Int) - 28))), (I v1)]) (v := (I x3)) rfl en_10 (cargs (evs rfl (evs rfl evs_nil))) rfl (ok_label_At (w64 ((t0.Last.length : Int) - 28)) v1 x3 hx3) rfl))) (dcons (dst1 (Tm := [(20, (Value.agg (cDv t0).toArray)), (23, (I x3))]) (L := [(cDv t0)]) (H := ⟨0, []⟩) rfl rfl rfl rfl rfl (asd rfl (ex_call0 (vs := [(Value.agg (cDv t0).toArray), (I x3)]) (v := (Value.tuple #[(S x4.1), (Bo x4.2)])) rfl en_40 (cargs (evs rfl (evs rfl evs_nil))) rfl (ok_dev_Read t0 x3 x4 hx4) rfl))) (dcons (dst1 (Tm := [(24, (Value.tuple #[(S x4.1), (Bo x4.2)]))]) (L := [(cDv t0)]) (H := ⟨0, []⟩) rfl rfl rfl rfl rfl (asd rfl (emv (eV (v := (Value.tuple #[(S x4.1), (Bo x4.2)])) rfl)))) (dcons (dst1 (Tm := [(19, (Value.tuple #[(S x4.1), (Bo x4.2)]))]) (L := [(cDv t0)]) (H := ⟨0, []⟩) rfl rfl rfl rfl rfl (asd rfl (ex_extract (vx := (Value.tuple #[(S x4.1), (Bo x4.2)])) (v := (S x4.1)) rfl rfl))) (dcons (dst1 (Tm := [(19, (Value.tuple #[(S x4.1), (Bo x4.2)]))]) (L := [(cDv t0)]) (H := ⟨0, []⟩) rfl rfl rfl rfl rfl (asd rfl (ex_extract (vx := (Value.tuple #[(S x4.1), (Bo x4.2)])) (v := (Bo x4.2)) rfl rfl))) (dcons (dst1 (Tm := [(25, (S x4.1))]) (L := [(cDv t0)]) (H := ⟨0, []⟩) rfl rfl rfl rfl rfl (asd rfl (eas (eV (v := (S x4.1)) rfl)))) (dcons (dst1 (Tm := [(26, (Bo x4.2))]) (L := [(cDv t0)]) (H := ⟨0, []⟩) rfl rfl rfl rfl rfl (asd rfl (eas (eV (v := (Bo x4.2)) rfl)))) dnil)))))))))) ⟨rfl, rfl⟩) (by kernel_rfl) (by kernel_rfl) ?_
      show AWp _ _ _ _
      refine aws ?_
      refine awr ?_
      refine ado rfl rfl rfl (emv (eV (v := (S x4.1)) rfl)) ?_
      obtain ⟨x5, hx5, h⟩ := bindS h
      refine ado rfl rfl rfl (ex_call0 (vs := [(S x4.1)]) (v := (Value.tuple #[(I x5.1), (I x5.2.1), (Bo x5.2.2)])) rfl en_41 (cargs (evs rfl evs_nil)) rfl (ok_uber_TakeConfig x4.1 x5 hx5) rfl) ?_
      refine ado rfl rfl rfl (emv (eV (v := (Value.tuple #[(I x5.1), (I x5.2.1), (Bo x5.2.2)])) rfl)) ?_
      refine ado rfl rfl rfl (ex_extract (vx := (Value.tuple #[(I x5.1), (I x5.2.1), (Bo x5.2.2)])) (v := (I x5.1)) rfl rfl) ?_
      refine ado rfl rfl rfl (ex_extract (vx := (Value.tuple #[(I x5.1), (I x5.2.1), (Bo x5.2.2)])) (v := (I x5.2.1)) rfl rfl) ?_
      refine ado rfl rfl rfl (ex_extract (vx := (Value.tuple #[(I x5.1), (I x5.2.1), (Bo x5.2.2)])) (v := (Bo x5.2.2)) rfl rfl) ?_
      refine ado rfl rfl rfl (eas (eV (v := (I x5.1)) rfl)) ?_
      refine ado rfl rfl rfl (eas (eV (v := (I x5.2.1)) rfl)) ?_
      refine ado rfl rfl rfl (eas (eV (v := (Bo x5.2.2)) rfl)) ?_
      refine ake [1, 5, 8, 9, 10, 11, 16] 1 0 (st' := ⟨45, 0, [(1, (LP 0 0)), (5, (I (w64 ((t0.Last.length : Int) - 28)))), (8, (Bo x4.2)), (9, (I x5.1)), (10, (I x5.2.1)), (11, (Bo x5.2.2)), (16, (I v1))], [(cDv t0)], ⟨0, []⟩⟩) (by kernel_rfl) (by kernel_rfl) ?_
      show AWp _ _ _ _
      refine aws ?_
      refine awr ?_
      refine ado rfl rfl rfl (emv (eV (v := (Bo x4.2)) rfl)) ?_
      refine ado rfl rfl rfl (emv (eV (v := (Bo x4.2)) rfl)) ?_
      refine agu (v := (Bo x5.2.2)) (x4.2 == true) rfl rfl rfl (fun hc => emv (eV (v := (Bo x5.2.2)) rfl)) ?_
      refine ado rfl rfl rfl (ex_pick rfl pkAnd) ?_
      refine ado rfl rfl rfl (emv (eV (v := (Bo (x4.2 && x5.2.2))) rfl)) ?_
      refine agu (v := (I x5.2.1)) ((x4.2 && x5.2.2) == true) rfl rfl rfl (fun hc => emv (eV (v := (I x5.2.1)) rfl)) ?_
      refine agu (v := (I (w64 ((t0.Last.length : Int) - 28)))) ((x4.2 && x5.2.2) == true) rfl rfl rfl (fun hc => emv (eV (v := (I (w64 ((t0.Last.length : Int) - 28)))) rfl)) ?_
      refine agu (v := (Bo (x5.2.1 == (w64 ((t0.Last.length : Int) - 28))))) ((x4.2 && x5.2.2) == true) rfl rfl rfl (fun hc => ex_bin (vx := (I x5.2.1)) (vy := (I (w64 ((t0.Last.length : Int) - 28)))) (cdo hc) (cdo hc) eqlI_ok) ?_
      refine ado rfl rfl rfl (ex_pick rfl pkAnd) ?_
      refine ake [1, 5, 9, 10, 16, 41] 1 0 (st' := ⟨45, 0, [(1, (LP 0 0)), (5, (I (w64 ((t0.Last.length : Int) - 28)))), (9, (I x5.1)), (10, (I x5.2.1)), (16, (I v1)), (41, (Bo ((x4.2 && x5.2.2) && (x5.2.1 == (w64 ((t0.Last.length : Int) - 28))))))], [(cDv t0)], ⟨0, []⟩⟩) (by kernel_rfl) (by kernel_rfl) ?_
      show AWp _ _ _ _
      rcases Bool.eq_false_or_eq_true ((x4.2 && x5.2.2) && (x5.2.1 == (w64 ((t0.Last.length : Int) - 28)))) with hb6 | hb6
      · rw [condT hb6] at h
        refine awp_condT (boT hb6) ?_
        refine aws ?_
        refine awr ?_
        refine ado rfl rfl rfl (emv (eV (v := (I x5.1)) rfl)) ?_
        refine ado rfl rfl rfl (emv (eV (v := (I x5.2.1)) rfl)) ?_
        refine ado rfl rfl rfl (eas (eV (v := (I x5.1)) rfl)) ?_
        refine ado rfl rfl rfl (eas (eV (v := (I x5.2.1)) rfl)) ?_
        refine ado rfl rfl rfl (eas (eV (v := (Bo true)) rfl)) ?_
        refine ake [2, 3, 4] 0 0 (st' := ⟨45, 0, [(2, (I x5.1)), (3, (I x5.2.1)), (4, (Bo true))], [], ⟨0, []⟩⟩) (by kernel_rfl) (by kernel_rfl) ?_
        show AWp _ _ _ _
        refine awp_ret ?_
        cases h
        exact aresN rfl (L2.cons (rtmp rfl (eV rfl)) (L2.cons (rtmp rfl (eV rfl)) (L2.cons (rtmp rfl (eV rfl)) L2.nil))) rfl
      · rw [condF hb6] at h
        refine awp_condF (boF hb6) ?_
        refine awp_skip ?_
        show AWp _ _ _ _
        refine awr ?_
        refine ado rfl rfl rfl (ex_bin (vx := (I v1)) (vy := (I 1)) rfl rfl addI_ok) ?_
        refine ado rfl rfl rfl (emv (eV (v := (I (w64 (v1 + 1)))) rfl)) ?_
        refine ake [1, 5, 16] 1 0 (st' := ⟨45, 0, [(1, (LP 0 0)), (5, (I (w64 ((t0.Last.length : Int) - 28)))), (16, (I (w64 (v1 + 1))))], [(cDv t0)], ⟨0, []⟩⟩) (by kernel_rfl) (by kernel_rfl) ?_
        exact Exists.intro n1 (And.intro (Nat.lt_succ_self _) (Exists.intro (w64 (v1 + 1)) (And.intro rfl h)))
    · rw [condF hb2] at h
      refine awp_condF (boF hb2) ?_
      refine awp_exit ?_
      show AWp _ _ _ _
      refine aws ?_
      refine awr ?_
      refine ado rfl rfl rfl (eas (eV (v := (I 0)) rfl)) ?_
      refine ado rfl rfl rfl (eas (eV (v := (I 0)) rfl)) ?_
      refine ado rfl rfl rfl (eas (eV (v := (Bo false)) rfl)) ?_
      refine ake [2, 3, 4] 0 0 (st' := ⟨45, 0, [(2, (I 0)), (3, (I 0)), (4, (Bo false))], [], ⟨0, []⟩⟩) (by kernel_rfl) (by kernel_rfl) ?_
      show AWp _ _ _ _
      refine awp_ret ?_
      cases h
      exact aresN rfl (L2.cons (rtmp rfl (eV rfl)) (L2.cons (rtmp rfl (eV rfl)) (L2.cons (rtmp rfl (eV rfl)) L2.nil))) rfl

noncomputable def M_ref1_num (t0 : Int) : Option Bool :=
  some ((decide (t0 ≥ 0)) && (decide (t0 ≤ 1073741824)))
theorem ok_ref1_num (t0 : Int) (r : Bool) (h : M_ref1_num t0 = some r) : FFn Try.prog 35 [(I t0)] (Bo r) := by
  refine FFn.of_body (n := 9) Try.func35 rfl Try.ntmps35 rfl rfl rfl rfl ?_
  show AWp _ _ _ ⟨9, 0, [(0, (I t0))], [], ⟨0, []⟩⟩
  unfold M_ref1_num at h
  refine aws ?_
  refine awr ?_
  refine ado rfl rfl rfl (eas (eV (v := (Bo false)) rfl)) ?_
  refine ake [0] 0 0 (st' := ⟨9, 0, [(0, (I t0))], [], ⟨0, []⟩⟩) (by kernel_rfl) (by kernel_rfl) ?_
  show AWp _ _ _ _
  refine aws ?_
  refine awr ?_
  refine ado rfl rfl rfl (emv (eV (v := (I t0)) rfl)) ?_
  refine ado rfl rfl rfl (ex_bin (vx := (I t0)) (vy := (I 0)) rfl rfl geqI_ok) ?_
  refine ado rfl rfl rfl (emv (eV (v := (Bo (decide (t0 ≥ 0)))) rfl)) ?_
  refine agu (v := (I t0)) ((decide (t0 ≥ 0)) == true) rfl rfl rfl (fun hc => emv (eV (v := (I t0)) rfl)) ?_
  refine agu (v := (Bo (decide (t0 ≤ 1073741824)))) ((decide (t0 ≥ 0)) == true) rfl rfl rfl (fun hc => ex_bin (vx := (I t0)) (vy := (I 1073741824)) (cdo hc) rfl leqI_ok) ?_
  refine ado rfl rfl rfl (ex_pick rfl pkAnd) ?_
  refine ado rfl rfl rfl (eas (eV (v := (Bo ((decide (t0 ≥ 0)) && (decide (t0 ≤ 1073741824))))) rfl)) ?_
  refine ake [2] 0 0 (st' := ⟨9, 0, [(2, (Bo ((decide (t0 ≥ 0)) && (decide (t0 ≤ 1073741824)))))], [], ⟨0, []⟩⟩) (by kernel_rfl) (by kernel_rfl) ?_
  show AWp _ _ _ _
  refine awp_ret ?_
  cases h
  exact ares1 (rtmp rfl (eV rfl))

noncomputable def M_ref1_mayData (t0 : Int) : Option Bool :=
  some ((decide (t0 ≥ 40)) && (decide (t0 ≤ 240)))
theorem ok_ref1_mayData (t0 : Int) (r : Bool) (h : M_ref1_mayData t0 = some r) : FFn Try.prog 30 [(I t0)] (Bo r) := by
  refine FFn.of_body (n := 9) Try.func30 rfl Try.ntmps30 rfl rfl rfl rfl ?_
  show AWp _ _ _ ⟨9, 0, [(0, (I t0))], [], ⟨0, []⟩⟩
  unfold M_ref1_mayData at h
  refine aws ?_
  refine awr ?_
  refine ado rfl rfl rfl (eas (eV (v := (Bo false)) rfl)) ?_
  refine ake [0] 0 0 (st' := ⟨9, 0, [(0, (I t0))], [], ⟨0, []⟩⟩) (by kernel_rfl) (by kernel_rfl) ?_
  show AWp _ _ _ _
  refine aws ?_
  refine awr ?_
  refine ado rfl rfl rfl (emv (eV (v := (I t0)) rfl)) ?_
  refine ado rfl rfl rfl (ex_bin (vx := (I t0)) (vy := (I 40)) rfl rfl geqI_ok) ?_
  refine ado rfl rfl rfl (emv (eV (v := (Bo (decide (t0 ≥ 40)))) rfl)) ?_
  refine agu (v := (I t0)) ((decide (t0 ≥ 40)) == true) rfl rfl rfl (fun hc => emv (eV (v := (I t0)) rfl)) ?_
  refine agu (v := (Bo (decide (t0 ≤ 240)))) ((decide (t0 ≥ 40)) == true) rfl rfl rfl (fun hc => ex_bin (vx := (I t0)) (vy := (I 240)) (cdo hc) rfl leqI_ok) ?_
  refine ado rfl rfl rfl (ex_pick rfl pkAnd) ?_
  refine ado rfl rfl rfl (eas (eV (v := (Bo ((decide (t0 ≥ 40)) && (decide (t0 ≤ 240))))) rfl)) ?_
  refine ake [2] 0 0 (st' := ⟨9, 0, [(2, (Bo ((decide (t0 ≥ 40)) && (decide (t0 ≤ 240)))))], [], ⟨0, []⟩⟩) (by kernel_rfl) (by kernel_rfl) ?_
  show AWp _ _ _ _
  refine awp_ret ?_
  cases h
  exact ares1 (rtmp rfl (eV rfl))

end Go.Proofs
