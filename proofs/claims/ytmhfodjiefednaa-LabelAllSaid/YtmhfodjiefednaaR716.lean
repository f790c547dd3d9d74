/- Pure models of functions of the program, and that its code does what they say: palimpref1 TakeConfig, palimpref1 Found, palimpref1 TakePtrs. Written by a program. -/
import Derived.Test.YtmhfodjiefednaaR712
import Derived.Test.YtmhfodjiefednaaR715
import Derived.Test.YtmhfodjiefednaaR75
import Derived.Test.YtmhfodjiefednaaR77
import Derived.Test.YtmhfodjiefednaaR7B
set_option maxRecDepth 20000
set_option maxHeartbeats 4000000
namespace Go.Proofs
open Go Go.Fhl
set_option linter.unusedVariables false
set_option linter.unusedSimpArgs false
noncomputable def M_ref1_TakeConfig (t0 : Str) : Option (Int × Int × Bool) :=
  Option.bind (M_ref1_Take ([49, 52, 50] : Str) t0) fun (x1 : ((List Int) × Str × Bool)) => Option.bind (gd ((!x1.2.2) == false) (getI x1.1 1)) fun (x2 : Int) => Option.bind (gd ((!x1.2.2) == false) (getI x1.1 2)) fun (x3 : Int) => Option.bind (gd ((!x1.2.2) == false) (M_ref1_Config x2 x3)) fun (x4 : Str) => cond ((!x1.2.2) || (x4 != t0)) (some (0, 0, false)) (Option.bind (getI x1.1 1) fun (x6 : Int) => Option.bind (getI x1.1 2) fun (x7 : Int) => some (x6, x7, true))
theorem ok_ref1_TakeConfig (t0 : Str) (r : (Int × Int × Bool)) (h : M_ref1_TakeConfig t0 = some r) : FFn Try.prog 43 [(S t0)] (Value.tuple #[(I r.1), (I r.2.1), (Bo r.2.2)]) := by
  refine FFn.of_body (n := 33) Try.func43 rfl Try.ntmps43 rfl rfl rfl rfl ?_
  show AWp _ _ _ ⟨33, 0, [(0, (S t0))], [], ⟨0, []⟩⟩
  unfold M_ref1_TakeConfig at h
  refine aws ?_
  refine awr ?_
  refine ado rfl rfl rfl (eas (eV (v := (I 0)) rfl)) ?_
  refine ado rfl rfl rfl (eas (eV (v := (I 0)) rfl)) ?_
  refine ado rfl rfl rfl (eas (eV (v := (Bo false)) rfl)) ?_
  refine ake [0] 0 0 (st' := ⟨33, 0, [(0, (S t0))], [], ⟨0, []⟩⟩) (by kernel_rfl) (by kernel_rfl) ?_
  show AWp _ _ _ _
  refine aws ?_
  refine awr ?_
  refine ado rfl rfl rfl (emv (eV (v := (S t0)) rfl)) ?_
  obtain ⟨x1, hx1, h⟩ := bindS h
  refine ado rfl rfl rfl (ex_call0 (vs := [(S ([49, 52, 50] : Str)), (S t0)]) (v := (Value.tuple #[(SL 1 cI x1.1), (S x1.2.1), (Bo x1.2.2)])) rfl en_59 (cargs (evs rfl (evs rfl evs_nil))) rfl (ok_ref1_Take ([49, 52, 50] : Str) t0 x1 hx1) rfl) ?_
  refine ado rfl rfl rfl (emv (eV (v := (Value.tuple #[(SL 1 cI x1.1), (S x1.2.1), (Bo x1.2.2)])) rfl)) ?_
  refine ado rfl rfl rfl (ex_extract (vx := (Value.tuple #[(SL 1 cI x1.1), (S x1.2.1), (Bo x1.2.2)])) (v := (SL 1 cI x1.1)) rfl rfl) ?_
  refine ado rfl rfl rfl (ex_extract (vx := (Value.tuple #[(SL 1 cI x1.1), (S x1.2.1), (Bo x1.2.2)])) (v := (S x1.2.1)) rfl rfl) ?_
  refine ado rfl rfl rfl (ex_extract (vx := (Value.tuple #[(SL 1 cI x1.1), (S x1.2.1), (Bo x1.2.2)])) (v := (Bo x1.2.2)) rfl rfl) ?_
  refine ado rfl rfl rfl (eas (eV (v := (SL 1 cI x1.1)) rfl)) ?_
  refine ado rfl rfl rfl (eas (eV (v := (S x1.2.1)) rfl)) ?_
  refine ado rfl rfl rfl (eas (eV (v := (Bo x1.2.2)) rfl)) ?_
  refine ake [0, 5, 7] 0 0 (st' := ⟨33, 0, [(0, (S t0)), (5, (SL 1 cI x1.1)), (7, (Bo x1.2.2))], [], ⟨0, []⟩⟩) (by kernel_rfl) (by kernel_rfl) ?_
  show AWp _ _ _ _
  refine aws ?_
  refine aws ?_
  obtain ⟨x2, hx2, h⟩ := bindS h
  obtain ⟨x3, hx3, h⟩ := bindS h
  obtain ⟨x4, hx4, h⟩ := bindS h
  refine awp_kn [5, 26] 0 0 (st' := ⟨33, 0, [(5, (SL 1 cI x1.1)), (26, (Bo ((!x1.2.2) || (x4 != t0))))], [], ⟨0, []⟩⟩) (awp_draw (T := [(Bo x1.2.2), (Bo (!x1.2.2)), (Bo (!x1.2.2)), (cond ((!x1.2.2) == false) (SL 1 cI x1.1) skipV), (cond ((!x1.2.2) == false) (DP (cI x2)) skipV), (cond ((!x1.2.2) == false) (I x2) skipV), (cond ((!x1.2.2) == false) (SL 1 cI x1.1) skipV), (cond ((!x1.2.2) == false) (DP (cI x3)) skipV), (cond ((!x1.2.2) == false) (I x3) skipV), (cond ((!x1.2.2) == false) (S x4) skipV), (cond ((!x1.2.2) == false) (S t0) skipV), (cond ((!x1.2.2) == false) (Bo (x4 != t0)) skipV), (Bo ((!x1.2.2) || (x4 != t0)))]) (LH := [([], ⟨0, []⟩)]) (D := [⟨[(7, none)], [], [0], false⟩, ⟨[(14, some 0)], [0], [0], false⟩, ⟨[(15, some 1)], [0, 1], [0], false⟩, ⟨[(5, none), (16, some 2)], [0, 1, 2], [0], false⟩, ⟨[(17, some 3), (16, some 2)], [0, 1, 2, 3], [0], false⟩, ⟨[(18, some 4), (16, some 2)], [0, 1, 2, 3, 4], [0], false⟩, ⟨[(5, none), (16, some 2)], [0, 1, 2], [0], false⟩, ⟨[(20, some 6), (16, some 2)], [0, 1, 2, 6], [0], false⟩, ⟨[(21, some 7), (16, some 2)], [0, 1, 2, 6, 7], [0], false⟩, ⟨[(19, some 5), (22, some 8), (16, some 2)], [0, 1, 2, 3, 4, 5, 6, 7, 8], [0], false⟩, ⟨[(0, none), (16, some 2)], [0, 1, 2], [0], false⟩, ⟨[(23, some 9), (24, some 10), (16, some 2)], [0, 1, 2, 3, 4, 5, 6, 7, 8, 9, 10], [0], false⟩, ⟨[(16, some 2), (25, some 11)], [0, 1, 2, 3, 4, 5, 6, 7, 8, 9, 10, 11], [0], false⟩]) (S := []) (plan := [0, 1, 2, 3, 4, 5, 6, 7, 8, 9, 10, 11, 12]) mo (by kernel_rfl) rfl rfl rfl (dcons (dst1 (Tm := [(7, (Bo x1.2.2))]) (L := []) (H := ⟨0, []⟩) rfl rfl rfl rfl rfl (asd rfl (emv (eV (v := (Bo x1.2.2)) rfl)))) (dcons (dst1 (Tm := [(14, (Bo x1.2.2))]) (L := []) (H := ⟨0, []⟩) rfl rfl rfl rfl rfl (asd rfl (ex_un (vx := (Bo x1.2.2)) rfl notB_ok))) (dcons (dst1 (Tm := [(15, (Bo (!x1.2.2)))]) (L := []) (H := ⟨0, []⟩) rfl rfl rfl rfl rfl (asd rfl (emv (eV (v := (Bo (!x1.2.2))) rfl)))) (dcons (dst1 (Tm := [(5, (SL 1 cI x1.1)), (16, (Bo (!x1.2.2)))]) (L := []) (H := ⟨0, []⟩) rfl rfl rfl rfl rfl (astep_guard (v := (SL 1 cI x1.1)) ((!x1.2.2) == false) rfl (fun hc => emv (eV (v := (SL 1 cI x1.1)) rfl)))) (dcons (dst1 (Tm := [(17, (cond ((!x1.2.2) == false) (SL 1 cI x1.1) skipV)), (16, (Bo (!x1.2.2)))]) (L := []) (H := ⟨0, []⟩) rfl rfl rfl rfl rfl (astep_guard (v := (DP (cI x2))) ((!x1.2.2) == false) rfl (fun hc => tx_idxD (c := cI) (xs := x1.1) (i := 1) ceI Try.underlying59 s_3 (cdo hc) rfl (gd_of hc hx2)))) (dcons (dst1 (Tm := [(18, (cond ((!x1.2.2) == false) (DP (cI x2)) skipV)), (16, (Bo (!x1.2.2)))]) (L := []) (H := ⟨0, []⟩) rfl rfl rfl rfl rfl (astep_guard (v := (I x2)) ((!x1.2.2) == false) rfl (fun hc => tx_ldD1 (v := (I x2)) Try.underlying3 rfl (cdo hc) rfl))) (dcons (dst1 (Tm := [(5, (SL 1 cI x1.1)), (16, (Bo (!x1.2.2)))]) (L := []) (H := ⟨0, []⟩) rfl rfl rfl rfl rfl (astep_guard (v := (SL 1 cI x1.1)) ((!x1.2.2) == false) rfl (fun hc => emv (eV (v := (SL 1 cI x1.1)) rfl)))) (dcons (dst1 (Tm := [(20, (cond ((!x1.2.2) == false) (SL 1 cI x1.1) skipV)), (16, (Bo (!x1.2.2)))]) (L := []) (H := ⟨0, []⟩) rfl rfl rfl rfl rfl (astep_guard (v := (DP (cI x3))) ((!x1.2.2) == false) rfl (fun hc => tx_idxD (c := cI) (xs := x1.1) (i := 2) ceI Try.underlying59 s_3 (cdo hc) rfl (gd_of hc hx3)))) (dcons (dst1 (Tm := [(21, (cond ((!x1.2.2) == false) (DP (cI x3)) skipV)), (16, (Bo (!x1.2.2)))]) (L := []) (H := ⟨0, []⟩) rfl rfl rfl rfl rfl (astep_guard (v := (I x3)) ((!x1.2.2) == false) rfl (fun hc => tx_ldD1 (v := (I x3)) Try.underlying3 rfl (cdo hc) rfl))) (dcons (dst1 (Tm := [(19, (cond ((!x1.2.2) == false) (I x2) skipV)), (22, (cond ((!x1.2.2) == false) (I x3) skipV)), (16, (Bo (!x1.2.2)))]) (L := []) (H := ⟨0, []⟩) rfl rfl rfl rfl rfl (astep_guard (v := (S x4)) ((!x1.2.2) == false) rfl (fun hc => ex_call0 (vs := [(I x2), (I x3)]) (v := (S x4)) rfl en_19 (cargs (evs (cdo hc) (evs (cdo hc) evs_nil))) rfl (ok_ref1_Config x2 x3 x4 (gd_of hc hx4)) rfl))) (dcons (dst1 (Tm := [(0, (S t0)), (16, (Bo (!x1.2.2)))]) (L := []) (H := ⟨0, []⟩) rfl rfl rfl rfl rfl (astep_guard (v := (S t0)) ((!x1.2.2) == false) rfl (fun hc => emv (eV (v := (S t0)) rfl)))) (dcons (dst1 (Tm := [(23, (cond ((!x1.2.2) == false) (S x4) skipV)), (24, (cond ((!x1.2.2) == false) (S t0) skipV)), (16, (Bo (!x1.2.2)))]) (L := []) (H := ⟨0, []⟩) rfl rfl rfl rfl rfl (astep_guard (v := (Bo (x4 != t0))) ((!x1.2.2) == false) rfl (fun hc => ex_bin (vx := (S x4)) (vy := (S t0)) (cdo hc) (cdo hc) neqS_ok))) (dcons (dst1 (Tm := [(16, (Bo (!x1.2.2))), (25, (cond ((!x1.2.2) == false) (Bo (x4 != t0)) skipV))]) (L := []) (H := ⟨0, []⟩) rfl rfl rfl rfl rfl (asd rfl (ex_pick rfl pkOr))) dnil))))))))))))) ⟨rfl, rfl⟩) (by kernel_rfl) (by kernel_rfl) ?_
  show AWp _ _ _ _
  rcases Bool.eq_false_or_eq_true ((!x1.2.2) || (x4 != t0)) with hb5 | hb5
  · rw [condT hb5] at h
    refine awp_condT (boT hb5) ?_
    refine aws ?_
    refine awr ?_
    refine ado rfl rfl rfl (eas (eV (v := (I 0)) rfl)) ?_
    refine ado rfl rfl rfl (eas (eV (v := (I 0)) rfl)) ?_
    refine ado rfl rfl rfl (eas (eV (v := (Bo false)) rfl)) ?_
    refine ake [2, 3, 4] 0 0 (st' := ⟨33, 0, [(2, (I 0)), (3, (I 0)), (4, (Bo false))], [], ⟨0, []⟩⟩) (by kernel_rfl) (by kernel_rfl) ?_
    show AWp _ _ _ _
    refine awp_ret ?_
    cases h
    exact aresN rfl (L2.cons (rtmp rfl (eV rfl)) (L2.cons (rtmp rfl (eV rfl)) (L2.cons (rtmp rfl (eV rfl)) L2.nil))) rfl
  · rw [condF hb5] at h
    refine awp_condF (boF hb5) ?_
    refine awp_skip ?_
    show AWp _ _ _ _
    refine aws ?_
    obtain ⟨x6, hx6, h⟩ := bindS h
    obtain ⟨x7, hx7, h⟩ := bindS h
    refine awp_kn [2, 3, 4] 0 0 (st' := ⟨33, 0, [(2, (I x6)), (3, (I x7)), (4, (Bo true))], [], ⟨0, []⟩⟩) (awp_draw (T := [(SL 1 cI x1.1), (DP (cI x6)), (I x6), (SL 1 cI x1.1), (DP (cI x7)), (I x7), (I x6), (I x7), (Bo true)]) (LH := [([], ⟨0, []⟩)]) (D := [⟨[(5, none)], [], [0], false⟩, ⟨[(27, some 0)], [0], [0], false⟩, ⟨[(28, some 1)], [0, 1], [0], false⟩, ⟨[(5, none)], [], [0], false⟩, ⟨[(30, some 3)], [3], [0], false⟩, ⟨[(31, some 4)], [3, 4], [0], false⟩, ⟨[(29, some 2)], [0, 1, 2], [0], false⟩, ⟨[(32, some 5)], [0, 1, 2, 3, 4, 5, 6], [0], false⟩, ⟨[], [0, 1, 2, 3, 4, 5, 6, 7], [0], false⟩]) (S := []) (plan := [0, 1, 2, 3, 4, 5, 6, 7, 8]) mo (by kernel_rfl) rfl rfl rfl (dcons (dst1 (Tm := [(5, (SL 1 cI x1.1))]) (L := []) (H := ⟨0, []⟩) rfl rfl rfl rfl rfl (asd rfl (emv (eV (v := (SL 1 cI x1.1)) rfl)))) (dcons (dst1 (Tm := [(27, (SL 1 cI x1.1))]) (L := []) (H := ⟨0, []⟩) rfl rfl rfl rfl rfl (asd rfl (tx_idxD (c := cI) (xs := x1.1) (i := 1) ceI Try.underlying59 s_3 rfl rfl hx6))) (dcons (dst1 (Tm := [(28, (DP (cI x6)))]) (L := []) (H := ⟨0, []⟩) rfl rfl rfl rfl rfl (asd rfl (tx_ldD1 (v := (I x6)) Try.underlying3 rfl rfl rfl))) (dcons (dst1 (Tm := [(5, (SL 1 cI x1.1))]) (L := []) (H := ⟨0, []⟩) rfl rfl rfl rfl rfl (asd rfl (emv (eV (v := (SL 1 cI x1.1)) rfl)))) (dcons (dst1 (Tm := [(30, (SL 1 cI x1.1))]) (L := []) (H := ⟨0, []⟩) rfl rfl rfl rfl rfl (asd rfl (tx_idxD (c := cI) (xs := x1.1) (i := 2) ceI Try.underlying59 s_3 rfl rfl hx7))) (dcons (dst1 (Tm := [(31, (DP (cI x7)))]) (L := []) (H := ⟨0, []⟩) rfl rfl rfl rfl rfl (asd rfl (tx_ldD1 (v := (I x7)) Try.underlying3 rfl rfl rfl))) (dcons (dst1 (Tm := [(29, (I x6))]) (L := []) (H := ⟨0, []⟩) rfl rfl rfl rfl rfl (asd rfl (eas (eV (v := (I x6)) rfl)))) (dcons (dst1 (Tm := [(32, (I x7))]) (L := []) (H := ⟨0, []⟩) rfl rfl rfl rfl rfl (asd rfl (eas (eV (v := (I x7)) rfl)))) (dcons (dst1 (Tm := []) (L := []) (H := ⟨0, []⟩) rfl rfl rfl rfl rfl (asd rfl (eas (eV (v := (Bo true)) rfl)))) dnil))))))))) ⟨rfl, rfl⟩) (by kernel_rfl) (by kernel_rfl) ?_
    show AWp _ _ _ _
    refine awp_ret ?_
    cases h
    exact aresN rfl (L2.cons (rtmp rfl (eV rfl)) (L2.cons (rtmp rfl (eV rfl)) (L2.cons (rtmp rfl (eV rfl)) L2.nil))) rfl

noncomputable def M_ref1_Found_l1 (t0 : GDv) : Nat → Int → Option (Int × Int × Bool)
  | 0, _ => none
  | n1 + 1, v3 =>
  cond (decide (v3 < 4)) (Option.bind (M_ref1_At (w64 ((t0.Last.length : Int) - 28)) v3) fun (x5 : Int) => Option.bind (M_ref1_Read t0 x5) fun (x6 : (Str × Bool)) => Option.bind (M_ref1_TakeConfig x6.1) fun (x7 : (Int × Int × Bool)) => cond (x7.2.2 && (x7.2.1 == (w64 ((t0.Last.length : Int) - 28)))) (some (x7.1, (w64 ((t0.Last.length : Int) - 28)), true)) ((M_ref1_Found_l1 t0 n1) (w64 (v3 + 1)))) (some (0, 0, false))
noncomputable def M_ref1_Found (t0 : GDv) : Option (Int × Int × Bool) :=
  Option.bind (gd (t0.Down == false) (M_ref1_mayData (w64 ((t0.Last.length : Int) - 28)))) fun (x1 : Bool) => cond (t0.Down || (!x1)) (some (0, 0, false)) (M_ref1_Found_l1 t0 fuel 0)
theorem ok_ref1_Found (t0 : GDv) (r : (Int × Int × Bool)) (h : M_ref1_Found t0 = some r) : FFn Try.prog 25 [(Value.agg (cDv t0).toArray)] (Value.tuple #[(I r.1), (I r.2.1), (Bo r.2.2)]) := by
  refine FFn.of_body (n := 49) Try.func25 rfl Try.ntmps25 rfl rfl rfl rfl ?_
  show AWp _ _ _ ⟨49, 0, [(0, (Value.agg (cDv t0).toArray))], [], ⟨0, []⟩⟩
  unfold M_ref1_Found at h
  refine aws ?_
  refine awr ?_
  refine ado rfl rfl rfl (ex_box (vx := (Value.agg (cDv t0).toArray)) (cs := (cDv t0)) (k := 0) (L' := [(cDv t0)]) (eV (v := (Value.agg (cDv t0).toArray)) rfl) rfl rfl rfl) ?_
  refine ado rfl rfl rfl (eas (eV (v := (I 0)) rfl)) ?_
  refine ado rfl rfl rfl (eas (eV (v := (I 0)) rfl)) ?_
  refine ado rfl rfl rfl (eas (eV (v := (Bo false)) rfl)) ?_
  refine ake [1] 1 0 (st' := ⟨49, 0, [(1, (LP 0 0))], [(cDv t0)], ⟨0, []⟩⟩) (by kernel_rfl) (by kernel_rfl) ?_
  show AWp _ _ _ _
  refine aws ?_
  refine awr ?_
  refine ado rfl rfl rfl (efa (v := (LP 0 0)) Try.underlying29 rfl s_26 (by decide) rfl rfl) ?_
  refine ado rfl rfl rfl (tx_ldL1 (v := (SL 1 cS t0.Last)) Try.underlying26 rfl rfl rfl rfl) ?_
  refine ado rfl rfl rfl (tx_lenD (xs := t0.Last) ceS Try.underlying26 rfl) ?_
  refine ado rfl rfl rfl (ex_bin (vx := (I (t0.Last.length : Int))) (vy := (I 28)) rfl rfl subI_ok) ?_
  refine ado rfl rfl rfl (eas (eV (v := (I (w64 ((t0.Last.length : Int) - 28)))) rfl)) ?_
  refine ake [1, 5] 1 0 (st' := ⟨49, 0, [(1, (LP 0 0)), (5, (I (w64 ((t0.Last.length : Int) - 28))))], [(cDv t0)], ⟨0, []⟩⟩) (by kernel_rfl) (by kernel_rfl) ?_
  show AWp _ _ _ _
  refine aws ?_
  refine aws ?_
  refine awr ?_
  refine ado rfl rfl rfl (efa (v := (LP 0 4)) Try.underlying29 rfl s_4 (by decide) rfl rfl) ?_
  refine ado rfl rfl rfl (tx_ldL1 (v := (Bo t0.Down)) Try.underlying4 rfl rfl rfl rfl) ?_
  refine ado rfl rfl rfl (emv (eV (v := (Bo t0.Down)) rfl)) ?_
  refine agu (v := (I (w64 ((t0.Last.length : Int) - 28)))) (t0.Down == false) rfl rfl rfl (fun hc => emv (eV (v := (I (w64 ((t0.Last.length : Int) - 28)))) rfl)) ?_
  obtain ⟨x1, hx1, h⟩ := bindS h
  refine agu (v := (Bo x1)) (t0.Down == false) rfl rfl rfl (fun hc => ex_call0 (vs := [(I (w64 ((t0.Last.length : Int) - 28)))]) (v := (Bo x1)) rfl en_30 (cargs (evs (cdo hc) evs_nil)) rfl (ok_ref1_mayData (w64 ((t0.Last.length : Int) - 28)) x1 (gd_of hc hx1)) rfl) ?_
  refine agu (v := (Bo (!x1))) (t0.Down == false) rfl rfl rfl (fun hc => ex_un (vx := (Bo x1)) (cdo hc) notB_ok) ?_
  refine ado rfl rfl rfl (ex_pick rfl pkOr) ?_
  refine ake [1, 5, 22] 1 0 (st' := ⟨49, 0, [(1, (LP 0 0)), (5, (I (w64 ((t0.Last.length : Int) - 28)))), (22, (Bo (t0.Down || (!x1))))], [(cDv t0)], ⟨0, []⟩⟩) (by kernel_rfl) (by kernel_rfl) ?_
  show AWp _ _ _ _
  rcases Bool.eq_false_or_eq_true (t0.Down || (!x1)) with hb2 | hb2
  · rw [condT hb2] at h
    refine awp_condT (boT hb2) ?_
    refine aws ?_
    refine awr ?_
    refine ado rfl rfl rfl (eas (eV (v := (I 0)) rfl)) ?_
    refine ado rfl rfl rfl (eas (eV (v := (I 0)) rfl)) ?_
    refine ado rfl rfl rfl (eas (eV (v := (Bo false)) rfl)) ?_
    refine ake [2, 3, 4] 0 0 (st' := ⟨49, 0, [(2, (I 0)), (3, (I 0)), (4, (Bo false))], [], ⟨0, []⟩⟩) (by kernel_rfl) (by kernel_rfl) ?_
    show AWp _ _ _ _
    refine awp_ret ?_
    cases h
    exact aresN rfl (L2.cons (rtmp rfl (eV rfl)) (L2.cons (rtmp rfl (eV rfl)) (L2.cons (rtmp rfl (eV rfl)) L2.nil))) rfl
  · rw [condF hb2] at h
    refine awp_condF (boF hb2) ?_
    refine awp_skip ?_
    show AWp _ _ _ _
    refine aws ?_
    refine aws ?_
    refine awr ?_
    refine ado rfl rfl rfl (eas (eV (v := (I 0)) rfl)) ?_
    refine ake [1, 5, 6] 1 0 (st' := ⟨49, 0, [(1, (LP 0 0)), (5, (I (w64 ((t0.Last.length : Int) - 28)))), (6, (I 0))], [(cDv t0)], ⟨0, []⟩⟩) (by kernel_rfl) (by kernel_rfl) ?_
    show AWp _ _ _ _
    refine awp_block ?_
    refine awp_loop (fun n s => ∃ (v3 : Int), s = ⟨49, 0, [(1, (LP 0 0)), (5, (I (w64 ((t0.Last.length : Int) - 28)))), (6, (I v3))], [(cDv t0)], ⟨0, []⟩⟩ ∧ M_ref1_Found_l1 t0 n v3 = some r) fuel (Exists.intro 0 (And.intro rfl h)) ?_
    rintro n s ⟨v3, rfl, h⟩ -
    cases n with
    | zero => cases h
    | succ n1 =>
      unfold M_ref1_Found_l1 at h
      refine aws ?_
      refine aws ?_
      refine awr ?_
      refine ado rfl rfl rfl (emv (eV (v := (I v3)) rfl)) ?_
      refine ado rfl rfl rfl (ex_bin (vx := (I v3)) (vy := (I 4)) rfl rfl lssI_ok) ?_
      refine ake [1, 5, 6, 24] 1 0 (st' := ⟨49, 0, [(1, (LP 0 0)), (5, (I (w64 ((t0.Last.length : Int) - 28)))), (6, (I v3)), (24, (Bo (decide (v3 < 4))))], [(cDv t0)], ⟨0, []⟩⟩) (by kernel_rfl) (by kernel_rfl) ?_
      show AWp _ _ _ _
      rcases Bool.eq_false_or_eq_true (decide (v3 < 4)) with hb4 | hb4
      · rw [condT hb4] at h
        refine awp_condT (boT hb4) ?_
        refine awp_skip ?_
        show AWp _ _ _ _
        refine aws ?_
        refine awp_block ?_
        refine aws ?_
        obtain ⟨x5, hx5, h⟩ := bindS h
        obtain ⟨x6, hx6, h⟩ := bindS h
        refine awp_kn [1, 5, 6, 7] 1 0 (st' := ⟨49, 0, [(1, (LP 0 0)), (5, (I (w64 ((t0.Last.length : Int) - 28)))), (6, (I v3)), (7, (S x6.1))], [(cDv t0)], ⟨0, []⟩⟩) (awp_draw (T := [(Value.agg (cDv t0).toArray), (I (w64 ((t0.Last.length : Int) - 28))), (I v3), (I x5), (Value.tuple #[(S x6.1), (Bo x6.2)]), (Value.tuple #[(S x6.1), (Bo x6.2)]), (S x6.1), (Bo x6.2), (S x6.1), (Bo x6.2)]) (LH := [([(cDv t0)], ⟨0, []⟩)]) (D := [⟨[(1, none)], [], [0], false⟩, ⟨[(5, none)], [], [0], false⟩, ⟨[(6, none)], [], [0], false⟩, ⟨[(29, some 1), (30, some 2)], [1, 2], [0], false⟩, ⟨[(28, some 0), (31, some 3)], [0, 1, 2, 3], [0], false⟩, ⟨[(32, some 4)], [0, 1, 2, 3, 4], [0], false⟩, ⟨[(27, some 5)], [0, 1, 2, 3, 4, 5], [0], false⟩, ⟨[(27, some 5)], [0, 1, 2, 3, 4, 5], [0], false⟩, ⟨[(33, some 6)], [0, 1, 2, 3, 4, 5, 6], [0], false⟩, ⟨[(34, some 7)], [0, 1, 2, 3, 4, 5, 6, 7, 8], [0], false⟩]) (S := []) (plan := [0, 1, 2, 3, 4, 5, 6, 7, 8, 9]) mo (by kernel_rfl) rfl rfl rfl (dcons (dst1 (Tm := [(1, (LP 0 0))]) (L := [(cDv t0)]) (H := ⟨0, []⟩) rfl rfl rfl rfl rfl (asd rfl (tx_ldLA (vs := (cDv t0)) Try.underlying29 rfl s_29 (by decide) rfl rfl rfl rfl))) (dcons (dst1 (Tm := [(5, (I (w64 ((t0.Last.length : Int) - 28))))]) (L := [(cDv t0)]) (H := ⟨0, []⟩) rfl rfl rfl rfl rfl (asd rfl (emv (eV (v := (I (w64 ((t0.Last.length : Int) - 28)))) rfl)))) (dcons (dst1 (Tm := [(6, (I v3))]) (L := [(cDv t0)]) (H := ⟨0, []⟩) rfl rfl rfl rfl rfl (asd rfl (emv (eV (v := (I v3)) rfl)))) (dcons (dst1 (Tm := [(29, (I (w64 ((t0.Last.length : Int) - 28)))), (30, (I v3))]) (L := [(cDv t0)]) (H := ⟨0, []⟩) rfl rfl rfl rfl rfl (asd rfl (ex_call0 (vs := [(I (w64 ((t0.Last.length : Int) - 28))), (I v3)]) (v := (I x5)) rfl en_11 (cargs (evs rfl (evs rfl evs_nil))) rfl (ok_ref1_At (w64 ((t0.Last.length : Int) - 28)) v3 x5 hx5) rfl))) (dcons (dst1 (Tm := [(28, (Value.agg (cDv t0).toArray)), (31, (I x5))]) (L := [(cDv t0)]) (H := ⟨0, []⟩) rfl rfl rfl rfl rfl (asd rfl (ex_call0 (vs := [(Value.agg (cDv t0).toArray), (I x5)]) (v := (Value.tuple #[(S x6.1), (Bo x6.2)])) rfl en_42 (cargs (evs rfl (evs rfl evs_nil))) rfl (ok_ref1_Read t0 x5 x6 hx6) rfl))) (dcons (dst1 (Tm := [(32, (Value.tuple #[(S x6.1), (Bo x6.2)]))]) (L := [(cDv t0)]) (H := ⟨0, []⟩) rfl rfl rfl rfl rfl (asd rfl (emv (eV (v := (Value.tuple #[(S x6.1), (Bo x6.2)])) rfl)))) (dcons (dst1 (Tm := [(27, (Value.tuple #[(S x6.1), (Bo x6.2)]))]) (L := [(cDv t0)]) (H := ⟨0, []⟩) rfl rfl rfl rfl rfl (asd rfl (ex_extract (vx := (Value.tuple #[(S x6.1), (Bo x6.2)])) (v := (S x6.1)) rfl rfl))) (dcons (dst1 (Tm := [(27, (Value.tuple #[(S x6.1), (Bo x6.2)]))]) (L := [(cDv t0)]) (H := ⟨0, []⟩) rfl rfl rfl rfl rfl (asd rfl (ex_extract (vx := (Value.tuple #[(S x6.1), (Bo x6.2)])) (v := (Bo x6.2)) rfl rfl))) (dcons (dst1 (Tm := [(33, (S x6.1))]) (L := [(cDv t0)]) (H := ⟨0, []⟩) rfl rfl rfl rfl rfl (asd rfl (eas (eV (v := (S x6.1)) rfl)))) (dcons (dst1 (Tm := [(34, (Bo x6.2))]) (L := [(cDv t0)]) (H := ⟨0, []⟩) rfl rfl rfl rfl rfl (asd rfl (eas (eV (v := (Bo x6.2)) rfl)))) dnil)))))))))) ⟨rfl, rfl⟩) (by kernel_rfl) (by kernel_rfl) ?_
        show AWp _ _ _ _
        refine aws ?_
        refine awr ?_
        refine ado rfl rfl rfl (emv (eV (v := (S x6.1)) rfl)) ?_
        obtain ⟨x7, hx7, h⟩ := bindS h
        refine ado rfl rfl rfl (ex_call0 (vs := [(S x6.1)]) (v := (Value.tuple #[(I x7.1), (I x7.2.1), (Bo x7.2.2)])) rfl en_43 (cargs (evs rfl evs_nil)) rfl (ok_ref1_TakeConfig x6.1 x7 hx7) rfl) ?_
        refine ado rfl rfl rfl (emv (eV (v := (Value.tuple #[(I x7.1), (I x7.2.1), (Bo x7.2.2)])) rfl)) ?_
        refine ado rfl rfl rfl (ex_extract (vx := (Value.tuple #[(I x7.1), (I x7.2.1), (Bo x7.2.2)])) (v := (I x7.1)) rfl rfl) ?_
        refine ado rfl rfl rfl (ex_extract (vx := (Value.tuple #[(I x7.1), (I x7.2.1), (Bo x7.2.2)])) (v := (I x7.2.1)) rfl rfl) ?_
        refine ado rfl rfl rfl (ex_extract (vx := (Value.tuple #[(I x7.1), (I x7.2.1), (Bo x7.2.2)])) (v := (Bo x7.2.2)) rfl rfl) ?_
        refine ado rfl rfl rfl (eas (eV (v := (I x7.1)) rfl)) ?_
        refine ado rfl rfl rfl (eas (eV (v := (I x7.2.1)) rfl)) ?_
        refine ado rfl rfl rfl (eas (eV (v := (Bo x7.2.2)) rfl)) ?_
        refine ake [1, 5, 6, 9, 10, 11] 1 0 (st' := ⟨49, 0, [(1, (LP 0 0)), (5, (I (w64 ((t0.Last.length : Int) - 28)))), (6, (I v3)), (9, (I x7.1)), (10, (I x7.2.1)), (11, (Bo x7.2.2))], [(cDv t0)], ⟨0, []⟩⟩) (by kernel_rfl) (by kernel_rfl) ?_
        show AWp _ _ _ _
        refine aws ?_
        refine awr ?_
        refine ado rfl rfl rfl (emv (eV (v := (Bo x7.2.2)) rfl)) ?_
        refine ado rfl rfl rfl (emv (eV (v := (Bo x7.2.2)) rfl)) ?_
        refine agu (v := (I x7.2.1)) (x7.2.2 == true) rfl rfl rfl (fun hc => emv (eV (v := (I x7.2.1)) rfl)) ?_
        refine agu (v := (I (w64 ((t0.Last.length : Int) - 28)))) (x7.2.2 == true) rfl rfl rfl (fun hc => emv (eV (v := (I (w64 ((t0.Last.length : Int) - 28)))) rfl)) ?_
        refine agu (v := (Bo (x7.2.1 == (w64 ((t0.Last.length : Int) - 28))))) (x7.2.2 == true) rfl rfl rfl (fun hc => ex_bin (vx := (I x7.2.1)) (vy := (I (w64 ((t0.Last.length : Int) - 28)))) (cdo hc) (cdo hc) eqlI_ok) ?_
        refine ado rfl rfl rfl (ex_pick rfl pkAnd) ?_
        refine ake [1, 5, 6, 9, 46] 1 0 (st' := ⟨49, 0, [(1, (LP 0 0)), (5, (I (w64 ((t0.Last.length : Int) - 28)))), (6, (I v3)), (9, (I x7.1)), (46, (Bo (x7.2.2 && (x7.2.1 == (w64 ((t0.Last.length : Int) - 28))))))], [(cDv t0)], ⟨0, []⟩⟩) (by kernel_rfl) (by kernel_rfl) ?_
        show AWp _ _ _ _
        rcases Bool.eq_false_or_eq_true (x7.2.2 && (x7.2.1 == (w64 ((t0.Last.length : Int) - 28)))) with hb8 | hb8
        · rw [condT hb8] at h
          refine awp_condT (boT hb8) ?_
          refine aws ?_
          refine awr ?_
          refine ado rfl rfl rfl (emv (eV (v := (I x7.1)) rfl)) ?_
          refine ado rfl rfl rfl (emv (eV (v := (I (w64 ((t0.Last.length : Int) - 28)))) rfl)) ?_
          refine ado rfl rfl rfl (eas (eV (v := (I x7.1)) rfl)) ?_
          refine ado rfl rfl rfl (eas (eV (v := (I (w64 ((t0.Last.length : Int) - 28)))) rfl)) ?_
          refine ado rfl rfl rfl (eas (eV (v := (Bo true)) rfl)) ?_
          refine ake [2, 3, 4] 0 0 (st' := ⟨49, 0, [(2, (I x7.1)), (3, (I (w64 ((t0.Last.length : Int) - 28)))), (4, (Bo true))], [], ⟨0, []⟩⟩) (by kernel_rfl) (by kernel_rfl) ?_
          show AWp _ _ _ _
          refine awp_ret ?_
          cases h
          exact aresN rfl (L2.cons (rtmp rfl (eV rfl)) (L2.cons (rtmp rfl (eV rfl)) (L2.cons (rtmp rfl (eV rfl)) L2.nil))) rfl
        · rw [condF hb8] at h
          refine awp_condF (boF hb8) ?_
          refine awp_skip ?_
          show AWp _ _ _ _
          refine awr ?_
          refine ado rfl rfl rfl (emv (eV (v := (I v3)) rfl)) ?_
          refine ado rfl rfl rfl (ex_bin (vx := (I v3)) (vy := (I 1)) rfl rfl addI_ok) ?_
          refine ado rfl rfl rfl (eas (eV (v := (I (w64 (v3 + 1)))) rfl)) ?_
          refine ake [1, 5, 6] 1 0 (st' := ⟨49, 0, [(1, (LP 0 0)), (5, (I (w64 ((t0.Last.length : Int) - 28)))), (6, (I (w64 (v3 + 1))))], [(cDv t0)], ⟨0, []⟩⟩) (by kernel_rfl) (by kernel_rfl) ?_
          exact Exists.intro n1 (And.intro (Nat.lt_succ_self _) (Exists.intro (w64 (v3 + 1)) (And.intro rfl h)))
      · rw [condF hb4] at h
        refine awp_condF (boF hb4) ?_
        refine awp_exit ?_
        show AWp _ _ _ _
        refine aws ?_
        refine awr ?_
        refine ado rfl rfl rfl (eas (eV (v := (I 0)) rfl)) ?_
        refine ado rfl rfl rfl (eas (eV (v := (I 0)) rfl)) ?_
        refine ado rfl rfl rfl (eas (eV (v := (Bo false)) rfl)) ?_
        refine ake [2, 3, 4] 0 0 (st' := ⟨49, 0, [(2, (I 0)), (3, (I 0)), (4, (Bo false))], [], ⟨0, []⟩⟩) (by kernel_rfl) (by kernel_rfl) ?_
        show AWp _ _ _ _
        refine awp_ret ?_
        cases h
        exact aresN rfl (L2.cons (rtmp rfl (eV rfl)) (L2.cons (rtmp rfl (eV rfl)) (L2.cons (rtmp rfl (eV rfl)) L2.nil))) rfl

noncomputable def M_ref1_TakePtrs_l1 (t1 : Int) : Nat → Str → Int → List GPt → Option ((List GPt) × Str × Bool)
  | 0, _, _, _ => none
  | n1 + 1, v1, v2, v3 =>
  cond (decide (v2 < t1)) (Option.bind (M_ref1_Take ([50, 52, 52, 52, 52, 52] : Str) v1) fun (x5 : ((List Int) × Str × Bool)) => cond (!x5.2.2) (some ([], [], false)) (Option.bind (getI x5.1 0) fun (x7 : Int) => Option.bind (getI x5.1 1) fun (x8 : Int) => Option.bind (getI x5.1 2) fun (x9 : Int) => Option.bind (getI x5.1 3) fun (x10 : Int) => Option.bind (getI x5.1 4) fun (x11 : Int) => Option.bind (getI x5.1 5) fun (x12 : Int) => Option.bind (M_ref1_MayPtr (GPt.mk x7 x8 (A4.mk (UInt32.ofInt x9) (UInt32.ofInt x10) (UInt32.ofInt x11) (UInt32.ofInt x12)))) fun (x13 : Bool) => cond (!x13) (some ([], [], false)) (Option.bind (appL 32 v3 ([(GPt.mk x7 x8 (A4.mk (UInt32.ofInt x9) (UInt32.ofInt x10) (UInt32.ofInt x11) (UInt32.ofInt x12)))] : List GPt)) fun (x15 : List GPt) => (M_ref1_TakePtrs_l1 t1 n1) x5.2.1 (w64 (v2 + 1)) x15))) (some (v3, v1, true))
noncomputable def M_ref1_TakePtrs (t0 : Str) (t1 : Int) : Option ((List GPt) × Str × Bool) :=
  M_ref1_TakePtrs_l1 t1 fuel t0 0 ([] : List GPt)
theorem ok_ref1_TakePtrs (t0 : Str) (t1 : Int) (r : ((List GPt) × Str × Bool)) (h : M_ref1_TakePtrs t0 t1 = some r) : FFn Try.prog 64 [(S t0), (I t1)] (Value.tuple #[(SL 6 cPt r.1), (S r.2.1), (Bo r.2.2)]) := by
  refine FFn.of_body (n := 60) Try.func64 rfl Try.ntmps64 rfl rfl rfl rfl ?_
  show AWp _ _ _ ⟨60, 0, [(0, (S t0)), (1, (I t1))], [], ⟨0, []⟩⟩
  unfold M_ref1_TakePtrs at h
  refine aws ?_
  refine awr ?_
  refine ado rfl rfl rfl (eas (eV (v := (Value.slice none 0 0)) rfl)) ?_
  refine ado rfl rfl rfl (eas (eV (v := (S [])) rfl)) ?_
  refine ado rfl rfl rfl (eas (eV (v := (Bo false)) rfl)) ?_
  refine ake [0, 1] 0 0 (st' := ⟨60, 0, [(0, (S t0)), (1, (I t1))], [], ⟨0, []⟩⟩) (by kernel_rfl) (by kernel_rfl) ?_
  show AWp _ _ _ _
  refine aws ?_
  refine awr ?_
  refine ado rfl rfl rfl (eas (eV (v := (Value.slice none 0 0)) rfl)) ?_
  refine ake [0, 1, 7] 0 0 (st' := ⟨60, 0, [(0, (S t0)), (1, (I t1)), (7, (Value.slice none 0 0))], [], ⟨0, []⟩⟩) (by kernel_rfl) (by kernel_rfl) ?_
  show AWp _ _ _ _
  refine aws ?_
  refine aws ?_
  refine awr ?_
  refine ado rfl rfl rfl (eas (eV (v := (I 0)) rfl)) ?_
  refine ake [0, 1, 7, 8] 0 0 (st' := ⟨60, 0, [(0, (S t0)), (1, (I t1)), (7, (Value.slice none 0 0)), (8, (I 0))], [], ⟨0, []⟩⟩) (by kernel_rfl) (by kernel_rfl) ?_
  show AWp _ _ _ _
  refine awp_block ?_
  refine awp_nilGro 7 6 rfl (by decide) ?_
  refine awp_keepE [0, 1, 7, 8] 0 1 (st' := ⟨60, 0, [(0, (S t0)), (1, (I t1)), (7, (GV 0 0)), (8, (I 0))], [], ⟨1, [(0, ⟨6, (([] : List GPt).flatMap cPt), true⟩)]⟩⟩) (by kernel_rfl) (by kernel_rfl) ?_
  refine awp_loop (fun n s => ∃ (v1 : Str) (v2 : Int) (v3 : List GPt), s = ⟨60, 0, [(0, (S v1)), (1, (I t1)), (7, (GV 0 v3.length)), (8, (I v2))], [], ⟨1, [(0, ⟨6, ((v3).flatMap cPt), true⟩)]⟩⟩ ∧ M_ref1_TakePtrs_l1 t1 n v1 v2 v3 = some r) fuel (Exists.intro t0 (Exists.intro 0 (Exists.intro ([] : List GPt) (And.intro rfl h)))) ?_
  rintro n s ⟨v1, v2, v3, rfl, h⟩ -
  cases n with
  | zero => cases h
  | succ n1 =>
    unfold M_ref1_TakePtrs_l1 at h
    refine aws ?_
    refine aws ?_
    refine awr ?_
    refine ado rfl rfl rfl (emv (eV (v := (I v2)) rfl)) ?_
    refine ado rfl rfl rfl (emv (eV (v := (I t1)) rfl)) ?_
    refine ado rfl rfl rfl (ex_bin (vx := (I v2)) (vy := (I t1)) rfl rfl lssI_ok) ?_
    refine ake [0, 1, 7, 8, 15] 0 1 (st' := ⟨60, 0, [(0, (S v1)), (1, (I t1)), (7, (GV 0 v3.length)), (8, (I v2)), (15, (Bo (decide (v2 < t1))))], [], ⟨1, [(0, ⟨6, ((v3).flatMap cPt), true⟩)]⟩⟩) (by kernel_rfl) (by kernel_rfl) ?_
    show AWp _ _ _ _
    rcases Bool.eq_false_or_eq_true (decide (v2 < t1)) with hb4 | hb4
    · rw [condT hb4] at h
      refine awp_condT (boT hb4) ?_
      refine awp_skip ?_
      show AWp _ _ _ _
      refine aws ?_
      refine awp_block ?_
      refine aws ?_
      refine awr ?_
      refine ado rfl rfl rfl (emv (eV (v := (S v1)) rfl)) ?_
      obtain ⟨x5, hx5, h⟩ := bindS h
      refine ado rfl rfl rfl (ex_call0 (vs := [(S ([50, 52, 52, 52, 52, 52] : Str)), (S v1)]) (v := (Value.tuple #[(SL 1 cI x5.1), (S x5.2.1), (Bo x5.2.2)])) rfl en_59 (cargs (evs rfl (evs rfl evs_nil))) rfl (ok_ref1_Take ([50, 52, 52, 52, 52, 52] : Str) v1 x5 hx5) rfl) ?_
      refine ado rfl rfl rfl (emv (eV (v := (Value.tuple #[(SL 1 cI x5.1), (S x5.2.1), (Bo x5.2.2)])) rfl)) ?_
      refine ado rfl rfl rfl (ex_extract (vx := (Value.tuple #[(SL 1 cI x5.1), (S x5.2.1), (Bo x5.2.2)])) (v := (SL 1 cI x5.1)) rfl rfl) ?_
      refine ado rfl rfl rfl (ex_extract (vx := (Value.tuple #[(SL 1 cI x5.1), (S x5.2.1), (Bo x5.2.2)])) (v := (S x5.2.1)) rfl rfl) ?_
      refine ado rfl rfl rfl (ex_extract (vx := (Value.tuple #[(SL 1 cI x5.1), (S x5.2.1), (Bo x5.2.2)])) (v := (Bo x5.2.2)) rfl rfl) ?_
      refine ado rfl rfl rfl (eas (eV (v := (SL 1 cI x5.1)) rfl)) ?_
      refine ado rfl rfl rfl (eas (eV (v := (S x5.2.1)) rfl)) ?_
      refine ado rfl rfl rfl (eas (eV (v := (Bo x5.2.2)) rfl)) ?_
      refine ake [1, 7, 8, 9, 10, 11] 0 1 (st' := ⟨60, 0, [(1, (I t1)), (7, (GV 0 v3.length)), (8, (I v2)), (9, (SL 1 cI x5.1)), (10, (S x5.2.1)), (11, (Bo x5.2.2))], [], ⟨1, [(0, ⟨6, ((v3).flatMap cPt), true⟩)]⟩⟩) (by kernel_rfl) (by kernel_rfl) ?_
      show AWp _ _ _ _
      refine aws ?_
      refine aws ?_
      refine awr ?_
      refine ado rfl rfl rfl (emv (eV (v := (Bo x5.2.2)) rfl)) ?_
      refine ado rfl rfl rfl (ex_un (vx := (Bo x5.2.2)) rfl notB_ok) ?_
      refine ake [1, 7, 8, 9, 10, 25] 0 1 (st' := ⟨60, 0, [(1, (I t1)), (7, (GV 0 v3.length)), (8, (I v2)), (9, (SL 1 cI x5.1)), (10, (S x5.2.1)), (25, (Bo (!x5.2.2)))], [], ⟨1, [(0, ⟨6, ((v3).flatMap cPt), true⟩)]⟩⟩) (by kernel_rfl) (by kernel_rfl) ?_
      show AWp _ _ _ _
      rcases Bool.eq_false_or_eq_true (!x5.2.2) with hb6 | hb6
      · rw [condT hb6] at h
        refine awp_condT (boT hb6) ?_
        refine aws ?_
        refine awr ?_
        refine ado rfl rfl rfl (eas (eV (v := (Value.slice none 0 0)) rfl)) ?_
        refine ado rfl rfl rfl (eas (eV (v := (S [])) rfl)) ?_
        refine ado rfl rfl rfl (eas (eV (v := (Bo false)) rfl)) ?_
        refine ake [4, 5, 6] 0 0 (st' := ⟨60, 0, [(4, (Value.slice none 0 0)), (5, (S [])), (6, (Bo false))], [], ⟨0, []⟩⟩) (by kernel_rfl) (by kernel_rfl) ?_
        show AWp _ _ _ _
        refine awp_ret ?_
        cases h
        exact aresN rfl (L2.cons (rtmp rfl (eN rfl)) (L2.cons (rtmp rfl (eV rfl)) (L2.cons (rtmp rfl (eV rfl)) L2.nil))) rfl
      · rw [condF hb6] at h
        refine awp_condF (boF hb6) ?_
        refine awp_skip ?_
        show AWp _ _ _ _
        refine aws ?_
        obtain ⟨x7, hx7, h⟩ := bindS h
        obtain ⟨x8, hx8, h⟩ := bindS h
        obtain ⟨x9, hx9, h⟩ := bindS h
        obtain ⟨x10, hx10, h⟩ := bindS h
        obtain ⟨x11, hx11, h⟩ := bindS h
        obtain ⟨x12, hx12, h⟩ := bindS h
        refine awp_kn [1, 7, 8, 10, 12] 1 1 (st' := ⟨60, 0, [(1, (I t1)), (7, (GV 0 v3.length)), (8, (I v2)), (10, (S x5.2.1)), (12, (LP 0 0))], [(cPt (GPt.mk x7 x8 (A4.mk (UInt32.ofInt x9) (UInt32.ofInt x10) (UInt32.ofInt x11) (UInt32.ofInt x12))))], ⟨1, [(0, ⟨6, ((v3).flatMap cPt), true⟩)]⟩⟩) (awp_draw (T := [(SL 1 cI x5.1), (DP (cI x7)), (I x7), (SL 1 cI x5.1), (DP (cI x8)), (I x8), (SL 1 cI x5.1), (DP (cI x9)), (I x9), (U32 (UInt32.ofInt x9)), (SL 1 cI x5.1), (DP (cI x10)), (I x10), (U32 (UInt32.ofInt x10)), (SL 1 cI x5.1), (DP (cI x11)), (I x11), (U32 (UInt32.ofInt x11)), (SL 1 cI x5.1), (DP (cI x12)), (I x12), (U32 (UInt32.ofInt x12)), (Value.agg ((cA4 c32) (A4.mk (UInt32.ofInt x9) (UInt32.ofInt x10) (UInt32.ofInt x11) (UInt32.ofInt x12))).toArray), (Value.agg (cPt (GPt.mk x7 x8 (A4.mk (UInt32.ofInt x9) (UInt32.ofInt x10) (UInt32.ofInt x11) (UInt32.ofInt x12)))).toArray), (LP 0 0), undef]) (LH := [([], ⟨1, [(0, ⟨6, ((v3).flatMap cPt), true⟩)]⟩), ([(cPt (GPt.mk 0 0 (A4.mk 0 0 0 0)))], ⟨1, [(0, ⟨6, ((v3).flatMap cPt), true⟩)]⟩), ([(cPt (GPt.mk x7 x8 (A4.mk (UInt32.ofInt x9) (UInt32.ofInt x10) (UInt32.ofInt x11) (UInt32.ofInt x12))))], ⟨1, [(0, ⟨6, ((v3).flatMap cPt), true⟩)]⟩)]) (D := [⟨[(9, none)], [], [0, 1], false⟩, ⟨[(26, some 0)], [0], [0, 1], false⟩, ⟨[(27, some 1)], [0, 1], [0, 1], false⟩, ⟨[(9, none)], [], [0, 1], false⟩, ⟨[(29, some 3)], [3], [0, 1], false⟩, ⟨[(30, some 4)], [3, 4], [0, 1], false⟩, ⟨[(9, none)], [], [0, 1], false⟩, ⟨[(32, some 6)], [6], [0, 1], false⟩, ⟨[(33, some 7)], [6, 7], [0, 1], false⟩, ⟨[(34, some 8)], [6, 7, 8], [0, 1], false⟩, ⟨[(9, none)], [], [0, 1], false⟩, ⟨[(36, some 10)], [10], [0, 1], false⟩, ⟨[(37, some 11)], [10, 11], [0, 1], false⟩, ⟨[(38, some 12)], [10, 11, 12], [0, 1], false⟩, ⟨[(9, none)], [], [0, 1], false⟩, ⟨[(40, some 14)], [14], [0, 1], false⟩, ⟨[(41, some 15)], [14, 15], [0, 1], false⟩, ⟨[(42, some 16)], [14, 15, 16], [0, 1], false⟩, ⟨[(9, none)], [], [0, 1], false⟩, ⟨[(44, some 18)], [18], [0, 1], false⟩, ⟨[(45, some 19)], [18, 19], [0, 1], false⟩, ⟨[(46, some 20)], [18, 19, 20], [0, 1], false⟩, ⟨[(35, some 9), (39, some 13), (43, some 17), (47, some 21)], [6, 7, 8, 9, 10, 11, 12, 13, 14, 15, 16, 17, 18, 19, 20, 21], [0, 1], false⟩, ⟨[(28, some 2), (31, some 5), (48, some 22)], [0, 1, 2, 3, 4, 5, 6, 7, 8, 9, 10, 11, 12, 13, 14, 15, 16, 17, 18, 19, 20, 21, 22], [0, 1], false⟩, ⟨[], [], [0], true⟩, ⟨[(12, some 24), (49, some 23)], [0, 1, 2, 3, 4, 5, 6, 7, 8, 9, 10, 11, 12, 13, 14, 15, 16, 17, 18, 19, 20, 21, 22, 23, 24], [1], true⟩]) (S := [24, 25]) (plan := [0, 1, 2, 3, 4, 5, 6, 7, 8, 9, 10, 11, 12, 13, 14, 15, 16, 17, 18, 19, 20, 21, 22, 23, 24, 25]) mo (by kernel_rfl) rfl rfl rfl (dcons (dstepN (by intro k hk; simp only [List.mem_cons, List.not_mem_nil, or_false] at hk; rcases hk with rfl | rfl <;> exact ⟨[(9, (SL 1 cI x5.1))], _, _, _, _, _, rfl, rfl, rfl, rfl, asd rfl (emv (eV (v := (SL 1 cI x5.1)) rfl))⟩)) (dcons (dstepN (by intro k hk; simp only [List.mem_cons, List.not_mem_nil, or_false] at hk; rcases hk with rfl | rfl <;> exact ⟨[(26, (SL 1 cI x5.1))], _, _, _, _, _, rfl, rfl, rfl, rfl, asd rfl (tx_idxD (c := cI) (xs := x5.1) (i := 0) ceI Try.underlying59 s_3 rfl rfl hx7)⟩)) (dcons (dstepN (by intro k hk; simp only [List.mem_cons, List.not_mem_nil, or_false] at hk; rcases hk with rfl | rfl <;> exact ⟨[(27, (DP (cI x7)))], _, _, _, _, _, rfl, rfl, rfl, rfl, asd rfl (tx_ldD1 (v := (I x7)) Try.underlying3 rfl rfl rfl)⟩)) (dcons (dstepN (by intro k hk; simp only [List.mem_cons, List.not_mem_nil, or_false] at hk; rcases hk with rfl | rfl <;> exact ⟨[(9, (SL 1 cI x5.1))], _, _, _, _, _, rfl, rfl, rfl, rfl, asd rfl (emv (eV (v := (SL 1 cI x5.1)) rfl))⟩)) (dcons (dstepN (by intro k hk; simp only [List.mem_cons, List.not_mem_nil, or_false] at hk; rcases hk with rfl | rfl <;> exact ⟨[(29, (SL 1 cI x5.1))], _, _, _, _, _, rfl, rfl, rfl, rfl, asd rfl (tx_idxD (c := cI) (xs := x5.1) (i := 1) ceI Try.underlying59 s_3 rfl rfl hx8)⟩)) (dcons (dstepN (by intro k hk; simp only [List.mem_cons, List.not_mem_nil, or_false] at hk; rcases hk with rfl | rfl <;> exact ⟨[(30, (DP (cI x8)))], _, _, _, _, _, rfl, rfl, rfl, rfl, asd rfl (tx_ldD1 (v := (I x8)) Try.underlying3 rfl rfl rfl)⟩)) (dcons (dstepN (by intro k hk; simp only [List.mem_cons, List.not_mem_nil, or_false] at hk; rcases hk with rfl | rfl <;> exact ⟨[(9, (SL 1 cI x5.1))], _, _, _, _, _, rfl, rfl, rfl, rfl, asd rfl (emv (eV (v := (SL 1 cI x5.1)) rfl))⟩)) (dcons (dstepN (by intro k hk; simp only [List.mem_cons, List.not_mem_nil, or_false] at hk; rcases hk with rfl | rfl <;> exact ⟨[(32, (SL 1 cI x5.1))], _, _, _, _, _, rfl, rfl, rfl, rfl, asd rfl (tx_idxD (c := cI) (xs := x5.1) (i := 2) ceI Try.underlying59 s_3 rfl rfl hx9)⟩)) (dcons (dstepN (by intro k hk; simp only [List.mem_cons, List.not_mem_nil, or_false] at hk; rcases hk with rfl | rfl <;> exact ⟨[(33, (DP (cI x9)))], _, _, _, _, _, rfl, rfl, rfl, rfl, asd rfl (tx_ldD1 (v := (I x9)) Try.underlying3 rfl rfl rfl)⟩)) (dcons (dstepN (by intro k hk; simp only [List.mem_cons, List.not_mem_nil, or_false] at hk; rcases hk with rfl | rfl <;> exact ⟨[(34, (I x9))], _, _, _, _, _, rfl, rfl, rfl, rfl, asd rfl (tx_64_32 Try.underlying3 Try.underlying31 rfl)⟩)) (dcons (dstepN (by intro k hk; simp only [List.mem_cons, List.not_mem_nil, or_false] at hk; rcases hk with rfl | rfl <;> exact ⟨[(9, (SL 1 cI x5.1))], _, _, _, _, _, rfl, rfl, rfl, rfl, asd rfl (emv (eV (v := (SL 1 cI x5.1)) rfl))⟩)) (dcons (dstepN (by intro k hk; simp only [List.mem_cons, List.not_mem_nil, or_false] at hk; rcases hk with rfl | rfl <;> exact ⟨[(36, (SL 1 cI x5.1))], _, _, _, _, _, rfl, rfl, rfl, rfl, asd rfl (tx_idxD (c := cI) (xs := x5.1) (i := 3) ceI Try.underlying59 s_3 rfl rfl hx10)⟩)) (dcons (dstepN (by intro k hk; simp only [List.mem_cons, List.not_mem_nil, or_false] at hk; rcases hk with rfl | rfl <;> exact ⟨[(37, (DP (cI x10)))], _, _, _, _, _, rfl, rfl, rfl, rfl, asd rfl (tx_ldD1 (v := (I x10)) Try.underlying3 rfl rfl rfl)⟩)) (dcons (dstepN (by intro k hk; simp only [List.mem_cons, List.not_mem_nil, or_false] at hk; rcases hk with rfl | rfl <;> exact ⟨[(38, (I x10))], _, _, _, _, _, rfl, rfl, rfl, rfl, asd rfl (tx_64_32 Try.underlying3 Try.underlying31 rfl)⟩)) (dcons (dstepN (by intro k hk; simp only [List.mem_cons, List.not_mem_nil, or_false] at hk; rcases hk with rfl | rfl <;> exact ⟨[(9, (SL 1 cI x5.1))], _, _, _, _, _, rfl, rfl, rfl, rfl, asd rfl (emv (eV (v := (SL 1 cI x5.1)) rfl))⟩)) (dcons (dstepN (by intro k hk; simp only [List.mem_cons, List.not_mem_nil, or_false] at hk; rcases hk with rfl | rfl <;> exact ⟨[(40, (SL 1 cI x5.1))], _, _, _, _, _, rfl, rfl, rfl, rfl, asd rfl (tx_idxD (c := cI) (xs := x5.1) (i := 4) ceI Try.underlying59 s_3 rfl rfl hx11)⟩)) (dcons (dstepN (by intro k hk; simp only [List.mem_cons, List.not_mem_nil, or_false] at hk; rcases hk with rfl | rfl <;> exact ⟨[(41, (DP (cI x11)))], _, _, _, _, _, rfl, rfl, rfl, rfl, asd rfl (tx_ldD1 (v := (I x11)) Try.underlying3 rfl rfl rfl)⟩)) (dcons (dstepN (by intro k hk; simp only [List.mem_cons, List.not_mem_nil, or_false] at hk; rcases hk with rfl | rfl <;> exact ⟨[(42, (I x11))], _, _, _, _, _, rfl, rfl, rfl, rfl, asd rfl (tx_64_32 Try.underlying3 Try.underlying31 rfl)⟩)) (dcons (dstepN (by intro k hk; simp only [List.mem_cons, List.not_mem_nil, or_false] at hk; rcases hk with rfl | rfl <;> exact ⟨[(9, (SL 1 cI x5.1))], _, _, _, _, _, rfl, rfl, rfl, rfl, asd rfl (emv (eV (v := (SL 1 cI x5.1)) rfl))⟩)) (dcons (dstepN (by intro k hk; simp only [List.mem_cons, List.not_mem_nil, or_false] at hk; rcases hk with rfl | rfl <;> exact ⟨[(44, (SL 1 cI x5.1))], _, _, _, _, _, rfl, rfl, rfl, rfl, asd rfl (tx_idxD (c := cI) (xs := x5.1) (i := 5) ceI Try.underlying59 s_3 rfl rfl hx12)⟩)) (dcons (dstepN (by intro k hk; simp only [List.mem_cons, List.not_mem_nil, or_false] at hk; rcases hk with rfl | rfl <;> exact ⟨[(45, (DP (cI x12)))], _, _, _, _, _, rfl, rfl, rfl, rfl, asd rfl (tx_ldD1 (v := (I x12)) Try.underlying3 rfl rfl rfl)⟩)) (dcons (dstepN (by intro k hk; simp only [List.mem_cons, List.not_mem_nil, or_false] at hk; rcases hk with rfl | rfl <;> exact ⟨[(46, (I x12))], _, _, _, _, _, rfl, rfl, rfl, rfl, asd rfl (tx_64_32 Try.underlying3 Try.underlying31 rfl)⟩)) (dcons (dstepN (by intro k hk; simp only [List.mem_cons, List.not_mem_nil, or_false] at hk; rcases hk with rfl | rfl <;> exact ⟨[(35, (U32 (UInt32.ofInt x9))), (39, (U32 (UInt32.ofInt x10))), (43, (U32 (UInt32.ofInt x11))), (47, (U32 (UInt32.ofInt x12)))], _, _, _, _, _, rfl, rfl, rfl, rfl, asd rfl (ex_build (qs := [(0, (U32 (UInt32.ofInt x9))), (1, (U32 (UInt32.ofInt x10))), (2, (U32 (UInt32.ofInt x11))), (3, (U32 (UInt32.ofInt x12)))]) (v := (Value.agg ((cA4 c32) (A4.mk (UInt32.ofInt x9) (UInt32.ofInt x10) (UInt32.ofInt x11) (UInt32.ofInt x12))).toArray)) (evp rfl (evp rfl (evp rfl (evp rfl evp_nil)))) (by kernel_rfl))⟩)) (dcons (dstepN (by intro k hk; simp only [List.mem_cons, List.not_mem_nil, or_false] at hk; rcases hk with rfl | rfl <;> exact ⟨[(28, (I x7)), (31, (I x8)), (48, (Value.agg ((cA4 c32) (A4.mk (UInt32.ofInt x9) (UInt32.ofInt x10) (UInt32.ofInt x11) (UInt32.ofInt x12))).toArray))], _, _, _, _, _, rfl, rfl, rfl, rfl, asd rfl (ex_build (qs := [(0, (I x7)), (1, (I x8)), (2, (Value.agg ((cA4 c32) (A4.mk (UInt32.ofInt x9) (UInt32.ofInt x10) (UInt32.ofInt x11) (UInt32.ofInt x12))).toArray))]) (v := (Value.agg (cPt (GPt.mk x7 x8 (A4.mk (UInt32.ofInt x9) (UInt32.ofInt x10) (UInt32.ofInt x11) (UInt32.ofInt x12)))).toArray)) (evp rfl (evp rfl (evp rfl evp_nil))) (by kernel_rfl))⟩)) (dcons (dst1 (Tm := []) (L := []) (H := ⟨1, [(0, ⟨6, ((v3).flatMap cPt), true⟩)]⟩) rfl rfl rfl rfl rfl (asd rfl (ex_alloc (k := 0) (zs := (cPt (GPt.mk 0 0 (A4.mk 0 0 0 0)))) (L' := [(cPt (GPt.mk 0 0 (A4.mk 0 0 0 0)))]) z_35 rfl rfl rfl rfl))) (dcons (dst1 (Tm := [(12, (LP 0 0)), (49, (Value.agg (cPt (GPt.mk x7 x8 (A4.mk (UInt32.ofInt x9) (UInt32.ofInt x10) (UInt32.ofInt x11) (UInt32.ofInt x12)))).toArray))]) (L := [(cPt (GPt.mk 0 0 (A4.mk 0 0 0 0)))]) (H := ⟨1, [(0, ⟨6, ((v3).flatMap cPt), true⟩)]⟩) rfl rfl rfl rfl rfl (asd rfl (ex_storeL (vy := (Value.agg (cPt (GPt.mk x7 x8 (A4.mk (UInt32.ofInt x9) (UInt32.ofInt x10) (UInt32.ofInt x11) (UInt32.ofInt x12)))).toArray)) (cs := (cPt (GPt.mk 0 0 (A4.mk 0 0 0 0)))) (vs := (cPt (GPt.mk x7 x8 (A4.mk (UInt32.ofInt x9) (UInt32.ofInt x10) (UInt32.ofInt x11) (UInt32.ofInt x12))))) (L' := [(cPt (GPt.mk x7 x8 (A4.mk (UInt32.ofInt x9) (UInt32.ofInt x10) (UInt32.ofInt x11) (UInt32.ofInt x12))))]) rfl (eV (v := (Value.agg (cPt (GPt.mk x7 x8 (A4.mk (UInt32.ofInt x9) (UInt32.ofInt x10) (UInt32.ofInt x11) (UInt32.ofInt x12)))).toArray)) rfl) rfl s_35 rfl (Nat.le_of_ble_eq_true rfl) (by kernel_rfl)))) dnil)))))))))))))))))))))))))) ⟨rfl, rfl⟩) (by kernel_rfl) (by kernel_rfl) ?_
        show AWp _ _ _ _
        refine aws ?_
        refine aws ?_
        refine awr ?_
        refine ado rfl rfl rfl (tx_ldLA (vs := (cPt (GPt.mk x7 x8 (A4.mk (UInt32.ofInt x9) (UInt32.ofInt x10) (UInt32.ofInt x11) (UInt32.ofInt x12))))) Try.underlying35 rfl s_35 (by decide) rfl rfl rfl rfl) ?_
        obtain ⟨x13, hx13, h⟩ := bindS h
        refine ado rfl rfl rfl (ex_call0 (vs := [(Value.agg (cPt (GPt.mk x7 x8 (A4.mk (UInt32.ofInt x9) (UInt32.ofInt x10) (UInt32.ofInt x11) (UInt32.ofInt x12)))).toArray)]) (v := (Bo x13)) rfl en_53 (cargs (evs rfl evs_nil)) rfl (ok_ref1_MayPtr (GPt.mk x7 x8 (A4.mk (UInt32.ofInt x9) (UInt32.ofInt x10) (UInt32.ofInt x11) (UInt32.ofInt x12))) x13 hx13) rfl) ?_
        refine ado rfl rfl rfl (ex_un (vx := (Bo x13)) rfl notB_ok) ?_
        refine ake [1, 7, 8, 10, 12, 52] 1 1 (st' := ⟨60, 0, [(1, (I t1)), (7, (GV 0 v3.length)), (8, (I v2)), (10, (S x5.2.1)), (12, (LP 0 0)), (52, (Bo (!x13)))], [(cPt (GPt.mk x7 x8 (A4.mk (UInt32.ofInt x9) (UInt32.ofInt x10) (UInt32.ofInt x11) (UInt32.ofInt x12))))], ⟨1, [(0, ⟨6, ((v3).flatMap cPt), true⟩)]⟩⟩) (by kernel_rfl) (by kernel_rfl) ?_
        show AWp _ _ _ _
        rcases Bool.eq_false_or_eq_true (!x13) with hb14 | hb14
        · rw [condT hb14] at h
          refine awp_condT (boT hb14) ?_
          refine aws ?_
          refine awr ?_
          refine ado rfl rfl rfl (eas (eV (v := (Value.slice none 0 0)) rfl)) ?_
          refine ado rfl rfl rfl (eas (eV (v := (S [])) rfl)) ?_
          refine ado rfl rfl rfl (eas (eV (v := (Bo false)) rfl)) ?_
          refine ake [4, 5, 6] 0 0 (st' := ⟨60, 0, [(4, (Value.slice none 0 0)), (5, (S [])), (6, (Bo false))], [], ⟨0, []⟩⟩) (by kernel_rfl) (by kernel_rfl) ?_
          show AWp _ _ _ _
          refine awp_ret ?_
          cases h
          exact aresN rfl (L2.cons (rtmp rfl (eN rfl)) (L2.cons (rtmp rfl (eV rfl)) (L2.cons (rtmp rfl (eV rfl)) L2.nil))) rfl
        · rw [condF hb14] at h
          refine awp_condF (boF hb14) ?_
          refine awp_skip ?_
          show AWp _ _ _ _
          refine awr ?_
          refine ado rfl rfl rfl (emv (eV (v := (GV 0 v3.length)) rfl)) ?_
          refine ado rfl rfl rfl (tx_ldLA (vs := (cPt (GPt.mk x7 x8 (A4.mk (UInt32.ofInt x9) (UInt32.ofInt x10) (UInt32.ofInt x11) (UInt32.ofInt x12))))) Try.underlying35 rfl s_35 (by decide) rfl rfl rfl rfl) ?_
          refine ado rfl rfl rfl (ex_buildSliceD (qs := [(0, (Value.agg (cPt (GPt.mk x7 x8 (A4.mk (UInt32.ofInt x9) (UInt32.ofInt x10) (UInt32.ofInt x11) (UInt32.ofInt x12)))).toArray))]) (cells := (([(GPt.mk x7 x8 (A4.mk (UInt32.ofInt x9) (UInt32.ofInt x10) (UInt32.ofInt x11) (UInt32.ofInt x12)))] : List GPt).flatMap cPt)) Try.underlying70 s_35 (by decide) (evp rfl evp_nil) rfl (by kernel_rfl) (by kernel_rfl) (by kernel_rfl)) ?_
          obtain ⟨x15, hx15, h⟩ := bindS h
          refine ado rfl rfl rfl (tx_appG (c := cPt) (xs := v3) (H' := ⟨1, [(0, ⟨6, ((x15).flatMap cPt), true⟩)]⟩) ce_api_Ptr e_35 rfl rfl rfl (tsrcD (ys := ([(GPt.mk x7 x8 (A4.mk (UInt32.ofInt x9) (UInt32.ofInt x10) (UInt32.ofInt x11) (UInt32.ofInt x12)))] : List GPt)) ce_api_Ptr Try.underlying70 s_35 Try.underlying70 rfl) hx15 rfl) ?_
          refine ado rfl rfl rfl (emv (eV (v := (S x5.2.1)) rfl)) ?_
          refine ado rfl rfl rfl (eas (eV (v := (GV 0 x15.length)) rfl)) ?_
          refine ado rfl rfl rfl (eas (eV (v := (S x5.2.1)) rfl)) ?_
          refine ake [0, 1, 7, 8] 0 1 (st' := ⟨60, 0, [(0, (S x5.2.1)), (1, (I t1)), (7, (GV 0 x15.length)), (8, (I v2))], [], ⟨1, [(0, ⟨6, ((x15).flatMap cPt), true⟩)]⟩⟩) (by kernel_rfl) (by kernel_rfl) ?_
          show AWp _ _ _ _
          refine awr ?_
          refine ado rfl rfl rfl (emv (eV (v := (I v2)) rfl)) ?_
          refine ado rfl rfl rfl (ex_bin (vx := (I v2)) (vy := (I 1)) rfl rfl addI_ok) ?_
          refine ado rfl rfl rfl (eas (eV (v := (I (w64 (v2 + 1)))) rfl)) ?_
          refine ake [0, 1, 7, 8] 0 1 (st' := ⟨60, 0, [(0, (S x5.2.1)), (1, (I t1)), (7, (GV 0 x15.length)), (8, (I (w64 (v2 + 1))))], [], ⟨1, [(0, ⟨6, ((x15).flatMap cPt), true⟩)]⟩⟩) (by kernel_rfl) (by kernel_rfl) ?_
          exact Exists.intro n1 (And.intro (Nat.lt_succ_self _) (Exists.intro x5.2.1 (Exists.intro (w64 (v2 + 1)) (Exists.intro x15 (And.intro rfl h)))))
    · rw [condF hb4] at h
      refine awp_condF (boF hb4) ?_
      refine awp_exit ?_
      show AWp _ _ _ _
      refine aws ?_
      refine awr ?_
      refine ado rfl rfl rfl (emv (eV (v := (GV 0 v3.length)) rfl)) ?_
      refine ado rfl rfl rfl (emv (eV (v := (S v1)) rfl)) ?_
      refine ado rfl rfl rfl (eas (eV (v := (GV 0 v3.length)) rfl)) ?_
      refine ado rfl rfl rfl (eas (eV (v := (S v1)) rfl)) ?_
      refine ado rfl rfl rfl (eas (eV (v := (Bo true)) rfl)) ?_
      refine ake [4, 5, 6] 0 1 (st' := ⟨60, 0, [(4, (GV 0 v3.length)), (5, (S v1)), (6, (Bo true))], [], ⟨1, [(0, ⟨6, ((v3).flatMap cPt), true⟩)]⟩⟩) (by kernel_rfl) (by kernel_rfl) ?_
      show AWp _ _ _ _
      refine awp_freeze 0 (bk := ⟨6, ((v3).flatMap cPt), true⟩) (T' := [(4, (SL 6 cPt v3)), (5, (S v1)), (6, (Bo true))]) (L' := []) rfl (fzG ce_api_Ptr rfl rfl (FzT.keep (v := (S v1)) rfl (FzT.keep (v := (Bo true)) rfl FzT.nil))) (FzL.refl _) ?_
      show AWp _ _ _ ⟨60, 0, [(4, (SL 6 cPt v3)), (5, (S v1)), (6, (Bo true))], [], ⟨1, []⟩⟩
      refine awp_ret ?_
      cases h
      exact aresN rfl (L2.cons (rtmp rfl (eV rfl)) (L2.cons (rtmp rfl (eV rfl)) (L2.cons (rtmp rfl (eV rfl)) L2.nil))) rfl

end Go.Proofs
