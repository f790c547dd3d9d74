/- Pure models of functions of the program, and that its code does what they say: uber Config, uber TakeConfig, uber May, palimplaw6 begun. Written by a program. -/
import Derived.Test.YteiaengicalapaaR60
import Derived.Test.YteiaengicalapaaR61
import Derived.Test.YteiaengicalapaaR62
import Derived.Test.YteiaengicalapaaR63
import Derived.Test.YteiaengicalapaaR64
import Derived.Test.YteiaengicalapaaR6B
set_option maxRecDepth 20000
set_option maxHeartbeats 4000000
namespace Go.Proofs
open Go Go.Fhl
set_option linter.unusedVariables false
set_option linter.unusedSimpArgs false
noncomputable def M_uber_Config (t0 : Int) (t1 : Int) : Option Str :=
  cond ((((decide (t0 < 0)) || (decide (t0 > 1073741824))) || (decide (t1 < 40))) || (decide (t1 > 240))) (some []) (Option.bind (M_pack_Put ([49, 52, 50] : Str) ([172, t0, t1] : List Int)) fun (x2 : Str) => Option.bind (M_uber_sealed x2) fun (x3 : Str) => some x3)
theorem ok_uber_Config (t0 : Int) (t1 : Int) (r : Str) (h : M_uber_Config t0 t1 = some r) : FFn Try.prog 13 [(I t0), (I t1)] (S r) := by
  refine FFn.of_body (n := 24) Try.func13 rfl Try.ntmps13 rfl rfl rfl rfl ?_
  show AWp _ _ _ ⟨24, 0, [(0, (I t0)), (1, (I t1))], [], ⟨0, []⟩⟩
  unfold M_uber_Config at h
  refine awp_seq ?_
  refine awp_region ?_
  refine arun_do rfl rfl rfl (ex_assign (eV (v := (S [])) rfl)) ?_
  refine arun_keepE [0, 1] 0 0 (st' := ⟨24, 0, [(0, (I t0)), (1, (I t1))], [], ⟨0, []⟩⟩) (by kernel_rfl) (by kernel_rfl) ?_
  show AWp _ _ _ _
  refine awp_seq ?_
  refine awp_seq ?_
  refine awp_region ?_
  refine arun_do rfl rfl rfl (ex_move (eV (v := (I t0)) rfl)) ?_
  refine arun_do rfl rfl rfl (ex_bin (vx := (I t0)) (vy := (I 0)) rfl rfl lssI_ok) ?_
  refine arun_do rfl rfl rfl (ex_move (eV (v := (Bo (decide (t0 < 0)))) rfl)) ?_
  refine arun_guard (v := (I t0)) ((decide (t0 < 0)) == false) rfl rfl rfl (fun hc => ex_move (eV (v := (I t0)) rfl)) ?_
  refine arun_guard (v := (Bo (decide (t0 > 1073741824)))) ((decide (t0 < 0)) == false) rfl rfl rfl (fun hc => ex_bin (vx := (I t0)) (vy := (I 1073741824)) (cond_of hc) rfl gtrI_ok) ?_
  refine arun_do rfl rfl rfl (ex_pick rfl pkOr) ?_
  refine arun_do rfl rfl rfl (ex_move (eV (v := (Bo ((decide (t0 < 0)) || (decide (t0 > 1073741824))))) rfl)) ?_
  refine arun_guard (v := (I t1)) (((decide (t0 < 0)) || (decide (t0 > 1073741824))) == false) rfl rfl rfl (fun hc => ex_move (eV (v := (I t1)) rfl)) ?_
  refine arun_guard (v := (Bo (decide (t1 < 40)))) (((decide (t0 < 0)) || (decide (t0 > 1073741824))) == false) rfl rfl rfl (fun hc => ex_bin (vx := (I t1)) (vy := (I 40)) (cond_of hc) rfl lssI_ok) ?_
  refine arun_do rfl rfl rfl (ex_pick rfl pkOr) ?_
  refine arun_do rfl rfl rfl (ex_move (eV (v := (Bo (((decide (t0 < 0)) || (decide (t0 > 1073741824))) || (decide (t1 < 40))))) rfl)) ?_
  refine arun_guard (v := (I t1)) ((((decide (t0 < 0)) || (decide (t0 > 1073741824))) || (decide (t1 < 40))) == false) rfl rfl rfl (fun hc => ex_move (eV (v := (I t1)) rfl)) ?_
  refine arun_guard (v := (Bo (decide (t1 > 240)))) ((((decide (t0 < 0)) || (decide (t0 > 1073741824))) || (decide (t1 < 40))) == false) rfl rfl rfl (fun hc => ex_bin (vx := (I t1)) (vy := (I 240)) (cond_of hc) rfl gtrI_ok) ?_
  refine arun_do rfl rfl rfl (ex_pick rfl pkOr) ?_
  refine arun_keepE [0, 1, 18] 0 0 (st' := ⟨24, 0, [(0, (I t0)), (1, (I t1)), (18, (Bo ((((decide (t0 < 0)) || (decide (t0 > 1073741824))) || (decide (t1 < 40))) || (decide (t1 > 240)))))], [], ⟨0, []⟩⟩) (by kernel_rfl) (by kernel_rfl) ?_
  show AWp _ _ _ _
  rcases Bool.eq_false_or_eq_true ((((decide (t0 < 0)) || (decide (t0 > 1073741824))) || (decide (t1 < 40))) || (decide (t1 > 240))) with hb1 | hb1
  · rw [condT hb1] at h
    refine awp_condT (boT hb1) ?_
    refine awp_seq ?_
    refine awp_region ?_
    refine arun_do rfl rfl rfl (ex_assign (eV (v := (S [])) rfl)) ?_
    refine arun_keepE [4] 0 0 (st' := ⟨24, 0, [(4, (S []))], [], ⟨0, []⟩⟩) (by kernel_rfl) (by kernel_rfl) ?_
    show AWp _ _ _ _
    refine awp_ret ?_
    cases h
    exact ares1 (rtmp rfl (eV rfl))
  · rw [condF hb1] at h
    refine awp_condF (boF hb1) ?_
    refine awp_skip ?_
    show AWp _ _ _ _
    refine awp_seq ?_
    refine awp_region ?_
    refine arun_do rfl rfl rfl (ex_move (eV (v := (I t0)) rfl)) ?_
    refine arun_do rfl rfl rfl (ex_move (eV (v := (I t1)) rfl)) ?_
    refine arun_do rfl rfl rfl (ex_buildSliceD (qs := [(0, (I 172)), (1, (I t0)), (2, (I t1))]) (cells := (([172, t0, t1] : List Int).flatMap cI)) Try.underlying52 s_3 (by decide) (evp rfl (evp rfl (evp rfl evp_nil))) rfl (by kernel_rfl) (by kernel_rfl) (by kernel_rfl)) ?_
    obtain ⟨x2, hx2, h⟩ := bindS h
    refine arun_do rfl rfl rfl (ex_call0 (vs := [(S ([49, 52, 50] : Str)), (SL 1 cI ([172, t0, t1] : List Int))]) (v := (S x2)) rfl en_27 (cargs (evs rfl (evs rfl evs_nil))) rfl (ok_pack_Put ([49, 52, 50] : Str) ([172, t0, t1] : List Int) x2 hx2) rfl) ?_
    obtain ⟨x3, hx3, h⟩ := bindS h
    refine arun_do rfl rfl rfl (ex_call0 (vs := [(S x2)]) (v := (S x3)) rfl en_26 (cargs (evs rfl evs_nil)) rfl (ok_uber_sealed x2 x3 hx3) rfl) ?_
    refine arun_do rfl rfl rfl (ex_assign (eV (v := (S x3)) rfl)) ?_
    refine arun_keepE [4] 0 0 (st' := ⟨24, 0, [(4, (S x3))], [], ⟨0, []⟩⟩) (by kernel_rfl) (by kernel_rfl) ?_
    show AWp _ _ _ _
    refine awp_ret ?_
    cases h
    exact ares1 (rtmp rfl (eV rfl))

noncomputable def M_uber_TakeConfig (t0 : Str) : Option (Int × Int × Bool) :=
  Option.bind (M_pack_Take ([49, 52, 50] : Str) t0) fun (x1 : ((List Int) × Str × Bool)) => Option.bind (gd ((!x1.2.2) == false) (getI x1.1 1)) fun (x2 : Int) => Option.bind (gd ((!x1.2.2) == false) (getI x1.1 2)) fun (x3 : Int) => Option.bind (gd ((!x1.2.2) == false) (M_uber_Config x2 x3)) fun (x4 : Str) => cond ((!x1.2.2) || (x4 != t0)) (some (0, 0, false)) (Option.bind (getI x1.1 1) fun (x6 : Int) => Option.bind (getI x1.1 2) fun (x7 : Int) => some (x6, x7, true))
theorem ok_uber_TakeConfig (t0 : Str) (r : (Int × Int × Bool)) (h : M_uber_TakeConfig t0 = some r) : FFn Try.prog 17 [(S t0)] (Value.tuple #[(I r.1), (I r.2.1), (Bo r.2.2)]) := by
  refine FFn.of_body (n := 32) Try.func17 rfl Try.ntmps17 rfl rfl rfl rfl ?_
  show AWp _ _ _ ⟨32, 0, [(0, (S t0))], [], ⟨0, []⟩⟩
  unfold M_uber_TakeConfig at h
  refine awp_seq ?_
  refine awp_region ?_
  refine arun_do rfl rfl rfl (ex_assign (eV (v := (I 0)) rfl)) ?_
  refine arun_do rfl rfl rfl (ex_assign (eV (v := (I 0)) rfl)) ?_
  refine arun_do rfl rfl rfl (ex_assign (eV (v := (Bo false)) rfl)) ?_
  refine arun_keepE [0] 0 0 (st' := ⟨32, 0, [(0, (S t0))], [], ⟨0, []⟩⟩) (by kernel_rfl) (by kernel_rfl) ?_
  show AWp _ _ _ _
  refine awp_seq ?_
  refine awp_region ?_
  refine arun_do rfl rfl rfl (ex_move (eV (v := (S t0)) rfl)) ?_
  obtain ⟨x1, hx1, h⟩ := bindS h
  refine arun_do rfl rfl rfl (ex_call0 (vs := [(S ([49, 52, 50] : Str)), (S t0)]) (v := (Value.tuple #[(SL 1 cI x1.1), (S x1.2.1), (Bo x1.2.2)])) rfl en_29 (cargs (evs rfl (evs rfl evs_nil))) rfl (ok_pack_Take ([49, 52, 50] : Str) t0 x1 hx1) rfl) ?_
  refine arun_do rfl rfl rfl (ex_move (eV (v := (Value.tuple #[(SL 1 cI x1.1), (S x1.2.1), (Bo x1.2.2)])) rfl)) ?_
  refine arun_do rfl rfl rfl (ex_extract (vx := (Value.tuple #[(SL 1 cI x1.1), (S x1.2.1), (Bo x1.2.2)])) (v := (SL 1 cI x1.1)) rfl rfl) ?_
  refine arun_do rfl rfl rfl (ex_extract (vx := (Value.tuple #[(SL 1 cI x1.1), (S x1.2.1), (Bo x1.2.2)])) (v := (S x1.2.1)) rfl rfl) ?_
  refine arun_do rfl rfl rfl (ex_extract (vx := (Value.tuple #[(SL 1 cI x1.1), (S x1.2.1), (Bo x1.2.2)])) (v := (Bo x1.2.2)) rfl rfl) ?_
  refine arun_do rfl rfl rfl (ex_assign (eV (v := (SL 1 cI x1.1)) rfl)) ?_
  refine arun_do rfl rfl rfl (ex_assign (eV (v := (S x1.2.1)) rfl)) ?_
  refine arun_do rfl rfl rfl (ex_assign (eV (v := (Bo x1.2.2)) rfl)) ?_
  refine arun_keepE [0, 4, 5] 0 0 (st' := ⟨32, 0, [(0, (S t0)), (4, (Bo x1.2.2)), (5, (SL 1 cI x1.1))], [], ⟨0, []⟩⟩) (by kernel_rfl) (by kernel_rfl) ?_
  show AWp _ _ _ _
  refine awp_seq ?_
  refine awp_seq ?_
  obtain ⟨x2, hx2, h⟩ := bindS h
  obtain ⟨x3, hx3, h⟩ := bindS h
  obtain ⟨x4, hx4, h⟩ := bindS h
  refine awp_kn [5, 25] 0 0 (st' := ⟨32, 0, [(5, (SL 1 cI x1.1)), (25, (Bo ((!x1.2.2) || (x4 != t0))))], [], ⟨0, []⟩⟩) (awp_draw (T := [(Bo x1.2.2), (Bo (!x1.2.2)), (Bo (!x1.2.2)), (cond ((!x1.2.2) == false) (SL 1 cI x1.1) skipV), (cond ((!x1.2.2) == false) (DP (cI x2)) skipV), (cond ((!x1.2.2) == false) (I x2) skipV), (cond ((!x1.2.2) == false) (SL 1 cI x1.1) skipV), (cond ((!x1.2.2) == false) (DP (cI x3)) skipV), (cond ((!x1.2.2) == false) (I x3) skipV), (cond ((!x1.2.2) == false) (S x4) skipV), (cond ((!x1.2.2) == false) (S t0) skipV), (cond ((!x1.2.2) == false) (Bo (x4 != t0)) skipV), (Bo ((!x1.2.2) || (x4 != t0)))]) (LH := [([], ⟨0, []⟩)]) (D := [⟨[(4, none)], [], [0], false⟩, ⟨[(13, some 0)], [0], [0], false⟩, ⟨[(14, some 1)], [0, 1], [0], false⟩, ⟨[(5, none), (15, some 2)], [0, 1, 2], [0], false⟩, ⟨[(16, some 3), (15, some 2)], [0, 1, 2, 3], [0], false⟩, ⟨[(17, some 4), (15, some 2)], [0, 1, 2, 3, 4], [0], false⟩, ⟨[(5, none), (15, some 2)], [0, 1, 2], [0], false⟩, ⟨[(19, some 6), (15, some 2)], [0, 1, 2, 6], [0], false⟩, ⟨[(20, some 7), (15, some 2)], [0, 1, 2, 6, 7], [0], false⟩, ⟨[(18, some 5), (21, some 8), (15, some 2)], [0, 1, 2, 3, 4, 5, 6, 7, 8], [0], false⟩, ⟨[(0, none), (15, some 2)], [0, 1, 2], [0], false⟩, ⟨[(22, some 9), (23, some 10), (15, some 2)], [0, 1, 2, 3, 4, 5, 6, 7, 8, 9, 10], [0], false⟩, ⟨[(15, some 2), (24, some 11)], [0, 1, 2, 3, 4, 5, 6, 7, 8, 9, 10, 11], [0], false⟩]) (S := []) (plan := [0, 1, 2, 3, 4, 5, 6, 7, 8, 9, 10, 11, 12]) mo (by kernel_rfl) rfl rfl rfl (dcons (dstep1 (Tm := [(4, (Bo x1.2.2))]) (L := []) (H := ⟨0, []⟩) rfl rfl rfl rfl rfl (astep_do rfl (ex_move (eV (v := (Bo x1.2.2)) rfl)))) (dcons (dstep1 (Tm := [(13, (Bo x1.2.2))]) (L := []) (H := ⟨0, []⟩) rfl rfl rfl rfl rfl (astep_do rfl (ex_un (vx := (Bo x1.2.2)) rfl notB_ok))) (dcons (dstep1 (Tm := [(14, (Bo (!x1.2.2)))]) (L := []) (H := ⟨0, []⟩) rfl rfl rfl rfl rfl (astep_do rfl (ex_move (eV (v := (Bo (!x1.2.2))) rfl)))) (dcons (dstep1 (Tm := [(5, (SL 1 cI x1.1)), (15, (Bo (!x1.2.2)))]) (L := []) (H := ⟨0, []⟩) rfl rfl rfl rfl rfl (astep_guard (v := (SL 1 cI x1.1)) ((!x1.2.2) == false) rfl (fun hc => ex_move (eV (v := (SL 1 cI x1.1)) rfl)))) (dcons (dstep1 (Tm := [(16, (cond ((!x1.2.2) == false) (SL 1 cI x1.1) skipV)), (15, (Bo (!x1.2.2)))]) (L := []) (H := ⟨0, []⟩) rfl rfl rfl rfl rfl (astep_guard (v := (DP (cI x2))) ((!x1.2.2) == false) rfl (fun hc => tx_idxD (c := cI) (xs := x1.1) (i := 1) ceI Try.underlying52 s_3 (cond_of hc) rfl (gd_of hc hx2)))) (dcons (dstep1 (Tm := [(17, (cond ((!x1.2.2) == false) (DP (cI x2)) skipV)), (15, (Bo (!x1.2.2)))]) (L := []) (H := ⟨0, []⟩) rfl rfl rfl rfl rfl (astep_guard (v := (I x2)) ((!x1.2.2) == false) rfl (fun hc => tx_ldD1 (v := (I x2)) Try.underlying3 rfl (cond_of hc) rfl))) (dcons (dstep1 (Tm := [(5, (SL 1 cI x1.1)), (15, (Bo (!x1.2.2)))]) (L := []) (H := ⟨0, []⟩) rfl rfl rfl rfl rfl (astep_guard (v := (SL 1 cI x1.1)) ((!x1.2.2) == false) rfl (fun hc => ex_move (eV (v := (SL 1 cI x1.1)) rfl)))) (dcons (dstep1 (Tm := [(19, (cond ((!x1.2.2) == false) (SL 1 cI x1.1) skipV)), (15, (Bo (!x1.2.2)))]) (L := []) (H := ⟨0, []⟩) rfl rfl rfl rfl rfl (astep_guard (v := (DP (cI x3))) ((!x1.2.2) == false) rfl (fun hc => tx_idxD (c := cI) (xs := x1.1) (i := 2) ceI Try.underlying52 s_3 (cond_of hc) rfl (gd_of hc hx3)))) (dcons (dstep1 (Tm := [(20, (cond ((!x1.2.2) == false) (DP (cI x3)) skipV)), (15, (Bo (!x1.2.2)))]) (L := []) (H := ⟨0, []⟩) rfl rfl rfl rfl rfl (astep_guard (v := (I x3)) ((!x1.2.2) == false) rfl (fun hc => tx_ldD1 (v := (I x3)) Try.underlying3 rfl (cond_of hc) rfl))) (dcons (dstep1 (Tm := [(18, (cond ((!x1.2.2) == false) (I x2) skipV)), (21, (cond ((!x1.2.2) == false) (I x3) skipV)), (15, (Bo (!x1.2.2)))]) (L := []) (H := ⟨0, []⟩) rfl rfl rfl rfl rfl (astep_guard (v := (S x4)) ((!x1.2.2) == false) rfl (fun hc => ex_call0 (vs := [(I x2), (I x3)]) (v := (S x4)) rfl en_13 (cargs (evs (cond_of hc) (evs (cond_of hc) evs_nil))) rfl (ok_uber_Config x2 x3 x4 (gd_of hc hx4)) rfl))) (dcons (dstep1 (Tm := [(0, (S t0)), (15, (Bo (!x1.2.2)))]) (L := []) (H := ⟨0, []⟩) rfl rfl rfl rfl rfl (astep_guard (v := (S t0)) ((!x1.2.2) == false) rfl (fun hc => ex_move (eV (v := (S t0)) rfl)))) (dcons (dstep1 (Tm := [(22, (cond ((!x1.2.2) == false) (S x4) skipV)), (23, (cond ((!x1.2.2) == false) (S t0) skipV)), (15, (Bo (!x1.2.2)))]) (L := []) (H := ⟨0, []⟩) rfl rfl rfl rfl rfl (astep_guard (v := (Bo (x4 != t0))) ((!x1.2.2) == false) rfl (fun hc => ex_bin (vx := (S x4)) (vy := (S t0)) (cond_of hc) (cond_of hc) neqS_ok))) (dcons (dstep1 (Tm := [(15, (Bo (!x1.2.2))), (24, (cond ((!x1.2.2) == false) (Bo (x4 != t0)) skipV))]) (L := []) (H := ⟨0, []⟩) rfl rfl rfl rfl rfl (astep_do rfl (ex_pick rfl pkOr))) dnil))))))))))))) ⟨rfl, rfl⟩) (by kernel_rfl) (by kernel_rfl) ?_
  show AWp _ _ _ _
  rcases Bool.eq_false_or_eq_true ((!x1.2.2) || (x4 != t0)) with hb5 | hb5
  · rw [condT hb5] at h
    refine awp_condT (boT hb5) ?_
    refine awp_seq ?_
    refine awp_region ?_
    refine arun_do rfl rfl rfl (ex_assign (eV (v := (I 0)) rfl)) ?_
    refine arun_do rfl rfl rfl (ex_assign (eV (v := (I 0)) rfl)) ?_
    refine arun_do rfl rfl rfl (ex_assign (eV (v := (Bo false)) rfl)) ?_
    refine arun_keepE [2, 3, 4] 0 0 (st' := ⟨32, 0, [(2, (I 0)), (3, (I 0)), (4, (Bo false))], [], ⟨0, []⟩⟩) (by kernel_rfl) (by kernel_rfl) ?_
    show AWp _ _ _ _
    refine awp_ret ?_
    cases h
    exact aresN rfl (L2.cons (rtmp rfl (eV rfl)) (L2.cons (rtmp rfl (eV rfl)) (L2.cons (rtmp rfl (eV rfl)) L2.nil))) rfl
  · rw [condF hb5] at h
    refine awp_condF (boF hb5) ?_
    refine awp_skip ?_
    show AWp _ _ _ _
    refine awp_seq ?_
    obtain ⟨x6, hx6, h⟩ := bindS h
    obtain ⟨x7, hx7, h⟩ := bindS h
    refine awp_kn [2, 3, 4] 0 0 (st' := ⟨32, 0, [(2, (I x6)), (3, (I x7)), (4, (Bo true))], [], ⟨0, []⟩⟩) (awp_draw (T := [(SL 1 cI x1.1), (DP (cI x6)), (I x6), (SL 1 cI x1.1), (DP (cI x7)), (I x7), (I x6), (I x7), (Bo true)]) (LH := [([], ⟨0, []⟩)]) (D := [⟨[(5, none)], [], [0], false⟩, ⟨[(26, some 0)], [0], [0], false⟩, ⟨[(27, some 1)], [0, 1], [0], false⟩, ⟨[(5, none)], [], [0], false⟩, ⟨[(29, some 3)], [3], [0], false⟩, ⟨[(30, some 4)], [3, 4], [0], false⟩, ⟨[(28, some 2)], [0, 1, 2], [0], false⟩, ⟨[(31, some 5)], [0, 1, 2, 3, 4, 5, 6], [0], false⟩, ⟨[], [0, 1, 2, 3, 4, 5, 6, 7], [0], false⟩]) (S := []) (plan := [0, 1, 2, 3, 4, 5, 6, 7, 8]) mo (by kernel_rfl) rfl rfl rfl (dcons (dstep1 (Tm := [(5, (SL 1 cI x1.1))]) (L := []) (H := ⟨0, []⟩) rfl rfl rfl rfl rfl (astep_do rfl (ex_move (eV (v := (SL 1 cI x1.1)) rfl)))) (dcons (dstep1 (Tm := [(26, (SL 1 cI x1.1))]) (L := []) (H := ⟨0, []⟩) rfl rfl rfl rfl rfl (astep_do rfl (tx_idxD (c := cI) (xs := x1.1) (i := 1) ceI Try.underlying52 s_3 rfl rfl hx6))) (dcons (dstep1 (Tm := [(27, (DP (cI x6)))]) (L := []) (H := ⟨0, []⟩) rfl rfl rfl rfl rfl (astep_do rfl (tx_ldD1 (v := (I x6)) Try.underlying3 rfl rfl rfl))) (dcons (dstep1 (Tm := [(5, (SL 1 cI x1.1))]) (L := []) (H := ⟨0, []⟩) rfl rfl rfl rfl rfl (astep_do rfl (ex_move (eV (v := (SL 1 cI x1.1)) rfl)))) (dcons (dstep1 (Tm := [(29, (SL 1 cI x1.1))]) (L := []) (H := ⟨0, []⟩) rfl rfl rfl rfl rfl (astep_do rfl (tx_idxD (c := cI) (xs := x1.1) (i := 2) ceI Try.underlying52 s_3 rfl rfl hx7))) (dcons (dstep1 (Tm := [(30, (DP (cI x7)))]) (L := []) (H := ⟨0, []⟩) rfl rfl rfl rfl rfl (astep_do rfl (tx_ldD1 (v := (I x7)) Try.underlying3 rfl rfl rfl))) (dcons (dstep1 (Tm := [(28, (I x6))]) (L := []) (H := ⟨0, []⟩) rfl rfl rfl rfl rfl (astep_do rfl (ex_assign (eV (v := (I x6)) rfl)))) (dcons (dstep1 (Tm := [(31, (I x7))]) (L := []) (H := ⟨0, []⟩) rfl rfl rfl rfl rfl (astep_do rfl (ex_assign (eV (v := (I x7)) rfl)))) (dcons (dstep1 (Tm := []) (L := []) (H := ⟨0, []⟩) rfl rfl rfl rfl rfl (astep_do rfl (ex_assign (eV (v := (Bo true)) rfl)))) dnil))))))))) ⟨rfl, rfl⟩) (by kernel_rfl) (by kernel_rfl) ?_
    show AWp _ _ _ _
    refine awp_ret ?_
    cases h
    exact aresN rfl (L2.cons (rtmp rfl (eV rfl)) (L2.cons (rtmp rfl (eV rfl)) (L2.cons (rtmp rfl (eV rfl)) L2.nil))) rfl

noncomputable def M_uber_May (t0 : G_api_Uber) : Option Bool :=
  Option.bind (M_uber_root_may (G_uber_root.mk t0)) fun (x1 : Bool) => some x1
theorem ok_uber_May (t0 : G_api_Uber) (r : Bool) (h : M_uber_May t0 = some r) : FFn Try.prog 9 [(Value.agg (c_api_Uber t0).toArray)] (Bo r) := by
  refine FFn.of_body (n := 6) Try.func9 rfl Try.ntmps9 rfl rfl rfl rfl ?_
  show AWp _ _ _ ⟨6, 0, [(0, (Value.agg (c_api_Uber t0).toArray))], [], ⟨0, []⟩⟩
  unfold M_uber_May at h
  refine awp_seq ?_
  refine awp_region ?_
  refine arun_do rfl rfl rfl (ex_box (vx := (Value.agg (c_api_Uber t0).toArray)) (cs := (c_api_Uber t0)) (k := 0) (L' := [(c_api_Uber t0)]) (eV (v := (Value.agg (c_api_Uber t0).toArray)) rfl) rfl rfl rfl) ?_
  refine arun_do rfl rfl rfl (ex_assign (eV (v := (Bo false)) rfl)) ?_
  refine arun_keepE [1] 1 0 (st' := ⟨6, 0, [(1, (LP 0 0))], [(c_api_Uber t0)], ⟨0, []⟩⟩) (by kernel_rfl) (by kernel_rfl) ?_
  show AWp _ _ _ _
  refine awp_seq ?_
  refine awp_region ?_
  refine arun_do rfl rfl rfl (tx_ldLA (vs := (c_api_Uber t0)) Try.underlying28 rfl s_28 (by decide) rfl rfl rfl rfl) ?_
  refine arun_do rfl rfl rfl (ex_build (qs := [(0, (Value.agg (c_api_Uber t0).toArray))]) (v := (Value.agg (c_uber_root (G_uber_root.mk t0)).toArray)) (evp rfl evp_nil) (by kernel_rfl)) ?_
  obtain ⟨x1, hx1, h⟩ := bindS h
  refine arun_do rfl rfl rfl (ex_call0 (vs := [(Value.agg (c_uber_root (G_uber_root.mk t0)).toArray)]) (v := (Bo x1)) rfl en_19 (cargs (evs rfl evs_nil)) rfl (ok_uber_root_may (G_uber_root.mk t0) x1 hx1) rfl) ?_
  refine arun_do rfl rfl rfl (ex_assign (eV (v := (Bo x1)) rfl)) ?_
  refine arun_keepE [2] 0 0 (st' := ⟨6, 0, [(2, (Bo x1))], [], ⟨0, []⟩⟩) (by kernel_rfl) (by kernel_rfl) ?_
  show AWp _ _ _ _
  refine awp_ret ?_
  cases h
  exact ares1 (rtmp rfl (eV rfl))

noncomputable def M_law6_begun : Option Bool :=
  Option.bind (M_uber_Put (G_api_Uber.mk 5 7 2 (G_api_Ptr.mk 20 5 (A4.mk 0 0 0 0)))) fun (x1 : Str) => Option.bind (M_uber_Take x1) fun (x2 : (G_api_Uber × Bool)) => Option.bind (M_uber_Config 7 40) fun (x3 : Str) => Option.bind (M_uber_TakeConfig x3) fun (x4 : (Int × Int × Bool)) => Option.bind (makeL 1 256 0) fun (x5 : List UInt8) => Option.bind (M_uber_Take x5) fun (x6 : (G_api_Uber × Bool)) => Option.bind (gd ((((((x2.2 && (decide (x2.1 = (G_api_Uber.mk 5 7 2 (G_api_Ptr.mk 20 5 (A4.mk 0 0 0 0)))))) && x4.2.2) && (x4.1 == 7)) && (x4.2.1 == 40)) && (!x6.2)) == true) (M_uber_May (G_api_Uber.mk 5 7 2 (G_api_Ptr.mk 20 5 (A4.mk 0 0 0 0))))) fun (x7 : Bool) => Option.bind (gd (((((((x2.2 && (decide (x2.1 = (G_api_Uber.mk 5 7 2 (G_api_Ptr.mk 20 5 (A4.mk 0 0 0 0)))))) && x4.2.2) && (x4.1 == 7)) && (x4.2.1 == 40)) && (!x6.2)) && x7) == true) (M_uber_May (G_api_Uber.mk 0 0 0 (G_api_Ptr.mk 0 0 (A4.mk 0 0 0 0))))) fun (x8 : Bool) => some (((((((x2.2 && (decide (x2.1 = (G_api_Uber.mk 5 7 2 (G_api_Ptr.mk 20 5 (A4.mk 0 0 0 0)))))) && x4.2.2) && (x4.1 == 7)) && (x4.2.1 == 40)) && (!x6.2)) && x7) && (!x8))
theorem ok_law6_begun (r : Bool) (h : M_law6_begun = some r) : FFn Try.prog 8 [] (Bo r) := by
  refine FFn.of_body (n := 59) Try.func8 rfl Try.ntmps8 rfl rfl rfl rfl ?_
  show AWp _ _ _ ⟨59, 0, [], [], ⟨0, []⟩⟩
  unfold M_law6_begun at h
  refine awp_seq ?_
  refine awp_region ?_
  refine arun_do rfl rfl rfl (ex_assign (eV (v := (Bo false)) rfl)) ?_
  refine arun_keepE [] 0 0 (st' := ⟨59, 0, [], [], ⟨0, []⟩⟩) (by kernel_rfl) (by kernel_rfl) ?_
  show AWp _ _ _ _
  refine awp_seq ?_
  refine awp_region ?_
  refine arun_do rfl rfl rfl (ex_build (qs := [(0, (I 20)), (1, (I 5))]) (v := (Value.agg (c_api_Ptr (G_api_Ptr.mk 20 5 (A4.mk 0 0 0 0))).toArray)) (evp rfl (evp rfl evp_nil)) (by kernel_rfl)) ?_
  refine arun_do rfl rfl rfl (ex_build (qs := [(0, (I 5)), (1, (I 7)), (2, (I 2)), (3, (Value.agg (c_api_Ptr (G_api_Ptr.mk 20 5 (A4.mk 0 0 0 0))).toArray))]) (v := (Value.agg (c_api_Uber (G_api_Uber.mk 5 7 2 (G_api_Ptr.mk 20 5 (A4.mk 0 0 0 0)))).toArray)) (evp rfl (evp rfl (evp rfl (evp rfl evp_nil)))) (by kernel_rfl)) ?_
  refine arun_do rfl rfl rfl (ex_alloc (k := 0) (zs := (c_api_Uber (G_api_Uber.mk 0 0 0 (G_api_Ptr.mk 0 0 (A4.mk 0 0 0 0))))) (L' := [(c_api_Uber (G_api_Uber.mk 0 0 0 (G_api_Ptr.mk 0 0 (A4.mk 0 0 0 0))))]) z_28 rfl rfl rfl rfl) ?_
  refine arun_do0 rfl rfl (ex_storeL (vy := (Value.agg (c_api_Uber (G_api_Uber.mk 5 7 2 (G_api_Ptr.mk 20 5 (A4.mk 0 0 0 0)))).toArray)) (cs := (c_api_Uber (G_api_Uber.mk 0 0 0 (G_api_Ptr.mk 0 0 (A4.mk 0 0 0 0))))) (vs := (c_api_Uber (G_api_Uber.mk 5 7 2 (G_api_Ptr.mk 20 5 (A4.mk 0 0 0 0))))) (L' := [(c_api_Uber (G_api_Uber.mk 5 7 2 (G_api_Ptr.mk 20 5 (A4.mk 0 0 0 0))))]) rfl (eV (v := (Value.agg (c_api_Uber (G_api_Uber.mk 5 7 2 (G_api_Ptr.mk 20 5 (A4.mk 0 0 0 0)))).toArray)) rfl) rfl s_28 rfl (Nat.le_of_ble_eq_true rfl) (by kernel_rfl)) ?_
  refine arun_keepE [1] 1 0 (st' := ⟨59, 0, [(1, (LP 0 0))], [(c_api_Uber (G_api_Uber.mk 5 7 2 (G_api_Ptr.mk 20 5 (A4.mk 0 0 0 0))))], ⟨0, []⟩⟩) (by kernel_rfl) (by kernel_rfl) ?_
  show AWp _ _ _ _
  refine awp_seq ?_
  refine awp_region ?_
  refine arun_do rfl rfl rfl (tx_ldLA (vs := (c_api_Uber (G_api_Uber.mk 5 7 2 (G_api_Ptr.mk 20 5 (A4.mk 0 0 0 0))))) Try.underlying28 rfl s_28 (by decide) rfl rfl rfl rfl) ?_
  obtain ⟨x1, hx1, h⟩ := bindS h
  refine arun_do rfl rfl rfl (ex_call0 (vs := [(Value.agg (c_api_Uber (G_api_Uber.mk 5 7 2 (G_api_Ptr.mk 20 5 (A4.mk 0 0 0 0)))).toArray)]) (v := (S x1)) rfl en_11 (cargs (evs rfl evs_nil)) rfl (ok_uber_Put (G_api_Uber.mk 5 7 2 (G_api_Ptr.mk 20 5 (A4.mk 0 0 0 0))) x1 hx1) rfl) ?_
  obtain ⟨x2, hx2, h⟩ := bindS h
  refine arun_do rfl rfl rfl (ex_call0 (vs := [(S x1)]) (v := (Value.tuple #[(Value.agg (c_api_Uber x2.1).toArray), (Bo x2.2)])) rfl en_15 (cargs (evs rfl evs_nil)) rfl (ok_uber_Take x1 x2 hx2) rfl) ?_
  refine arun_do rfl rfl rfl (ex_move (eV (v := (Value.tuple #[(Value.agg (c_api_Uber x2.1).toArray), (Bo x2.2)])) rfl)) ?_
  refine arun_do rfl rfl rfl (ex_extract (vx := (Value.tuple #[(Value.agg (c_api_Uber x2.1).toArray), (Bo x2.2)])) (v := (Value.agg (c_api_Uber x2.1).toArray)) rfl rfl) ?_
  refine arun_do rfl rfl rfl (ex_extract (vx := (Value.tuple #[(Value.agg (c_api_Uber x2.1).toArray), (Bo x2.2)])) (v := (Bo x2.2)) rfl rfl) ?_
  refine arun_do rfl rfl rfl (ex_alloc (k := 1) (zs := (c_api_Uber (G_api_Uber.mk 0 0 0 (G_api_Ptr.mk 0 0 (A4.mk 0 0 0 0))))) (L' := [(c_api_Uber (G_api_Uber.mk 5 7 2 (G_api_Ptr.mk 20 5 (A4.mk 0 0 0 0)))), (c_api_Uber (G_api_Uber.mk 0 0 0 (G_api_Ptr.mk 0 0 (A4.mk 0 0 0 0))))]) z_28 rfl rfl rfl rfl) ?_
  refine arun_do0 rfl rfl (ex_storeL (vy := (Value.agg (c_api_Uber x2.1).toArray)) (cs := (c_api_Uber (G_api_Uber.mk 0 0 0 (G_api_Ptr.mk 0 0 (A4.mk 0 0 0 0))))) (vs := (c_api_Uber x2.1)) (L' := [(c_api_Uber (G_api_Uber.mk 5 7 2 (G_api_Ptr.mk 20 5 (A4.mk 0 0 0 0)))), (c_api_Uber x2.1)]) rfl (eV (v := (Value.agg (c_api_Uber x2.1).toArray)) rfl) rfl s_28 rfl (Nat.le_of_ble_eq_true rfl) (by kernel_rfl)) ?_
  refine arun_do rfl rfl rfl (ex_assign (eV (v := (Bo x2.2)) rfl)) ?_
  refine arun_keepE [1, 2, 3] 2 0 (st' := ⟨59, 0, [(1, (LP 0 0)), (2, (LP 1 0)), (3, (Bo x2.2))], [(c_api_Uber (G_api_Uber.mk 5 7 2 (G_api_Ptr.mk 20 5 (A4.mk 0 0 0 0)))), (c_api_Uber x2.1)], ⟨0, []⟩⟩) (by kernel_rfl) (by kernel_rfl) ?_
  show AWp _ _ _ _
  refine awp_seq ?_
  refine awp_region ?_
  obtain ⟨x3, hx3, h⟩ := bindS h
  refine arun_do rfl rfl rfl (ex_call0 (vs := [(I 7), (I 40)]) (v := (S x3)) rfl en_13 (cargs (evs rfl (evs rfl evs_nil))) rfl (ok_uber_Config 7 40 x3 hx3) rfl) ?_
  obtain ⟨x4, hx4, h⟩ := bindS h
  refine arun_do rfl rfl rfl (ex_call0 (vs := [(S x3)]) (v := (Value.tuple #[(I x4.1), (I x4.2.1), (Bo x4.2.2)])) rfl en_17 (cargs (evs rfl evs_nil)) rfl (ok_uber_TakeConfig x3 x4 hx4) rfl) ?_
  refine arun_do rfl rfl rfl (ex_move (eV (v := (Value.tuple #[(I x4.1), (I x4.2.1), (Bo x4.2.2)])) rfl)) ?_
  refine arun_do rfl rfl rfl (ex_extract (vx := (Value.tuple #[(I x4.1), (I x4.2.1), (Bo x4.2.2)])) (v := (I x4.1)) rfl rfl) ?_
  refine arun_do rfl rfl rfl (ex_extract (vx := (Value.tuple #[(I x4.1), (I x4.2.1), (Bo x4.2.2)])) (v := (I x4.2.1)) rfl rfl) ?_
  refine arun_do rfl rfl rfl (ex_extract (vx := (Value.tuple #[(I x4.1), (I x4.2.1), (Bo x4.2.2)])) (v := (Bo x4.2.2)) rfl rfl) ?_
  refine arun_do rfl rfl rfl (ex_assign (eV (v := (I x4.1)) rfl)) ?_
  refine arun_do rfl rfl rfl (ex_assign (eV (v := (I x4.2.1)) rfl)) ?_
  refine arun_do rfl rfl rfl (ex_assign (eV (v := (Bo x4.2.2)) rfl)) ?_
  refine arun_keepE [1, 2, 3, 4, 5, 6] 2 0 (st' := ⟨59, 0, [(1, (LP 0 0)), (2, (LP 1 0)), (3, (Bo x2.2)), (4, (I x4.1)), (5, (I x4.2.1)), (6, (Bo x4.2.2))], [(c_api_Uber (G_api_Uber.mk 5 7 2 (G_api_Ptr.mk 20 5 (A4.mk 0 0 0 0)))), (c_api_Uber x2.1)], ⟨0, []⟩⟩) (by kernel_rfl) (by kernel_rfl) ?_
  show AWp _ _ _ _
  refine awp_seq ?_
  refine awp_region ?_
  obtain ⟨x5, hx5, h⟩ := bindS h
  refine arun_do rfl rfl rfl (tx_makeD (c := c8) (e := 0) ce8 Try.underlying35 s_5 b_5 z_5 rfl rfl rfl rfl hx5) ?_
  refine arun_do rfl rfl rfl (tx_bsD (bs := x5) Try.underlying35 Try.underlying9 Try.underlying5 rfl) ?_
  obtain ⟨x6, hx6, h⟩ := bindS h
  refine arun_do rfl rfl rfl (ex_call0 (vs := [(S x5)]) (v := (Value.tuple #[(Value.agg (c_api_Uber x6.1).toArray), (Bo x6.2)])) rfl en_15 (cargs (evs rfl evs_nil)) rfl (ok_uber_Take x5 x6 hx6) rfl) ?_
  refine arun_do rfl rfl rfl (ex_move (eV (v := (Value.tuple #[(Value.agg (c_api_Uber x6.1).toArray), (Bo x6.2)])) rfl)) ?_
  refine arun_do rfl rfl rfl (ex_extract (vx := (Value.tuple #[(Value.agg (c_api_Uber x6.1).toArray), (Bo x6.2)])) (v := (Value.agg (c_api_Uber x6.1).toArray)) rfl rfl) ?_
  refine arun_do rfl rfl rfl (ex_extract (vx := (Value.tuple #[(Value.agg (c_api_Uber x6.1).toArray), (Bo x6.2)])) (v := (Bo x6.2)) rfl rfl) ?_
  refine arun_do rfl rfl rfl (ex_alloc (k := 2) (zs := (c_api_Uber (G_api_Uber.mk 0 0 0 (G_api_Ptr.mk 0 0 (A4.mk 0 0 0 0))))) (L' := [(c_api_Uber (G_api_Uber.mk 5 7 2 (G_api_Ptr.mk 20 5 (A4.mk 0 0 0 0)))), (c_api_Uber x2.1), (c_api_Uber (G_api_Uber.mk 0 0 0 (G_api_Ptr.mk 0 0 (A4.mk 0 0 0 0))))]) z_28 rfl rfl rfl rfl) ?_
  refine arun_do0 rfl rfl (ex_storeL (vy := (Value.agg (c_api_Uber x6.1).toArray)) (cs := (c_api_Uber (G_api_Uber.mk 0 0 0 (G_api_Ptr.mk 0 0 (A4.mk 0 0 0 0))))) (vs := (c_api_Uber x6.1)) (L' := [(c_api_Uber (G_api_Uber.mk 5 7 2 (G_api_Ptr.mk 20 5 (A4.mk 0 0 0 0)))), (c_api_Uber x2.1), (c_api_Uber x6.1)]) rfl (eV (v := (Value.agg (c_api_Uber x6.1).toArray)) rfl) rfl s_28 rfl (Nat.le_of_ble_eq_true rfl) (by kernel_rfl)) ?_
  refine arun_do rfl rfl rfl (ex_assign (eV (v := (Bo x6.2)) rfl)) ?_
  refine arun_keepE [1, 2, 3, 4, 5, 6, 8] 2 0 (st' := ⟨59, 0, [(1, (LP 0 0)), (2, (LP 1 0)), (3, (Bo x2.2)), (4, (I x4.1)), (5, (I x4.2.1)), (6, (Bo x4.2.2)), (8, (Bo x6.2))], [(c_api_Uber (G_api_Uber.mk 5 7 2 (G_api_Ptr.mk 20 5 (A4.mk 0 0 0 0)))), (c_api_Uber x2.1)], ⟨0, []⟩⟩) (by kernel_rfl) (by kernel_rfl) ?_
  show AWp _ _ _ _
  refine awp_seq ?_
  refine awp_region ?_
  refine arun_do rfl rfl rfl (ex_move (eV (v := (Bo x2.2)) rfl)) ?_
  refine arun_do rfl rfl rfl (ex_move (eV (v := (Bo x2.2)) rfl)) ?_
  refine arun_guard (v := (Value.agg (c_api_Uber x2.1).toArray)) (x2.2 == true) rfl rfl rfl (fun hc => tx_ldLA (vs := (c_api_Uber x2.1)) Try.underlying28 rfl s_28 (by decide) rfl rfl rfl rfl) ?_
  refine arun_guard (v := (Value.agg (c_api_Uber (G_api_Uber.mk 5 7 2 (G_api_Ptr.mk 20 5 (A4.mk 0 0 0 0)))).toArray)) (x2.2 == true) rfl rfl rfl (fun hc => tx_ldLA (vs := (c_api_Uber (G_api_Uber.mk 5 7 2 (G_api_Ptr.mk 20 5 (A4.mk 0 0 0 0))))) Try.underlying28 rfl s_28 (by decide) rfl rfl rfl rfl) ?_
  refine arun_guard (v := (Bo (decide (x2.1 = (G_api_Uber.mk 5 7 2 (G_api_Ptr.mk 20 5 (A4.mk 0 0 0 0))))))) (x2.2 == true) rfl rfl rfl (fun hc => ex_bin (vx := (Value.agg (c_api_Uber x2.1).toArray)) (vy := (Value.agg (c_api_Uber (G_api_Uber.mk 5 7 2 (G_api_Ptr.mk 20 5 (A4.mk 0 0 0 0)))).toArray)) (cond_of hc) (cond_of hc) eql_28) ?_
  refine arun_do rfl rfl rfl (ex_pick rfl pkAnd) ?_
  refine arun_do rfl rfl rfl (ex_move (eV (v := (Bo (x2.2 && (decide (x2.1 = (G_api_Uber.mk 5 7 2 (G_api_Ptr.mk 20 5 (A4.mk 0 0 0 0)))))))) rfl)) ?_
  refine arun_guard (v := (Bo x4.2.2)) ((x2.2 && (decide (x2.1 = (G_api_Uber.mk 5 7 2 (G_api_Ptr.mk 20 5 (A4.mk 0 0 0 0)))))) == true) rfl rfl rfl (fun hc => ex_move (eV (v := (Bo x4.2.2)) rfl)) ?_
  refine arun_do rfl rfl rfl (ex_pick rfl pkAnd) ?_
  refine arun_do rfl rfl rfl (ex_move (eV (v := (Bo ((x2.2 && (decide (x2.1 = (G_api_Uber.mk 5 7 2 (G_api_Ptr.mk 20 5 (A4.mk 0 0 0 0)))))) && x4.2.2))) rfl)) ?_
  refine arun_guard (v := (I x4.1)) (((x2.2 && (decide (x2.1 = (G_api_Uber.mk 5 7 2 (G_api_Ptr.mk 20 5 (A4.mk 0 0 0 0)))))) && x4.2.2) == true) rfl rfl rfl (fun hc => ex_move (eV (v := (I x4.1)) rfl)) ?_
  refine arun_guard (v := (Bo (x4.1 == 7))) (((x2.2 && (decide (x2.1 = (G_api_Uber.mk 5 7 2 (G_api_Ptr.mk 20 5 (A4.mk 0 0 0 0)))))) && x4.2.2) == true) rfl rfl rfl (fun hc => ex_bin (vx := (I x4.1)) (vy := (I 7)) (cond_of hc) rfl eqlI_ok) ?_
  refine arun_do rfl rfl rfl (ex_pick rfl pkAnd) ?_
  refine arun_do rfl rfl rfl (ex_move (eV (v := (Bo (((x2.2 && (decide (x2.1 = (G_api_Uber.mk 5 7 2 (G_api_Ptr.mk 20 5 (A4.mk 0 0 0 0)))))) && x4.2.2) && (x4.1 == 7)))) rfl)) ?_
  refine arun_guard (v := (I x4.2.1)) ((((x2.2 && (decide (x2.1 = (G_api_Uber.mk 5 7 2 (G_api_Ptr.mk 20 5 (A4.mk 0 0 0 0)))))) && x4.2.2) && (x4.1 == 7)) == true) rfl rfl rfl (fun hc => ex_move (eV (v := (I x4.2.1)) rfl)) ?_
  refine arun_guard (v := (Bo (x4.2.1 == 40))) ((((x2.2 && (decide (x2.1 = (G_api_Uber.mk 5 7 2 (G_api_Ptr.mk 20 5 (A4.mk 0 0 0 0)))))) && x4.2.2) && (x4.1 == 7)) == true) rfl rfl rfl (fun hc => ex_bin (vx := (I x4.2.1)) (vy := (I 40)) (cond_of hc) rfl eqlI_ok) ?_
  refine arun_do rfl rfl rfl (ex_pick rfl pkAnd) ?_
  refine arun_do rfl rfl rfl (ex_move (eV (v := (Bo ((((x2.2 && (decide (x2.1 = (G_api_Uber.mk 5 7 2 (G_api_Ptr.mk 20 5 (A4.mk 0 0 0 0)))))) && x4.2.2) && (x4.1 == 7)) && (x4.2.1 == 40)))) rfl)) ?_
  refine arun_guard (v := (Bo x6.2)) (((((x2.2 && (decide (x2.1 = (G_api_Uber.mk 5 7 2 (G_api_Ptr.mk 20 5 (A4.mk 0 0 0 0)))))) && x4.2.2) && (x4.1 == 7)) && (x4.2.1 == 40)) == true) rfl rfl rfl (fun hc => ex_move (eV (v := (Bo x6.2)) rfl)) ?_
  refine arun_guard (v := (Bo (!x6.2))) (((((x2.2 && (decide (x2.1 = (G_api_Uber.mk 5 7 2 (G_api_Ptr.mk 20 5 (A4.mk 0 0 0 0)))))) && x4.2.2) && (x4.1 == 7)) && (x4.2.1 == 40)) == true) rfl rfl rfl (fun hc => ex_un (vx := (Bo x6.2)) (cond_of hc) notB_ok) ?_
  refine arun_do rfl rfl rfl (ex_pick rfl pkAnd) ?_
  refine arun_do rfl rfl rfl (ex_move (eV (v := (Bo (((((x2.2 && (decide (x2.1 = (G_api_Uber.mk 5 7 2 (G_api_Ptr.mk 20 5 (A4.mk 0 0 0 0)))))) && x4.2.2) && (x4.1 == 7)) && (x4.2.1 == 40)) && (!x6.2)))) rfl)) ?_
  refine arun_guard (v := (Value.agg (c_api_Uber (G_api_Uber.mk 5 7 2 (G_api_Ptr.mk 20 5 (A4.mk 0 0 0 0)))).toArray)) ((((((x2.2 && (decide (x2.1 = (G_api_Uber.mk 5 7 2 (G_api_Ptr.mk 20 5 (A4.mk 0 0 0 0)))))) && x4.2.2) && (x4.1 == 7)) && (x4.2.1 == 40)) && (!x6.2)) == true) rfl rfl rfl (fun hc => tx_ldLA (vs := (c_api_Uber (G_api_Uber.mk 5 7 2 (G_api_Ptr.mk 20 5 (A4.mk 0 0 0 0))))) Try.underlying28 rfl s_28 (by decide) rfl rfl rfl rfl) ?_
  obtain ⟨x7, hx7, h⟩ := bindS h
  refine arun_guard (v := (Bo x7)) ((((((x2.2 && (decide (x2.1 = (G_api_Uber.mk 5 7 2 (G_api_Ptr.mk 20 5 (A4.mk 0 0 0 0)))))) && x4.2.2) && (x4.1 == 7)) && (x4.2.1 == 40)) && (!x6.2)) == true) rfl rfl rfl (fun hc => ex_call0 (vs := [(Value.agg (c_api_Uber (G_api_Uber.mk 5 7 2 (G_api_Ptr.mk 20 5 (A4.mk 0 0 0 0)))).toArray)]) (v := (Bo x7)) rfl en_9 (cargs (evs (cond_of hc) evs_nil)) rfl (ok_uber_May (G_api_Uber.mk 5 7 2 (G_api_Ptr.mk 20 5 (A4.mk 0 0 0 0))) x7 (gd_of hc hx7)) rfl) ?_
  refine arun_do rfl rfl rfl (ex_pick rfl pkAnd) ?_
  refine arun_do rfl rfl rfl (ex_move (eV (v := (Bo ((((((x2.2 && (decide (x2.1 = (G_api_Uber.mk 5 7 2 (G_api_Ptr.mk 20 5 (A4.mk 0 0 0 0)))))) && x4.2.2) && (x4.1 == 7)) && (x4.2.1 == 40)) && (!x6.2)) && x7))) rfl)) ?_
  refine arun_guard (v := (Value.agg (c_api_Uber (G_api_Uber.mk 0 0 0 (G_api_Ptr.mk 0 0 (A4.mk 0 0 0 0)))).toArray)) (((((((x2.2 && (decide (x2.1 = (G_api_Uber.mk 5 7 2 (G_api_Ptr.mk 20 5 (A4.mk 0 0 0 0)))))) && x4.2.2) && (x4.1 == 7)) && (x4.2.1 == 40)) && (!x6.2)) && x7) == true) rfl rfl rfl (fun hc => ex_build (qs := []) (v := (Value.agg (c_api_Uber (G_api_Uber.mk 0 0 0 (G_api_Ptr.mk 0 0 (A4.mk 0 0 0 0)))).toArray)) evp_nil (by kernel_rfl)) ?_
  obtain ⟨x8, hx8, h⟩ := bindS h
  refine arun_guard (v := (Bo x8)) (((((((x2.2 && (decide (x2.1 = (G_api_Uber.mk 5 7 2 (G_api_Ptr.mk 20 5 (A4.mk 0 0 0 0)))))) && x4.2.2) && (x4.1 == 7)) && (x4.2.1 == 40)) && (!x6.2)) && x7) == true) rfl rfl rfl (fun hc => ex_call0 (vs := [(Value.agg (c_api_Uber (G_api_Uber.mk 0 0 0 (G_api_Ptr.mk 0 0 (A4.mk 0 0 0 0)))).toArray)]) (v := (Bo x8)) rfl en_9 (cargs (evs (cond_of hc) evs_nil)) rfl (ok_uber_May (G_api_Uber.mk 0 0 0 (G_api_Ptr.mk 0 0 (A4.mk 0 0 0 0))) x8 (gd_of hc hx8)) rfl) ?_
  refine arun_guard (v := (Bo (!x8))) (((((((x2.2 && (decide (x2.1 = (G_api_Uber.mk 5 7 2 (G_api_Ptr.mk 20 5 (A4.mk 0 0 0 0)))))) && x4.2.2) && (x4.1 == 7)) && (x4.2.1 == 40)) && (!x6.2)) && x7) == true) rfl rfl rfl (fun hc => ex_un (vx := (Bo x8)) (cond_of hc) notB_ok) ?_
  refine arun_do rfl rfl rfl (ex_pick rfl pkAnd) ?_
  refine arun_do rfl rfl rfl (ex_assign (eV (v := (Bo (((((((x2.2 && (decide (x2.1 = (G_api_Uber.mk 5 7 2 (G_api_Ptr.mk 20 5 (A4.mk 0 0 0 0)))))) && x4.2.2) && (x4.1 == 7)) && (x4.2.1 == 40)) && (!x6.2)) && x7) && (!x8)))) rfl)) ?_
  refine arun_keepE [0] 0 0 (st' := ⟨59, 0, [(0, (Bo (((((((x2.2 && (decide (x2.1 = (G_api_Uber.mk 5 7 2 (G_api_Ptr.mk 20 5 (A4.mk 0 0 0 0)))))) && x4.2.2) && (x4.1 == 7)) && (x4.2.1 == 40)) && (!x6.2)) && x7) && (!x8))))], [], ⟨0, []⟩⟩) (by kernel_rfl) (by kernel_rfl) ?_
  show AWp _ _ _ _
  refine awp_ret ?_
  cases h
  exact ares1 (rtmp rfl (eV rfl))

end Go.Proofs
