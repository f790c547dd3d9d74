/- Pure models of functions of the program, and that its code does what they say: palimpref1 TakeUber, palimpref1 fall. Written by a program. -/
import Derived.Test.YtmhfodjiefednaaR713
import Derived.Test.YtmhfodjiefednaaR715
import Derived.Test.YtmhfodjiefednaaR716
import Derived.Test.YtmhfodjiefednaaR7B
set_option maxRecDepth 20000
set_option maxHeartbeats 4000000
namespace Go.Proofs
open Go Go.Fhl
set_option linter.unusedVariables false
set_option linter.unusedSimpArgs false
noncomputable def M_ref1_TakeUber (t0 : Str) : Option (GUb × Bool) :=
  Option.bind (M_ref1_Take ([49, 52, 52, 49] : Str) t0) fun (x1 : ((List Int) × Str × Bool)) => cond (!x1.2.2) (some ((GUb.mk 0 0 0 (GPt.mk 0 0 (A4.mk 0 0 0 0))), false)) (Option.bind (M_ref1_TakePtrs x1.2.1 1) fun (x3 : ((List GPt) × Str × Bool)) => cond (!x3.2.2) (some ((GUb.mk 0 0 0 (GPt.mk 0 0 (A4.mk 0 0 0 0))), false)) (Option.bind (getI x1.1 1) fun (x5 : Int) => Option.bind (getI x1.1 2) fun (x6 : Int) => Option.bind (getI x1.1 3) fun (x7 : Int) => Option.bind (getI x3.1 0) fun (x8 : GPt) => Option.bind (M_ref1_PutUber (GUb.mk x5 x6 x7 x8)) fun (x9 : Str) => cond (x9 != t0) (some ((GUb.mk 0 0 0 (GPt.mk 0 0 (A4.mk 0 0 0 0))), false)) (some ((GUb.mk x5 x6 x7 x8), true))))
theorem ok_ref1_TakeUber (t0 : Str) (r : (GUb × Bool)) (h : M_ref1_TakeUber t0 = some r) : FFn Try.prog 49 [(S t0)] (Value.tuple #[(Value.agg (cUb r.1).toArray), (Bo r.2)]) := by
  refine FFn.of_body (n := 47) Try.func49 rfl Try.ntmps49 rfl rfl rfl rfl ?_
  show AWp _ _ _ ⟨47, 0, [(0, (S t0))], [], ⟨0, []⟩⟩
  unfold M_ref1_TakeUber at h
  refine aws ?_
  refine awr ?_
  refine ado rfl rfl rfl (ex_alloc (k := 0) (zs := (cUb (GUb.mk 0 0 0 (GPt.mk 0 0 (A4.mk 0 0 0 0))))) (L' := [(cUb (GUb.mk 0 0 0 (GPt.mk 0 0 (A4.mk 0 0 0 0))))]) z_37 rfl rfl rfl rfl) ?_
  refine ado rfl rfl rfl (eas (eV (v := (Bo false)) rfl)) ?_
  refine ake [0, 2] 1 0 (st' := ⟨47, 0, [(0, (S t0)), (2, (LP 0 0))], [(cUb (GUb.mk 0 0 0 (GPt.mk 0 0 (A4.mk 0 0 0 0))))], ⟨0, []⟩⟩) (by kernel_rfl) (by kernel_rfl) ?_
  show AWp _ _ _ _
  refine aws ?_
  refine awr ?_
  refine ado rfl rfl rfl (emv (eV (v := (S t0)) rfl)) ?_
  obtain ⟨x1, hx1, h⟩ := bindS h
  refine ado rfl rfl rfl (ex_call0 (vs := [(S ([49, 52, 52, 49] : Str)), (S t0)]) (v := (Value.tuple #[(SL 1 cI x1.1), (S x1.2.1), (Bo x1.2.2)])) rfl en_59 (cargs (evs rfl (evs rfl evs_nil))) rfl (ok_ref1_Take ([49, 52, 52, 49] : Str) t0 x1 hx1) rfl) ?_
  refine ado rfl rfl rfl (emv (eV (v := (Value.tuple #[(SL 1 cI x1.1), (S x1.2.1), (Bo x1.2.2)])) rfl)) ?_
  refine ado rfl rfl rfl (ex_extract (vx := (Value.tuple #[(SL 1 cI x1.1), (S x1.2.1), (Bo x1.2.2)])) (v := (SL 1 cI x1.1)) rfl rfl) ?_
  refine ado rfl rfl rfl (ex_extract (vx := (Value.tuple #[(SL 1 cI x1.1), (S x1.2.1), (Bo x1.2.2)])) (v := (S x1.2.1)) rfl rfl) ?_
  refine ado rfl rfl rfl (ex_extract (vx := (Value.tuple #[(SL 1 cI x1.1), (S x1.2.1), (Bo x1.2.2)])) (v := (Bo x1.2.2)) rfl rfl) ?_
  refine ado rfl rfl rfl (eas (eV (v := (SL 1 cI x1.1)) rfl)) ?_
  refine ado rfl rfl rfl (eas (eV (v := (S x1.2.1)) rfl)) ?_
  refine ado rfl rfl rfl (eas (eV (v := (Bo x1.2.2)) rfl)) ?_
  refine ake [0, 2, 4, 5, 6] 1 0 (st' := ⟨47, 0, [(0, (S t0)), (2, (LP 0 0)), (4, (SL 1 cI x1.1)), (5, (S x1.2.1)), (6, (Bo x1.2.2))], [(cUb (GUb.mk 0 0 0 (GPt.mk 0 0 (A4.mk 0 0 0 0))))], ⟨0, []⟩⟩) (by kernel_rfl) (by kernel_rfl) ?_
  show AWp _ _ _ _
  refine aws ?_
  refine aws ?_
  refine awr ?_
  refine ado rfl rfl rfl (emv (eV (v := (Bo x1.2.2)) rfl)) ?_
  refine ado rfl rfl rfl (ex_un (vx := (Bo x1.2.2)) rfl notB_ok) ?_
  refine ake [0, 2, 4, 5, 17] 1 0 (st' := ⟨47, 0, [(0, (S t0)), (2, (LP 0 0)), (4, (SL 1 cI x1.1)), (5, (S x1.2.1)), (17, (Bo (!x1.2.2)))], [(cUb (GUb.mk 0 0 0 (GPt.mk 0 0 (A4.mk 0 0 0 0))))], ⟨0, []⟩⟩) (by kernel_rfl) (by kernel_rfl) ?_
  show AWp _ _ _ _
  rcases Bool.eq_false_or_eq_true (!x1.2.2) with hb2 | hb2
  · rw [condT hb2] at h
    refine awp_condT (boT hb2) ?_
    refine aws ?_
    refine awr ?_
    refine ado rfl rfl rfl (ex_build (qs := []) (v := (Value.agg (cUb (GUb.mk 0 0 0 (GPt.mk 0 0 (A4.mk 0 0 0 0)))).toArray)) evp_nil (by kernel_rfl)) ?_
    refine arun_do0 rfl rfl (ex_storeL (vy := (Value.agg (cUb (GUb.mk 0 0 0 (GPt.mk 0 0 (A4.mk 0 0 0 0)))).toArray)) (cs := (cUb (GUb.mk 0 0 0 (GPt.mk 0 0 (A4.mk 0 0 0 0))))) (vs := (cUb (GUb.mk 0 0 0 (GPt.mk 0 0 (A4.mk 0 0 0 0))))) (L' := [(cUb (GUb.mk 0 0 0 (GPt.mk 0 0 (A4.mk 0 0 0 0))))]) rfl (eV (v := (Value.agg (cUb (GUb.mk 0 0 0 (GPt.mk 0 0 (A4.mk 0 0 0 0)))).toArray)) rfl) rfl s_37 rfl (Nat.le_of_ble_eq_true rfl) (by kernel_rfl)) ?_
    refine ado rfl rfl rfl (eas (eV (v := (Bo false)) rfl)) ?_
    refine ake [2, 3] 1 0 (st' := ⟨47, 0, [(2, (LP 0 0)), (3, (Bo false))], [(cUb (GUb.mk 0 0 0 (GPt.mk 0 0 (A4.mk 0 0 0 0))))], ⟨0, []⟩⟩) (by kernel_rfl) (by kernel_rfl) ?_
    show AWp _ _ _ _
    refine awp_ret ?_
    cases h
    exact aresN rfl (L2.cons (rcellL rfl rfl rfl (partA Try.underlying37 rfl s_37 (by decide) (Nat.le_of_ble_eq_true rfl) rfl)) (L2.cons (rtmp rfl (eV rfl)) L2.nil)) rfl
  · rw [condF hb2] at h
    refine awp_condF (boF hb2) ?_
    refine awp_skip ?_
    show AWp _ _ _ _
    refine aws ?_
    refine awr ?_
    refine ado rfl rfl rfl (emv (eV (v := (S x1.2.1)) rfl)) ?_
    obtain ⟨x3, hx3, h⟩ := bindS h
    refine ado rfl rfl rfl (ex_call0 (vs := [(S x1.2.1), (I 1)]) (v := (Value.tuple #[(SL 6 cPt x3.1), (S x3.2.1), (Bo x3.2.2)])) rfl en_64 (cargs (evs rfl (evs rfl evs_nil))) rfl (ok_ref1_TakePtrs x1.2.1 1 x3 hx3) rfl) ?_
    refine ado rfl rfl rfl (emv (eV (v := (Value.tuple #[(SL 6 cPt x3.1), (S x3.2.1), (Bo x3.2.2)])) rfl)) ?_
    refine ado rfl rfl rfl (ex_extract (vx := (Value.tuple #[(SL 6 cPt x3.1), (S x3.2.1), (Bo x3.2.2)])) (v := (SL 6 cPt x3.1)) rfl rfl) ?_
    refine ado rfl rfl rfl (ex_extract (vx := (Value.tuple #[(SL 6 cPt x3.1), (S x3.2.1), (Bo x3.2.2)])) (v := (S x3.2.1)) rfl rfl) ?_
    refine ado rfl rfl rfl (ex_extract (vx := (Value.tuple #[(SL 6 cPt x3.1), (S x3.2.1), (Bo x3.2.2)])) (v := (Bo x3.2.2)) rfl rfl) ?_
    refine ado rfl rfl rfl (eas (eV (v := (SL 6 cPt x3.1)) rfl)) ?_
    refine ado rfl rfl rfl (eas (eV (v := (S x3.2.1)) rfl)) ?_
    refine ado rfl rfl rfl (eas (eV (v := (Bo x3.2.2)) rfl)) ?_
    refine ake [0, 2, 4, 6, 7] 1 0 (st' := ⟨47, 0, [(0, (S t0)), (2, (LP 0 0)), (4, (SL 1 cI x1.1)), (6, (Bo x3.2.2)), (7, (SL 6 cPt x3.1))], [(cUb (GUb.mk 0 0 0 (GPt.mk 0 0 (A4.mk 0 0 0 0))))], ⟨0, []⟩⟩) (by kernel_rfl) (by kernel_rfl) ?_
    show AWp _ _ _ _
    refine aws ?_
    refine aws ?_
    refine awr ?_
    refine ado rfl rfl rfl (emv (eV (v := (Bo x3.2.2)) rfl)) ?_
    refine ado rfl rfl rfl (ex_un (vx := (Bo x3.2.2)) rfl notB_ok) ?_
    refine ake [0, 2, 4, 7, 26] 1 0 (st' := ⟨47, 0, [(0, (S t0)), (2, (LP 0 0)), (4, (SL 1 cI x1.1)), (7, (SL 6 cPt x3.1)), (26, (Bo (!x3.2.2)))], [(cUb (GUb.mk 0 0 0 (GPt.mk 0 0 (A4.mk 0 0 0 0))))], ⟨0, []⟩⟩) (by kernel_rfl) (by kernel_rfl) ?_
    show AWp _ _ _ _
    rcases Bool.eq_false_or_eq_true (!x3.2.2) with hb4 | hb4
    · rw [condT hb4] at h
      refine awp_condT (boT hb4) ?_
      refine aws ?_
      refine awr ?_
      refine ado rfl rfl rfl (ex_build (qs := []) (v := (Value.agg (cUb (GUb.mk 0 0 0 (GPt.mk 0 0 (A4.mk 0 0 0 0)))).toArray)) evp_nil (by kernel_rfl)) ?_
      refine arun_do0 rfl rfl (ex_storeL (vy := (Value.agg (cUb (GUb.mk 0 0 0 (GPt.mk 0 0 (A4.mk 0 0 0 0)))).toArray)) (cs := (cUb (GUb.mk 0 0 0 (GPt.mk 0 0 (A4.mk 0 0 0 0))))) (vs := (cUb (GUb.mk 0 0 0 (GPt.mk 0 0 (A4.mk 0 0 0 0))))) (L' := [(cUb (GUb.mk 0 0 0 (GPt.mk 0 0 (A4.mk 0 0 0 0))))]) rfl (eV (v := (Value.agg (cUb (GUb.mk 0 0 0 (GPt.mk 0 0 (A4.mk 0 0 0 0)))).toArray)) rfl) rfl s_37 rfl (Nat.le_of_ble_eq_true rfl) (by kernel_rfl)) ?_
      refine ado rfl rfl rfl (eas (eV (v := (Bo false)) rfl)) ?_
      refine ake [2, 3] 1 0 (st' := ⟨47, 0, [(2, (LP 0 0)), (3, (Bo false))], [(cUb (GUb.mk 0 0 0 (GPt.mk 0 0 (A4.mk 0 0 0 0))))], ⟨0, []⟩⟩) (by kernel_rfl) (by kernel_rfl) ?_
      show AWp _ _ _ _
      refine awp_ret ?_
      cases h
      exact aresN rfl (L2.cons (rcellL rfl rfl rfl (partA Try.underlying37 rfl s_37 (by decide) (Nat.le_of_ble_eq_true rfl) rfl)) (L2.cons (rtmp rfl (eV rfl)) L2.nil)) rfl
    · rw [condF hb4] at h
      refine awp_condF (boF hb4) ?_
      refine awp_skip ?_
      show AWp _ _ _ _
      refine aws ?_
      obtain ⟨x5, hx5, h⟩ := bindS h
      obtain ⟨x6, hx6, h⟩ := bindS h
      obtain ⟨x7, hx7, h⟩ := bindS h
      obtain ⟨x8, hx8, h⟩ := bindS h
      refine awp_kn [0, 2, 9] 2 0 (st' := ⟨47, 0, [(0, (S t0)), (2, (LP 0 0)), (9, (LP 1 0))], [(cUb (GUb.mk 0 0 0 (GPt.mk 0 0 (A4.mk 0 0 0 0)))), (cUb (GUb.mk x5 x6 x7 x8))], ⟨0, []⟩⟩) (awp_draw (T := [(SL 1 cI x1.1), (DP (cI x5)), (I x5), (SL 1 cI x1.1), (DP (cI x6)), (I x6), (SL 1 cI x1.1), (DP (cI x7)), (I x7), (SL 6 cPt x3.1), (DP (cPt x8)), (Value.agg (cPt x8).toArray), (Value.agg (cUb (GUb.mk x5 x6 x7 x8)).toArray), (LP 1 0), undef]) (LH := [([(cUb (GUb.mk 0 0 0 (GPt.mk 0 0 (A4.mk 0 0 0 0))))], ⟨0, []⟩), ([(cUb (GUb.mk 0 0 0 (GPt.mk 0 0 (A4.mk 0 0 0 0)))), (cUb (GUb.mk 0 0 0 (GPt.mk 0 0 (A4.mk 0 0 0 0))))], ⟨0, []⟩), ([(cUb (GUb.mk 0 0 0 (GPt.mk 0 0 (A4.mk 0 0 0 0)))), (cUb (GUb.mk x5 x6 x7 x8))], ⟨0, []⟩)]) (D := [⟨[(4, none)], [], [0, 1], false⟩, ⟨[(28, some 0)], [0], [0, 1], false⟩, ⟨[(29, some 1)], [0, 1], [0, 1], false⟩, ⟨[(4, none)], [], [0, 1], false⟩, ⟨[(31, some 3)], [3], [0, 1], false⟩, ⟨[(32, some 4)], [3, 4], [0, 1], false⟩, ⟨[(4, none)], [], [0, 1], false⟩, ⟨[(34, some 6)], [6], [0, 1], false⟩, ⟨[(35, some 7)], [6, 7], [0, 1], false⟩, ⟨[(7, none)], [], [0, 1], false⟩, ⟨[(37, some 9)], [9], [0, 1], false⟩, ⟨[(38, some 10)], [9, 10], [0, 1], false⟩, ⟨[(30, some 2), (33, some 5), (36, some 8), (39, some 11)], [0, 1, 2, 3, 4, 5, 6, 7, 8, 9, 10, 11], [0, 1], false⟩, ⟨[], [], [0], true⟩, ⟨[(9, some 13), (40, some 12)], [0, 1, 2, 3, 4, 5, 6, 7, 8, 9, 10, 11, 12, 13], [1], true⟩]) (S := [13, 14]) (plan := [0, 1, 2, 3, 4, 5, 6, 7, 8, 9, 10, 11, 12, 13, 14]) mo (by kernel_rfl) rfl rfl rfl (dcons (dstepN (by intro k hk; simp only [List.mem_cons, List.not_mem_nil, or_false] at hk; rcases hk with rfl | rfl <;> exact ⟨[(4, (SL 1 cI x1.1))], _, _, _, _, _, rfl, rfl, rfl, rfl, asd rfl (emv (eV (v := (SL 1 cI x1.1)) rfl))⟩)) (dcons (dstepN (by intro k hk; simp only [List.mem_cons, List.not_mem_nil, or_false] at hk; rcases hk with rfl | rfl <;> exact ⟨[(28, (SL 1 cI x1.1))], _, _, _, _, _, rfl, rfl, rfl, rfl, asd rfl (tx_idxD (c := cI) (xs := x1.1) (i := 1) ceI Try.underlying59 s_3 rfl rfl hx5)⟩)) (dcons (dstepN (by intro k hk; simp only [List.mem_cons, List.not_mem_nil, or_false] at hk; rcases hk with rfl | rfl <;> exact ⟨[(29, (DP (cI x5)))], _, _, _, _, _, rfl, rfl, rfl, rfl, asd rfl (tx_ldD1 (v := (I x5)) Try.underlying3 rfl rfl rfl)⟩)) (dcons (dstepN (by intro k hk; simp only [List.mem_cons, List.not_mem_nil, or_false] at hk; rcases hk with rfl | rfl <;> exact ⟨[(4, (SL 1 cI x1.1))], _, _, _, _, _, rfl, rfl, rfl, rfl, asd rfl (emv (eV (v := (SL 1 cI x1.1)) rfl))⟩)) (dcons (dstepN (by intro k hk; simp only [List.mem_cons, List.not_mem_nil, or_false] at hk; rcases hk with rfl | rfl <;> exact ⟨[(31, (SL 1 cI x1.1))], _, _, _, _, _, rfl, rfl, rfl, rfl, asd rfl (tx_idxD (c := cI) (xs := x1.1) (i := 2) ceI Try.underlying59 s_3 rfl rfl hx6)⟩)) (dcons (dstepN (by intro k hk; simp only [List.mem_cons, List.not_mem_nil, or_false] at hk; rcases hk with rfl | rfl <;> exact ⟨[(32, (DP (cI x6)))], _, _, _, _, _, rfl, rfl, rfl, rfl, asd rfl (tx_ldD1 (v := (I x6)) Try.underlying3 rfl rfl rfl)⟩)) (dcons (dstepN (by intro k hk; simp only [List.mem_cons, List.not_mem_nil, or_false] at hk; rcases hk with rfl | rfl <;> exact ⟨[(4, (SL 1 cI x1.1))], _, _, _, _, _, rfl, rfl, rfl, rfl, asd rfl (emv (eV (v := (SL 1 cI x1.1)) rfl))⟩)) (dcons (dstepN (by intro k hk; simp only [List.mem_cons, List.not_mem_nil, or_false] at hk; rcases hk with rfl | rfl <;> exact ⟨[(34, (SL 1 cI x1.1))], _, _, _, _, _, rfl, rfl, rfl, rfl, asd rfl (tx_idxD (c := cI) (xs := x1.1) (i := 3) ceI Try.underlying59 s_3 rfl rfl hx7)⟩)) (dcons (dstepN (by intro k hk; simp only [List.mem_cons, List.not_mem_nil, or_false] at hk; rcases hk with rfl | rfl <;> exact ⟨[(35, (DP (cI x7)))], _, _, _, _, _, rfl, rfl, rfl, rfl, asd rfl (tx_ldD1 (v := (I x7)) Try.underlying3 rfl rfl rfl)⟩)) (dcons (dstepN (by intro k hk; simp only [List.mem_cons, List.not_mem_nil, or_false] at hk; rcases hk with rfl | rfl <;> exact ⟨[(7, (SL 6 cPt x3.1))], _, _, _, _, _, rfl, rfl, rfl, rfl, asd rfl (emv (eV (v := (SL 6 cPt x3.1)) rfl))⟩)) (dcons (dstepN (by intro k hk; simp only [List.mem_cons, List.not_mem_nil, or_false] at hk; rcases hk with rfl | rfl <;> exact ⟨[(37, (SL 6 cPt x3.1))], _, _, _, _, _, rfl, rfl, rfl, rfl, asd rfl (tx_idxD (c := cPt) (xs := x3.1) (i := 0) ce_api_Ptr Try.underlying70 s_35 rfl rfl hx8)⟩)) (dcons (dstepN (by intro k hk; simp only [List.mem_cons, List.not_mem_nil, or_false] at hk; rcases hk with rfl | rfl <;> exact ⟨[(38, (DP (cPt x8)))], _, _, _, _, _, rfl, rfl, rfl, rfl, asd rfl (tx_ldDA (vs := (cPt x8)) Try.underlying35 rfl s_35 (by decide) rfl (Nat.le_of_ble_eq_true rfl) rfl)⟩)) (dcons (dstepN (by intro k hk; simp only [List.mem_cons, List.not_mem_nil, or_false] at hk; rcases hk with rfl | rfl <;> exact ⟨[(30, (I x5)), (33, (I x6)), (36, (I x7)), (39, (Value.agg (cPt x8).toArray))], _, _, _, _, _, rfl, rfl, rfl, rfl, asd rfl (ex_build (qs := [(0, (I x5)), (1, (I x6)), (2, (I x7)), (3, (Value.agg (cPt x8).toArray))]) (v := (Value.agg (cUb (GUb.mk x5 x6 x7 x8)).toArray)) (evp rfl (evp rfl (evp rfl (evp rfl evp_nil)))) (by kernel_rfl))⟩)) (dcons (dst1 (Tm := []) (L := [(cUb (GUb.mk 0 0 0 (GPt.mk 0 0 (A4.mk 0 0 0 0))))]) (H := ⟨0, []⟩) rfl rfl rfl rfl rfl (asd rfl (ex_alloc (k := 1) (zs := (cUb (GUb.mk 0 0 0 (GPt.mk 0 0 (A4.mk 0 0 0 0))))) (L' := [(cUb (GUb.mk 0 0 0 (GPt.mk 0 0 (A4.mk 0 0 0 0)))), (cUb (GUb.mk 0 0 0 (GPt.mk 0 0 (A4.mk 0 0 0 0))))]) z_37 rfl rfl rfl rfl))) (dcons (dst1 (Tm := [(9, (LP 1 0)), (40, (Value.agg (cUb (GUb.mk x5 x6 x7 x8)).toArray))]) (L := [(cUb (GUb.mk 0 0 0 (GPt.mk 0 0 (A4.mk 0 0 0 0)))), (cUb (GUb.mk 0 0 0 (GPt.mk 0 0 (A4.mk 0 0 0 0))))]) (H := ⟨0, []⟩) rfl rfl rfl rfl rfl (asd rfl (ex_storeL (vy := (Value.agg (cUb (GUb.mk x5 x6 x7 x8)).toArray)) (cs := (cUb (GUb.mk 0 0 0 (GPt.mk 0 0 (A4.mk 0 0 0 0))))) (vs := (cUb (GUb.mk x5 x6 x7 x8))) (L' := [(cUb (GUb.mk 0 0 0 (GPt.mk 0 0 (A4.mk 0 0 0 0)))), (cUb (GUb.mk x5 x6 x7 x8))]) rfl (eV (v := (Value.agg (cUb (GUb.mk x5 x6 x7 x8)).toArray)) rfl) rfl s_37 rfl (Nat.le_of_ble_eq_true rfl) (by kernel_rfl)))) dnil))))))))))))))) ⟨rfl, rfl⟩) (by kernel_rfl) (by kernel_rfl) ?_
      show AWp _ _ _ _
      refine aws ?_
      refine aws ?_
      refine awr ?_
      refine ado rfl rfl rfl (tx_ldLA (vs := (cUb (GUb.mk x5 x6 x7 x8))) Try.underlying37 rfl s_37 (by decide) rfl rfl rfl rfl) ?_
      obtain ⟨x9, hx9, h⟩ := bindS h
      refine ado rfl rfl rfl (ex_call0 (vs := [(Value.agg (cUb (GUb.mk x5 x6 x7 x8)).toArray)]) (v := (S x9)) rfl en_20 (cargs (evs rfl evs_nil)) rfl (ok_ref1_PutUber (GUb.mk x5 x6 x7 x8) x9 hx9) rfl) ?_
      refine ado rfl rfl rfl (emv (eV (v := (S t0)) rfl)) ?_
      refine ado rfl rfl rfl (ex_bin (vx := (S x9)) (vy := (S t0)) rfl rfl neqS_ok) ?_
      refine ake [2, 9, 44] 2 0 (st' := ⟨47, 0, [(2, (LP 0 0)), (9, (LP 1 0)), (44, (Bo (x9 != t0)))], [(cUb (GUb.mk 0 0 0 (GPt.mk 0 0 (A4.mk 0 0 0 0)))), (cUb (GUb.mk x5 x6 x7 x8))], ⟨0, []⟩⟩) (by kernel_rfl) (by kernel_rfl) ?_
      show AWp _ _ _ _
      rcases Bool.eq_false_or_eq_true (x9 != t0) with hb10 | hb10
      · rw [condT hb10] at h
        refine awp_condT (boT hb10) ?_
        refine aws ?_
        refine awr ?_
        refine ado rfl rfl rfl (ex_build (qs := []) (v := (Value.agg (cUb (GUb.mk 0 0 0 (GPt.mk 0 0 (A4.mk 0 0 0 0)))).toArray)) evp_nil (by kernel_rfl)) ?_
        refine arun_do0 rfl rfl (ex_storeL (vy := (Value.agg (cUb (GUb.mk 0 0 0 (GPt.mk 0 0 (A4.mk 0 0 0 0)))).toArray)) (cs := (cUb (GUb.mk 0 0 0 (GPt.mk 0 0 (A4.mk 0 0 0 0))))) (vs := (cUb (GUb.mk 0 0 0 (GPt.mk 0 0 (A4.mk 0 0 0 0))))) (L' := [(cUb (GUb.mk 0 0 0 (GPt.mk 0 0 (A4.mk 0 0 0 0)))), (cUb (GUb.mk x5 x6 x7 x8))]) rfl (eV (v := (Value.agg (cUb (GUb.mk 0 0 0 (GPt.mk 0 0 (A4.mk 0 0 0 0)))).toArray)) rfl) rfl s_37 rfl (Nat.le_of_ble_eq_true rfl) (by kernel_rfl)) ?_
        refine ado rfl rfl rfl (eas (eV (v := (Bo false)) rfl)) ?_
        refine ake [2, 3] 1 0 (st' := ⟨47, 0, [(2, (LP 0 0)), (3, (Bo false))], [(cUb (GUb.mk 0 0 0 (GPt.mk 0 0 (A4.mk 0 0 0 0))))], ⟨0, []⟩⟩) (by kernel_rfl) (by kernel_rfl) ?_
        show AWp _ _ _ _
        refine awp_ret ?_
        cases h
        exact aresN rfl (L2.cons (rcellL rfl rfl rfl (partA Try.underlying37 rfl s_37 (by decide) (Nat.le_of_ble_eq_true rfl) rfl)) (L2.cons (rtmp rfl (eV rfl)) L2.nil)) rfl
      · rw [condF hb10] at h
        refine awp_condF (boF hb10) ?_
        refine awp_skip ?_
        show AWp _ _ _ _
        refine aws ?_
        refine awr ?_
        refine ado rfl rfl rfl (tx_ldLA (vs := (cUb (GUb.mk x5 x6 x7 x8))) Try.underlying37 rfl s_37 (by decide) rfl rfl rfl rfl) ?_
        refine arun_do0 rfl rfl (ex_storeL (vy := (Value.agg (cUb (GUb.mk x5 x6 x7 x8)).toArray)) (cs := (cUb (GUb.mk 0 0 0 (GPt.mk 0 0 (A4.mk 0 0 0 0))))) (vs := (cUb (GUb.mk x5 x6 x7 x8))) (L' := [(cUb (GUb.mk x5 x6 x7 x8)), (cUb (GUb.mk x5 x6 x7 x8))]) rfl (eV (v := (Value.agg (cUb (GUb.mk x5 x6 x7 x8)).toArray)) rfl) rfl s_37 rfl (Nat.le_of_ble_eq_true rfl) (by kernel_rfl)) ?_
        refine ado rfl rfl rfl (eas (eV (v := (Bo true)) rfl)) ?_
        refine ake [2, 3] 1 0 (st' := ⟨47, 0, [(2, (LP 0 0)), (3, (Bo true))], [(cUb (GUb.mk x5 x6 x7 x8))], ⟨0, []⟩⟩) (by kernel_rfl) (by kernel_rfl) ?_
        show AWp _ _ _ _
        refine awp_ret ?_
        cases h
        exact aresN rfl (L2.cons (rcellL rfl rfl rfl (partA Try.underlying37 rfl s_37 (by decide) (Nat.le_of_ble_eq_true rfl) rfl)) (L2.cons (rtmp rfl (eV rfl)) L2.nil)) rfl

noncomputable def M_ref1_fall_l1 (t0 : List GUb) (t1 : GUb) : Nat → Int → Option (List GUb)
  | 0, _ => none
  | n1 + 1, v1 =>
  cond (decide (v1 < ((t0.length : Nat) : Int))) (Option.bind (getI t0 v1) fun (x3 : GUb) => cond (x3.Txg == t1.Txg) (some t0) (Option.bind (getI t0 v1) fun (x5 : GUb) => cond (decide (x5.Txg < t1.Txg)) (Option.bind (slL t0 0 v1) fun (x7 : (List GUb)) => Option.bind (appL 56 ([] : List GUb) x7) fun (x8 : List GUb) => Option.bind (appL 56 x8 ([t1] : List GUb)) fun (x9 : List GUb) => Option.bind (slL t0 v1 (t0.length : Int)) fun (x10 : (List GUb)) => Option.bind (appL 56 x9 x10) fun (x11 : List GUb) => growR t0 x11) ((M_ref1_fall_l1 t0 t1 n1) (w64 (v1 + 1))))) (Option.bind (appL 56 t0 ([t1] : List GUb)) fun (x12 : List GUb) => some x12)
noncomputable def M_ref1_fall (t0 : List GUb) (t1 : GUb) : Option (List GUb) :=
  M_ref1_fall_l1 t0 t1 fuel 0
theorem ok_ref1_fall (t0 : List GUb) (t1 : GUb) (r : (List GUb)) (h : M_ref1_fall t0 t1 = some r) : FGr Try.prog 50 [(GV 0 t0.length), (Value.agg (cUb t1).toArray)] 9 ((t0).flatMap cUb) r.length ((r).flatMap cUb) := by
  refine FGr.of_body (n := 45) Try.func50 rfl Try.ntmps50 rfl rfl rfl ?_
  show AWp _ _ _ ⟨45, 1, [(0, (GV 0 t0.length)), (1, (Value.agg (cUb t1).toArray))], [], ⟨1, [(0, ⟨9, ((t0).flatMap cUb), true⟩)]⟩⟩
  unfold M_ref1_fall at h
  refine aws ?_
  refine awr ?_
  refine ado rfl rfl rfl (ex_box (vx := (Value.agg (cUb t1).toArray)) (cs := (cUb t1)) (k := 0) (L' := [(cUb t1)]) (eV (v := (Value.agg (cUb t1).toArray)) rfl) rfl rfl rfl) ?_
  refine ado rfl rfl rfl (eas (eV (v := (Value.slice none 0 0)) rfl)) ?_
  refine ake [0, 3] 1 1 (st' := ⟨45, 1, [(0, (GV 0 t0.length)), (3, (LP 0 0))], [(cUb t1)], ⟨1, [(0, ⟨9, ((t0).flatMap cUb), true⟩)]⟩⟩) (by kernel_rfl) (by kernel_rfl) ?_
  show AWp _ _ _ _
  refine aws ?_
  refine aws ?_
  refine awr ?_
  refine ado rfl rfl rfl (eas (eV (v := (I 0)) rfl)) ?_
  refine ake [0, 3, 5] 1 1 (st' := ⟨45, 1, [(0, (GV 0 t0.length)), (3, (LP 0 0)), (5, (I 0))], [(cUb t1)], ⟨1, [(0, ⟨9, ((t0).flatMap cUb), true⟩)]⟩⟩) (by kernel_rfl) (by kernel_rfl) ?_
  show AWp _ _ _ _
  refine awp_block ?_
  refine awp_loop (fun n s => ∃ (v1 : Int), s = ⟨45, 1, [(0, (GV 0 t0.length)), (3, (LP 0 0)), (5, (I v1))], [(cUb t1)], ⟨1, [(0, ⟨9, ((t0).flatMap cUb), true⟩)]⟩⟩ ∧ M_ref1_fall_l1 t0 t1 n v1 = some r) fuel (Exists.intro 0 (And.intro rfl h)) ?_
  rintro n s ⟨v1, rfl, h⟩ -
  cases n with
  | zero => cases h
  | succ n1 =>
    unfold M_ref1_fall_l1 at h
    refine aws ?_
    refine aws ?_
    refine awr ?_
    refine ado rfl rfl rfl (emv (eV (v := (I v1)) rfl)) ?_
    refine ado rfl rfl rfl (emv (eV (v := (GV 0 t0.length)) rfl)) ?_
    refine ado rfl rfl rfl (ex_lenN (n := t0.length) Try.underlying54 rfl) ?_
    refine ado rfl rfl rfl (ex_bin (vx := (I v1)) (vy := (I ((t0.length : Nat) : Int))) rfl rfl lssI_ok) ?_
    refine ake [0, 3, 5, 9] 1 1 (st' := ⟨45, 1, [(0, (GV 0 t0.length)), (3, (LP 0 0)), (5, (I v1)), (9, (Bo (decide (v1 < ((t0.length : Nat) : Int)))))], [(cUb t1)], ⟨1, [(0, ⟨9, ((t0).flatMap cUb), true⟩)]⟩⟩) (by kernel_rfl) (by kernel_rfl) ?_
    show AWp _ _ _ _
    rcases Bool.eq_false_or_eq_true (decide (v1 < ((t0.length : Nat) : Int))) with hb2 | hb2
    · rw [condT hb2] at h
      refine awp_condT (boT hb2) ?_
      refine awp_skip ?_
      show AWp _ _ _ _
      refine aws ?_
      refine awp_block ?_
      refine aws ?_
      refine aws ?_
      obtain ⟨x3, hx3, h⟩ := bindS h
      refine awp_kn [0, 3, 5, 19] 1 1 (st' := ⟨45, 1, [(0, (GV 0 t0.length)), (3, (LP 0 0)), (5, (I v1)), (19, (Bo (x3.Txg == t1.Txg)))], [(cUb t1)], ⟨1, [(0, ⟨9, ((t0).flatMap cUb), true⟩)]⟩⟩) (awp_draw (T := [(GV 0 t0.length), (I v1), (GP 0 (v1.toNat * 9) (List.flatMap cUb t0).length), (GP 0 ((v1.toNat * 9) + 0) (List.flatMap cUb t0).length), (I x3.Txg), (LP 0 0), (I t1.Txg), (Bo (x3.Txg == t1.Txg))]) (LH := [([(cUb t1)], ⟨1, [(0, ⟨9, ((t0).flatMap cUb), true⟩)]⟩)]) (D := [⟨[(0, none)], [], [0], false⟩, ⟨[(5, none)], [], [0], false⟩, ⟨[(12, some 0), (13, some 1)], [0, 1], [0], false⟩, ⟨[(14, some 2)], [0, 1, 2], [0], false⟩, ⟨[(15, some 3)], [0, 1, 2, 3], [0], false⟩, ⟨[(3, none)], [], [0], false⟩, ⟨[(17, some 5)], [5], [0], false⟩, ⟨[(16, some 4), (18, some 6)], [0, 1, 2, 3, 4, 5, 6], [0], false⟩]) (S := []) (plan := [0, 1, 2, 3, 4, 5, 6, 7]) mo (by kernel_rfl) rfl rfl rfl (dcons (dst1 (Tm := [(0, (GV 0 t0.length))]) (L := [(cUb t1)]) (H := ⟨1, [(0, ⟨9, ((t0).flatMap cUb), true⟩)]⟩) rfl rfl rfl rfl rfl (asd rfl (emv (eV (v := (GV 0 t0.length)) rfl)))) (dcons (dst1 (Tm := [(5, (I v1))]) (L := [(cUb t1)]) (H := ⟨1, [(0, ⟨9, ((t0).flatMap cUb), true⟩)]⟩) rfl rfl rfl rfl rfl (asd rfl (emv (eV (v := (I v1)) rfl)))) (dcons (dst1 (Tm := [(12, (GV 0 t0.length)), (13, (I v1))]) (L := [(cUb t1)]) (H := ⟨1, [(0, ⟨9, ((t0).flatMap cUb), true⟩)]⟩) rfl rfl rfl rfl rfl (asd rfl (tx_idxG (c := cUb) (xs := t0) (i := v1) ce_api_Uber Try.underlying54 s_37 rfl rfl rfl rfl hx3))) (dcons (dst1 (Tm := [(14, (GP 0 (v1.toNat * 9) (List.flatMap cUb t0).length))]) (L := [(cUb t1)]) (H := ⟨1, [(0, ⟨9, ((t0).flatMap cUb), true⟩)]⟩) rfl rfl rfl rfl rfl (asd rfl (efa (v := (GP 0 ((v1.toNat * 9) + 0) (List.flatMap cUb t0).length)) Try.underlying37 rfl s_3 (by decide) rfl rfl))) (dcons (dst1 (Tm := [(15, (GP 0 ((v1.toNat * 9) + 0) (List.flatMap cUb t0).length))]) (L := [(cUb t1)]) (H := ⟨1, [(0, ⟨9, ((t0).flatMap cUb), true⟩)]⟩) rfl rfl rfl rfl rfl (asd rfl (tx_ldG (v := (I x3.Txg)) (s := 9) rfl rfl (part_elem (off := 0) (v := (I x3.Txg)) ce_api_Uber hx3 Try.underlying3 rfl (by decide) rfl)))) (dcons (dst1 (Tm := [(3, (LP 0 0))]) (L := [(cUb t1)]) (H := ⟨1, [(0, ⟨9, ((t0).flatMap cUb), true⟩)]⟩) rfl rfl rfl rfl rfl (asd rfl (efa (v := (LP 0 0)) Try.underlying37 rfl s_3 (by decide) rfl rfl))) (dcons (dst1 (Tm := [(17, (LP 0 0))]) (L := [(cUb t1)]) (H := ⟨1, [(0, ⟨9, ((t0).flatMap cUb), true⟩)]⟩) rfl rfl rfl rfl rfl (asd rfl (tx_ldL1 (v := (I t1.Txg)) Try.underlying3 rfl rfl rfl rfl))) (dcons (dst1 (Tm := [(16, (I x3.Txg)), (18, (I t1.Txg))]) (L := [(cUb t1)]) (H := ⟨1, [(0, ⟨9, ((t0).flatMap cUb), true⟩)]⟩) rfl rfl rfl rfl rfl (asd rfl (ex_bin (vx := (I x3.Txg)) (vy := (I t1.Txg)) rfl rfl eqlI_ok))) dnil)))))))) ⟨rfl, rfl⟩) (by kernel_rfl) (by kernel_rfl) ?_
      show AWp _ _ _ _
      rcases Bool.eq_false_or_eq_true (x3.Txg == t1.Txg) with hb4 | hb4
      · rw [condT hb4] at h
        refine awp_condT (boT hb4) ?_
        refine aws ?_
        refine awr ?_
        refine ado rfl rfl rfl (emv (eV (v := (GV 0 t0.length)) rfl)) ?_
        refine ado rfl rfl rfl (eas (eV (v := (GV 0 t0.length)) rfl)) ?_
        refine ake [4] 0 1 (st' := ⟨45, 1, [(4, (GV 0 t0.length))], [], ⟨1, [(0, ⟨9, ((t0).flatMap cUb), true⟩)]⟩⟩) (by kernel_rfl) (by kernel_rfl) ?_
        show AWp _ _ _ _
        refine awp_ret ?_
        cases h
        exact ⟨0, ares1 (rtmp rfl (eV rfl)), rfl, rfl, .inl rfl⟩
      · rw [condF hb4] at h
        refine awp_condF (boF hb4) ?_
        refine awp_skip ?_
        show AWp _ _ _ _
        refine aws ?_
        obtain ⟨x5, hx5, h⟩ := bindS h
        refine awp_kn [0, 3, 5, 28] 1 1 (st' := ⟨45, 1, [(0, (GV 0 t0.length)), (3, (LP 0 0)), (5, (I v1)), (28, (Bo (decide (x5.Txg < t1.Txg))))], [(cUb t1)], ⟨1, [(0, ⟨9, ((t0).flatMap cUb), true⟩)]⟩⟩) (awp_draw (T := [(GV 0 t0.length), (I v1), (GP 0 (v1.toNat * 9) (List.flatMap cUb t0).length), (GP 0 ((v1.toNat * 9) + 0) (List.flatMap cUb t0).length), (I x5.Txg), (LP 0 0), (I t1.Txg), (Bo (decide (x5.Txg < t1.Txg)))]) (LH := [([(cUb t1)], ⟨1, [(0, ⟨9, ((t0).flatMap cUb), true⟩)]⟩)]) (D := [⟨[(0, none)], [], [0], false⟩, ⟨[(5, none)], [], [0], false⟩, ⟨[(21, some 0), (22, some 1)], [0, 1], [0], false⟩, ⟨[(23, some 2)], [0, 1, 2], [0], false⟩, ⟨[(24, some 3)], [0, 1, 2, 3], [0], false⟩, ⟨[(3, none)], [], [0], false⟩, ⟨[(26, some 5)], [5], [0], false⟩, ⟨[(25, some 4), (27, some 6)], [0, 1, 2, 3, 4, 5, 6], [0], false⟩]) (S := []) (plan := [0, 1, 2, 3, 4, 5, 6, 7]) mo (by kernel_rfl) rfl rfl rfl (dcons (dst1 (Tm := [(0, (GV 0 t0.length))]) (L := [(cUb t1)]) (H := ⟨1, [(0, ⟨9, ((t0).flatMap cUb), true⟩)]⟩) rfl rfl rfl rfl rfl (asd rfl (emv (eV (v := (GV 0 t0.length)) rfl)))) (dcons (dst1 (Tm := [(5, (I v1))]) (L := [(cUb t1)]) (H := ⟨1, [(0, ⟨9, ((t0).flatMap cUb), true⟩)]⟩) rfl rfl rfl rfl rfl (asd rfl (emv (eV (v := (I v1)) rfl)))) (dcons (dst1 (Tm := [(21, (GV 0 t0.length)), (22, (I v1))]) (L := [(cUb t1)]) (H := ⟨1, [(0, ⟨9, ((t0).flatMap cUb), true⟩)]⟩) rfl rfl rfl rfl rfl (asd rfl (tx_idxG (c := cUb) (xs := t0) (i := v1) ce_api_Uber Try.underlying54 s_37 rfl rfl rfl rfl hx5))) (dcons (dst1 (Tm := [(23, (GP 0 (v1.toNat * 9) (List.flatMap cUb t0).length))]) (L := [(cUb t1)]) (H := ⟨1, [(0, ⟨9, ((t0).flatMap cUb), true⟩)]⟩) rfl rfl rfl rfl rfl (asd rfl (efa (v := (GP 0 ((v1.toNat * 9) + 0) (List.flatMap cUb t0).length)) Try.underlying37 rfl s_3 (by decide) rfl rfl))) (dcons (dst1 (Tm := [(24, (GP 0 ((v1.toNat * 9) + 0) (List.flatMap cUb t0).length))]) (L := [(cUb t1)]) (H := ⟨1, [(0, ⟨9, ((t0).flatMap cUb), true⟩)]⟩) rfl rfl rfl rfl rfl (asd rfl (tx_ldG (v := (I x5.Txg)) (s := 9) rfl rfl (part_elem (off := 0) (v := (I x5.Txg)) ce_api_Uber hx5 Try.underlying3 rfl (by decide) rfl)))) (dcons (dst1 (Tm := [(3, (LP 0 0))]) (L := [(cUb t1)]) (H := ⟨1, [(0, ⟨9, ((t0).flatMap cUb), true⟩)]⟩) rfl rfl rfl rfl rfl (asd rfl (efa (v := (LP 0 0)) Try.underlying37 rfl s_3 (by decide) rfl rfl))) (dcons (dst1 (Tm := [(26, (LP 0 0))]) (L := [(cUb t1)]) (H := ⟨1, [(0, ⟨9, ((t0).flatMap cUb), true⟩)]⟩) rfl rfl rfl rfl rfl (asd rfl (tx_ldL1 (v := (I t1.Txg)) Try.underlying3 rfl rfl rfl rfl))) (dcons (dst1 (Tm := [(25, (I x5.Txg)), (27, (I t1.Txg))]) (L := [(cUb t1)]) (H := ⟨1, [(0, ⟨9, ((t0).flatMap cUb), true⟩)]⟩) rfl rfl rfl rfl rfl (asd rfl (ex_bin (vx := (I x5.Txg)) (vy := (I t1.Txg)) rfl rfl lssI_ok))) dnil)))))))) ⟨rfl, rfl⟩) (by kernel_rfl) (by kernel_rfl) ?_
        show AWp _ _ _ _
        rcases Bool.eq_false_or_eq_true (decide (x5.Txg < t1.Txg)) with hb6 | hb6
        · rw [condT hb6] at h
          refine awp_condT (boT hb6) ?_
          refine aws ?_
          refine awp_freeze 0 (bk := ⟨9, ((t0).flatMap cUb), true⟩) (T' := [(0, (SL 9 cUb t0)), (3, (LP 0 0)), (5, (I v1)), (28, (Bo (decide (x5.Txg < t1.Txg))))]) (L' := [(cUb t1)]) rfl (fzG ce_api_Uber rfl rfl (FzT.keep (v := (LP 0 0)) rfl (FzT.keep (v := (I v1)) rfl (FzT.keep (v := (Bo (decide (x5.Txg < t1.Txg)))) rfl FzT.nil)))) (FzL.refl _) ?_
          show AWp _ _ _ ⟨45, 1, [(0, (SL 9 cUb t0)), (3, (LP 0 0)), (5, (I v1)), (28, (Bo (decide (x5.Txg < t1.Txg))))], [(cUb t1)], ⟨1, []⟩⟩
          obtain ⟨x7, hx7, h⟩ := bindS h
          obtain ⟨x8, hx8, h⟩ := bindS h
          obtain ⟨x9, hx9, h⟩ := bindS h
          obtain ⟨x10, hx10, h⟩ := bindS h
          obtain ⟨x11, hx11, h⟩ := bindS h
          refine awp_kn [4] 0 2 (st' := ⟨45, 1, [(4, (GV 1 x11.length))], [], ⟨2, [(1, ⟨9, ((x11).flatMap cUb), true⟩)]⟩⟩) (awp_draw (T := [(GV 1 0), (SL 9 cUb t0), (I v1), (SL 9 cUb x7), (GV 1 x8.length), (Value.agg (cUb t1).toArray), (SL 9 cUb ([t1] : List GUb)), (GV 1 x9.length), (SL 9 cUb t0), (I v1), (SL 9 cUb x10), (GV 1 x11.length), (GV 1 x11.length)]) (LH := [([(cUb t1)], ⟨1, []⟩), ([(cUb t1)], ⟨2, [(1, ⟨9, (([] : List GUb).flatMap cUb), true⟩)]⟩), ([(cUb t1)], ⟨2, [(1, ⟨9, ((x8).flatMap cUb), true⟩)]⟩), ([(cUb t1)], ⟨2, [(1, ⟨9, ((x9).flatMap cUb), true⟩)]⟩), ([(cUb t1)], ⟨2, [(1, ⟨9, ((x11).flatMap cUb), true⟩)]⟩)]) (D := [⟨[], [], [0], true⟩, ⟨[(0, none)], [], [0, 1], false⟩, ⟨[(5, none)], [], [0, 1], false⟩, ⟨[(30, some 1), (31, some 2)], [1, 2], [0, 1], false⟩, ⟨[(29, some 0), (32, some 3)], [0, 1, 2, 3], [1], true⟩, ⟨[(3, none)], [], [0, 1, 2], false⟩, ⟨[(34, some 5)], [5], [0, 1, 2], false⟩, ⟨[(33, some 4), (35, some 6)], [0, 1, 2, 3, 4, 5, 6], [2], true⟩, ⟨[(0, none)], [], [0, 1, 2, 3], false⟩, ⟨[(5, none)], [], [0, 1, 2, 3], false⟩, ⟨[(37, some 8), (38, some 9)], [8, 9], [0, 1, 2, 3], false⟩, ⟨[(36, some 7), (39, some 10)], [0, 1, 2, 3, 4, 5, 6, 7, 8, 9, 10], [3], true⟩, ⟨[(40, some 11)], [0, 1, 2, 3, 4, 5, 6, 7, 8, 9, 10, 11], [4], false⟩]) (S := [0, 4, 7, 11]) (plan := [0, 1, 2, 3, 4, 5, 6, 7, 8, 9, 10, 11, 12]) mo (by kernel_rfl) rfl rfl rfl (dcons (dst1 (Tm := []) (L := [(cUb t1)]) (H := ⟨1, []⟩) rfl rfl rfl rfl rfl (asd rfl (ex_buildSliceG (k := 1) (qs := []) (cells := (([] : List GUb).flatMap cUb)) (H' := ⟨2, [(1, ⟨9, (([] : List GUb).flatMap cUb), true⟩)]⟩) Try.underlying54 s_37 (by decide) (by decide) evp_nil rfl (by kernel_rfl) (by kernel_rfl) (by kernel_rfl) rfl rfl))) (dcons (dstepN (by intro k hk; simp only [List.mem_cons, List.not_mem_nil, or_false] at hk; rcases hk with rfl | rfl <;> exact ⟨[(0, (SL 9 cUb t0))], _, _, _, _, _, rfl, rfl, rfl, rfl, asd rfl (emv (eV (v := (SL 9 cUb t0)) rfl))⟩)) (dcons (dstepN (by intro k hk; simp only [List.mem_cons, List.not_mem_nil, or_false] at hk; rcases hk with rfl | rfl <;> exact ⟨[(5, (I v1))], _, _, _, _, _, rfl, rfl, rfl, rfl, asd rfl (emv (eV (v := (I v1)) rfl))⟩)) (dcons (dstepN (by intro k hk; simp only [List.mem_cons, List.not_mem_nil, or_false] at hk; rcases hk with rfl | rfl <;> exact ⟨[(30, (SL 9 cUb t0)), (31, (I v1))], _, _, _, _, _, rfl, rfl, rfl, rfl, asd rfl (tx_slD (c := cUb) (xs := t0) ce_api_Uber Try.underlying54 s_37 rfl lo0 (hiX (l := v1) rfl) hx7)⟩)) (dcons (dst1 (Tm := [(29, (GV 1 0)), (32, (SL 9 cUb x7))]) (L := [(cUb t1)]) (H := ⟨2, [(1, ⟨9, (([] : List GUb).flatMap cUb), true⟩)]⟩) rfl rfl rfl rfl rfl (asd rfl (tx_appG (c := cUb) (xs := []) (H' := ⟨2, [(1, ⟨9, ((x8).flatMap cUb), true⟩)]⟩) ce_api_Uber e_37 rfl rfl rfl (tsrcD (ys := x7) ce_api_Uber Try.underlying54 s_37 Try.underlying54 rfl) hx8 rfl))) (dcons (dstepN (by intro k hk; simp only [List.mem_cons, List.not_mem_nil, or_false] at hk; rcases hk with rfl | rfl | rfl <;> exact ⟨[(3, (LP 0 0))], _, _, _, _, _, rfl, rfl, rfl, rfl, asd rfl (tx_ldLA (vs := (cUb t1)) Try.underlying37 rfl s_37 (by decide) rfl rfl rfl rfl)⟩)) (dcons (dstepN (by intro k hk; simp only [List.mem_cons, List.not_mem_nil, or_false] at hk; rcases hk with rfl | rfl | rfl <;> exact ⟨[(34, (Value.agg (cUb t1).toArray))], _, _, _, _, _, rfl, rfl, rfl, rfl, asd rfl (ex_buildSliceD (qs := [(0, (Value.agg (cUb t1).toArray))]) (cells := (([t1] : List GUb).flatMap cUb)) Try.underlying54 s_37 (by decide) (evp rfl evp_nil) rfl (by kernel_rfl) (by kernel_rfl) (by kernel_rfl))⟩)) (dcons (dst1 (Tm := [(33, (GV 1 x8.length)), (35, (SL 9 cUb ([t1] : List GUb)))]) (L := [(cUb t1)]) (H := ⟨2, [(1, ⟨9, ((x8).flatMap cUb), true⟩)]⟩) rfl rfl rfl rfl rfl (asd rfl (tx_appG (c := cUb) (xs := x8) (H' := ⟨2, [(1, ⟨9, ((x9).flatMap cUb), true⟩)]⟩) ce_api_Uber e_37 rfl rfl rfl (tsrcD (ys := ([t1] : List GUb)) ce_api_Uber Try.underlying54 s_37 Try.underlying54 rfl) hx9 rfl))) (dcons (dstepN (by intro k hk; simp only [List.mem_cons, List.not_mem_nil, or_false] at hk; rcases hk with rfl | rfl | rfl | rfl <;> exact ⟨[(0, (SL 9 cUb t0))], _, _, _, _, _, rfl, rfl, rfl, rfl, asd rfl (emv (eV (v := (SL 9 cUb t0)) rfl))⟩)) (dcons (dstepN (by intro k hk; simp only [List.mem_cons, List.not_mem_nil, or_false] at hk; rcases hk with rfl | rfl | rfl | rfl <;> exact ⟨[(5, (I v1))], _, _, _, _, _, rfl, rfl, rfl, rfl, asd rfl (emv (eV (v := (I v1)) rfl))⟩)) (dcons (dstepN (by intro k hk; simp only [List.mem_cons, List.not_mem_nil, or_false] at hk; rcases hk with rfl | rfl | rfl | rfl <;> exact ⟨[(37, (SL 9 cUb t0)), (38, (I v1))], _, _, _, _, _, rfl, rfl, rfl, rfl, asd rfl (tx_slD (c := cUb) (xs := t0) ce_api_Uber Try.underlying54 s_37 rfl (loX (l := v1) rfl) hiN hx10)⟩)) (dcons (dst1 (Tm := [(36, (GV 1 x9.length)), (39, (SL 9 cUb x10))]) (L := [(cUb t1)]) (H := ⟨2, [(1, ⟨9, ((x9).flatMap cUb), true⟩)]⟩) rfl rfl rfl rfl rfl (asd rfl (tx_appG (c := cUb) (xs := x9) (H' := ⟨2, [(1, ⟨9, ((x11).flatMap cUb), true⟩)]⟩) ce_api_Uber e_37 rfl rfl rfl (tsrcD (ys := x10) ce_api_Uber Try.underlying54 s_37 Try.underlying54 rfl) hx11 rfl))) (dcons (dst1 (Tm := [(40, (GV 1 x11.length))]) (L := [(cUb t1)]) (H := ⟨2, [(1, ⟨9, ((x11).flatMap cUb), true⟩)]⟩) rfl rfl rfl rfl rfl (asd rfl (eas (eV (v := (GV 1 x11.length)) rfl)))) dnil))))))))))))) ⟨rfl, rfl⟩) (by kernel_rfl) (by kernel_rfl) ?_
          show AWp _ _ _ _
          refine awp_ret ?_
          obtain ⟨rfl, hlt⟩ := growR_of h
          exact ⟨1, ares1 (rtmp rfl (eV rfl)), rfl, rfl, .inr (flat_lt ce_api_Uber hlt)⟩
        · rw [condF hb6] at h
          refine awp_condF (boF hb6) ?_
          refine awp_skip ?_
          show AWp _ _ _ _
          refine awr ?_
          refine ado rfl rfl rfl (emv (eV (v := (I v1)) rfl)) ?_
          refine ado rfl rfl rfl (ex_bin (vx := (I v1)) (vy := (I 1)) rfl rfl addI_ok) ?_
          refine ado rfl rfl rfl (eas (eV (v := (I (w64 (v1 + 1)))) rfl)) ?_
          refine ake [0, 3, 5] 1 1 (st' := ⟨45, 1, [(0, (GV 0 t0.length)), (3, (LP 0 0)), (5, (I (w64 (v1 + 1))))], [(cUb t1)], ⟨1, [(0, ⟨9, ((t0).flatMap cUb), true⟩)]⟩⟩) (by kernel_rfl) (by kernel_rfl) ?_
          exact Exists.intro n1 (And.intro (Nat.lt_succ_self _) (Exists.intro (w64 (v1 + 1)) (And.intro rfl h)))
    · rw [condF hb2] at h
      refine awp_condF (boF hb2) ?_
      refine awp_exit ?_
      show AWp _ _ _ _
      refine aws ?_
      refine awr ?_
      refine ado rfl rfl rfl (emv (eV (v := (GV 0 t0.length)) rfl)) ?_
      refine ado rfl rfl rfl (tx_ldLA (vs := (cUb t1)) Try.underlying37 rfl s_37 (by decide) rfl rfl rfl rfl) ?_
      refine ado rfl rfl rfl (ex_buildSliceD (qs := [(0, (Value.agg (cUb t1).toArray))]) (cells := (([t1] : List GUb).flatMap cUb)) Try.underlying54 s_37 (by decide) (evp rfl evp_nil) rfl (by kernel_rfl) (by kernel_rfl) (by kernel_rfl)) ?_
      obtain ⟨x12, hx12, h⟩ := bindS h
      refine ado rfl rfl rfl (tx_appG (c := cUb) (xs := t0) (H' := ⟨1, [(0, ⟨9, ((x12).flatMap cUb), true⟩)]⟩) ce_api_Uber e_37 rfl rfl rfl (tsrcD (ys := ([t1] : List GUb)) ce_api_Uber Try.underlying54 s_37 Try.underlying54 rfl) hx12 rfl) ?_
      refine ado rfl rfl rfl (eas (eV (v := (GV 0 x12.length)) rfl)) ?_
      refine ake [4] 0 1 (st' := ⟨45, 1, [(4, (GV 0 x12.length))], [], ⟨1, [(0, ⟨9, ((x12).flatMap cUb), true⟩)]⟩⟩) (by kernel_rfl) (by kernel_rfl) ?_
      show AWp _ _ _ _
      refine awp_ret ?_
      cases h
      exact ⟨0, ares1 (rtmp rfl (eV rfl)), rfl, rfl, .inl rfl⟩

end Go.Proofs
