/- Pure models of functions of the program, and that its code does what they say: palimplaw7 LabelOne. Written by a program. -/
import Derived.Test.YtmhfodjiefednaaR70
import Derived.Test.YtmhfodjiefednaaR710
import Derived.Test.YtmhfodjiefednaaR711
import Derived.Test.YtmhfodjiefednaaR712
import Derived.Test.YtmhfodjiefednaaR73
import Derived.Test.YtmhfodjiefednaaR74
import Derived.Test.YtmhfodjiefednaaR77
import Derived.Test.YtmhfodjiefednaaR7B
set_option maxRecDepth 20000
set_option maxHeartbeats 4000000
namespace Go.Proofs
open Go Go.Fhl
set_option linter.unusedVariables false
set_option linter.unusedSimpArgs false
noncomputable def M_law7_LabelOne_k1 (c_1 : (Int → G_api_Dev → Option Bool)) (t0 : (A4 UInt8)) (t1 : UInt8) (x3 : G_api_Uber) (v5 : Int) (y8 : G_api_Dev) : Option Bool :=
  c_1 (w64 (v5 + 1)) y8
noncomputable def M_law7_LabelOne_k2 (c_1 : (Int → G_api_Dev → Option Bool)) (c_2 : (Int → G_api_Dev → Option Bool)) (c_3 : (Int → G_api_Dev → Option Bool)) (t0 : (A4 UInt8)) (t1 : UInt8) (x3 : G_api_Uber) (v14 : Int) (x17 : (List G_api_Put)) (v19 : Int) (y22 : G_api_Dev) : Option Bool :=
  c_3 (w64 (v19 + 1)) y22
noncomputable def M_law7_LabelOne_l3 (c_1 : (Int → G_api_Dev → Option Bool)) (c_2 : (Int → G_api_Dev → Option Bool)) (t0 : (A4 UInt8)) (t1 : UInt8) (x3 : G_api_Uber) (v14 : Int) (x17 : (List G_api_Put)) : Nat → Int → G_api_Dev → Option Bool
  | 0, _, _ => none
  | n3 + 1, v19, v20 =>
  cond (decide (v19 < 2)) (Option.bind (shr8 t1 (w64 ((w64 (4 + v14)) + (w64 (2 * v19))))) fun (x23 : UInt8) => cond ((x23 &&& 1) == 0) (Option.bind (slL x17 v19 (w64 (v19 + 1))) fun (x25 : (List G_api_Put)) => Option.bind (M_ref1_Write v20 x25) fun (x26 : (G_api_Dev × Bool)) => M_law7_LabelOne_k2 c_1 c_2 (M_law7_LabelOne_l3 c_1 c_2 t0 t1 x3 v14 x17 n3) t0 t1 x3 v14 x17 v19 x26.1) (M_law7_LabelOne_k2 c_1 c_2 (M_law7_LabelOne_l3 c_1 c_2 t0 t1 x3 v14 x17 n3) t0 t1 x3 v14 x17 v19 v20)) (c_2 (w64 (v14 + 1)) v20)
noncomputable def M_law7_LabelOne_l2 (c_1 : (Int → G_api_Dev → Option Bool)) (t0 : (A4 UInt8)) (t1 : UInt8) (x3 : G_api_Uber) : Nat → Int → G_api_Dev → Option Bool
  | 0, _, _ => none
  | n2 + 1, v14, v15 =>
  cond (decide (v14 < 2)) (Option.bind (M_label_Phase 40 (G_api_Uber.mk x3.Txg 7 x3.Seat x3.Root) v14) fun (x17 : (List G_api_Put)) => cond ((x17.length : Int) != 2) (some false) (M_law7_LabelOne_l3 c_1 (M_law7_LabelOne_l2 c_1 t0 t1 x3 n2) t0 t1 x3 v14 x17 fuel 0 v15)) (Option.bind (M_label_Roots v15) fun (x27 : (List G_api_Uber)) => Option.bind (gd (((t1 &&& 15) == 15) == false) (shr8 t1 4)) fun (x28 : UInt8) => cond (((t1 &&& 15) == 15) || (x28 == 15)) (some ((x27.length : Int) == 0)) (Option.bind (gd (((x27.length : Int) == 1) == true) (getI x27 0)) fun (x30 : G_api_Uber) => some (((x27.length : Int) == 1) && (decide (x30 = (G_api_Uber.mk x3.Txg 7 x3.Seat x3.Root))))))
noncomputable def M_law7_LabelOne_l1 (t0 : (A4 UInt8)) (t1 : UInt8) (x3 : G_api_Uber) : Nat → Int → G_api_Dev → Option Bool
  | 0, _, _ => none
  | n1 + 1, v5, v6 =>
  cond (decide (v5 < 4)) (Option.bind (shr8 t1 v5) fun (x9 : UInt8) => cond ((x9 &&& 1) == 0) (Option.bind (M_label_At 40 v5) fun (x11 : Int) => Option.bind (M_ref1_Config 7 40) fun (x12 : Str) => Option.bind (M_ref1_Write v6 ([(G_api_Put.mk x11 x12)] : List G_api_Put)) fun (x13 : (G_api_Dev × Bool)) => M_law7_LabelOne_k1 (M_law7_LabelOne_l1 t0 t1 x3 n1) t0 t1 x3 v5 x13.1) (M_law7_LabelOne_k1 (M_law7_LabelOne_l1 t0 t1 x3 n1) t0 t1 x3 v5 v6)) (M_law7_LabelOne_l2 (M_law7_LabelOne_l1 t0 t1 x3 n1) t0 t1 x3 fuel 0 v6)
noncomputable def M_law7_LabelOne (t0 : (A4 UInt8)) (t1 : UInt8) : Option Bool :=
  Option.bind (M_law7_begun) fun (x1 : Bool) => cond (!x1) (some false) (Option.bind (M_law7_uberOf t0) fun (x3 : G_api_Uber) => Option.bind (M_ref1_New 68) fun (x4 : G_api_Dev) => M_law7_LabelOne_l1 t0 t1 x3 fuel 0 x4)
theorem ok_law7_LabelOne (t0 : (A4 UInt8)) (t1 : UInt8) (r : Bool) (h : M_law7_LabelOne t0 t1 = some r) : FFn Try.prog 4 [(Value.agg ((cA4 c8) t0).toArray), (U8 t1)] (Bo r) := by
  refine FFn.of_body (n := 93) Try.func4 rfl Try.ntmps4 rfl rfl rfl rfl ?_
  show AWp _ _ _ ⟨93, 0, [(0, (Value.agg ((cA4 c8) t0).toArray)), (1, (U8 t1))], [], ⟨0, []⟩⟩
  unfold M_law7_LabelOne at h
  refine awp_seq ?_
  refine awp_region ?_
  refine arun_do rfl rfl rfl (ex_box (vx := (Value.agg ((cA4 c8) t0).toArray)) (cs := ((cA4 c8) t0)) (k := 0) (L' := [((cA4 c8) t0)]) (eV (v := (Value.agg ((cA4 c8) t0).toArray)) rfl) rfl rfl rfl) ?_
  refine arun_do rfl rfl rfl (ex_assign (eV (v := (Bo false)) rfl)) ?_
  refine arun_keepE [1, 2] 1 0 (st' := ⟨93, 0, [(1, (U8 t1)), (2, (LP 0 0))], [((cA4 c8) t0)], ⟨0, []⟩⟩) (by kernel_rfl) (by kernel_rfl) ?_
  show AWp _ _ _ _
  refine awp_seq ?_
  refine awp_seq ?_
  refine awp_region ?_
  obtain ⟨x1, hx1, h⟩ := bindS h
  refine arun_do rfl rfl rfl (ex_call0 (vs := []) (v := (Bo x1)) rfl en_9 (cargs evs_nil) rfl (ok_law7_begun  x1 hx1) rfl) ?_
  refine arun_do rfl rfl rfl (ex_un (vx := (Bo x1)) rfl notB_ok) ?_
  refine arun_keepE [1, 2, 13] 1 0 (st' := ⟨93, 0, [(1, (U8 t1)), (2, (LP 0 0)), (13, (Bo (!x1)))], [((cA4 c8) t0)], ⟨0, []⟩⟩) (by kernel_rfl) (by kernel_rfl) ?_
  show AWp _ _ _ _
  rcases Bool.eq_false_or_eq_true (!x1) with hb2 | hb2
  · rw [condT hb2] at h
    refine awp_condT (boT hb2) ?_
    refine awp_seq ?_
    refine awp_region ?_
    refine arun_do rfl rfl rfl (ex_assign (eV (v := (Bo false)) rfl)) ?_
    refine arun_keepE [4] 0 0 (st' := ⟨93, 0, [(4, (Bo false))], [], ⟨0, []⟩⟩) (by kernel_rfl) (by kernel_rfl) ?_
    show AWp _ _ _ _
    refine awp_ret ?_
    cases h
    exact ares1 (rtmp rfl (eV rfl))
  · rw [condF hb2] at h
    refine awp_condF (boF hb2) ?_
    refine awp_skip ?_
    show AWp _ _ _ _
    refine awp_seq ?_
    refine awp_region ?_
    refine arun_do rfl rfl rfl (tx_ldLA (vs := ((cA4 c8) t0)) Try.underlying39 rfl s_39 (by decide) rfl rfl rfl rfl) ?_
    obtain ⟨x3, hx3, h⟩ := bindS h
    refine arun_do rfl rfl rfl (ex_call0 (vs := [(Value.agg ((cA4 c8) t0).toArray)]) (v := (Value.agg (c_api_Uber x3).toArray)) rfl en_15 (cargs (evs rfl evs_nil)) rfl (ok_law7_uberOf t0 x3 hx3) rfl) ?_
    refine arun_do rfl rfl rfl (ex_alloc (k := 1) (zs := (c_api_Uber (G_api_Uber.mk 0 0 0 (G_api_Ptr.mk 0 0 (A4.mk 0 0 0 0))))) (L' := [((cA4 c8) t0), (c_api_Uber (G_api_Uber.mk 0 0 0 (G_api_Ptr.mk 0 0 (A4.mk 0 0 0 0))))]) z_37 rfl rfl rfl rfl) ?_
    refine arun_do0 rfl rfl (ex_storeL (vy := (Value.agg (c_api_Uber x3).toArray)) (cs := (c_api_Uber (G_api_Uber.mk 0 0 0 (G_api_Ptr.mk 0 0 (A4.mk 0 0 0 0))))) (vs := (c_api_Uber x3)) (L' := [((cA4 c8) t0), (c_api_Uber x3)]) rfl (eV (v := (Value.agg (c_api_Uber x3).toArray)) rfl) rfl s_37 rfl (Nat.le_of_ble_eq_true rfl) (by kernel_rfl)) ?_
    refine arun_keepE [1, 5] 2 0 (st' := ⟨93, 0, [(1, (U8 t1)), (5, (LP 1 0))], [((cA4 c8) t0), (c_api_Uber x3)], ⟨0, []⟩⟩) (by kernel_rfl) (by kernel_rfl) ?_
    show AWp _ _ _ _
    refine awp_seq ?_
    refine awp_region ?_
    refine arun_do rfl rfl rfl (ex_fieldAddr (v := (LP 1 1)) Try.underlying37 rfl s_3 (by decide) rfl rfl) ?_
    refine arun_do0 rfl rfl (ex_storeL (vy := (I 7)) (cs := (c_api_Uber x3)) (vs := [(I 7)]) (L' := [((cA4 c8) t0), (c_api_Uber (G_api_Uber.mk x3.Txg 7 x3.Seat x3.Root))]) rfl (eV (v := (I 7)) rfl) rfl s_3 rfl (Nat.le_of_ble_eq_true rfl) (by kernel_rfl)) ?_
    refine arun_keepE [1, 5] 2 0 (st' := ⟨93, 0, [(1, (U8 t1)), (5, (LP 1 0))], [((cA4 c8) t0), (c_api_Uber (G_api_Uber.mk x3.Txg 7 x3.Seat x3.Root))], ⟨0, []⟩⟩) (by kernel_rfl) (by kernel_rfl) ?_
    show AWp _ _ _ _
    refine awp_seq ?_
    refine awp_region ?_
    obtain ⟨x4, hx4, h⟩ := bindS h
    refine arun_do rfl rfl rfl (ex_call0 (vs := [(I 68)]) (v := (Value.agg (c_api_Dev x4).toArray)) rfl en_14 (cargs (evs rfl evs_nil)) rfl (ok_ref1_New 68 x4 hx4) rfl) ?_
    refine arun_do rfl rfl rfl (ex_allocW (k := 2) (zs := (c_api_Dev (G_api_Dev.mk [] [] 0 0 false))) (L' := [((cA4 c8) t0), (c_api_Uber (G_api_Uber.mk x3.Txg 7 x3.Seat x3.Root)), (c_api_Dev (G_api_Dev.mk [] [] 0 0 false))]) z_29 rfl (by repeat (first | exact trivial | refine ⟨.inl rfl, ?_⟩ | refine ⟨.inr ⟨rfl, _, rfl⟩, ?_⟩)) rfl rfl) ?_
    refine arun_do0 rfl rfl (ex_storeL (vy := (Value.agg (c_api_Dev x4).toArray)) (cs := (c_api_Dev (G_api_Dev.mk [] [] 0 0 false))) (vs := (c_api_Dev x4)) (L' := [((cA4 c8) t0), (c_api_Uber (G_api_Uber.mk x3.Txg 7 x3.Seat x3.Root)), (c_api_Dev x4)]) rfl (eV (v := (Value.agg (c_api_Dev x4).toArray)) rfl) rfl s_29 rfl (Nat.le_of_ble_eq_true rfl) (by kernel_rfl)) ?_
    refine arun_keepE [1, 5, 6] 3 0 (st' := ⟨93, 0, [(1, (U8 t1)), (5, (LP 1 0)), (6, (LP 2 0))], [((cA4 c8) t0), (c_api_Uber (G_api_Uber.mk x3.Txg 7 x3.Seat x3.Root)), (c_api_Dev x4)], ⟨0, []⟩⟩) (by kernel_rfl) (by kernel_rfl) ?_
    show AWp _ _ _ _
    refine awp_seq ?_
    refine awp_seq ?_
    refine awp_region ?_
    refine arun_do rfl rfl rfl (ex_assign (eV (v := (I 0)) rfl)) ?_
    refine arun_keepE [1, 5, 6, 7] 3 0 (st' := ⟨93, 0, [(1, (U8 t1)), (5, (LP 1 0)), (6, (LP 2 0)), (7, (I 0))], [((cA4 c8) t0), (c_api_Uber (G_api_Uber.mk x3.Txg 7 x3.Seat x3.Root)), (c_api_Dev x4)], ⟨0, []⟩⟩) (by kernel_rfl) (by kernel_rfl) ?_
    show AWp _ _ _ _
    refine awp_block ?_
    refine awp_loop (fun n s => ∃ (v5 : Int) (v6 : G_api_Dev), s = ⟨93, 0, [(1, (U8 t1)), (5, (LP 1 0)), (6, (LP 2 0)), (7, (I v5))], [((cA4 c8) t0), (c_api_Uber (G_api_Uber.mk x3.Txg 7 x3.Seat x3.Root)), (c_api_Dev v6)], ⟨0, []⟩⟩ ∧ M_law7_LabelOne_l1 t0 t1 x3 n v5 v6 = some r) fuel (Exists.intro 0 (Exists.intro x4 (And.intro rfl h))) ?_
    rintro n s ⟨v5, v6, rfl, h⟩ -
    cases n with
    | zero => cases h
    | succ n1 =>
      unfold M_law7_LabelOne_l1 at h
      refine awp_seq ?_
      refine awp_seq ?_
      refine awp_region ?_
      refine arun_do rfl rfl rfl (ex_move (eV (v := (I v5)) rfl)) ?_
      refine arun_do rfl rfl rfl (ex_bin (vx := (I v5)) (vy := (I 4)) rfl rfl lssI_ok) ?_
      refine arun_keepE [1, 5, 6, 7, 19] 3 0 (st' := ⟨93, 0, [(1, (U8 t1)), (5, (LP 1 0)), (6, (LP 2 0)), (7, (I v5)), (19, (Bo (decide (v5 < 4))))], [((cA4 c8) t0), (c_api_Uber (G_api_Uber.mk x3.Txg 7 x3.Seat x3.Root)), (c_api_Dev v6)], ⟨0, []⟩⟩) (by kernel_rfl) (by kernel_rfl) ?_
      show AWp _ _ _ _
      rcases Bool.eq_false_or_eq_true (decide (v5 < 4)) with hb7 | hb7
      · rw [condT hb7] at h
        refine awp_condT (boT hb7) ?_
        refine awp_skip ?_
        show AWp _ _ _ _
        refine awp_seqJ (fun s => ∃ (y8 : G_api_Dev), s = ⟨93, 0, [(1, (U8 t1)), (5, (LP 1 0)), (6, (LP 2 0)), (7, (I v5))], [((cA4 c8) t0), (c_api_Uber (G_api_Uber.mk x3.Txg 7 x3.Seat x3.Root)), (c_api_Dev y8)], ⟨0, []⟩⟩ ∧ M_law7_LabelOne_k1 (M_law7_LabelOne_l1 t0 t1 x3 n1) t0 t1 x3 v5 y8 = some r) ?_ ?_
        · refine awp_block ?_
          refine awp_seq ?_
          refine awp_region ?_
          refine arun_do rfl rfl rfl (ex_move (eV (v := (U8 t1)) rfl)) ?_
          refine arun_do rfl rfl rfl (ex_move (eV (v := (I v5)) rfl)) ?_
          obtain ⟨x9, hx9, h⟩ := bindS h
          refine arun_do rfl rfl rfl (ex_bin (vx := (U8 t1)) (vy := (I v5)) rfl rfl (shr8_ok hx9)) ?_
          refine arun_do rfl rfl rfl (ex_bin (vx := (U8 x9)) (vy := (U8 1)) rfl rfl and8_ok) ?_
          refine arun_do rfl rfl rfl (ex_bin (vx := (U8 (x9 &&& 1))) (vy := (U8 0)) rfl rfl eql8_ok) ?_
          refine arun_keepE [1, 5, 6, 7, 26] 3 0 (st' := ⟨93, 0, [(1, (U8 t1)), (5, (LP 1 0)), (6, (LP 2 0)), (7, (I v5)), (26, (Bo ((x9 &&& 1) == 0)))], [((cA4 c8) t0), (c_api_Uber (G_api_Uber.mk x3.Txg 7 x3.Seat x3.Root)), (c_api_Dev v6)], ⟨0, []⟩⟩) (by kernel_rfl) (by kernel_rfl) ?_
          show AWp _ _ _ _
          rcases Bool.eq_false_or_eq_true ((x9 &&& 1) == 0) with hb10 | hb10
          · rw [condT hb10] at h
            refine awp_condT (boT hb10) ?_
            obtain ⟨x11, hx11, h⟩ := bindS h
            obtain ⟨x12, hx12, h⟩ := bindS h
            obtain ⟨x13, hx13, h⟩ := bindS h
            refine awp_kn [1, 5, 6, 7] 3 0 (st' := ⟨93, 0, [(1, (U8 t1)), (5, (LP 1 0)), (6, (LP 2 0)), (7, (I v5))], [((cA4 c8) t0), (c_api_Uber (G_api_Uber.mk x3.Txg 7 x3.Seat x3.Root)), (c_api_Dev x13.1)], ⟨0, []⟩⟩) (awp_draw (T := [(Value.agg (c_api_Dev v6).toArray), (I v5), (I x11), (S x12), (Value.agg (c_api_Put (G_api_Put.mk x11 x12)).toArray), (SL 2 c_api_Put ([(G_api_Put.mk x11 x12)] : List G_api_Put)), (Value.tuple #[(Value.agg (c_api_Dev x13.1).toArray), (Bo x13.2)]), (Value.tuple #[(Value.agg (c_api_Dev x13.1).toArray), (Bo x13.2)]), (Value.agg (c_api_Dev x13.1).toArray), (Bo x13.2), undef]) (LH := [([((cA4 c8) t0), (c_api_Uber (G_api_Uber.mk x3.Txg 7 x3.Seat x3.Root)), (c_api_Dev v6)], ⟨0, []⟩), ([((cA4 c8) t0), (c_api_Uber (G_api_Uber.mk x3.Txg 7 x3.Seat x3.Root)), (c_api_Dev x13.1)], ⟨0, []⟩)]) (D := [⟨[(6, none)], [], [0], false⟩, ⟨[(7, none)], [], [0], false⟩, ⟨[(29, some 1)], [1], [0], false⟩, ⟨[], [1, 2], [0], false⟩, ⟨[(30, some 2), (31, some 3)], [1, 2, 3], [0], false⟩, ⟨[(32, some 4)], [1, 2, 3, 4], [0], false⟩, ⟨[(28, some 0), (33, some 5)], [0, 1, 2, 3, 4, 5], [0], false⟩, ⟨[(34, some 6)], [0, 1, 2, 3, 4, 5, 6], [0], false⟩, ⟨[(27, some 7)], [0, 1, 2, 3, 4, 5, 6, 7], [0], false⟩, ⟨[(27, some 7)], [0, 1, 2, 3, 4, 5, 6, 7], [0, 1], false⟩, ⟨[(6, none), (35, some 8)], [0, 1, 2, 3, 4, 5, 6, 7, 8], [0], true⟩]) (S := [10]) (plan := [0, 1, 2, 3, 4, 5, 6, 7, 8, 9, 10]) mo (by kernel_rfl) rfl rfl rfl (dcons (dstep1 (Tm := [(6, (LP 2 0))]) (L := [((cA4 c8) t0), (c_api_Uber (G_api_Uber.mk x3.Txg 7 x3.Seat x3.Root)), (c_api_Dev v6)]) (H := ⟨0, []⟩) rfl rfl rfl rfl rfl (astep_do rfl (tx_ldLA (vs := (c_api_Dev v6)) Try.underlying29 rfl s_29 (by decide) rfl rfl rfl rfl))) (dcons (dstep1 (Tm := [(7, (I v5))]) (L := [((cA4 c8) t0), (c_api_Uber (G_api_Uber.mk x3.Txg 7 x3.Seat x3.Root)), (c_api_Dev v6)]) (H := ⟨0, []⟩) rfl rfl rfl rfl rfl (astep_do rfl (ex_move (eV (v := (I v5)) rfl)))) (dcons (dstep1 (Tm := [(29, (I v5))]) (L := [((cA4 c8) t0), (c_api_Uber (G_api_Uber.mk x3.Txg 7 x3.Seat x3.Root)), (c_api_Dev v6)]) (H := ⟨0, []⟩) rfl rfl rfl rfl rfl (astep_do rfl (ex_call0 (vs := [(I 40), (I v5)]) (v := (I x11)) rfl en_10 (cargs (evs rfl (evs rfl evs_nil))) rfl (ok_label_At 40 v5 x11 hx11) rfl))) (dcons (dstep1 (Tm := []) (L := [((cA4 c8) t0), (c_api_Uber (G_api_Uber.mk x3.Txg 7 x3.Seat x3.Root)), (c_api_Dev v6)]) (H := ⟨0, []⟩) rfl rfl rfl rfl rfl (astep_do rfl (ex_call0 (vs := [(I 7), (I 40)]) (v := (S x12)) rfl en_19 (cargs (evs rfl (evs rfl evs_nil))) rfl (ok_ref1_Config 7 40 x12 hx12) rfl))) (dcons (dstep1 (Tm := [(30, (I x11)), (31, (S x12))]) (L := [((cA4 c8) t0), (c_api_Uber (G_api_Uber.mk x3.Txg 7 x3.Seat x3.Root)), (c_api_Dev v6)]) (H := ⟨0, []⟩) rfl rfl rfl rfl rfl (astep_do rfl (ex_build (qs := [(0, (I x11)), (1, (S x12))]) (v := (Value.agg (c_api_Put (G_api_Put.mk x11 x12)).toArray)) (evp rfl (evp rfl evp_nil)) (by kernel_rfl)))) (dcons (dstep1 (Tm := [(32, (Value.agg (c_api_Put (G_api_Put.mk x11 x12)).toArray))]) (L := [((cA4 c8) t0), (c_api_Uber (G_api_Uber.mk x3.Txg 7 x3.Seat x3.Root)), (c_api_Dev v6)]) (H := ⟨0, []⟩) rfl rfl rfl rfl rfl (astep_do rfl (ex_buildSliceD (qs := [(0, (Value.agg (c_api_Put (G_api_Put.mk x11 x12)).toArray))]) (cells := (([(G_api_Put.mk x11 x12)] : List G_api_Put).flatMap c_api_Put)) Try.underlying27 s_44 (by decide) (evp rfl evp_nil) rfl (by kernel_rfl) (by kernel_rfl) (by kernel_rfl)))) (dcons (dstep1 (Tm := [(28, (Value.agg (c_api_Dev v6).toArray)), (33, (SL 2 c_api_Put ([(G_api_Put.mk x11 x12)] : List G_api_Put)))]) (L := [((cA4 c8) t0), (c_api_Uber (G_api_Uber.mk x3.Txg 7 x3.Seat x3.Root)), (c_api_Dev v6)]) (H := ⟨0, []⟩) rfl rfl rfl rfl rfl (astep_do rfl (ex_call0 (vs := [(Value.agg (c_api_Dev v6).toArray), (SL 2 c_api_Put ([(G_api_Put.mk x11 x12)] : List G_api_Put))]) (v := (Value.tuple #[(Value.agg (c_api_Dev x13.1).toArray), (Bo x13.2)])) rfl en_21 (cargs (evs rfl (evs rfl evs_nil))) rfl (ok_ref1_Write v6 ([(G_api_Put.mk x11 x12)] : List G_api_Put) x13 hx13) rfl))) (dcons (dstep1 (Tm := [(34, (Value.tuple #[(Value.agg (c_api_Dev x13.1).toArray), (Bo x13.2)]))]) (L := [((cA4 c8) t0), (c_api_Uber (G_api_Uber.mk x3.Txg 7 x3.Seat x3.Root)), (c_api_Dev v6)]) (H := ⟨0, []⟩) rfl rfl rfl rfl rfl (astep_do rfl (ex_move (eV (v := (Value.tuple #[(Value.agg (c_api_Dev x13.1).toArray), (Bo x13.2)])) rfl)))) (dcons (dstep1 (Tm := [(27, (Value.tuple #[(Value.agg (c_api_Dev x13.1).toArray), (Bo x13.2)]))]) (L := [((cA4 c8) t0), (c_api_Uber (G_api_Uber.mk x3.Txg 7 x3.Seat x3.Root)), (c_api_Dev v6)]) (H := ⟨0, []⟩) rfl rfl rfl rfl rfl (astep_do rfl (ex_extract (vx := (Value.tuple #[(Value.agg (c_api_Dev x13.1).toArray), (Bo x13.2)])) (v := (Value.agg (c_api_Dev x13.1).toArray)) rfl rfl))) (dcons (dstepN (by intro k hk; simp only [List.mem_cons, List.not_mem_nil, or_false] at hk; rcases hk with rfl | rfl <;> exact ⟨[(27, (Value.tuple #[(Value.agg (c_api_Dev x13.1).toArray), (Bo x13.2)]))], _, _, _, _, _, rfl, rfl, rfl, rfl, astep_do rfl (ex_extract (vx := (Value.tuple #[(Value.agg (c_api_Dev x13.1).toArray), (Bo x13.2)])) (v := (Bo x13.2)) rfl rfl)⟩)) (dcons (dstep1 (Tm := [(6, (LP 2 0)), (35, (Value.agg (c_api_Dev x13.1).toArray))]) (L := [((cA4 c8) t0), (c_api_Uber (G_api_Uber.mk x3.Txg 7 x3.Seat x3.Root)), (c_api_Dev v6)]) (H := ⟨0, []⟩) rfl rfl rfl rfl rfl (astep_do rfl (ex_storeL (vy := (Value.agg (c_api_Dev x13.1).toArray)) (cs := (c_api_Dev v6)) (vs := (c_api_Dev x13.1)) (L' := [((cA4 c8) t0), (c_api_Uber (G_api_Uber.mk x3.Txg 7 x3.Seat x3.Root)), (c_api_Dev x13.1)]) rfl (eV (v := (Value.agg (c_api_Dev x13.1).toArray)) rfl) rfl s_29 rfl (Nat.le_of_ble_eq_true rfl) (by kernel_rfl)))) dnil))))))))))) ⟨rfl, rfl⟩) (by kernel_rfl) (by kernel_rfl) ?_
            exact (Exists.intro x13.1 (And.intro rfl h))
          · rw [condF hb10] at h
            refine awp_condF (boF hb10) ?_
            refine awp_keepE [1, 5, 6, 7] 3 0 (st' := ⟨93, 0, [(1, (U8 t1)), (5, (LP 1 0)), (6, (LP 2 0)), (7, (I v5))], [((cA4 c8) t0), (c_api_Uber (G_api_Uber.mk x3.Txg 7 x3.Seat x3.Root)), (c_api_Dev v6)], ⟨0, []⟩⟩) (by kernel_rfl) (by kernel_rfl) ?_
            refine awp_skip ?_
            exact (Exists.intro v6 (And.intro rfl h))
        · rintro s ⟨y8, rfl, h⟩
          unfold M_law7_LabelOne_k1 at h
          refine awp_region ?_
          refine arun_do rfl rfl rfl (ex_move (eV (v := (I v5)) rfl)) ?_
          refine arun_do rfl rfl rfl (ex_bin (vx := (I v5)) (vy := (I 1)) rfl rfl addI_ok) ?_
          refine arun_do rfl rfl rfl (ex_assign (eV (v := (I (w64 (v5 + 1)))) rfl)) ?_
          refine arun_keepE [1, 5, 6, 7] 3 0 (st' := ⟨93, 0, [(1, (U8 t1)), (5, (LP 1 0)), (6, (LP 2 0)), (7, (I (w64 (v5 + 1))))], [((cA4 c8) t0), (c_api_Uber (G_api_Uber.mk x3.Txg 7 x3.Seat x3.Root)), (c_api_Dev y8)], ⟨0, []⟩⟩) (by kernel_rfl) (by kernel_rfl) ?_
          exact Exists.intro n1 (And.intro (Nat.lt_succ_self _) (Exists.intro (w64 (v5 + 1)) (Exists.intro y8 (And.intro rfl h))))
      · rw [condF hb7] at h
        refine awp_condF (boF hb7) ?_
        refine awp_exit ?_
        show AWp _ _ _ _
        refine awp_seq ?_
        refine awp_seq ?_
        refine awp_region ?_
        refine arun_do rfl rfl rfl (ex_assign (eV (v := (I 0)) rfl)) ?_
        refine arun_keepE [1, 5, 6, 8] 3 0 (st' := ⟨93, 0, [(1, (U8 t1)), (5, (LP 1 0)), (6, (LP 2 0)), (8, (I 0))], [((cA4 c8) t0), (c_api_Uber (G_api_Uber.mk x3.Txg 7 x3.Seat x3.Root)), (c_api_Dev v6)], ⟨0, []⟩⟩) (by kernel_rfl) (by kernel_rfl) ?_
        show AWp _ _ _ _
        refine awp_block ?_
        refine awp_loop (fun n s => ∃ (v14 : Int) (v15 : G_api_Dev), s = ⟨93, 0, [(1, (U8 t1)), (5, (LP 1 0)), (6, (LP 2 0)), (8, (I v14))], [((cA4 c8) t0), (c_api_Uber (G_api_Uber.mk x3.Txg 7 x3.Seat x3.Root)), (c_api_Dev v15)], ⟨0, []⟩⟩ ∧ M_law7_LabelOne_l2 (M_law7_LabelOne_l1 t0 t1 x3 n1) t0 t1 x3 n v14 v15 = some r) fuel (Exists.intro 0 (Exists.intro v6 (And.intro rfl h))) ?_
        rintro n s ⟨v14, v15, rfl, h⟩ -
        cases n with
        | zero => cases h
        | succ n2 =>
          unfold M_law7_LabelOne_l2 at h
          refine awp_seq ?_
          refine awp_seq ?_
          refine awp_region ?_
          refine arun_do rfl rfl rfl (ex_move (eV (v := (I v14)) rfl)) ?_
          refine arun_do rfl rfl rfl (ex_bin (vx := (I v14)) (vy := (I 2)) rfl rfl lssI_ok) ?_
          refine arun_keepE [1, 5, 6, 8, 38] 3 0 (st' := ⟨93, 0, [(1, (U8 t1)), (5, (LP 1 0)), (6, (LP 2 0)), (8, (I v14)), (38, (Bo (decide (v14 < 2))))], [((cA4 c8) t0), (c_api_Uber (G_api_Uber.mk x3.Txg 7 x3.Seat x3.Root)), (c_api_Dev v15)], ⟨0, []⟩⟩) (by kernel_rfl) (by kernel_rfl) ?_
          show AWp _ _ _ _
          rcases Bool.eq_false_or_eq_true (decide (v14 < 2)) with hb16 | hb16
          · rw [condT hb16] at h
            refine awp_condT (boT hb16) ?_
            refine awp_skip ?_
            show AWp _ _ _ _
            refine awp_seq ?_
            refine awp_block ?_
            refine awp_seq ?_
            refine awp_region ?_
            refine arun_do rfl rfl rfl (tx_ldLA (vs := (c_api_Uber (G_api_Uber.mk x3.Txg 7 x3.Seat x3.Root))) Try.underlying37 rfl s_37 (by decide) rfl rfl rfl rfl) ?_
            refine arun_do rfl rfl rfl (ex_move (eV (v := (I v14)) rfl)) ?_
            obtain ⟨x17, hx17, h⟩ := bindS h
            refine arun_do rfl rfl rfl (ex_call0 (vs := [(I 40), (Value.agg (c_api_Uber (G_api_Uber.mk x3.Txg 7 x3.Seat x3.Root)).toArray), (I v14)]) (v := (SL 2 c_api_Put x17)) rfl en_17 (cargs (evs rfl (evs rfl (evs rfl evs_nil)))) rfl (ok_label_Phase 40 (G_api_Uber.mk x3.Txg 7 x3.Seat x3.Root) v14 x17 hx17) rfl) ?_
            refine arun_do rfl rfl rfl (ex_assign (eV (v := (SL 2 c_api_Put x17)) rfl)) ?_
            refine arun_keepE [1, 5, 6, 8, 9] 3 0 (st' := ⟨93, 0, [(1, (U8 t1)), (5, (LP 1 0)), (6, (LP 2 0)), (8, (I v14)), (9, (SL 2 c_api_Put x17))], [((cA4 c8) t0), (c_api_Uber (G_api_Uber.mk x3.Txg 7 x3.Seat x3.Root)), (c_api_Dev v15)], ⟨0, []⟩⟩) (by kernel_rfl) (by kernel_rfl) ?_
            show AWp _ _ _ _
            refine awp_seq ?_
            refine awp_seq ?_
            refine awp_region ?_
            refine arun_do rfl rfl rfl (ex_move (eV (v := (SL 2 c_api_Put x17)) rfl)) ?_
            refine arun_do rfl rfl rfl (tx_lenD (xs := x17) ce_api_Put Try.underlying27 rfl) ?_
            refine arun_do rfl rfl rfl (ex_bin (vx := (I (x17.length : Int))) (vy := (I 2)) rfl rfl neqI_ok) ?_
            refine arun_keepE [1, 5, 6, 8, 9, 46] 3 0 (st' := ⟨93, 0, [(1, (U8 t1)), (5, (LP 1 0)), (6, (LP 2 0)), (8, (I v14)), (9, (SL 2 c_api_Put x17)), (46, (Bo ((x17.length : Int) != 2)))], [((cA4 c8) t0), (c_api_Uber (G_api_Uber.mk x3.Txg 7 x3.Seat x3.Root)), (c_api_Dev v15)], ⟨0, []⟩⟩) (by kernel_rfl) (by kernel_rfl) ?_
            show AWp _ _ _ _
            rcases Bool.eq_false_or_eq_true ((x17.length : Int) != 2) with hb18 | hb18
            · rw [condT hb18] at h
              refine awp_condT (boT hb18) ?_
              refine awp_seq ?_
              refine awp_region ?_
              refine arun_do rfl rfl rfl (ex_assign (eV (v := (Bo false)) rfl)) ?_
              refine arun_keepE [4] 0 0 (st' := ⟨93, 0, [(4, (Bo false))], [], ⟨0, []⟩⟩) (by kernel_rfl) (by kernel_rfl) ?_
              show AWp _ _ _ _
              refine awp_ret ?_
              cases h
              exact ares1 (rtmp rfl (eV rfl))
            · rw [condF hb18] at h
              refine awp_condF (boF hb18) ?_
              refine awp_skip ?_
              show AWp _ _ _ _
              refine awp_seq ?_
              refine awp_region ?_
              refine arun_do rfl rfl rfl (ex_assign (eV (v := (I 0)) rfl)) ?_
              refine arun_keepE [1, 5, 6, 8, 9, 10] 3 0 (st' := ⟨93, 0, [(1, (U8 t1)), (5, (LP 1 0)), (6, (LP 2 0)), (8, (I v14)), (9, (SL 2 c_api_Put x17)), (10, (I 0))], [((cA4 c8) t0), (c_api_Uber (G_api_Uber.mk x3.Txg 7 x3.Seat x3.Root)), (c_api_Dev v15)], ⟨0, []⟩⟩) (by kernel_rfl) (by kernel_rfl) ?_
              show AWp _ _ _ _
              refine awp_block ?_
              refine awp_loop (fun n s => ∃ (v19 : Int) (v20 : G_api_Dev), s = ⟨93, 0, [(1, (U8 t1)), (5, (LP 1 0)), (6, (LP 2 0)), (8, (I v14)), (9, (SL 2 c_api_Put x17)), (10, (I v19))], [((cA4 c8) t0), (c_api_Uber (G_api_Uber.mk x3.Txg 7 x3.Seat x3.Root)), (c_api_Dev v20)], ⟨0, []⟩⟩ ∧ M_law7_LabelOne_l3 (M_law7_LabelOne_l1 t0 t1 x3 n1) (M_law7_LabelOne_l2 (M_law7_LabelOne_l1 t0 t1 x3 n1) t0 t1 x3 n2) t0 t1 x3 v14 x17 n v19 v20 = some r) fuel (Exists.intro 0 (Exists.intro v15 (And.intro rfl h))) ?_
              rintro n s ⟨v19, v20, rfl, h⟩ -
              cases n with
              | zero => cases h
              | succ n3 =>
                unfold M_law7_LabelOne_l3 at h
                refine awp_seq ?_
                refine awp_seq ?_
                refine awp_region ?_
                refine arun_do rfl rfl rfl (ex_move (eV (v := (I v19)) rfl)) ?_
                refine arun_do rfl rfl rfl (ex_bin (vx := (I v19)) (vy := (I 2)) rfl rfl lssI_ok) ?_
                refine arun_keepE [1, 5, 6, 8, 9, 10, 48] 3 0 (st' := ⟨93, 0, [(1, (U8 t1)), (5, (LP 1 0)), (6, (LP 2 0)), (8, (I v14)), (9, (SL 2 c_api_Put x17)), (10, (I v19)), (48, (Bo (decide (v19 < 2))))], [((cA4 c8) t0), (c_api_Uber (G_api_Uber.mk x3.Txg 7 x3.Seat x3.Root)), (c_api_Dev v20)], ⟨0, []⟩⟩) (by kernel_rfl) (by kernel_rfl) ?_
                show AWp _ _ _ _
                rcases Bool.eq_false_or_eq_true (decide (v19 < 2)) with hb21 | hb21
                · rw [condT hb21] at h
                  refine awp_condT (boT hb21) ?_
                  refine awp_skip ?_
                  show AWp _ _ _ _
                  refine awp_seqJ (fun s => ∃ (y22 : G_api_Dev), s = ⟨93, 0, [(1, (U8 t1)), (5, (LP 1 0)), (6, (LP 2 0)), (8, (I v14)), (9, (SL 2 c_api_Put x17)), (10, (I v19))], [((cA4 c8) t0), (c_api_Uber (G_api_Uber.mk x3.Txg 7 x3.Seat x3.Root)), (c_api_Dev y22)], ⟨0, []⟩⟩ ∧ M_law7_LabelOne_k2 (M_law7_LabelOne_l1 t0 t1 x3 n1) (M_law7_LabelOne_l2 (M_law7_LabelOne_l1 t0 t1 x3 n1) t0 t1 x3 n2) (M_law7_LabelOne_l3 (M_law7_LabelOne_l1 t0 t1 x3 n1) (M_law7_LabelOne_l2 (M_law7_LabelOne_l1 t0 t1 x3 n1) t0 t1 x3 n2) t0 t1 x3 v14 x17 n3) t0 t1 x3 v14 x17 v19 y22 = some r) ?_ ?_
                  · refine awp_block ?_
                    refine awp_seq ?_
                    refine awp_region ?_
                    refine arun_do rfl rfl rfl (ex_move (eV (v := (U8 t1)) rfl)) ?_
                    refine arun_do rfl rfl rfl (ex_move (eV (v := (I v14)) rfl)) ?_
                    refine arun_do rfl rfl rfl (ex_bin (vx := (I 4)) (vy := (I v14)) rfl rfl addI_ok) ?_
                    refine arun_do rfl rfl rfl (ex_move (eV (v := (I v19)) rfl)) ?_
                    refine arun_do rfl rfl rfl (ex_bin (vx := (I 2)) (vy := (I v19)) rfl rfl mulI_ok) ?_
                    refine arun_do rfl rfl rfl (ex_bin (vx := (I (w64 (4 + v14)))) (vy := (I (w64 (2 * v19)))) rfl rfl addI_ok) ?_
                    obtain ⟨x23, hx23, h⟩ := bindS h
                    refine arun_do rfl rfl rfl (ex_bin (vx := (U8 t1)) (vy := (I (w64 ((w64 (4 + v14)) + (w64 (2 * v19)))))) rfl rfl (shr8_ok hx23)) ?_
                    refine arun_do rfl rfl rfl (ex_bin (vx := (U8 x23)) (vy := (U8 1)) rfl rfl and8_ok) ?_
                    refine arun_do rfl rfl rfl (ex_bin (vx := (U8 (x23 &&& 1))) (vy := (U8 0)) rfl rfl eql8_ok) ?_
                    refine arun_keepE [1, 5, 6, 8, 9, 10, 59] 3 0 (st' := ⟨93, 0, [(1, (U8 t1)), (5, (LP 1 0)), (6, (LP 2 0)), (8, (I v14)), (9, (SL 2 c_api_Put x17)), (10, (I v19)), (59, (Bo ((x23 &&& 1) == 0)))], [((cA4 c8) t0), (c_api_Uber (G_api_Uber.mk x3.Txg 7 x3.Seat x3.Root)), (c_api_Dev v20)], ⟨0, []⟩⟩) (by kernel_rfl) (by kernel_rfl) ?_
                    show AWp _ _ _ _
                    rcases Bool.eq_false_or_eq_true ((x23 &&& 1) == 0) with hb24 | hb24
                    · rw [condT hb24] at h
                      refine awp_condT (boT hb24) ?_
                      obtain ⟨x25, hx25, h⟩ := bindS h
                      obtain ⟨x26, hx26, h⟩ := bindS h
                      refine awp_kn [1, 5, 6, 8, 9, 10] 3 0 (st' := ⟨93, 0, [(1, (U8 t1)), (5, (LP 1 0)), (6, (LP 2 0)), (8, (I v14)), (9, (SL 2 c_api_Put x17)), (10, (I v19))], [((cA4 c8) t0), (c_api_Uber (G_api_Uber.mk x3.Txg 7 x3.Seat x3.Root)), (c_api_Dev x26.1)], ⟨0, []⟩⟩) (awp_draw (T := [(Value.agg (c_api_Dev v20).toArray), (SL 2 c_api_Put x17), (I v19), (I v19), (I (w64 (v19 + 1))), (SL 2 c_api_Put x25), (Value.tuple #[(Value.agg (c_api_Dev x26.1).toArray), (Bo x26.2)]), (Value.tuple #[(Value.agg (c_api_Dev x26.1).toArray), (Bo x26.2)]), (Value.agg (c_api_Dev x26.1).toArray), (Bo x26.2), undef]) (LH := [([((cA4 c8) t0), (c_api_Uber (G_api_Uber.mk x3.Txg 7 x3.Seat x3.Root)), (c_api_Dev v20)], ⟨0, []⟩), ([((cA4 c8) t0), (c_api_Uber (G_api_Uber.mk x3.Txg 7 x3.Seat x3.Root)), (c_api_Dev x26.1)], ⟨0, []⟩)]) (D := [⟨[(6, none)], [], [0], false⟩, ⟨[(9, none)], [], [0], false⟩, ⟨[(10, none)], [], [0], false⟩, ⟨[(10, none)], [], [0], false⟩, ⟨[(64, some 3)], [3], [0], false⟩, ⟨[(62, some 1), (63, some 2), (65, some 4)], [1, 2, 3, 4], [0], false⟩, ⟨[(61, some 0), (66, some 5)], [0, 1, 2, 3, 4, 5], [0], false⟩, ⟨[(67, some 6)], [0, 1, 2, 3, 4, 5, 6], [0], false⟩, ⟨[(60, some 7)], [0, 1, 2, 3, 4, 5, 6, 7], [0], false⟩, ⟨[(60, some 7)], [0, 1, 2, 3, 4, 5, 6, 7], [0, 1], false⟩, ⟨[(6, none), (68, some 8)], [0, 1, 2, 3, 4, 5, 6, 7, 8], [0], true⟩]) (S := [10]) (plan := [0, 1, 2, 3, 4, 5, 6, 7, 8, 9, 10]) mo (by kernel_rfl) rfl rfl rfl (dcons (dstep1 (Tm := [(6, (LP 2 0))]) (L := [((cA4 c8) t0), (c_api_Uber (G_api_Uber.mk x3.Txg 7 x3.Seat x3.Root)), (c_api_Dev v20)]) (H := ⟨0, []⟩) rfl rfl rfl rfl rfl (astep_do rfl (tx_ldLA (vs := (c_api_Dev v20)) Try.underlying29 rfl s_29 (by decide) rfl rfl rfl rfl))) (dcons (dstep1 (Tm := [(9, (SL 2 c_api_Put x17))]) (L := [((cA4 c8) t0), (c_api_Uber (G_api_Uber.mk x3.Txg 7 x3.Seat x3.Root)), (c_api_Dev v20)]) (H := ⟨0, []⟩) rfl rfl rfl rfl rfl (astep_do rfl (ex_move (eV (v := (SL 2 c_api_Put x17)) rfl)))) (dcons (dstep1 (Tm := [(10, (I v19))]) (L := [((cA4 c8) t0), (c_api_Uber (G_api_Uber.mk x3.Txg 7 x3.Seat x3.Root)), (c_api_Dev v20)]) (H := ⟨0, []⟩) rfl rfl rfl rfl rfl (astep_do rfl (ex_move (eV (v := (I v19)) rfl)))) (dcons (dstep1 (Tm := [(10, (I v19))]) (L := [((cA4 c8) t0), (c_api_Uber (G_api_Uber.mk x3.Txg 7 x3.Seat x3.Root)), (c_api_Dev v20)]) (H := ⟨0, []⟩) rfl rfl rfl rfl rfl (astep_do rfl (ex_move (eV (v := (I v19)) rfl)))) (dcons (dstep1 (Tm := [(64, (I v19))]) (L := [((cA4 c8) t0), (c_api_Uber (G_api_Uber.mk x3.Txg 7 x3.Seat x3.Root)), (c_api_Dev v20)]) (H := ⟨0, []⟩) rfl rfl rfl rfl rfl (astep_do rfl (ex_bin (vx := (I v19)) (vy := (I 1)) rfl rfl addI_ok))) (dcons (dstep1 (Tm := [(62, (SL 2 c_api_Put x17)), (63, (I v19)), (65, (I (w64 (v19 + 1))))]) (L := [((cA4 c8) t0), (c_api_Uber (G_api_Uber.mk x3.Txg 7 x3.Seat x3.Root)), (c_api_Dev v20)]) (H := ⟨0, []⟩) rfl rfl rfl rfl rfl (astep_do rfl (tx_slD (c := c_api_Put) (xs := x17) ce_api_Put Try.underlying27 s_44 rfl (loX (l := v19) rfl) (hiX (l := (w64 (v19 + 1))) rfl) hx25))) (dcons (dstep1 (Tm := [(61, (Value.agg (c_api_Dev v20).toArray)), (66, (SL 2 c_api_Put x25))]) (L := [((cA4 c8) t0), (c_api_Uber (G_api_Uber.mk x3.Txg 7 x3.Seat x3.Root)), (c_api_Dev v20)]) (H := ⟨0, []⟩) rfl rfl rfl rfl rfl (astep_do rfl (ex_call0 (vs := [(Value.agg (c_api_Dev v20).toArray), (SL 2 c_api_Put x25)]) (v := (Value.tuple #[(Value.agg (c_api_Dev x26.1).toArray), (Bo x26.2)])) rfl en_21 (cargs (evs rfl (evs rfl evs_nil))) rfl (ok_ref1_Write v20 x25 x26 hx26) rfl))) (dcons (dstep1 (Tm := [(67, (Value.tuple #[(Value.agg (c_api_Dev x26.1).toArray), (Bo x26.2)]))]) (L := [((cA4 c8) t0), (c_api_Uber (G_api_Uber.mk x3.Txg 7 x3.Seat x3.Root)), (c_api_Dev v20)]) (H := ⟨0, []⟩) rfl rfl rfl rfl rfl (astep_do rfl (ex_move (eV (v := (Value.tuple #[(Value.agg (c_api_Dev x26.1).toArray), (Bo x26.2)])) rfl)))) (dcons (dstep1 (Tm := [(60, (Value.tuple #[(Value.agg (c_api_Dev x26.1).toArray), (Bo x26.2)]))]) (L := [((cA4 c8) t0), (c_api_Uber (G_api_Uber.mk x3.Txg 7 x3.Seat x3.Root)), (c_api_Dev v20)]) (H := ⟨0, []⟩) rfl rfl rfl rfl rfl (astep_do rfl (ex_extract (vx := (Value.tuple #[(Value.agg (c_api_Dev x26.1).toArray), (Bo x26.2)])) (v := (Value.agg (c_api_Dev x26.1).toArray)) rfl rfl))) (dcons (dstepN (by intro k hk; simp only [List.mem_cons, List.not_mem_nil, or_false] at hk; rcases hk with rfl | rfl <;> exact ⟨[(60, (Value.tuple #[(Value.agg (c_api_Dev x26.1).toArray), (Bo x26.2)]))], _, _, _, _, _, rfl, rfl, rfl, rfl, astep_do rfl (ex_extract (vx := (Value.tuple #[(Value.agg (c_api_Dev x26.1).toArray), (Bo x26.2)])) (v := (Bo x26.2)) rfl rfl)⟩)) (dcons (dstep1 (Tm := [(6, (LP 2 0)), (68, (Value.agg (c_api_Dev x26.1).toArray))]) (L := [((cA4 c8) t0), (c_api_Uber (G_api_Uber.mk x3.Txg 7 x3.Seat x3.Root)), (c_api_Dev v20)]) (H := ⟨0, []⟩) rfl rfl rfl rfl rfl (astep_do rfl (ex_storeL (vy := (Value.agg (c_api_Dev x26.1).toArray)) (cs := (c_api_Dev v20)) (vs := (c_api_Dev x26.1)) (L' := [((cA4 c8) t0), (c_api_Uber (G_api_Uber.mk x3.Txg 7 x3.Seat x3.Root)), (c_api_Dev x26.1)]) rfl (eV (v := (Value.agg (c_api_Dev x26.1).toArray)) rfl) rfl s_29 rfl (Nat.le_of_ble_eq_true rfl) (by kernel_rfl)))) dnil))))))))))) ⟨rfl, rfl⟩) (by kernel_rfl) (by kernel_rfl) ?_
                      exact (Exists.intro x26.1 (And.intro rfl h))
                    · rw [condF hb24] at h
                      refine awp_condF (boF hb24) ?_
                      refine awp_keepE [1, 5, 6, 8, 9, 10] 3 0 (st' := ⟨93, 0, [(1, (U8 t1)), (5, (LP 1 0)), (6, (LP 2 0)), (8, (I v14)), (9, (SL 2 c_api_Put x17)), (10, (I v19))], [((cA4 c8) t0), (c_api_Uber (G_api_Uber.mk x3.Txg 7 x3.Seat x3.Root)), (c_api_Dev v20)], ⟨0, []⟩⟩) (by kernel_rfl) (by kernel_rfl) ?_
                      refine awp_skip ?_
                      exact (Exists.intro v20 (And.intro rfl h))
                  · rintro s ⟨y22, rfl, h⟩
                    unfold M_law7_LabelOne_k2 at h
                    refine awp_region ?_
                    refine arun_do rfl rfl rfl (ex_move (eV (v := (I v19)) rfl)) ?_
                    refine arun_do rfl rfl rfl (ex_bin (vx := (I v19)) (vy := (I 1)) rfl rfl addI_ok) ?_
                    refine arun_do rfl rfl rfl (ex_assign (eV (v := (I (w64 (v19 + 1)))) rfl)) ?_
                    refine arun_keepE [1, 5, 6, 8, 9, 10] 3 0 (st' := ⟨93, 0, [(1, (U8 t1)), (5, (LP 1 0)), (6, (LP 2 0)), (8, (I v14)), (9, (SL 2 c_api_Put x17)), (10, (I (w64 (v19 + 1))))], [((cA4 c8) t0), (c_api_Uber (G_api_Uber.mk x3.Txg 7 x3.Seat x3.Root)), (c_api_Dev y22)], ⟨0, []⟩⟩) (by kernel_rfl) (by kernel_rfl) ?_
                    exact Exists.intro n3 (And.intro (Nat.lt_succ_self _) (Exists.intro (w64 (v19 + 1)) (Exists.intro y22 (And.intro rfl h))))
                · rw [condF hb21] at h
                  refine awp_condF (boF hb21) ?_
                  refine awp_exit ?_
                  show AWp _ _ _ _
                  refine awp_region ?_
                  refine arun_do rfl rfl rfl (ex_move (eV (v := (I v14)) rfl)) ?_
                  refine arun_do rfl rfl rfl (ex_bin (vx := (I v14)) (vy := (I 1)) rfl rfl addI_ok) ?_
                  refine arun_do rfl rfl rfl (ex_assign (eV (v := (I (w64 (v14 + 1)))) rfl)) ?_
                  refine arun_keepE [1, 5, 6, 8] 3 0 (st' := ⟨93, 0, [(1, (U8 t1)), (5, (LP 1 0)), (6, (LP 2 0)), (8, (I (w64 (v14 + 1))))], [((cA4 c8) t0), (c_api_Uber (G_api_Uber.mk x3.Txg 7 x3.Seat x3.Root)), (c_api_Dev v20)], ⟨0, []⟩⟩) (by kernel_rfl) (by kernel_rfl) ?_
                  exact Exists.intro n2 (And.intro (Nat.lt_succ_self _) (Exists.intro (w64 (v14 + 1)) (Exists.intro v20 (And.intro rfl h))))
          · rw [condF hb16] at h
            refine awp_condF (boF hb16) ?_
            refine awp_exit ?_
            show AWp _ _ _ _
            refine awp_seq ?_
            refine awp_region ?_
            refine arun_do rfl rfl rfl (tx_ldLA (vs := (c_api_Dev v15)) Try.underlying29 rfl s_29 (by decide) rfl rfl rfl rfl) ?_
            obtain ⟨x27, hx27, h⟩ := bindS h
            refine arun_do rfl rfl rfl (ex_call0 (vs := [(Value.agg (c_api_Dev v15).toArray)]) (v := (SL 9 c_api_Uber x27)) rfl en_27 (cargs (evs rfl evs_nil)) rfl (ok_label_Roots v15 x27 hx27) rfl) ?_
            refine arun_do rfl rfl rfl (ex_assign (eV (v := (SL 9 c_api_Uber x27)) rfl)) ?_
            refine arun_keepE [1, 5, 11] 2 0 (st' := ⟨93, 0, [(1, (U8 t1)), (5, (LP 1 0)), (11, (SL 9 c_api_Uber x27))], [((cA4 c8) t0), (c_api_Uber (G_api_Uber.mk x3.Txg 7 x3.Seat x3.Root))], ⟨0, []⟩⟩) (by kernel_rfl) (by kernel_rfl) ?_
            show AWp _ _ _ _
            refine awp_seq ?_
            refine awp_seq ?_
            refine awp_region ?_
            refine arun_do rfl rfl rfl (ex_move (eV (v := (U8 t1)) rfl)) ?_
            refine arun_do rfl rfl rfl (ex_bin (vx := (U8 t1)) (vy := (U8 15)) rfl rfl and8_ok) ?_
            refine arun_do rfl rfl rfl (ex_bin (vx := (U8 (t1 &&& 15))) (vy := (U8 15)) rfl rfl eql8_ok) ?_
            refine arun_do rfl rfl rfl (ex_move (eV (v := (Bo ((t1 &&& 15) == 15))) rfl)) ?_
            refine arun_guard (v := (U8 t1)) (((t1 &&& 15) == 15) == false) rfl rfl rfl (fun hc => ex_move (eV (v := (U8 t1)) rfl)) ?_
            obtain ⟨x28, hx28, h⟩ := bindS h
            refine arun_guard (v := (U8 x28)) (((t1 &&& 15) == 15) == false) rfl rfl rfl (fun hc => ex_bin (vx := (U8 t1)) (vy := (U64 4)) (cond_of hc) rfl (shr8_ok (gd_of hc hx28))) ?_
            refine arun_guard (v := (Bo (x28 == 15))) (((t1 &&& 15) == 15) == false) rfl rfl rfl (fun hc => ex_bin (vx := (U8 x28)) (vy := (U8 15)) (cond_of hc) rfl eql8_ok) ?_
            refine arun_do rfl rfl rfl (ex_pick rfl pkOr) ?_
            refine arun_keepE [5, 11, 79] 2 0 (st' := ⟨93, 0, [(5, (LP 1 0)), (11, (SL 9 c_api_Uber x27)), (79, (Bo (((t1 &&& 15) == 15) || (x28 == 15))))], [((cA4 c8) t0), (c_api_Uber (G_api_Uber.mk x3.Txg 7 x3.Seat x3.Root))], ⟨0, []⟩⟩) (by kernel_rfl) (by kernel_rfl) ?_
            show AWp _ _ _ _
            rcases Bool.eq_false_or_eq_true (((t1 &&& 15) == 15) || (x28 == 15)) with hb29 | hb29
            · rw [condT hb29] at h
              refine awp_condT (boT hb29) ?_
              refine awp_seq ?_
              refine awp_region ?_
              refine arun_do rfl rfl rfl (ex_move (eV (v := (SL 9 c_api_Uber x27)) rfl)) ?_
              refine arun_do rfl rfl rfl (tx_lenD (xs := x27) ce_api_Uber Try.underlying54 rfl) ?_
              refine arun_do rfl rfl rfl (ex_bin (vx := (I (x27.length : Int))) (vy := (I 0)) rfl rfl eqlI_ok) ?_
              refine arun_do rfl rfl rfl (ex_assign (eV (v := (Bo ((x27.length : Int) == 0))) rfl)) ?_
              refine arun_keepE [4] 0 0 (st' := ⟨93, 0, [(4, (Bo ((x27.length : Int) == 0)))], [], ⟨0, []⟩⟩) (by kernel_rfl) (by kernel_rfl) ?_
              show AWp _ _ _ _
              refine awp_ret ?_
              cases h
              exact ares1 (rtmp rfl (eV rfl))
            · rw [condF hb29] at h
              refine awp_condF (boF hb29) ?_
              refine awp_skip ?_
              show AWp _ _ _ _
              refine awp_seq ?_
              obtain ⟨x30, hx30, h⟩ := bindS h
              refine awp_kn [4] 0 0 (st' := ⟨93, 0, [(4, (Bo (((x27.length : Int) == 1) && (decide (x30 = (G_api_Uber.mk x3.Txg 7 x3.Seat x3.Root))))))], [], ⟨0, []⟩⟩) (awp_draw (T := [(SL 9 c_api_Uber x27), (I (x27.length : Int)), (Bo ((x27.length : Int) == 1)), (Bo ((x27.length : Int) == 1)), (cond (((x27.length : Int) == 1) == true) (SL 9 c_api_Uber x27) skipV), (cond (((x27.length : Int) == 1) == true) (DP (c_api_Uber x30)) skipV), (cond (((x27.length : Int) == 1) == true) (Value.agg (c_api_Uber x30).toArray) skipV), (cond (((x27.length : Int) == 1) == true) (Value.agg (c_api_Uber (G_api_Uber.mk x3.Txg 7 x3.Seat x3.Root)).toArray) skipV), (cond (((x27.length : Int) == 1) == true) (Bo (decide (x30 = (G_api_Uber.mk x3.Txg 7 x3.Seat x3.Root)))) skipV), (Bo (((x27.length : Int) == 1) && (decide (x30 = (G_api_Uber.mk x3.Txg 7 x3.Seat x3.Root))))), (Bo (((x27.length : Int) == 1) && (decide (x30 = (G_api_Uber.mk x3.Txg 7 x3.Seat x3.Root)))))]) (LH := [([((cA4 c8) t0), (c_api_Uber (G_api_Uber.mk x3.Txg 7 x3.Seat x3.Root))], ⟨0, []⟩)]) (D := [⟨[(11, none)], [], [0], false⟩, ⟨[(83, some 0)], [0], [0], false⟩, ⟨[(84, some 1)], [0, 1], [0], false⟩, ⟨[(85, some 2)], [0, 1, 2], [0], false⟩, ⟨[(11, none), (86, some 3)], [0, 1, 2, 3], [0], false⟩, ⟨[(87, some 4), (86, some 3)], [0, 1, 2, 3, 4], [0], false⟩, ⟨[(88, some 5), (86, some 3)], [0, 1, 2, 3, 4, 5], [0], false⟩, ⟨[(5, none), (86, some 3)], [0, 1, 2, 3], [0], false⟩, ⟨[(89, some 6), (90, some 7), (86, some 3)], [0, 1, 2, 3, 4, 5, 6, 7], [0], false⟩, ⟨[(86, some 3), (91, some 8)], [0, 1, 2, 3, 4, 5, 6, 7, 8], [0], false⟩, ⟨[(92, some 9)], [0, 1, 2, 3, 4, 5, 6, 7, 8, 9], [0], false⟩]) (S := []) (plan := [0, 1, 2, 3, 4, 5, 6, 7, 8, 9, 10]) mo (by kernel_rfl) rfl rfl rfl (dcons (dstep1 (Tm := [(11, (SL 9 c_api_Uber x27))]) (L := [((cA4 c8) t0), (c_api_Uber (G_api_Uber.mk x3.Txg 7 x3.Seat x3.Root))]) (H := ⟨0, []⟩) rfl rfl rfl rfl rfl (astep_do rfl (ex_move (eV (v := (SL 9 c_api_Uber x27)) rfl)))) (dcons (dstep1 (Tm := [(83, (SL 9 c_api_Uber x27))]) (L := [((cA4 c8) t0), (c_api_Uber (G_api_Uber.mk x3.Txg 7 x3.Seat x3.Root))]) (H := ⟨0, []⟩) rfl rfl rfl rfl rfl (astep_do rfl (tx_lenD (xs := x27) ce_api_Uber Try.underlying54 rfl))) (dcons (dstep1 (Tm := [(84, (I (x27.length : Int)))]) (L := [((cA4 c8) t0), (c_api_Uber (G_api_Uber.mk x3.Txg 7 x3.Seat x3.Root))]) (H := ⟨0, []⟩) rfl rfl rfl rfl rfl (astep_do rfl (ex_bin (vx := (I (x27.length : Int))) (vy := (I 1)) rfl rfl eqlI_ok))) (dcons (dstep1 (Tm := [(85, (Bo ((x27.length : Int) == 1)))]) (L := [((cA4 c8) t0), (c_api_Uber (G_api_Uber.mk x3.Txg 7 x3.Seat x3.Root))]) (H := ⟨0, []⟩) rfl rfl rfl rfl rfl (astep_do rfl (ex_move (eV (v := (Bo ((x27.length : Int) == 1))) rfl)))) (dcons (dstep1 (Tm := [(11, (SL 9 c_api_Uber x27)), (86, (Bo ((x27.length : Int) == 1)))]) (L := [((cA4 c8) t0), (c_api_Uber (G_api_Uber.mk x3.Txg 7 x3.Seat x3.Root))]) (H := ⟨0, []⟩) rfl rfl rfl rfl rfl (astep_guard (v := (SL 9 c_api_Uber x27)) (((x27.length : Int) == 1) == true) rfl (fun hc => ex_move (eV (v := (SL 9 c_api_Uber x27)) rfl)))) (dcons (dstep1 (Tm := [(87, (cond (((x27.length : Int) == 1) == true) (SL 9 c_api_Uber x27) skipV)), (86, (Bo ((x27.length : Int) == 1)))]) (L := [((cA4 c8) t0), (c_api_Uber (G_api_Uber.mk x3.Txg 7 x3.Seat x3.Root))]) (H := ⟨0, []⟩) rfl rfl rfl rfl rfl (astep_guard (v := (DP (c_api_Uber x30))) (((x27.length : Int) == 1) == true) rfl (fun hc => tx_idxD (c := c_api_Uber) (xs := x27) (i := 0) ce_api_Uber Try.underlying54 s_37 (cond_of hc) rfl (gd_of hc hx30)))) (dcons (dstep1 (Tm := [(88, (cond (((x27.length : Int) == 1) == true) (DP (c_api_Uber x30)) skipV)), (86, (Bo ((x27.length : Int) == 1)))]) (L := [((cA4 c8) t0), (c_api_Uber (G_api_Uber.mk x3.Txg 7 x3.Seat x3.Root))]) (H := ⟨0, []⟩) rfl rfl rfl rfl rfl (astep_guard (v := (Value.agg (c_api_Uber x30).toArray)) (((x27.length : Int) == 1) == true) rfl (fun hc => tx_ldDA (vs := (c_api_Uber x30)) Try.underlying37 rfl s_37 (by decide) (cond_of hc) (Nat.le_of_ble_eq_true rfl) rfl))) (dcons (dstep1 (Tm := [(5, (LP 1 0)), (86, (Bo ((x27.length : Int) == 1)))]) (L := [((cA4 c8) t0), (c_api_Uber (G_api_Uber.mk x3.Txg 7 x3.Seat x3.Root))]) (H := ⟨0, []⟩) rfl rfl rfl rfl rfl (astep_guard (v := (Value.agg (c_api_Uber (G_api_Uber.mk x3.Txg 7 x3.Seat x3.Root)).toArray)) (((x27.length : Int) == 1) == true) rfl (fun hc => tx_ldLA (vs := (c_api_Uber (G_api_Uber.mk x3.Txg 7 x3.Seat x3.Root))) Try.underlying37 rfl s_37 (by decide) rfl rfl rfl rfl))) (dcons (dstep1 (Tm := [(89, (cond (((x27.length : Int) == 1) == true) (Value.agg (c_api_Uber x30).toArray) skipV)), (90, (cond (((x27.length : Int) == 1) == true) (Value.agg (c_api_Uber (G_api_Uber.mk x3.Txg 7 x3.Seat x3.Root)).toArray) skipV)), (86, (Bo ((x27.length : Int) == 1)))]) (L := [((cA4 c8) t0), (c_api_Uber (G_api_Uber.mk x3.Txg 7 x3.Seat x3.Root))]) (H := ⟨0, []⟩) rfl rfl rfl rfl rfl (astep_guard (v := (Bo (decide (x30 = (G_api_Uber.mk x3.Txg 7 x3.Seat x3.Root))))) (((x27.length : Int) == 1) == true) rfl (fun hc => ex_bin (vx := (Value.agg (c_api_Uber x30).toArray)) (vy := (Value.agg (c_api_Uber (G_api_Uber.mk x3.Txg 7 x3.Seat x3.Root)).toArray)) (cond_of hc) (cond_of hc) eql_37))) (dcons (dstep1 (Tm := [(86, (Bo ((x27.length : Int) == 1))), (91, (cond (((x27.length : Int) == 1) == true) (Bo (decide (x30 = (G_api_Uber.mk x3.Txg 7 x3.Seat x3.Root)))) skipV))]) (L := [((cA4 c8) t0), (c_api_Uber (G_api_Uber.mk x3.Txg 7 x3.Seat x3.Root))]) (H := ⟨0, []⟩) rfl rfl rfl rfl rfl (astep_do rfl (ex_pick rfl pkAnd))) (dcons (dstep1 (Tm := [(92, (Bo (((x27.length : Int) == 1) && (decide (x30 = (G_api_Uber.mk x3.Txg 7 x3.Seat x3.Root))))))]) (L := [((cA4 c8) t0), (c_api_Uber (G_api_Uber.mk x3.Txg 7 x3.Seat x3.Root))]) (H := ⟨0, []⟩) rfl rfl rfl rfl rfl (astep_do rfl (ex_assign (eV (v := (Bo (((x27.length : Int) == 1) && (decide (x30 = (G_api_Uber.mk x3.Txg 7 x3.Seat x3.Root)))))) rfl)))) dnil))))))))))) ⟨rfl, rfl⟩) (by kernel_rfl) (by kernel_rfl) ?_
              show AWp _ _ _ _
              refine awp_ret ?_
              cases h
              exact ares1 (rtmp rfl (eV rfl))

end Go.Proofs
