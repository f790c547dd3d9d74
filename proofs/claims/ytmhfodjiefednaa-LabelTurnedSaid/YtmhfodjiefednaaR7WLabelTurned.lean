/- Pure models of functions of the program, and that its code does what they say: palimplaw7 LabelTurned. Written by a program. -/
import Derived.Test.YtmhfodjiefednaaR70
import Derived.Test.YtmhfodjiefednaaR710
import Derived.Test.YtmhfodjiefednaaR711
import Derived.Test.YtmhfodjiefednaaR714
import Derived.Test.YtmhfodjiefednaaR718
import Derived.Test.YtmhfodjiefednaaR73
import Derived.Test.YtmhfodjiefednaaR74
import Derived.Test.YtmhfodjiefednaaR75
import Derived.Test.YtmhfodjiefednaaR77
import Derived.Test.YtmhfodjiefednaaR7B
set_option maxRecDepth 20000
set_option maxHeartbeats 4000000
namespace Go.Proofs
open Go Go.Fhl
set_option linter.unusedVariables false
set_option linter.unusedSimpArgs false
noncomputable def M_law7_LabelTurned_l2 (c_1 : (Int → G_api_Dev → Option Bool)) (t1 : UInt8) (t2 : UInt8) (t3 : UInt8) (x10 : UInt8) : Nat → Int → G_api_Dev → Option Bool
  | 0, _, _ => none
  | n2 + 1, v11, v12 =>
  cond (decide (v11 ≤ (w64 (1 + (x10.toNat : Int))))) (Option.bind (remI v11 6) fun (x14 : Int) => Option.bind (M_label_Phase 40 (G_api_Uber.mk v11 7 x14 (G_api_Ptr.mk (w64 (13 + v11)) v11 (A4.mk 0 0 0 0))) 0) fun (x15 : (List G_api_Put)) => Option.bind (M_label_Phase 40 (G_api_Uber.mk v11 7 x14 (G_api_Ptr.mk (w64 (13 + v11)) v11 (A4.mk 0 0 0 0))) 1) fun (x16 : (List G_api_Put)) => Option.bind (appL 24 x15 x16) fun (x17 : List G_api_Put) => Option.bind (M_ref1_Write v12 x17) fun (x18 : (G_api_Dev × Bool)) => (M_law7_LabelTurned_l2 c_1 t1 t2 t3 x10 n2) (w64 (v11 + 1)) x18.1) (Option.bind (M_ref1_Flush v12) fun (x19 : (G_api_Dev × Bool)) => Option.bind (M_label_Roots x19.1) fun (x20 : (List G_api_Uber)) => Option.bind (remI (t1.toNat : Int) 68) fun (x21 : Int) => Option.bind (M_ref1_Turn x19.1 x21 (t2.toNat : Int) (t3.toNat : Int)) fun (x22 : G_api_Dev) => Option.bind (M_label_Found x22) fun (x23 : (Int × Int × Bool)) => Option.bind (gd (((x20.length : Int) == (min (w64 (1 + (x10.toNat : Int))) 6)) == true) (getI x20 0)) fun (x24 : G_api_Uber) => Option.bind (gd (((((((x20.length : Int) == (min (w64 (1 + (x10.toNat : Int))) 6)) && (x24.Txg == (w64 (1 + (x10.toNat : Int))))) && x23.2.2) && (x23.1 == 7)) && (x23.2.1 == 40)) == true) (M_label_Roots x22)) fun (x25 : (List G_api_Uber)) => Option.bind (gd (((((((x20.length : Int) == (min (w64 (1 + (x10.toNat : Int))) 6)) && (x24.Txg == (w64 (1 + (x10.toNat : Int))))) && x23.2.2) && (x23.1 == 7)) && (x23.2.1 == 40)) == true) (M_ref1_SameUbers x25 x20)) fun (x26 : Bool) => some (((((((x20.length : Int) == (min (w64 (1 + (x10.toNat : Int))) 6)) && (x24.Txg == (w64 (1 + (x10.toNat : Int))))) && x23.2.2) && (x23.1 == 7)) && (x23.2.1 == 40)) && x26))
noncomputable def M_law7_LabelTurned_l1 (t0 : UInt8) (t1 : UInt8) (t2 : UInt8) (t3 : UInt8) : Nat → Int → G_api_Dev → Option Bool
  | 0, _, _ => none
  | n1 + 1, v4, v5 =>
  cond (decide (v4 < 4)) (Option.bind (M_label_At 40 v4) fun (x7 : Int) => Option.bind (M_ref1_Config 7 40) fun (x8 : Str) => Option.bind (M_ref1_Write v5 ([(G_api_Put.mk x7 x8)] : List G_api_Put)) fun (x9 : (G_api_Dev × Bool)) => (M_law7_LabelTurned_l1 t0 t1 t2 t3 n1) (w64 (v4 + 1)) x9.1) (Option.bind (rem8 t0 9) fun (x10 : UInt8) => M_law7_LabelTurned_l2 (M_law7_LabelTurned_l1 t0 t1 t2 t3 n1) t1 t2 t3 x10 fuel 1 v5)
noncomputable def M_law7_LabelTurned (t0 : UInt8) (t1 : UInt8) (t2 : UInt8) (t3 : UInt8) : Option Bool :=
  Option.bind (M_law7_begun) fun (x1 : Bool) => cond (!x1) (some false) (Option.bind (M_ref1_New 68) fun (x3 : G_api_Dev) => M_law7_LabelTurned_l1 t0 t1 t2 t3 fuel 0 x3)
theorem ok_law7_LabelTurned (t0 : UInt8) (t1 : UInt8) (t2 : UInt8) (t3 : UInt8) (r : Bool) (h : M_law7_LabelTurned t0 t1 t2 t3 = some r) : FFn Try.prog 7 [(U8 t0), (U8 t1), (U8 t2), (U8 t3)] (Bo r) := by
  refine FFn.of_body (n := 115) Try.func7 rfl Try.ntmps7 rfl rfl rfl rfl ?_
  show AWp _ _ _ ⟨115, 0, [(0, (U8 t0)), (1, (U8 t1)), (2, (U8 t2)), (3, (U8 t3))], [], ⟨0, []⟩⟩
  unfold M_law7_LabelTurned at h
  refine awp_seq ?_
  refine awp_region ?_
  refine arun_do rfl rfl rfl (ex_assign (eV (v := (Bo false)) rfl)) ?_
  refine arun_keepE [0, 1, 2, 3] 0 0 (st' := ⟨115, 0, [(0, (U8 t0)), (1, (U8 t1)), (2, (U8 t2)), (3, (U8 t3))], [], ⟨0, []⟩⟩) (by kernel_rfl) (by kernel_rfl) ?_
  show AWp _ _ _ _
  refine awp_seq ?_
  refine awp_seq ?_
  refine awp_region ?_
  obtain ⟨x1, hx1, h⟩ := bindS h
  refine arun_do rfl rfl rfl (ex_call0 (vs := []) (v := (Bo x1)) rfl en_9 (cargs evs_nil) rfl (ok_law7_begun  x1 hx1) rfl) ?_
  refine arun_do rfl rfl rfl (ex_un (vx := (Bo x1)) rfl notB_ok) ?_
  refine arun_keepE [0, 1, 2, 3, 20] 0 0 (st' := ⟨115, 0, [(0, (U8 t0)), (1, (U8 t1)), (2, (U8 t2)), (3, (U8 t3)), (20, (Bo (!x1)))], [], ⟨0, []⟩⟩) (by kernel_rfl) (by kernel_rfl) ?_
  show AWp _ _ _ _
  rcases Bool.eq_false_or_eq_true (!x1) with hb2 | hb2
  · rw [condT hb2] at h
    refine awp_condT (boT hb2) ?_
    refine awp_seq ?_
    refine awp_region ?_
    refine arun_do rfl rfl rfl (ex_assign (eV (v := (Bo false)) rfl)) ?_
    refine arun_keepE [8] 0 0 (st' := ⟨115, 0, [(8, (Bo false))], [], ⟨0, []⟩⟩) (by kernel_rfl) (by kernel_rfl) ?_
    show AWp _ _ _ _
    refine awp_ret ?_
    cases h
    exact ares1 (rtmp rfl (eV rfl))
  · rw [condF hb2] at h
    refine awp_condF (boF hb2) ?_
    refine awp_skip ?_
    show AWp _ _ _ _
    refine awp_seq ?_
    refine awp_region ?_
    obtain ⟨x3, hx3, h⟩ := bindS h
    refine arun_do rfl rfl rfl (ex_call0 (vs := [(I 68)]) (v := (Value.agg (c_api_Dev x3).toArray)) rfl en_14 (cargs (evs rfl evs_nil)) rfl (ok_ref1_New 68 x3 hx3) rfl) ?_
    refine arun_do rfl rfl rfl (ex_allocW (k := 0) (zs := (c_api_Dev (G_api_Dev.mk [] [] 0 0 false))) (L' := [(c_api_Dev (G_api_Dev.mk [] [] 0 0 false))]) z_29 rfl (by repeat (first | exact trivial | refine ⟨.inl rfl, ?_⟩ | refine ⟨.inr ⟨rfl, _, rfl⟩, ?_⟩)) rfl rfl) ?_
    refine arun_do0 rfl rfl (ex_storeL (vy := (Value.agg (c_api_Dev x3).toArray)) (cs := (c_api_Dev (G_api_Dev.mk [] [] 0 0 false))) (vs := (c_api_Dev x3)) (L' := [(c_api_Dev x3)]) rfl (eV (v := (Value.agg (c_api_Dev x3).toArray)) rfl) rfl s_29 rfl (Nat.le_of_ble_eq_true rfl) (by kernel_rfl)) ?_
    refine arun_keepE [0, 1, 2, 3, 9] 1 0 (st' := ⟨115, 0, [(0, (U8 t0)), (1, (U8 t1)), (2, (U8 t2)), (3, (U8 t3)), (9, (LP 0 0))], [(c_api_Dev x3)], ⟨0, []⟩⟩) (by kernel_rfl) (by kernel_rfl) ?_
    show AWp _ _ _ _
    refine awp_seq ?_
    refine awp_seq ?_
    refine awp_region ?_
    refine arun_do rfl rfl rfl (ex_assign (eV (v := (I 0)) rfl)) ?_
    refine arun_keepE [0, 1, 2, 3, 9, 10] 1 0 (st' := ⟨115, 0, [(0, (U8 t0)), (1, (U8 t1)), (2, (U8 t2)), (3, (U8 t3)), (9, (LP 0 0)), (10, (I 0))], [(c_api_Dev x3)], ⟨0, []⟩⟩) (by kernel_rfl) (by kernel_rfl) ?_
    show AWp _ _ _ _
    refine awp_block ?_
    refine awp_loop (fun n s => ∃ (v4 : Int) (v5 : G_api_Dev), s = ⟨115, 0, [(0, (U8 t0)), (1, (U8 t1)), (2, (U8 t2)), (3, (U8 t3)), (9, (LP 0 0)), (10, (I v4))], [(c_api_Dev v5)], ⟨0, []⟩⟩ ∧ M_law7_LabelTurned_l1 t0 t1 t2 t3 n v4 v5 = some r) fuel (Exists.intro 0 (Exists.intro x3 (And.intro rfl h))) ?_
    rintro n s ⟨v4, v5, rfl, h⟩ -
    cases n with
    | zero => cases h
    | succ n1 =>
      unfold M_law7_LabelTurned_l1 at h
      refine awp_seq ?_
      refine awp_seq ?_
      refine awp_region ?_
      refine arun_do rfl rfl rfl (ex_move (eV (v := (I v4)) rfl)) ?_
      refine arun_do rfl rfl rfl (ex_bin (vx := (I v4)) (vy := (I 4)) rfl rfl lssI_ok) ?_
      refine arun_keepE [0, 1, 2, 3, 9, 10, 23] 1 0 (st' := ⟨115, 0, [(0, (U8 t0)), (1, (U8 t1)), (2, (U8 t2)), (3, (U8 t3)), (9, (LP 0 0)), (10, (I v4)), (23, (Bo (decide (v4 < 4))))], [(c_api_Dev v5)], ⟨0, []⟩⟩) (by kernel_rfl) (by kernel_rfl) ?_
      show AWp _ _ _ _
      rcases Bool.eq_false_or_eq_true (decide (v4 < 4)) with hb6 | hb6
      · rw [condT hb6] at h
        refine awp_condT (boT hb6) ?_
        refine awp_skip ?_
        show AWp _ _ _ _
        refine awp_seq ?_
        refine awp_block ?_
        obtain ⟨x7, hx7, h⟩ := bindS h
        obtain ⟨x8, hx8, h⟩ := bindS h
        obtain ⟨x9, hx9, h⟩ := bindS h
        refine awp_kn [0, 1, 2, 3, 9, 10] 1 0 (st' := ⟨115, 0, [(0, (U8 t0)), (1, (U8 t1)), (2, (U8 t2)), (3, (U8 t3)), (9, (LP 0 0)), (10, (I v4))], [(c_api_Dev x9.1)], ⟨0, []⟩⟩) (awp_draw (T := [(Value.agg (c_api_Dev v5).toArray), (I v4), (I x7), (S x8), (Value.agg (c_api_Put (G_api_Put.mk x7 x8)).toArray), (SL 2 c_api_Put ([(G_api_Put.mk x7 x8)] : List G_api_Put)), (Value.tuple #[(Value.agg (c_api_Dev x9.1).toArray), (Bo x9.2)]), (Value.tuple #[(Value.agg (c_api_Dev x9.1).toArray), (Bo x9.2)]), (Value.agg (c_api_Dev x9.1).toArray), (Bo x9.2), undef]) (LH := [([(c_api_Dev v5)], ⟨0, []⟩), ([(c_api_Dev x9.1)], ⟨0, []⟩)]) (D := [⟨[(9, none)], [], [0], false⟩, ⟨[(10, none)], [], [0], false⟩, ⟨[(28, some 1)], [1], [0], false⟩, ⟨[], [1, 2], [0], false⟩, ⟨[(29, some 2), (30, some 3)], [1, 2, 3], [0], false⟩, ⟨[(31, some 4)], [1, 2, 3, 4], [0], false⟩, ⟨[(27, some 0), (32, some 5)], [0, 1, 2, 3, 4, 5], [0], false⟩, ⟨[(33, some 6)], [0, 1, 2, 3, 4, 5, 6], [0], false⟩, ⟨[(26, some 7)], [0, 1, 2, 3, 4, 5, 6, 7], [0], false⟩, ⟨[(26, some 7)], [0, 1, 2, 3, 4, 5, 6, 7], [0, 1], false⟩, ⟨[(9, none), (34, some 8)], [0, 1, 2, 3, 4, 5, 6, 7, 8], [0], true⟩]) (S := [10]) (plan := [0, 1, 2, 3, 4, 5, 6, 7, 8, 9, 10]) mo (by kernel_rfl) rfl rfl rfl (dcons (dstep1 (Tm := [(9, (LP 0 0))]) (L := [(c_api_Dev v5)]) (H := ⟨0, []⟩) rfl rfl rfl rfl rfl (astep_do rfl (tx_ldLA (vs := (c_api_Dev v5)) Try.underlying29 rfl s_29 (by decide) rfl rfl rfl rfl))) (dcons (dstep1 (Tm := [(10, (I v4))]) (L := [(c_api_Dev v5)]) (H := ⟨0, []⟩) rfl rfl rfl rfl rfl (astep_do rfl (ex_move (eV (v := (I v4)) rfl)))) (dcons (dstep1 (Tm := [(28, (I v4))]) (L := [(c_api_Dev v5)]) (H := ⟨0, []⟩) rfl rfl rfl rfl rfl (astep_do rfl (ex_call0 (vs := [(I 40), (I v4)]) (v := (I x7)) rfl en_10 (cargs (evs rfl (evs rfl evs_nil))) rfl (ok_label_At 40 v4 x7 hx7) rfl))) (dcons (dstep1 (Tm := []) (L := [(c_api_Dev v5)]) (H := ⟨0, []⟩) rfl rfl rfl rfl rfl (astep_do rfl (ex_call0 (vs := [(I 7), (I 40)]) (v := (S x8)) rfl en_19 (cargs (evs rfl (evs rfl evs_nil))) rfl (ok_ref1_Config 7 40 x8 hx8) rfl))) (dcons (dstep1 (Tm := [(29, (I x7)), (30, (S x8))]) (L := [(c_api_Dev v5)]) (H := ⟨0, []⟩) rfl rfl rfl rfl rfl (astep_do rfl (ex_build (qs := [(0, (I x7)), (1, (S x8))]) (v := (Value.agg (c_api_Put (G_api_Put.mk x7 x8)).toArray)) (evp rfl (evp rfl evp_nil)) (by kernel_rfl)))) (dcons (dstep1 (Tm := [(31, (Value.agg (c_api_Put (G_api_Put.mk x7 x8)).toArray))]) (L := [(c_api_Dev v5)]) (H := ⟨0, []⟩) rfl rfl rfl rfl rfl (astep_do rfl (ex_buildSliceD (qs := [(0, (Value.agg (c_api_Put (G_api_Put.mk x7 x8)).toArray))]) (cells := (([(G_api_Put.mk x7 x8)] : List G_api_Put).flatMap c_api_Put)) Try.underlying27 s_44 (by decide) (evp rfl evp_nil) rfl (by kernel_rfl) (by kernel_rfl) (by kernel_rfl)))) (dcons (dstep1 (Tm := [(27, (Value.agg (c_api_Dev v5).toArray)), (32, (SL 2 c_api_Put ([(G_api_Put.mk x7 x8)] : List G_api_Put)))]) (L := [(c_api_Dev v5)]) (H := ⟨0, []⟩) rfl rfl rfl rfl rfl (astep_do rfl (ex_call0 (vs := [(Value.agg (c_api_Dev v5).toArray), (SL 2 c_api_Put ([(G_api_Put.mk x7 x8)] : List G_api_Put))]) (v := (Value.tuple #[(Value.agg (c_api_Dev x9.1).toArray), (Bo x9.2)])) rfl en_21 (cargs (evs rfl (evs rfl evs_nil))) rfl (ok_ref1_Write v5 ([(G_api_Put.mk x7 x8)] : List G_api_Put) x9 hx9) rfl))) (dcons (dstep1 (Tm := [(33, (Value.tuple #[(Value.agg (c_api_Dev x9.1).toArray), (Bo x9.2)]))]) (L := [(c_api_Dev v5)]) (H := ⟨0, []⟩) rfl rfl rfl rfl rfl (astep_do rfl (ex_move (eV (v := (Value.tuple #[(Value.agg (c_api_Dev x9.1).toArray), (Bo x9.2)])) rfl)))) (dcons (dstep1 (Tm := [(26, (Value.tuple #[(Value.agg (c_api_Dev x9.1).toArray), (Bo x9.2)]))]) (L := [(c_api_Dev v5)]) (H := ⟨0, []⟩) rfl rfl rfl rfl rfl (astep_do rfl (ex_extract (vx := (Value.tuple #[(Value.agg (c_api_Dev x9.1).toArray), (Bo x9.2)])) (v := (Value.agg (c_api_Dev x9.1).toArray)) rfl rfl))) (dcons (dstepN (by intro k hk; simp only [List.mem_cons, List.not_mem_nil, or_false] at hk; rcases hk with rfl | rfl <;> exact ⟨[(26, (Value.tuple #[(Value.agg (c_api_Dev x9.1).toArray), (Bo x9.2)]))], _, _, _, _, _, rfl, rfl, rfl, rfl, astep_do rfl (ex_extract (vx := (Value.tuple #[(Value.agg (c_api_Dev x9.1).toArray), (Bo x9.2)])) (v := (Bo x9.2)) rfl rfl)⟩)) (dcons (dstep1 (Tm := [(9, (LP 0 0)), (34, (Value.agg (c_api_Dev x9.1).toArray))]) (L := [(c_api_Dev v5)]) (H := ⟨0, []⟩) rfl rfl rfl rfl rfl (astep_do rfl (ex_storeL (vy := (Value.agg (c_api_Dev x9.1).toArray)) (cs := (c_api_Dev v5)) (vs := (c_api_Dev x9.1)) (L' := [(c_api_Dev x9.1)]) rfl (eV (v := (Value.agg (c_api_Dev x9.1).toArray)) rfl) rfl s_29 rfl (Nat.le_of_ble_eq_true rfl) (by kernel_rfl)))) dnil))))))))))) ⟨rfl, rfl⟩) (by kernel_rfl) (by kernel_rfl) ?_
        show AWp _ _ _ _
        refine awp_region ?_
        refine arun_do rfl rfl rfl (ex_move (eV (v := (I v4)) rfl)) ?_
        refine arun_do rfl rfl rfl (ex_bin (vx := (I v4)) (vy := (I 1)) rfl rfl addI_ok) ?_
        refine arun_do rfl rfl rfl (ex_assign (eV (v := (I (w64 (v4 + 1)))) rfl)) ?_
        refine arun_keepE [0, 1, 2, 3, 9, 10] 1 0 (st' := ⟨115, 0, [(0, (U8 t0)), (1, (U8 t1)), (2, (U8 t2)), (3, (U8 t3)), (9, (LP 0 0)), (10, (I (w64 (v4 + 1))))], [(c_api_Dev x9.1)], ⟨0, []⟩⟩) (by kernel_rfl) (by kernel_rfl) ?_
        exact Exists.intro n1 (And.intro (Nat.lt_succ_self _) (Exists.intro (w64 (v4 + 1)) (Exists.intro x9.1 (And.intro rfl h))))
      · rw [condF hb6] at h
        refine awp_condF (boF hb6) ?_
        refine awp_exit ?_
        show AWp _ _ _ _
        refine awp_seq ?_
        refine awp_region ?_
        refine arun_do rfl rfl rfl (ex_move (eV (v := (U8 t0)) rfl)) ?_
        obtain ⟨x10, hx10, h⟩ := bindS h
        refine arun_do rfl rfl rfl (ex_bin (vx := (U8 t0)) (vy := (U8 9)) rfl rfl (rem8_ok hx10)) ?_
        refine arun_do rfl rfl rfl (tx_8_64 Try.underlying5 Try.underlying3 rfl) ?_
        refine arun_do rfl rfl rfl (ex_bin (vx := (I 1)) (vy := (I (x10.toNat : Int))) rfl rfl addI_ok) ?_
        refine arun_do rfl rfl rfl (ex_assign (eV (v := (I (w64 (1 + (x10.toNat : Int))))) rfl)) ?_
        refine arun_keepE [1, 2, 3, 9, 11] 1 0 (st' := ⟨115, 0, [(1, (U8 t1)), (2, (U8 t2)), (3, (U8 t3)), (9, (LP 0 0)), (11, (I (w64 (1 + (x10.toNat : Int)))))], [(c_api_Dev v5)], ⟨0, []⟩⟩) (by kernel_rfl) (by kernel_rfl) ?_
        show AWp _ _ _ _
        refine awp_seq ?_
        refine awp_seq ?_
        refine awp_region ?_
        refine arun_do rfl rfl rfl (ex_assign (eV (v := (I 1)) rfl)) ?_
        refine arun_keepE [1, 2, 3, 9, 11, 12] 1 0 (st' := ⟨115, 0, [(1, (U8 t1)), (2, (U8 t2)), (3, (U8 t3)), (9, (LP 0 0)), (11, (I (w64 (1 + (x10.toNat : Int))))), (12, (I 1))], [(c_api_Dev v5)], ⟨0, []⟩⟩) (by kernel_rfl) (by kernel_rfl) ?_
        show AWp _ _ _ _
        refine awp_block ?_
        refine awp_loop (fun n s => ∃ (v11 : Int) (v12 : G_api_Dev), s = ⟨115, 0, [(1, (U8 t1)), (2, (U8 t2)), (3, (U8 t3)), (9, (LP 0 0)), (11, (I (w64 (1 + (x10.toNat : Int))))), (12, (I v11))], [(c_api_Dev v12)], ⟨0, []⟩⟩ ∧ M_law7_LabelTurned_l2 (M_law7_LabelTurned_l1 t0 t1 t2 t3 n1) t1 t2 t3 x10 n v11 v12 = some r) fuel (Exists.intro 1 (Exists.intro v5 (And.intro rfl h))) ?_
        rintro n s ⟨v11, v12, rfl, h⟩ -
        cases n with
        | zero => cases h
        | succ n2 =>
          unfold M_law7_LabelTurned_l2 at h
          refine awp_seq ?_
          refine awp_seq ?_
          refine awp_region ?_
          refine arun_do rfl rfl rfl (ex_move (eV (v := (I v11)) rfl)) ?_
          refine arun_do rfl rfl rfl (ex_move (eV (v := (I (w64 (1 + (x10.toNat : Int))))) rfl)) ?_
          refine arun_do rfl rfl rfl (ex_bin (vx := (I v11)) (vy := (I (w64 (1 + (x10.toNat : Int))))) rfl rfl leqI_ok) ?_
          refine arun_keepE [1, 2, 3, 9, 11, 12, 42] 1 0 (st' := ⟨115, 0, [(1, (U8 t1)), (2, (U8 t2)), (3, (U8 t3)), (9, (LP 0 0)), (11, (I (w64 (1 + (x10.toNat : Int))))), (12, (I v11)), (42, (Bo (decide (v11 ≤ (w64 (1 + (x10.toNat : Int)))))))], [(c_api_Dev v12)], ⟨0, []⟩⟩) (by kernel_rfl) (by kernel_rfl) ?_
          show AWp _ _ _ _
          rcases Bool.eq_false_or_eq_true (decide (v11 ≤ (w64 (1 + (x10.toNat : Int))))) with hb13 | hb13
          · rw [condT hb13] at h
            refine awp_condT (boT hb13) ?_
            refine awp_skip ?_
            show AWp _ _ _ _
            refine awp_seq ?_
            refine awp_block ?_
            refine awp_seq ?_
            refine awp_region ?_
            refine arun_do rfl rfl rfl (ex_move (eV (v := (I v11)) rfl)) ?_
            refine arun_do rfl rfl rfl (ex_move (eV (v := (I v11)) rfl)) ?_
            obtain ⟨x14, hx14, h⟩ := bindS h
            refine arun_do rfl rfl rfl (ex_bin (vx := (I v11)) (vy := (I 6)) rfl rfl (remI_ok hx14)) ?_
            refine arun_do rfl rfl rfl (ex_move (eV (v := (I v11)) rfl)) ?_
            refine arun_do rfl rfl rfl (ex_bin (vx := (I 13)) (vy := (I v11)) rfl rfl addI_ok) ?_
            refine arun_do rfl rfl rfl (ex_move (eV (v := (I v11)) rfl)) ?_
            refine arun_do rfl rfl rfl (ex_build (qs := [(0, (I (w64 (13 + v11)))), (1, (I v11))]) (v := (Value.agg (c_api_Ptr (G_api_Ptr.mk (w64 (13 + v11)) v11 (A4.mk 0 0 0 0))).toArray)) (evp rfl (evp rfl evp_nil)) (by kernel_rfl)) ?_
            refine arun_do rfl rfl rfl (ex_build (qs := [(0, (I v11)), (1, (I 7)), (2, (I x14)), (3, (Value.agg (c_api_Ptr (G_api_Ptr.mk (w64 (13 + v11)) v11 (A4.mk 0 0 0 0))).toArray))]) (v := (Value.agg (c_api_Uber (G_api_Uber.mk v11 7 x14 (G_api_Ptr.mk (w64 (13 + v11)) v11 (A4.mk 0 0 0 0)))).toArray)) (evp rfl (evp rfl (evp rfl (evp rfl evp_nil)))) (by kernel_rfl)) ?_
            refine arun_do rfl rfl rfl (ex_alloc (k := 1) (zs := (c_api_Uber (G_api_Uber.mk 0 0 0 (G_api_Ptr.mk 0 0 (A4.mk 0 0 0 0))))) (L' := [(c_api_Dev v12), (c_api_Uber (G_api_Uber.mk 0 0 0 (G_api_Ptr.mk 0 0 (A4.mk 0 0 0 0))))]) z_37 rfl rfl rfl rfl) ?_
            refine arun_do0 rfl rfl (ex_storeL (vy := (Value.agg (c_api_Uber (G_api_Uber.mk v11 7 x14 (G_api_Ptr.mk (w64 (13 + v11)) v11 (A4.mk 0 0 0 0)))).toArray)) (cs := (c_api_Uber (G_api_Uber.mk 0 0 0 (G_api_Ptr.mk 0 0 (A4.mk 0 0 0 0))))) (vs := (c_api_Uber (G_api_Uber.mk v11 7 x14 (G_api_Ptr.mk (w64 (13 + v11)) v11 (A4.mk 0 0 0 0))))) (L' := [(c_api_Dev v12), (c_api_Uber (G_api_Uber.mk v11 7 x14 (G_api_Ptr.mk (w64 (13 + v11)) v11 (A4.mk 0 0 0 0))))]) rfl (eV (v := (Value.agg (c_api_Uber (G_api_Uber.mk v11 7 x14 (G_api_Ptr.mk (w64 (13 + v11)) v11 (A4.mk 0 0 0 0)))).toArray)) rfl) rfl s_37 rfl (Nat.le_of_ble_eq_true rfl) (by kernel_rfl)) ?_
            refine arun_keepE [1, 2, 3, 9, 11, 12, 13] 2 0 (st' := ⟨115, 0, [(1, (U8 t1)), (2, (U8 t2)), (3, (U8 t3)), (9, (LP 0 0)), (11, (I (w64 (1 + (x10.toNat : Int))))), (12, (I v11)), (13, (LP 1 0))], [(c_api_Dev v12), (c_api_Uber (G_api_Uber.mk v11 7 x14 (G_api_Ptr.mk (w64 (13 + v11)) v11 (A4.mk 0 0 0 0))))], ⟨0, []⟩⟩) (by kernel_rfl) (by kernel_rfl) ?_
            show AWp _ _ _ _
            obtain ⟨x15, hx15, h⟩ := bindS h
            obtain ⟨x16, hx16, h⟩ := bindS h
            obtain ⟨x17, hx17, h⟩ := bindS h
            obtain ⟨x18, hx18, h⟩ := bindS h
            refine awp_kn [1, 2, 3, 9, 11, 12] 1 0 (st' := ⟨115, 0, [(1, (U8 t1)), (2, (U8 t2)), (3, (U8 t3)), (9, (LP 0 0)), (11, (I (w64 (1 + (x10.toNat : Int))))), (12, (I v11))], [(c_api_Dev x18.1)], ⟨0, []⟩⟩) (awp_draw (T := [(Value.agg (c_api_Dev v12).toArray), (Value.agg (c_api_Uber (G_api_Uber.mk v11 7 x14 (G_api_Ptr.mk (w64 (13 + v11)) v11 (A4.mk 0 0 0 0)))).toArray), (GV 0 x15.length), (Value.agg (c_api_Uber (G_api_Uber.mk v11 7 x14 (G_api_Ptr.mk (w64 (13 + v11)) v11 (A4.mk 0 0 0 0)))).toArray), (SL 2 c_api_Put x16), (GV 0 x17.length), (Value.tuple #[(Value.agg (c_api_Dev x18.1).toArray), (Bo x18.2)]), (Value.tuple #[(Value.agg (c_api_Dev x18.1).toArray), (Bo x18.2)]), (Value.agg (c_api_Dev x18.1).toArray), (Bo x18.2), undef]) (LH := [([(c_api_Dev v12), (c_api_Uber (G_api_Uber.mk v11 7 x14 (G_api_Ptr.mk (w64 (13 + v11)) v11 (A4.mk 0 0 0 0))))], ⟨0, []⟩), ([(c_api_Dev v12), (c_api_Uber (G_api_Uber.mk v11 7 x14 (G_api_Ptr.mk (w64 (13 + v11)) v11 (A4.mk 0 0 0 0))))], ⟨1, [(0, ⟨2, ((x15).flatMap c_api_Put), true⟩)]⟩), ([(c_api_Dev v12), (c_api_Uber (G_api_Uber.mk v11 7 x14 (G_api_Ptr.mk (w64 (13 + v11)) v11 (A4.mk 0 0 0 0))))], ⟨1, [(0, ⟨2, ((x17).flatMap c_api_Put), true⟩)]⟩), ([(c_api_Dev v12), (c_api_Uber (G_api_Uber.mk v11 7 x14 (G_api_Ptr.mk (w64 (13 + v11)) v11 (A4.mk 0 0 0 0))))], ⟨1, []⟩), ([(c_api_Dev x18.1), (c_api_Uber (G_api_Uber.mk v11 7 x14 (G_api_Ptr.mk (w64 (13 + v11)) v11 (A4.mk 0 0 0 0))))], ⟨1, []⟩)]) (D := [⟨[(9, none)], [], [0, 1, 2], false⟩, ⟨[(13, none)], [], [0], false⟩, ⟨[(55, some 1)], [1], [0], true⟩, ⟨[(13, none)], [], [0, 1], false⟩, ⟨[(57, some 3)], [1, 2, 3], [1], false⟩, ⟨[(56, some 2), (58, some 4)], [1, 2, 3, 4], [1], true⟩, ⟨[(54, some 0), (59, some 5)], [0, 1, 2, 3, 4, 5], [2], true⟩, ⟨[(60, some 6)], [0, 1, 2, 3, 4, 5, 6], [3], false⟩, ⟨[(53, some 7)], [0, 1, 2, 3, 4, 5, 6, 7], [3], false⟩, ⟨[(53, some 7)], [0, 1, 2, 3, 4, 5, 6, 7], [3, 4], false⟩, ⟨[(9, none), (61, some 8)], [0, 1, 2, 3, 4, 5, 6, 7, 8], [3], true⟩]) (S := [2, 5, 6, 10]) (plan := [0, 1, 2, 3, 4, 5, 6, 7, 8, 9, 10]) mo (by kernel_rfl) rfl rfl rfl (dcons (dstepN (by intro k hk; simp only [List.mem_cons, List.not_mem_nil, or_false] at hk; rcases hk with rfl | rfl | rfl <;> exact ⟨[(9, (LP 0 0))], _, _, _, _, _, rfl, rfl, rfl, rfl, astep_do rfl (tx_ldLA (vs := (c_api_Dev v12)) Try.underlying29 rfl s_29 (by decide) rfl rfl rfl rfl)⟩)) (dcons (dstep1 (Tm := [(13, (LP 1 0))]) (L := [(c_api_Dev v12), (c_api_Uber (G_api_Uber.mk v11 7 x14 (G_api_Ptr.mk (w64 (13 + v11)) v11 (A4.mk 0 0 0 0))))]) (H := ⟨0, []⟩) rfl rfl rfl rfl rfl (astep_do rfl (tx_ldLA (vs := (c_api_Uber (G_api_Uber.mk v11 7 x14 (G_api_Ptr.mk (w64 (13 + v11)) v11 (A4.mk 0 0 0 0))))) Try.underlying37 rfl s_37 (by decide) rfl rfl rfl rfl))) (dcons (dstep1 (Tm := [(55, (Value.agg (c_api_Uber (G_api_Uber.mk v11 7 x14 (G_api_Ptr.mk (w64 (13 + v11)) v11 (A4.mk 0 0 0 0)))).toArray))]) (L := [(c_api_Dev v12), (c_api_Uber (G_api_Uber.mk v11 7 x14 (G_api_Ptr.mk (w64 (13 + v11)) v11 (A4.mk 0 0 0 0))))]) (H := ⟨0, []⟩) rfl rfl rfl rfl rfl (astep_do rfl (ex_callOw (vs := [(I 40), (Value.agg (c_api_Uber (G_api_Uber.mk v11 7 x14 (G_api_Ptr.mk (w64 (13 + v11)) v11 (A4.mk 0 0 0 0)))).toArray), (I 0)]) (k := 0) (len := x15.length) (b := ⟨2, ((x15).flatMap c_api_Put), true⟩) (H' := ⟨1, [(0, ⟨2, ((x15).flatMap c_api_Put), true⟩)]⟩) rfl en_17 (cargs (evs rfl (evs rfl (evs rfl evs_nil)))) rfl (okw_label_Phase 40 (G_api_Uber.mk v11 7 x14 (G_api_Ptr.mk (w64 (13 + v11)) v11 (A4.mk 0 0 0 0))) 0 x15 hx15) rfl rfl))) (dcons (dstepN (by intro k hk; simp only [List.mem_cons, List.not_mem_nil, or_false] at hk; rcases hk with rfl | rfl <;> exact ⟨[(13, (LP 1 0))], _, _, _, _, _, rfl, rfl, rfl, rfl, astep_do rfl (tx_ldLA (vs := (c_api_Uber (G_api_Uber.mk v11 7 x14 (G_api_Ptr.mk (w64 (13 + v11)) v11 (A4.mk 0 0 0 0))))) Try.underlying37 rfl s_37 (by decide) rfl rfl rfl rfl)⟩)) (dcons (dstep1 (Tm := [(57, (Value.agg (c_api_Uber (G_api_Uber.mk v11 7 x14 (G_api_Ptr.mk (w64 (13 + v11)) v11 (A4.mk 0 0 0 0)))).toArray))]) (L := [(c_api_Dev v12), (c_api_Uber (G_api_Uber.mk v11 7 x14 (G_api_Ptr.mk (w64 (13 + v11)) v11 (A4.mk 0 0 0 0))))]) (H := ⟨1, [(0, ⟨2, ((x15).flatMap c_api_Put), true⟩)]⟩) rfl rfl rfl rfl rfl (astep_do rfl (ex_call0 (vs := [(I 40), (Value.agg (c_api_Uber (G_api_Uber.mk v11 7 x14 (G_api_Ptr.mk (w64 (13 + v11)) v11 (A4.mk 0 0 0 0)))).toArray), (I 1)]) (v := (SL 2 c_api_Put x16)) rfl en_17 (cargs (evs rfl (evs rfl (evs rfl evs_nil)))) rfl (ok_label_Phase 40 (G_api_Uber.mk v11 7 x14 (G_api_Ptr.mk (w64 (13 + v11)) v11 (A4.mk 0 0 0 0))) 1 x16 hx16) rfl))) (dcons (dstep1 (Tm := [(56, (GV 0 x15.length)), (58, (SL 2 c_api_Put x16))]) (L := [(c_api_Dev v12), (c_api_Uber (G_api_Uber.mk v11 7 x14 (G_api_Ptr.mk (w64 (13 + v11)) v11 (A4.mk 0 0 0 0))))]) (H := ⟨1, [(0, ⟨2, ((x15).flatMap c_api_Put), true⟩)]⟩) rfl rfl rfl rfl rfl (astep_do rfl (tx_appG (c := c_api_Put) (xs := x15) (H' := ⟨1, [(0, ⟨2, ((x17).flatMap c_api_Put), true⟩)]⟩) ce_api_Put e_44 rfl rfl rfl (tsrcD (ys := x16) ce_api_Put Try.underlying27 s_44 Try.underlying27 rfl) hx17 rfl))) (dcons (dstep1 (Tm := [(54, (Value.agg (c_api_Dev v12).toArray)), (59, (GV 0 x17.length))]) (L := [(c_api_Dev v12), (c_api_Uber (G_api_Uber.mk v11 7 x14 (G_api_Ptr.mk (w64 (13 + v11)) v11 (A4.mk 0 0 0 0))))]) (H := ⟨1, [(0, ⟨2, ((x17).flatMap c_api_Put), true⟩)]⟩) rfl rfl rfl rfl rfl (astep_do rfl (ex_fz (Tm' := [(54, (Value.agg (c_api_Dev v12).toArray)), (59, (SL 2 c_api_Put x17))]) 0 rfl (FzT.keep (v := (Value.agg (c_api_Dev v12).toArray)) rfl (fzG ce_api_Put rfl rfl FzT.nil)) (ex_call0 (vs := [(Value.agg (c_api_Dev v12).toArray), (SL 2 c_api_Put x17)]) (v := (Value.tuple #[(Value.agg (c_api_Dev x18.1).toArray), (Bo x18.2)])) rfl en_21 (cargs (evs rfl (evs rfl evs_nil))) rfl (ok_ref1_Write v12 x17 x18 hx18) rfl)))) (dcons (dstep1 (Tm := [(60, (Value.tuple #[(Value.agg (c_api_Dev x18.1).toArray), (Bo x18.2)]))]) (L := [(c_api_Dev v12), (c_api_Uber (G_api_Uber.mk v11 7 x14 (G_api_Ptr.mk (w64 (13 + v11)) v11 (A4.mk 0 0 0 0))))]) (H := ⟨1, []⟩) rfl rfl rfl rfl rfl (astep_do rfl (ex_move (eV (v := (Value.tuple #[(Value.agg (c_api_Dev x18.1).toArray), (Bo x18.2)])) rfl)))) (dcons (dstep1 (Tm := [(53, (Value.tuple #[(Value.agg (c_api_Dev x18.1).toArray), (Bo x18.2)]))]) (L := [(c_api_Dev v12), (c_api_Uber (G_api_Uber.mk v11 7 x14 (G_api_Ptr.mk (w64 (13 + v11)) v11 (A4.mk 0 0 0 0))))]) (H := ⟨1, []⟩) rfl rfl rfl rfl rfl (astep_do rfl (ex_extract (vx := (Value.tuple #[(Value.agg (c_api_Dev x18.1).toArray), (Bo x18.2)])) (v := (Value.agg (c_api_Dev x18.1).toArray)) rfl rfl))) (dcons (dstepN (by intro k hk; simp only [List.mem_cons, List.not_mem_nil, or_false] at hk; rcases hk with rfl | rfl <;> exact ⟨[(53, (Value.tuple #[(Value.agg (c_api_Dev x18.1).toArray), (Bo x18.2)]))], _, _, _, _, _, rfl, rfl, rfl, rfl, astep_do rfl (ex_extract (vx := (Value.tuple #[(Value.agg (c_api_Dev x18.1).toArray), (Bo x18.2)])) (v := (Bo x18.2)) rfl rfl)⟩)) (dcons (dstep1 (Tm := [(9, (LP 0 0)), (61, (Value.agg (c_api_Dev x18.1).toArray))]) (L := [(c_api_Dev v12), (c_api_Uber (G_api_Uber.mk v11 7 x14 (G_api_Ptr.mk (w64 (13 + v11)) v11 (A4.mk 0 0 0 0))))]) (H := ⟨1, []⟩) rfl rfl rfl rfl rfl (astep_do rfl (ex_storeL (vy := (Value.agg (c_api_Dev x18.1).toArray)) (cs := (c_api_Dev v12)) (vs := (c_api_Dev x18.1)) (L' := [(c_api_Dev x18.1), (c_api_Uber (G_api_Uber.mk v11 7 x14 (G_api_Ptr.mk (w64 (13 + v11)) v11 (A4.mk 0 0 0 0))))]) rfl (eV (v := (Value.agg (c_api_Dev x18.1).toArray)) rfl) rfl s_29 rfl (Nat.le_of_ble_eq_true rfl) (by kernel_rfl)))) dnil))))))))))) ⟨rfl, rfl⟩) (by kernel_rfl) (by kernel_rfl) ?_
            show AWp _ _ _ _
            refine awp_region ?_
            refine arun_do rfl rfl rfl (ex_move (eV (v := (I v11)) rfl)) ?_
            refine arun_do rfl rfl rfl (ex_bin (vx := (I v11)) (vy := (I 1)) rfl rfl addI_ok) ?_
            refine arun_do rfl rfl rfl (ex_assign (eV (v := (I (w64 (v11 + 1)))) rfl)) ?_
            refine arun_keepE [1, 2, 3, 9, 11, 12] 1 0 (st' := ⟨115, 0, [(1, (U8 t1)), (2, (U8 t2)), (3, (U8 t3)), (9, (LP 0 0)), (11, (I (w64 (1 + (x10.toNat : Int))))), (12, (I (w64 (v11 + 1))))], [(c_api_Dev x18.1)], ⟨0, []⟩⟩) (by kernel_rfl) (by kernel_rfl) ?_
            exact Exists.intro n2 (And.intro (Nat.lt_succ_self _) (Exists.intro (w64 (v11 + 1)) (Exists.intro x18.1 (And.intro rfl h))))
          · rw [condF hb13] at h
            refine awp_condF (boF hb13) ?_
            refine awp_exit ?_
            show AWp _ _ _ _
            refine awp_seq ?_
            refine awp_region ?_
            refine arun_do rfl rfl rfl (tx_ldLA (vs := (c_api_Dev v12)) Try.underlying29 rfl s_29 (by decide) rfl rfl rfl rfl) ?_
            obtain ⟨x19, hx19, h⟩ := bindS h
            refine arun_do rfl rfl rfl (ex_call0 (vs := [(Value.agg (c_api_Dev v12).toArray)]) (v := (Value.tuple #[(Value.agg (c_api_Dev x19.1).toArray), (Bo x19.2)])) rfl en_22 (cargs (evs rfl evs_nil)) rfl (ok_ref1_Flush v12 x19 hx19) rfl) ?_
            refine arun_do rfl rfl rfl (ex_move (eV (v := (Value.tuple #[(Value.agg (c_api_Dev x19.1).toArray), (Bo x19.2)])) rfl)) ?_
            refine arun_do rfl rfl rfl (ex_extract (vx := (Value.tuple #[(Value.agg (c_api_Dev x19.1).toArray), (Bo x19.2)])) (v := (Value.agg (c_api_Dev x19.1).toArray)) rfl rfl) ?_
            refine arun_do rfl rfl rfl (ex_extract (vx := (Value.tuple #[(Value.agg (c_api_Dev x19.1).toArray), (Bo x19.2)])) (v := (Bo x19.2)) rfl rfl) ?_
            refine arun_do0 rfl rfl (ex_storeL (vy := (Value.agg (c_api_Dev x19.1).toArray)) (cs := (c_api_Dev v12)) (vs := (c_api_Dev x19.1)) (L' := [(c_api_Dev x19.1)]) rfl (eV (v := (Value.agg (c_api_Dev x19.1).toArray)) rfl) rfl s_29 rfl (Nat.le_of_ble_eq_true rfl) (by kernel_rfl)) ?_
            refine arun_keepE [1, 2, 3, 9, 11] 1 0 (st' := ⟨115, 0, [(1, (U8 t1)), (2, (U8 t2)), (3, (U8 t3)), (9, (LP 0 0)), (11, (I (w64 (1 + (x10.toNat : Int)))))], [(c_api_Dev x19.1)], ⟨0, []⟩⟩) (by kernel_rfl) (by kernel_rfl) ?_
            show AWp _ _ _ _
            refine awp_seq ?_
            refine awp_region ?_
            refine arun_do rfl rfl rfl (tx_ldLA (vs := (c_api_Dev x19.1)) Try.underlying29 rfl s_29 (by decide) rfl rfl rfl rfl) ?_
            obtain ⟨x20, hx20, h⟩ := bindS h
            refine arun_do rfl rfl rfl (ex_call0 (vs := [(Value.agg (c_api_Dev x19.1).toArray)]) (v := (SL 9 c_api_Uber x20)) rfl en_27 (cargs (evs rfl evs_nil)) rfl (ok_label_Roots x19.1 x20 hx20) rfl) ?_
            refine arun_do rfl rfl rfl (ex_assign (eV (v := (SL 9 c_api_Uber x20)) rfl)) ?_
            refine arun_keepE [1, 2, 3, 9, 11, 14] 1 0 (st' := ⟨115, 0, [(1, (U8 t1)), (2, (U8 t2)), (3, (U8 t3)), (9, (LP 0 0)), (11, (I (w64 (1 + (x10.toNat : Int))))), (14, (SL 9 c_api_Uber x20))], [(c_api_Dev x19.1)], ⟨0, []⟩⟩) (by kernel_rfl) (by kernel_rfl) ?_
            show AWp _ _ _ _
            refine awp_seq ?_
            refine awp_region ?_
            refine arun_do rfl rfl rfl (tx_ldLA (vs := (c_api_Dev x19.1)) Try.underlying29 rfl s_29 (by decide) rfl rfl rfl rfl) ?_
            refine arun_do rfl rfl rfl (ex_move (eV (v := (U8 t1)) rfl)) ?_
            refine arun_do rfl rfl rfl (tx_8_64 Try.underlying5 Try.underlying3 rfl) ?_
            obtain ⟨x21, hx21, h⟩ := bindS h
            refine arun_do rfl rfl rfl (ex_bin (vx := (I (t1.toNat : Int))) (vy := (I 68)) rfl rfl (remI_ok hx21)) ?_
            refine arun_do rfl rfl rfl (ex_move (eV (v := (U8 t2)) rfl)) ?_
            refine arun_do rfl rfl rfl (tx_8_64 Try.underlying5 Try.underlying3 rfl) ?_
            refine arun_do rfl rfl rfl (ex_move (eV (v := (U8 t3)) rfl)) ?_
            refine arun_do rfl rfl rfl (tx_8_64 Try.underlying5 Try.underlying3 rfl) ?_
            obtain ⟨x22, hx22, h⟩ := bindS h
            refine arun_do rfl rfl rfl (ex_call0 (vs := [(Value.agg (c_api_Dev x19.1).toArray), (I x21), (I (t2.toNat : Int)), (I (t3.toNat : Int))]) (v := (Value.agg (c_api_Dev x22).toArray)) rfl en_23 (cargs (evs rfl (evs rfl (evs rfl (evs rfl evs_nil))))) rfl (ok_ref1_Turn x19.1 x21 (t2.toNat : Int) (t3.toNat : Int) x22 hx22) rfl) ?_
            refine arun_do rfl rfl rfl (ex_allocW (k := 1) (zs := (c_api_Dev (G_api_Dev.mk [] [] 0 0 false))) (L' := [(c_api_Dev x19.1), (c_api_Dev (G_api_Dev.mk [] [] 0 0 false))]) z_29 rfl (by repeat (first | exact trivial | refine ⟨.inl rfl, ?_⟩ | refine ⟨.inr ⟨rfl, _, rfl⟩, ?_⟩)) rfl rfl) ?_
            refine arun_do0 rfl rfl (ex_storeL (vy := (Value.agg (c_api_Dev x22).toArray)) (cs := (c_api_Dev (G_api_Dev.mk [] [] 0 0 false))) (vs := (c_api_Dev x22)) (L' := [(c_api_Dev x19.1), (c_api_Dev x22)]) rfl (eV (v := (Value.agg (c_api_Dev x22).toArray)) rfl) rfl s_29 rfl (Nat.le_of_ble_eq_true rfl) (by kernel_rfl)) ?_
            refine arun_keepE [11, 14, 15] 2 0 (st' := ⟨115, 0, [(11, (I (w64 (1 + (x10.toNat : Int))))), (14, (SL 9 c_api_Uber x20)), (15, (LP 1 0))], [(c_api_Dev x19.1), (c_api_Dev x22)], ⟨0, []⟩⟩) (by kernel_rfl) (by kernel_rfl) ?_
            show AWp _ _ _ _
            refine awp_seq ?_
            refine awp_region ?_
            refine arun_do rfl rfl rfl (tx_ldLA (vs := (c_api_Dev x22)) Try.underlying29 rfl s_29 (by decide) rfl rfl rfl rfl) ?_
            obtain ⟨x23, hx23, h⟩ := bindS h
            refine arun_do rfl rfl rfl (ex_call0 (vs := [(Value.agg (c_api_Dev x22).toArray)]) (v := (Value.tuple #[(I x23.1), (I x23.2.1), (Bo x23.2.2)])) rfl en_24 (cargs (evs rfl evs_nil)) rfl (ok_label_Found x22 x23 hx23) rfl) ?_
            refine arun_do rfl rfl rfl (ex_move (eV (v := (Value.tuple #[(I x23.1), (I x23.2.1), (Bo x23.2.2)])) rfl)) ?_
            refine arun_do rfl rfl rfl (ex_extract (vx := (Value.tuple #[(I x23.1), (I x23.2.1), (Bo x23.2.2)])) (v := (I x23.1)) rfl rfl) ?_
            refine arun_do rfl rfl rfl (ex_extract (vx := (Value.tuple #[(I x23.1), (I x23.2.1), (Bo x23.2.2)])) (v := (I x23.2.1)) rfl rfl) ?_
            refine arun_do rfl rfl rfl (ex_extract (vx := (Value.tuple #[(I x23.1), (I x23.2.1), (Bo x23.2.2)])) (v := (Bo x23.2.2)) rfl rfl) ?_
            refine arun_do rfl rfl rfl (ex_assign (eV (v := (I x23.1)) rfl)) ?_
            refine arun_do rfl rfl rfl (ex_assign (eV (v := (I x23.2.1)) rfl)) ?_
            refine arun_do rfl rfl rfl (ex_assign (eV (v := (Bo x23.2.2)) rfl)) ?_
            refine arun_keepE [11, 14, 15, 16, 17, 18] 2 0 (st' := ⟨115, 0, [(11, (I (w64 (1 + (x10.toNat : Int))))), (14, (SL 9 c_api_Uber x20)), (15, (LP 1 0)), (16, (I x23.1)), (17, (I x23.2.1)), (18, (Bo x23.2.2))], [(c_api_Dev x19.1), (c_api_Dev x22)], ⟨0, []⟩⟩) (by kernel_rfl) (by kernel_rfl) ?_
            show AWp _ _ _ _
            refine awp_seq ?_
            refine awp_region ?_
            refine arun_do rfl rfl rfl (ex_move (eV (v := (SL 9 c_api_Uber x20)) rfl)) ?_
            refine arun_do rfl rfl rfl (tx_lenD (xs := x20) ce_api_Uber Try.underlying54 rfl) ?_
            refine arun_do rfl rfl rfl (ex_move (eV (v := (I (w64 (1 + (x10.toNat : Int))))) rfl)) ?_
            refine arun_do rfl rfl rfl (ex_min (m := (w64 (1 + (x10.toNat : Int)))) (n := 6) rfl rfl) ?_
            refine arun_do rfl rfl rfl (ex_bin (vx := (I (x20.length : Int))) (vy := (I (min (w64 (1 + (x10.toNat : Int))) 6))) rfl rfl eqlI_ok) ?_
            refine arun_do rfl rfl rfl (ex_move (eV (v := (Bo ((x20.length : Int) == (min (w64 (1 + (x10.toNat : Int))) 6)))) rfl)) ?_
            refine arun_guard (v := (SL 9 c_api_Uber x20)) (((x20.length : Int) == (min (w64 (1 + (x10.toNat : Int))) 6)) == true) rfl rfl rfl (fun hc => ex_move (eV (v := (SL 9 c_api_Uber x20)) rfl)) ?_
            obtain ⟨x24, hx24, h⟩ := bindS h
            refine arun_guard (v := (DP (c_api_Uber x24))) (((x20.length : Int) == (min (w64 (1 + (x10.toNat : Int))) 6)) == true) rfl rfl rfl (fun hc => tx_idxD (c := c_api_Uber) (xs := x20) (i := 0) ce_api_Uber Try.underlying54 s_37 (cond_of hc) rfl (gd_of hc hx24)) ?_
            refine arun_guard (v := (DP (List.drop 0 (c_api_Uber x24)))) (((x20.length : Int) == (min (w64 (1 + (x10.toNat : Int))) 6)) == true) rfl rfl rfl (fun hc => ex_fieldAddrD (vs := (List.drop 0 (c_api_Uber x24))) Try.underlying37 rfl s_3 (by decide) (cond_of hc) rfl) ?_
            refine arun_guard (v := (I x24.Txg)) (((x20.length : Int) == (min (w64 (1 + (x10.toNat : Int))) 6)) == true) rfl rfl rfl (fun hc => tx_ldD1 (v := (I x24.Txg)) Try.underlying3 rfl (cond_of hc) rfl) ?_
            refine arun_guard (v := (I (w64 (1 + (x10.toNat : Int))))) (((x20.length : Int) == (min (w64 (1 + (x10.toNat : Int))) 6)) == true) rfl rfl rfl (fun hc => ex_move (eV (v := (I (w64 (1 + (x10.toNat : Int))))) rfl)) ?_
            refine arun_guard (v := (Bo (x24.Txg == (w64 (1 + (x10.toNat : Int)))))) (((x20.length : Int) == (min (w64 (1 + (x10.toNat : Int))) 6)) == true) rfl rfl rfl (fun hc => ex_bin (vx := (I x24.Txg)) (vy := (I (w64 (1 + (x10.toNat : Int))))) (cond_of hc) (cond_of hc) eqlI_ok) ?_
            refine arun_do rfl rfl rfl (ex_pick rfl pkAnd) ?_
            refine arun_do rfl rfl rfl (ex_move (eV (v := (Bo (((x20.length : Int) == (min (w64 (1 + (x10.toNat : Int))) 6)) && (x24.Txg == (w64 (1 + (x10.toNat : Int))))))) rfl)) ?_
            refine arun_guard (v := (Bo x23.2.2)) ((((x20.length : Int) == (min (w64 (1 + (x10.toNat : Int))) 6)) && (x24.Txg == (w64 (1 + (x10.toNat : Int))))) == true) rfl rfl rfl (fun hc => ex_move (eV (v := (Bo x23.2.2)) rfl)) ?_
            refine arun_do rfl rfl rfl (ex_pick rfl pkAnd) ?_
            refine arun_do rfl rfl rfl (ex_move (eV (v := (Bo ((((x20.length : Int) == (min (w64 (1 + (x10.toNat : Int))) 6)) && (x24.Txg == (w64 (1 + (x10.toNat : Int))))) && x23.2.2))) rfl)) ?_
            refine arun_guard (v := (I x23.1)) (((((x20.length : Int) == (min (w64 (1 + (x10.toNat : Int))) 6)) && (x24.Txg == (w64 (1 + (x10.toNat : Int))))) && x23.2.2) == true) rfl rfl rfl (fun hc => ex_move (eV (v := (I x23.1)) rfl)) ?_
            refine arun_guard (v := (Bo (x23.1 == 7))) (((((x20.length : Int) == (min (w64 (1 + (x10.toNat : Int))) 6)) && (x24.Txg == (w64 (1 + (x10.toNat : Int))))) && x23.2.2) == true) rfl rfl rfl (fun hc => ex_bin (vx := (I x23.1)) (vy := (I 7)) (cond_of hc) rfl eqlI_ok) ?_
            refine arun_do rfl rfl rfl (ex_pick rfl pkAnd) ?_
            refine arun_do rfl rfl rfl (ex_move (eV (v := (Bo (((((x20.length : Int) == (min (w64 (1 + (x10.toNat : Int))) 6)) && (x24.Txg == (w64 (1 + (x10.toNat : Int))))) && x23.2.2) && (x23.1 == 7)))) rfl)) ?_
            refine arun_guard (v := (I x23.2.1)) ((((((x20.length : Int) == (min (w64 (1 + (x10.toNat : Int))) 6)) && (x24.Txg == (w64 (1 + (x10.toNat : Int))))) && x23.2.2) && (x23.1 == 7)) == true) rfl rfl rfl (fun hc => ex_move (eV (v := (I x23.2.1)) rfl)) ?_
            refine arun_guard (v := (Bo (x23.2.1 == 40))) ((((((x20.length : Int) == (min (w64 (1 + (x10.toNat : Int))) 6)) && (x24.Txg == (w64 (1 + (x10.toNat : Int))))) && x23.2.2) && (x23.1 == 7)) == true) rfl rfl rfl (fun hc => ex_bin (vx := (I x23.2.1)) (vy := (I 40)) (cond_of hc) rfl eqlI_ok) ?_
            refine arun_do rfl rfl rfl (ex_pick rfl pkAnd) ?_
            refine arun_do rfl rfl rfl (ex_move (eV (v := (Bo ((((((x20.length : Int) == (min (w64 (1 + (x10.toNat : Int))) 6)) && (x24.Txg == (w64 (1 + (x10.toNat : Int))))) && x23.2.2) && (x23.1 == 7)) && (x23.2.1 == 40)))) rfl)) ?_
            refine arun_guard (v := (Value.agg (c_api_Dev x22).toArray)) (((((((x20.length : Int) == (min (w64 (1 + (x10.toNat : Int))) 6)) && (x24.Txg == (w64 (1 + (x10.toNat : Int))))) && x23.2.2) && (x23.1 == 7)) && (x23.2.1 == 40)) == true) rfl rfl rfl (fun hc => tx_ldLA (vs := (c_api_Dev x22)) Try.underlying29 rfl s_29 (by decide) rfl rfl rfl rfl) ?_
            obtain ⟨x25, hx25, h⟩ := bindS h
            refine arun_guard (v := (SL 9 c_api_Uber x25)) (((((((x20.length : Int) == (min (w64 (1 + (x10.toNat : Int))) 6)) && (x24.Txg == (w64 (1 + (x10.toNat : Int))))) && x23.2.2) && (x23.1 == 7)) && (x23.2.1 == 40)) == true) rfl rfl rfl (fun hc => ex_call0 (vs := [(Value.agg (c_api_Dev x22).toArray)]) (v := (SL 9 c_api_Uber x25)) rfl en_27 (cargs (evs (cond_of hc) evs_nil)) rfl (ok_label_Roots x22 x25 (gd_of hc hx25)) rfl) ?_
            refine arun_guard (v := (SL 9 c_api_Uber x20)) (((((((x20.length : Int) == (min (w64 (1 + (x10.toNat : Int))) 6)) && (x24.Txg == (w64 (1 + (x10.toNat : Int))))) && x23.2.2) && (x23.1 == 7)) && (x23.2.1 == 40)) == true) rfl rfl rfl (fun hc => ex_move (eV (v := (SL 9 c_api_Uber x20)) rfl)) ?_
            obtain ⟨x26, hx26, h⟩ := bindS h
            refine arun_guard (v := (Bo x26)) (((((((x20.length : Int) == (min (w64 (1 + (x10.toNat : Int))) 6)) && (x24.Txg == (w64 (1 + (x10.toNat : Int))))) && x23.2.2) && (x23.1 == 7)) && (x23.2.1 == 40)) == true) rfl rfl rfl (fun hc => ex_call0 (vs := [(SL 9 c_api_Uber x25), (SL 9 c_api_Uber x20)]) (v := (Bo x26)) rfl en_26 (cargs (evs (cond_of hc) (evs (cond_of hc) evs_nil))) rfl (ok_ref1_SameUbers x25 x20 x26 (gd_of hc hx26)) rfl) ?_
            refine arun_do rfl rfl rfl (ex_pick rfl pkAnd) ?_
            refine arun_do rfl rfl rfl (ex_assign (eV (v := (Bo (((((((x20.length : Int) == (min (w64 (1 + (x10.toNat : Int))) 6)) && (x24.Txg == (w64 (1 + (x10.toNat : Int))))) && x23.2.2) && (x23.1 == 7)) && (x23.2.1 == 40)) && x26))) rfl)) ?_
            refine arun_keepE [8] 0 0 (st' := ⟨115, 0, [(8, (Bo (((((((x20.length : Int) == (min (w64 (1 + (x10.toNat : Int))) 6)) && (x24.Txg == (w64 (1 + (x10.toNat : Int))))) && x23.2.2) && (x23.1 == 7)) && (x23.2.1 == 40)) && x26)))], [], ⟨0, []⟩⟩) (by kernel_rfl) (by kernel_rfl) ?_
            show AWp _ _ _ _
            refine awp_ret ?_
            cases h
            exact ares1 (rtmp rfl (eV rfl))

end Go.Proofs
