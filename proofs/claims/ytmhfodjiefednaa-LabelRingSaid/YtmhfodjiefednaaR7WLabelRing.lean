/- Pure models of functions of the program, and that its code does what they say: palimplaw7 LabelRing. Written by a program. -/
import Derived.Test.YtmhfodjiefednaaR70
import Derived.Test.YtmhfodjiefednaaR710
import Derived.Test.YtmhfodjiefednaaR711
import Derived.Test.YtmhfodjiefednaaR73
import Derived.Test.YtmhfodjiefednaaR74
import Derived.Test.YtmhfodjiefednaaR77
import Derived.Test.YtmhfodjiefednaaR7B
set_option maxRecDepth 20000
set_option maxHeartbeats 4000000
namespace Go.Proofs
open Go Go.Fhl
set_option linter.unusedVariables false
set_option linter.unusedSimpArgs false
noncomputable def M_law7_LabelRing_k1 (c_1 : (Int → G_api_Dev → Option Bool)) (c_2 : (Int → G_api_Dev → Option Bool)) (c_3 : (Int → G_api_Dev → Option Bool)) (t1 : UInt8) (x3 : UInt8) (v11 : Int) (x14 : Int) (v15 : Int) (y18 : G_api_Dev) : Option Bool :=
  c_3 (w64 (v15 + 1)) y18
noncomputable def M_law7_LabelRing_l3 (c_1 : (Int → G_api_Dev → Option Bool)) (c_2 : (Int → G_api_Dev → Option Bool)) (t1 : UInt8) (x3 : UInt8) (v11 : Int) (x14 : Int) : Nat → Int → G_api_Dev → Option Bool
  | 0, _, _ => none
  | n3 + 1, v15, v16 =>
  cond (decide (v15 < 2)) (Option.bind (gd ((decide (v11 < (x3.toNat : Int))) == false) (rem8 t1 3)) fun (x19 : UInt8) => cond ((decide (v11 < (x3.toNat : Int))) || ((x19.toNat : Int) != (w64 (v15 + 1)))) (Option.bind (M_label_Phase 40 (G_api_Uber.mk v11 7 x14 (G_api_Ptr.mk (w64 (13 + v11)) v11 (A4.mk 0 0 0 0))) v15) fun (x21 : (List G_api_Put)) => Option.bind (M_ref1_Write v16 x21) fun (x22 : (G_api_Dev × Bool)) => M_law7_LabelRing_k1 c_1 c_2 (M_law7_LabelRing_l3 c_1 c_2 t1 x3 v11 x14 n3) t1 x3 v11 x14 v15 x22.1) (M_law7_LabelRing_k1 c_1 c_2 (M_law7_LabelRing_l3 c_1 c_2 t1 x3 v11 x14 n3) t1 x3 v11 x14 v15 v16)) (c_2 (w64 (v11 + 1)) v16)
noncomputable def M_law7_LabelRing_l4 (c_1 : (Int → G_api_Dev → Option Bool)) (c_2 : (Int → G_api_Dev → Option Bool)) (x3 : UInt8) (x23 : (List G_api_Uber)) : Nat → Int → Option Bool
  | 0, _ => none
  | n4 + 1, v28 =>
  cond (decide (v28 < (x23.length : Int))) (Option.bind (getI x23 v28) fun (x30 : G_api_Uber) => Option.bind (gd ((x30.Txg != (w64 ((x3.toNat : Int) - v28))) == false) (getI x23 v28)) fun (x31 : G_api_Uber) => Option.bind (gd ((x30.Txg != (w64 ((x3.toNat : Int) - v28))) == false) (remI (w64 ((x3.toNat : Int) - v28)) 6)) fun (x32 : Int) => Option.bind (gd (((x30.Txg != (w64 ((x3.toNat : Int) - v28))) || (x31.Seat != x32)) == false) (getI x23 v28)) fun (x33 : G_api_Uber) => cond (((x30.Txg != (w64 ((x3.toNat : Int) - v28))) || (x31.Seat != x32)) || (x33.Root.Addr != (w64 ((w64 (13 + (x3.toNat : Int))) - v28)))) (some false) ((M_law7_LabelRing_l4 c_1 c_2 x3 x23 n4) (w64 (v28 + 1)))) (some true)
noncomputable def M_law7_LabelRing_k2 (c_1 : (Int → G_api_Dev → Option Bool)) (c_2 : (Int → G_api_Dev → Option Bool)) (x3 : UInt8) (x23 : (List G_api_Uber)) (y24 : Int) : Option Bool :=
  cond ((x23.length : Int) != y24) (some false) (M_law7_LabelRing_l4 c_1 c_2 x3 x23 fuel 0)
noncomputable def M_law7_LabelRing_l2 (c_1 : (Int → G_api_Dev → Option Bool)) (t1 : UInt8) (x3 : UInt8) : Nat → Int → G_api_Dev → Option Bool
  | 0, _, _ => none
  | n2 + 1, v11, v12 =>
  cond (decide (v11 ≤ (x3.toNat : Int))) (Option.bind (remI v11 6) fun (x14 : Int) => M_law7_LabelRing_l3 c_1 (M_law7_LabelRing_l2 c_1 t1 x3 n2) t1 x3 v11 x14 fuel 0 v12) (Option.bind (M_label_Roots v12) fun (x23 : (List G_api_Uber)) => Option.bind (rem8 t1 3) fun (x25 : UInt8) => cond ((decide (x25 > 0)) && (decide ((x3.toNat : Int) > 6))) (M_law7_LabelRing_k2 c_1 (M_law7_LabelRing_l2 c_1 t1 x3 n2) x3 x23 (w64 ((min (x3.toNat : Int) 6) + 1))) (M_law7_LabelRing_k2 c_1 (M_law7_LabelRing_l2 c_1 t1 x3 n2) x3 x23 (min (x3.toNat : Int) 6)))
noncomputable def M_law7_LabelRing_l1 (t1 : UInt8) (x3 : UInt8) : Nat → Int → G_api_Dev → Option Bool
  | 0, _, _ => none
  | n1 + 1, v5, v6 =>
  cond (decide (v5 < 4)) (Option.bind (M_label_At 40 v5) fun (x8 : Int) => Option.bind (M_ref1_Config 7 40) fun (x9 : Str) => Option.bind (M_ref1_Write v6 ([(G_api_Put.mk x8 x9)] : List G_api_Put)) fun (x10 : (G_api_Dev × Bool)) => (M_law7_LabelRing_l1 t1 x3 n1) (w64 (v5 + 1)) x10.1) (M_law7_LabelRing_l2 (M_law7_LabelRing_l1 t1 x3 n1) t1 x3 fuel 1 v6)
noncomputable def M_law7_LabelRing (t0 : UInt8) (t1 : UInt8) : Option Bool :=
  Option.bind (M_law7_begun) fun (x1 : Bool) => cond (!x1) (some false) (Option.bind (rem8 t0 15) fun (x3 : UInt8) => Option.bind (M_ref1_New 68) fun (x4 : G_api_Dev) => M_law7_LabelRing_l1 t1 x3 fuel 0 x4)
theorem ok_law7_LabelRing (t0 : UInt8) (t1 : UInt8) (r : Bool) (h : M_law7_LabelRing t0 t1 = some r) : FFn Try.prog 6 [(U8 t0), (U8 t1)] (Bo r) := by
  refine FFn.of_body (n := 127) Try.func6 rfl Try.ntmps6 rfl rfl rfl rfl ?_
  show AWp _ _ _ ⟨127, 0, [(0, (U8 t0)), (1, (U8 t1))], [], ⟨0, []⟩⟩
  unfold M_law7_LabelRing at h
  refine awp_seq ?_
  refine awr ?_
  refine ado rfl rfl rfl (eas (eV (v := (Bo false)) rfl)) ?_
  refine ake [0, 1] 0 0 (st' := ⟨127, 0, [(0, (U8 t0)), (1, (U8 t1))], [], ⟨0, []⟩⟩) (by kernel_rfl) (by kernel_rfl) ?_
  show AWp _ _ _ _
  refine awp_seq ?_
  refine awp_seq ?_
  refine awr ?_
  obtain ⟨x1, hx1, h⟩ := bindS h
  refine ado rfl rfl rfl (ex_call0 (vs := []) (v := (Bo x1)) rfl en_9 (cargs evs_nil) rfl (ok_law7_begun  x1 hx1) rfl) ?_
  refine ado rfl rfl rfl (ex_un (vx := (Bo x1)) rfl notB_ok) ?_
  refine ake [0, 1, 15] 0 0 (st' := ⟨127, 0, [(0, (U8 t0)), (1, (U8 t1)), (15, (Bo (!x1)))], [], ⟨0, []⟩⟩) (by kernel_rfl) (by kernel_rfl) ?_
  show AWp _ _ _ _
  rcases Bool.eq_false_or_eq_true (!x1) with hb2 | hb2
  · rw [condT hb2] at h
    refine awp_condT (boT hb2) ?_
    refine awp_seq ?_
    refine awr ?_
    refine ado rfl rfl rfl (eas (eV (v := (Bo false)) rfl)) ?_
    refine ake [4] 0 0 (st' := ⟨127, 0, [(4, (Bo false))], [], ⟨0, []⟩⟩) (by kernel_rfl) (by kernel_rfl) ?_
    show AWp _ _ _ _
    refine awp_ret ?_
    cases h
    exact ares1 (rtmp rfl (eV rfl))
  · rw [condF hb2] at h
    refine awp_condF (boF hb2) ?_
    refine awp_skip ?_
    show AWp _ _ _ _
    refine awp_seq ?_
    refine awr ?_
    refine ado rfl rfl rfl (emv (eV (v := (U8 t0)) rfl)) ?_
    obtain ⟨x3, hx3, h⟩ := bindS h
    refine ado rfl rfl rfl (ex_bin (vx := (U8 t0)) (vy := (U8 15)) rfl rfl (rem8_ok hx3)) ?_
    refine ado rfl rfl rfl (tx_8_64 Try.underlying5 Try.underlying3 rfl) ?_
    refine ado rfl rfl rfl (eas (eV (v := (I (x3.toNat : Int))) rfl)) ?_
    refine ake [1, 5] 0 0 (st' := ⟨127, 0, [(1, (U8 t1)), (5, (I (x3.toNat : Int)))], [], ⟨0, []⟩⟩) (by kernel_rfl) (by kernel_rfl) ?_
    show AWp _ _ _ _
    refine awp_seq ?_
    refine awr ?_
    obtain ⟨x4, hx4, h⟩ := bindS h
    refine ado rfl rfl rfl (ex_call0 (vs := [(I 68)]) (v := (Value.agg (c_api_Dev x4).toArray)) rfl en_14 (cargs (evs rfl evs_nil)) rfl (ok_ref1_New 68 x4 hx4) rfl) ?_
    refine ado rfl rfl rfl (ex_allocW (k := 0) (zs := (c_api_Dev (G_api_Dev.mk [] [] 0 0 false))) (L' := [(c_api_Dev (G_api_Dev.mk [] [] 0 0 false))]) z_29 rfl (by repeat (first | exact trivial | refine ⟨.inl rfl, ?_⟩ | refine ⟨.inr ⟨rfl, _, rfl⟩, ?_⟩)) rfl rfl) ?_
    refine arun_do0 rfl rfl (ex_storeL (vy := (Value.agg (c_api_Dev x4).toArray)) (cs := (c_api_Dev (G_api_Dev.mk [] [] 0 0 false))) (vs := (c_api_Dev x4)) (L' := [(c_api_Dev x4)]) rfl (eV (v := (Value.agg (c_api_Dev x4).toArray)) rfl) rfl s_29 rfl (Nat.le_of_ble_eq_true rfl) (by kernel_rfl)) ?_
    refine ake [1, 5, 6] 1 0 (st' := ⟨127, 0, [(1, (U8 t1)), (5, (I (x3.toNat : Int))), (6, (LP 0 0))], [(c_api_Dev x4)], ⟨0, []⟩⟩) (by kernel_rfl) (by kernel_rfl) ?_
    show AWp _ _ _ _
    refine awp_seq ?_
    refine awp_seq ?_
    refine awr ?_
    refine ado rfl rfl rfl (eas (eV (v := (I 0)) rfl)) ?_
    refine ake [1, 5, 6, 7] 1 0 (st' := ⟨127, 0, [(1, (U8 t1)), (5, (I (x3.toNat : Int))), (6, (LP 0 0)), (7, (I 0))], [(c_api_Dev x4)], ⟨0, []⟩⟩) (by kernel_rfl) (by kernel_rfl) ?_
    show AWp _ _ _ _
    refine awp_block ?_
    refine awp_loop (fun n s => ∃ (v5 : Int) (v6 : G_api_Dev), s = ⟨127, 0, [(1, (U8 t1)), (5, (I (x3.toNat : Int))), (6, (LP 0 0)), (7, (I v5))], [(c_api_Dev v6)], ⟨0, []⟩⟩ ∧ M_law7_LabelRing_l1 t1 x3 n v5 v6 = some r) fuel (Exists.intro 0 (Exists.intro x4 (And.intro rfl h))) ?_
    rintro n s ⟨v5, v6, rfl, h⟩ -
    cases n with
    | zero => cases h
    | succ n1 =>
      unfold M_law7_LabelRing_l1 at h
      refine awp_seq ?_
      refine awp_seq ?_
      refine awr ?_
      refine ado rfl rfl rfl (emv (eV (v := (I v5)) rfl)) ?_
      refine ado rfl rfl rfl (ex_bin (vx := (I v5)) (vy := (I 4)) rfl rfl lssI_ok) ?_
      refine ake [1, 5, 6, 7, 21] 1 0 (st' := ⟨127, 0, [(1, (U8 t1)), (5, (I (x3.toNat : Int))), (6, (LP 0 0)), (7, (I v5)), (21, (Bo (decide (v5 < 4))))], [(c_api_Dev v6)], ⟨0, []⟩⟩) (by kernel_rfl) (by kernel_rfl) ?_
      show AWp _ _ _ _
      rcases Bool.eq_false_or_eq_true (decide (v5 < 4)) with hb7 | hb7
      · rw [condT hb7] at h
        refine awp_condT (boT hb7) ?_
        refine awp_skip ?_
        show AWp _ _ _ _
        refine awp_seq ?_
        refine awp_block ?_
        obtain ⟨x8, hx8, h⟩ := bindS h
        obtain ⟨x9, hx9, h⟩ := bindS h
        obtain ⟨x10, hx10, h⟩ := bindS h
        refine awp_kn [1, 5, 6, 7] 1 0 (st' := ⟨127, 0, [(1, (U8 t1)), (5, (I (x3.toNat : Int))), (6, (LP 0 0)), (7, (I v5))], [(c_api_Dev x10.1)], ⟨0, []⟩⟩) (awp_draw (T := [(Value.agg (c_api_Dev v6).toArray), (I v5), (I x8), (S x9), (Value.agg (c_api_Put (G_api_Put.mk x8 x9)).toArray), (SL 2 c_api_Put ([(G_api_Put.mk x8 x9)] : List G_api_Put)), (Value.tuple #[(Value.agg (c_api_Dev x10.1).toArray), (Bo x10.2)]), (Value.tuple #[(Value.agg (c_api_Dev x10.1).toArray), (Bo x10.2)]), (Value.agg (c_api_Dev x10.1).toArray), (Bo x10.2), undef]) (LH := [([(c_api_Dev v6)], ⟨0, []⟩), ([(c_api_Dev x10.1)], ⟨0, []⟩)]) (D := [⟨[(6, none)], [], [0], false⟩, ⟨[(7, none)], [], [0], false⟩, ⟨[(26, some 1)], [1], [0], false⟩, ⟨[], [1, 2], [0], false⟩, ⟨[(27, some 2), (28, some 3)], [1, 2, 3], [0], false⟩, ⟨[(29, some 4)], [1, 2, 3, 4], [0], false⟩, ⟨[(25, some 0), (30, some 5)], [0, 1, 2, 3, 4, 5], [0], false⟩, ⟨[(31, some 6)], [0, 1, 2, 3, 4, 5, 6], [0], false⟩, ⟨[(24, some 7)], [0, 1, 2, 3, 4, 5, 6, 7], [0], false⟩, ⟨[(24, some 7)], [0, 1, 2, 3, 4, 5, 6, 7], [0, 1], false⟩, ⟨[(6, none), (32, some 8)], [0, 1, 2, 3, 4, 5, 6, 7, 8], [0], true⟩]) (S := [10]) (plan := [0, 1, 2, 3, 4, 5, 6, 7, 8, 9, 10]) mo (by kernel_rfl) rfl rfl rfl (dcons (dstep1 (Tm := [(6, (LP 0 0))]) (L := [(c_api_Dev v6)]) (H := ⟨0, []⟩) rfl rfl rfl rfl rfl (astep_do rfl (tx_ldLA (vs := (c_api_Dev v6)) Try.underlying29 rfl s_29 (by decide) rfl rfl rfl rfl))) (dcons (dstep1 (Tm := [(7, (I v5))]) (L := [(c_api_Dev v6)]) (H := ⟨0, []⟩) rfl rfl rfl rfl rfl (astep_do rfl (emv (eV (v := (I v5)) rfl)))) (dcons (dstep1 (Tm := [(26, (I v5))]) (L := [(c_api_Dev v6)]) (H := ⟨0, []⟩) rfl rfl rfl rfl rfl (astep_do rfl (ex_call0 (vs := [(I 40), (I v5)]) (v := (I x8)) rfl en_10 (cargs (evs rfl (evs rfl evs_nil))) rfl (ok_label_At 40 v5 x8 hx8) rfl))) (dcons (dstep1 (Tm := []) (L := [(c_api_Dev v6)]) (H := ⟨0, []⟩) rfl rfl rfl rfl rfl (astep_do rfl (ex_call0 (vs := [(I 7), (I 40)]) (v := (S x9)) rfl en_19 (cargs (evs rfl (evs rfl evs_nil))) rfl (ok_ref1_Config 7 40 x9 hx9) rfl))) (dcons (dstep1 (Tm := [(27, (I x8)), (28, (S x9))]) (L := [(c_api_Dev v6)]) (H := ⟨0, []⟩) rfl rfl rfl rfl rfl (astep_do rfl (ex_build (qs := [(0, (I x8)), (1, (S x9))]) (v := (Value.agg (c_api_Put (G_api_Put.mk x8 x9)).toArray)) (evp rfl (evp rfl evp_nil)) (by kernel_rfl)))) (dcons (dstep1 (Tm := [(29, (Value.agg (c_api_Put (G_api_Put.mk x8 x9)).toArray))]) (L := [(c_api_Dev v6)]) (H := ⟨0, []⟩) rfl rfl rfl rfl rfl (astep_do rfl (ex_buildSliceD (qs := [(0, (Value.agg (c_api_Put (G_api_Put.mk x8 x9)).toArray))]) (cells := (([(G_api_Put.mk x8 x9)] : List G_api_Put).flatMap c_api_Put)) Try.underlying27 s_44 (by decide) (evp rfl evp_nil) rfl (by kernel_rfl) (by kernel_rfl) (by kernel_rfl)))) (dcons (dstep1 (Tm := [(25, (Value.agg (c_api_Dev v6).toArray)), (30, (SL 2 c_api_Put ([(G_api_Put.mk x8 x9)] : List G_api_Put)))]) (L := [(c_api_Dev v6)]) (H := ⟨0, []⟩) rfl rfl rfl rfl rfl (astep_do rfl (ex_call0 (vs := [(Value.agg (c_api_Dev v6).toArray), (SL 2 c_api_Put ([(G_api_Put.mk x8 x9)] : List G_api_Put))]) (v := (Value.tuple #[(Value.agg (c_api_Dev x10.1).toArray), (Bo x10.2)])) rfl en_21 (cargs (evs rfl (evs rfl evs_nil))) rfl (ok_ref1_Write v6 ([(G_api_Put.mk x8 x9)] : List G_api_Put) x10 hx10) rfl))) (dcons (dstep1 (Tm := [(31, (Value.tuple #[(Value.agg (c_api_Dev x10.1).toArray), (Bo x10.2)]))]) (L := [(c_api_Dev v6)]) (H := ⟨0, []⟩) rfl rfl rfl rfl rfl (astep_do rfl (emv (eV (v := (Value.tuple #[(Value.agg (c_api_Dev x10.1).toArray), (Bo x10.2)])) rfl)))) (dcons (dstep1 (Tm := [(24, (Value.tuple #[(Value.agg (c_api_Dev x10.1).toArray), (Bo x10.2)]))]) (L := [(c_api_Dev v6)]) (H := ⟨0, []⟩) rfl rfl rfl rfl rfl (astep_do rfl (ex_extract (vx := (Value.tuple #[(Value.agg (c_api_Dev x10.1).toArray), (Bo x10.2)])) (v := (Value.agg (c_api_Dev x10.1).toArray)) rfl rfl))) (dcons (dstepN (by intro k hk; simp only [List.mem_cons, List.not_mem_nil, or_false] at hk; rcases hk with rfl | rfl <;> exact ⟨[(24, (Value.tuple #[(Value.agg (c_api_Dev x10.1).toArray), (Bo x10.2)]))], _, _, _, _, _, rfl, rfl, rfl, rfl, astep_do rfl (ex_extract (vx := (Value.tuple #[(Value.agg (c_api_Dev x10.1).toArray), (Bo x10.2)])) (v := (Bo x10.2)) rfl rfl)⟩)) (dcons (dstep1 (Tm := [(6, (LP 0 0)), (32, (Value.agg (c_api_Dev x10.1).toArray))]) (L := [(c_api_Dev v6)]) (H := ⟨0, []⟩) rfl rfl rfl rfl rfl (astep_do rfl (ex_storeL (vy := (Value.agg (c_api_Dev x10.1).toArray)) (cs := (c_api_Dev v6)) (vs := (c_api_Dev x10.1)) (L' := [(c_api_Dev x10.1)]) rfl (eV (v := (Value.agg (c_api_Dev x10.1).toArray)) rfl) rfl s_29 rfl (Nat.le_of_ble_eq_true rfl) (by kernel_rfl)))) dnil))))))))))) ⟨rfl, rfl⟩) (by kernel_rfl) (by kernel_rfl) ?_
        show AWp _ _ _ _
        refine awr ?_
        refine ado rfl rfl rfl (emv (eV (v := (I v5)) rfl)) ?_
        refine ado rfl rfl rfl (ex_bin (vx := (I v5)) (vy := (I 1)) rfl rfl addI_ok) ?_
        refine ado rfl rfl rfl (eas (eV (v := (I (w64 (v5 + 1)))) rfl)) ?_
        refine ake [1, 5, 6, 7] 1 0 (st' := ⟨127, 0, [(1, (U8 t1)), (5, (I (x3.toNat : Int))), (6, (LP 0 0)), (7, (I (w64 (v5 + 1))))], [(c_api_Dev x10.1)], ⟨0, []⟩⟩) (by kernel_rfl) (by kernel_rfl) ?_
        exact Exists.intro n1 (And.intro (Nat.lt_succ_self _) (Exists.intro (w64 (v5 + 1)) (Exists.intro x10.1 (And.intro rfl h))))
      · rw [condF hb7] at h
        refine awp_condF (boF hb7) ?_
        refine awp_exit ?_
        show AWp _ _ _ _
        refine awp_seq ?_
        refine awp_seq ?_
        refine awr ?_
        refine ado rfl rfl rfl (eas (eV (v := (I 1)) rfl)) ?_
        refine ake [1, 5, 6, 8] 1 0 (st' := ⟨127, 0, [(1, (U8 t1)), (5, (I (x3.toNat : Int))), (6, (LP 0 0)), (8, (I 1))], [(c_api_Dev v6)], ⟨0, []⟩⟩) (by kernel_rfl) (by kernel_rfl) ?_
        show AWp _ _ _ _
        refine awp_block ?_
        refine awp_loop (fun n s => ∃ (v11 : Int) (v12 : G_api_Dev), s = ⟨127, 0, [(1, (U8 t1)), (5, (I (x3.toNat : Int))), (6, (LP 0 0)), (8, (I v11))], [(c_api_Dev v12)], ⟨0, []⟩⟩ ∧ M_law7_LabelRing_l2 (M_law7_LabelRing_l1 t1 x3 n1) t1 x3 n v11 v12 = some r) fuel (Exists.intro 1 (Exists.intro v6 (And.intro rfl h))) ?_
        rintro n s ⟨v11, v12, rfl, h⟩ -
        cases n with
        | zero => cases h
        | succ n2 =>
          unfold M_law7_LabelRing_l2 at h
          refine awp_seq ?_
          refine awp_seq ?_
          refine awr ?_
          refine ado rfl rfl rfl (emv (eV (v := (I v11)) rfl)) ?_
          refine ado rfl rfl rfl (emv (eV (v := (I (x3.toNat : Int))) rfl)) ?_
          refine ado rfl rfl rfl (ex_bin (vx := (I v11)) (vy := (I (x3.toNat : Int))) rfl rfl leqI_ok) ?_
          refine ake [1, 5, 6, 8, 36] 1 0 (st' := ⟨127, 0, [(1, (U8 t1)), (5, (I (x3.toNat : Int))), (6, (LP 0 0)), (8, (I v11)), (36, (Bo (decide (v11 ≤ (x3.toNat : Int)))))], [(c_api_Dev v12)], ⟨0, []⟩⟩) (by kernel_rfl) (by kernel_rfl) ?_
          show AWp _ _ _ _
          rcases Bool.eq_false_or_eq_true (decide (v11 ≤ (x3.toNat : Int))) with hb13 | hb13
          · rw [condT hb13] at h
            refine awp_condT (boT hb13) ?_
            refine awp_skip ?_
            show AWp _ _ _ _
            refine awp_seq ?_
            refine awp_block ?_
            refine awp_seq ?_
            refine awr ?_
            refine ado rfl rfl rfl (emv (eV (v := (I v11)) rfl)) ?_
            refine ado rfl rfl rfl (emv (eV (v := (I v11)) rfl)) ?_
            obtain ⟨x14, hx14, h⟩ := bindS h
            refine ado rfl rfl rfl (ex_bin (vx := (I v11)) (vy := (I 6)) rfl rfl (remI_ok hx14)) ?_
            refine ado rfl rfl rfl (emv (eV (v := (I v11)) rfl)) ?_
            refine ado rfl rfl rfl (ex_bin (vx := (I 13)) (vy := (I v11)) rfl rfl addI_ok) ?_
            refine ado rfl rfl rfl (emv (eV (v := (I v11)) rfl)) ?_
            refine ado rfl rfl rfl (ex_build (qs := [(0, (I (w64 (13 + v11)))), (1, (I v11))]) (v := (Value.agg (c_api_Ptr (G_api_Ptr.mk (w64 (13 + v11)) v11 (A4.mk 0 0 0 0))).toArray)) (evp rfl (evp rfl evp_nil)) (by kernel_rfl)) ?_
            refine ado rfl rfl rfl (ex_build (qs := [(0, (I v11)), (1, (I 7)), (2, (I x14)), (3, (Value.agg (c_api_Ptr (G_api_Ptr.mk (w64 (13 + v11)) v11 (A4.mk 0 0 0 0))).toArray))]) (v := (Value.agg (c_api_Uber (G_api_Uber.mk v11 7 x14 (G_api_Ptr.mk (w64 (13 + v11)) v11 (A4.mk 0 0 0 0)))).toArray)) (evp rfl (evp rfl (evp rfl (evp rfl evp_nil)))) (by kernel_rfl)) ?_
            refine ado rfl rfl rfl (ex_alloc (k := 1) (zs := (c_api_Uber (G_api_Uber.mk 0 0 0 (G_api_Ptr.mk 0 0 (A4.mk 0 0 0 0))))) (L' := [(c_api_Dev v12), (c_api_Uber (G_api_Uber.mk 0 0 0 (G_api_Ptr.mk 0 0 (A4.mk 0 0 0 0))))]) z_37 rfl rfl rfl rfl) ?_
            refine arun_do0 rfl rfl (ex_storeL (vy := (Value.agg (c_api_Uber (G_api_Uber.mk v11 7 x14 (G_api_Ptr.mk (w64 (13 + v11)) v11 (A4.mk 0 0 0 0)))).toArray)) (cs := (c_api_Uber (G_api_Uber.mk 0 0 0 (G_api_Ptr.mk 0 0 (A4.mk 0 0 0 0))))) (vs := (c_api_Uber (G_api_Uber.mk v11 7 x14 (G_api_Ptr.mk (w64 (13 + v11)) v11 (A4.mk 0 0 0 0))))) (L' := [(c_api_Dev v12), (c_api_Uber (G_api_Uber.mk v11 7 x14 (G_api_Ptr.mk (w64 (13 + v11)) v11 (A4.mk 0 0 0 0))))]) rfl (eV (v := (Value.agg (c_api_Uber (G_api_Uber.mk v11 7 x14 (G_api_Ptr.mk (w64 (13 + v11)) v11 (A4.mk 0 0 0 0)))).toArray)) rfl) rfl s_37 rfl (Nat.le_of_ble_eq_true rfl) (by kernel_rfl)) ?_
            refine ake [1, 5, 6, 8, 9] 2 0 (st' := ⟨127, 0, [(1, (U8 t1)), (5, (I (x3.toNat : Int))), (6, (LP 0 0)), (8, (I v11)), (9, (LP 1 0))], [(c_api_Dev v12), (c_api_Uber (G_api_Uber.mk v11 7 x14 (G_api_Ptr.mk (w64 (13 + v11)) v11 (A4.mk 0 0 0 0))))], ⟨0, []⟩⟩) (by kernel_rfl) (by kernel_rfl) ?_
            show AWp _ _ _ _
            refine awp_seq ?_
            refine awr ?_
            refine ado rfl rfl rfl (eas (eV (v := (I 0)) rfl)) ?_
            refine ake [1, 5, 6, 8, 9, 10] 2 0 (st' := ⟨127, 0, [(1, (U8 t1)), (5, (I (x3.toNat : Int))), (6, (LP 0 0)), (8, (I v11)), (9, (LP 1 0)), (10, (I 0))], [(c_api_Dev v12), (c_api_Uber (G_api_Uber.mk v11 7 x14 (G_api_Ptr.mk (w64 (13 + v11)) v11 (A4.mk 0 0 0 0))))], ⟨0, []⟩⟩) (by kernel_rfl) (by kernel_rfl) ?_
            show AWp _ _ _ _
            refine awp_block ?_
            refine awp_loop (fun n s => ∃ (v15 : Int) (v16 : G_api_Dev), s = ⟨127, 0, [(1, (U8 t1)), (5, (I (x3.toNat : Int))), (6, (LP 0 0)), (8, (I v11)), (9, (LP 1 0)), (10, (I v15))], [(c_api_Dev v16), (c_api_Uber (G_api_Uber.mk v11 7 x14 (G_api_Ptr.mk (w64 (13 + v11)) v11 (A4.mk 0 0 0 0))))], ⟨0, []⟩⟩ ∧ M_law7_LabelRing_l3 (M_law7_LabelRing_l1 t1 x3 n1) (M_law7_LabelRing_l2 (M_law7_LabelRing_l1 t1 x3 n1) t1 x3 n2) t1 x3 v11 x14 n v15 v16 = some r) fuel (Exists.intro 0 (Exists.intro v12 (And.intro rfl h))) ?_
            rintro n s ⟨v15, v16, rfl, h⟩ -
            cases n with
            | zero => cases h
            | succ n3 =>
              unfold M_law7_LabelRing_l3 at h
              refine awp_seq ?_
              refine awp_seq ?_
              refine awr ?_
              refine ado rfl rfl rfl (emv (eV (v := (I v15)) rfl)) ?_
              refine ado rfl rfl rfl (ex_bin (vx := (I v15)) (vy := (I 2)) rfl rfl lssI_ok) ?_
              refine ake [1, 5, 6, 8, 9, 10, 48] 2 0 (st' := ⟨127, 0, [(1, (U8 t1)), (5, (I (x3.toNat : Int))), (6, (LP 0 0)), (8, (I v11)), (9, (LP 1 0)), (10, (I v15)), (48, (Bo (decide (v15 < 2))))], [(c_api_Dev v16), (c_api_Uber (G_api_Uber.mk v11 7 x14 (G_api_Ptr.mk (w64 (13 + v11)) v11 (A4.mk 0 0 0 0))))], ⟨0, []⟩⟩) (by kernel_rfl) (by kernel_rfl) ?_
              show AWp _ _ _ _
              rcases Bool.eq_false_or_eq_true (decide (v15 < 2)) with hb17 | hb17
              · rw [condT hb17] at h
                refine awp_condT (boT hb17) ?_
                refine awp_skip ?_
                show AWp _ _ _ _
                refine awp_seqJ (fun s => ∃ (y18 : G_api_Dev), s = ⟨127, 0, [(1, (U8 t1)), (5, (I (x3.toNat : Int))), (6, (LP 0 0)), (8, (I v11)), (9, (LP 1 0)), (10, (I v15))], [(c_api_Dev y18), (c_api_Uber (G_api_Uber.mk v11 7 x14 (G_api_Ptr.mk (w64 (13 + v11)) v11 (A4.mk 0 0 0 0))))], ⟨0, []⟩⟩ ∧ M_law7_LabelRing_k1 (M_law7_LabelRing_l1 t1 x3 n1) (M_law7_LabelRing_l2 (M_law7_LabelRing_l1 t1 x3 n1) t1 x3 n2) (M_law7_LabelRing_l3 (M_law7_LabelRing_l1 t1 x3 n1) (M_law7_LabelRing_l2 (M_law7_LabelRing_l1 t1 x3 n1) t1 x3 n2) t1 x3 v11 x14 n3) t1 x3 v11 x14 v15 y18 = some r) ?_ ?_
                · refine awp_block ?_
                  refine awp_seq ?_
                  refine awr ?_
                  refine ado rfl rfl rfl (emv (eV (v := (I v11)) rfl)) ?_
                  refine ado rfl rfl rfl (emv (eV (v := (I (x3.toNat : Int))) rfl)) ?_
                  refine ado rfl rfl rfl (ex_bin (vx := (I v11)) (vy := (I (x3.toNat : Int))) rfl rfl lssI_ok) ?_
                  refine ado rfl rfl rfl (emv (eV (v := (Bo (decide (v11 < (x3.toNat : Int))))) rfl)) ?_
                  refine arun_guard (v := (U8 t1)) ((decide (v11 < (x3.toNat : Int))) == false) rfl rfl rfl (fun hc => emv (eV (v := (U8 t1)) rfl)) ?_
                  obtain ⟨x19, hx19, h⟩ := bindS h
                  refine arun_guard (v := (U8 x19)) ((decide (v11 < (x3.toNat : Int))) == false) rfl rfl rfl (fun hc => ex_bin (vx := (U8 t1)) (vy := (U8 3)) (cond_of hc) rfl (rem8_ok (gd_of hc hx19))) ?_
                  refine arun_guard (v := (I (x19.toNat : Int))) ((decide (v11 < (x3.toNat : Int))) == false) rfl rfl rfl (fun hc => tx_8_64 Try.underlying5 Try.underlying3 (cond_of hc)) ?_
                  refine arun_guard (v := (I v15)) ((decide (v11 < (x3.toNat : Int))) == false) rfl rfl rfl (fun hc => emv (eV (v := (I v15)) rfl)) ?_
                  refine arun_guard (v := (I (w64 (v15 + 1)))) ((decide (v11 < (x3.toNat : Int))) == false) rfl rfl rfl (fun hc => ex_bin (vx := (I v15)) (vy := (I 1)) (cond_of hc) rfl addI_ok) ?_
                  refine arun_guard (v := (Bo ((x19.toNat : Int) != (w64 (v15 + 1))))) ((decide (v11 < (x3.toNat : Int))) == false) rfl rfl rfl (fun hc => ex_bin (vx := (I (x19.toNat : Int))) (vy := (I (w64 (v15 + 1)))) (cond_of hc) (cond_of hc) neqI_ok) ?_
                  refine ado rfl rfl rfl (ex_pick rfl pkOr) ?_
                  refine ake [1, 5, 6, 8, 9, 10, 61] 2 0 (st' := ⟨127, 0, [(1, (U8 t1)), (5, (I (x3.toNat : Int))), (6, (LP 0 0)), (8, (I v11)), (9, (LP 1 0)), (10, (I v15)), (61, (Bo ((decide (v11 < (x3.toNat : Int))) || ((x19.toNat : Int) != (w64 (v15 + 1))))))], [(c_api_Dev v16), (c_api_Uber (G_api_Uber.mk v11 7 x14 (G_api_Ptr.mk (w64 (13 + v11)) v11 (A4.mk 0 0 0 0))))], ⟨0, []⟩⟩) (by kernel_rfl) (by kernel_rfl) ?_
                  show AWp _ _ _ _
                  rcases Bool.eq_false_or_eq_true ((decide (v11 < (x3.toNat : Int))) || ((x19.toNat : Int) != (w64 (v15 + 1)))) with hb20 | hb20
                  · rw [condT hb20] at h
                    refine awp_condT (boT hb20) ?_
                    obtain ⟨x21, hx21, h⟩ := bindS h
                    obtain ⟨x22, hx22, h⟩ := bindS h
                    refine awp_kn [1, 5, 6, 8, 9, 10] 2 0 (st' := ⟨127, 0, [(1, (U8 t1)), (5, (I (x3.toNat : Int))), (6, (LP 0 0)), (8, (I v11)), (9, (LP 1 0)), (10, (I v15))], [(c_api_Dev x22.1), (c_api_Uber (G_api_Uber.mk v11 7 x14 (G_api_Ptr.mk (w64 (13 + v11)) v11 (A4.mk 0 0 0 0))))], ⟨0, []⟩⟩) (awp_draw (T := [(Value.agg (c_api_Dev v16).toArray), (Value.agg (c_api_Uber (G_api_Uber.mk v11 7 x14 (G_api_Ptr.mk (w64 (13 + v11)) v11 (A4.mk 0 0 0 0)))).toArray), (I v15), (SL 2 c_api_Put x21), (Value.tuple #[(Value.agg (c_api_Dev x22.1).toArray), (Bo x22.2)]), (Value.tuple #[(Value.agg (c_api_Dev x22.1).toArray), (Bo x22.2)]), (Value.agg (c_api_Dev x22.1).toArray), (Bo x22.2), undef]) (LH := [([(c_api_Dev v16), (c_api_Uber (G_api_Uber.mk v11 7 x14 (G_api_Ptr.mk (w64 (13 + v11)) v11 (A4.mk 0 0 0 0))))], ⟨0, []⟩), ([(c_api_Dev x22.1), (c_api_Uber (G_api_Uber.mk v11 7 x14 (G_api_Ptr.mk (w64 (13 + v11)) v11 (A4.mk 0 0 0 0))))], ⟨0, []⟩)]) (D := [⟨[(6, none)], [], [0], false⟩, ⟨[(9, none)], [], [0], false⟩, ⟨[(10, none)], [], [0], false⟩, ⟨[(64, some 1), (65, some 2)], [1, 2], [0], false⟩, ⟨[(63, some 0), (66, some 3)], [0, 1, 2, 3], [0], false⟩, ⟨[(67, some 4)], [0, 1, 2, 3, 4], [0], false⟩, ⟨[(62, some 5)], [0, 1, 2, 3, 4, 5], [0], false⟩, ⟨[(62, some 5)], [0, 1, 2, 3, 4, 5], [0, 1], false⟩, ⟨[(6, none), (68, some 6)], [0, 1, 2, 3, 4, 5, 6], [0], true⟩]) (S := [8]) (plan := [0, 1, 2, 3, 4, 5, 6, 7, 8]) mo (by kernel_rfl) rfl rfl rfl (dcons (dstep1 (Tm := [(6, (LP 0 0))]) (L := [(c_api_Dev v16), (c_api_Uber (G_api_Uber.mk v11 7 x14 (G_api_Ptr.mk (w64 (13 + v11)) v11 (A4.mk 0 0 0 0))))]) (H := ⟨0, []⟩) rfl rfl rfl rfl rfl (astep_do rfl (tx_ldLA (vs := (c_api_Dev v16)) Try.underlying29 rfl s_29 (by decide) rfl rfl rfl rfl))) (dcons (dstep1 (Tm := [(9, (LP 1 0))]) (L := [(c_api_Dev v16), (c_api_Uber (G_api_Uber.mk v11 7 x14 (G_api_Ptr.mk (w64 (13 + v11)) v11 (A4.mk 0 0 0 0))))]) (H := ⟨0, []⟩) rfl rfl rfl rfl rfl (astep_do rfl (tx_ldLA (vs := (c_api_Uber (G_api_Uber.mk v11 7 x14 (G_api_Ptr.mk (w64 (13 + v11)) v11 (A4.mk 0 0 0 0))))) Try.underlying37 rfl s_37 (by decide) rfl rfl rfl rfl))) (dcons (dstep1 (Tm := [(10, (I v15))]) (L := [(c_api_Dev v16), (c_api_Uber (G_api_Uber.mk v11 7 x14 (G_api_Ptr.mk (w64 (13 + v11)) v11 (A4.mk 0 0 0 0))))]) (H := ⟨0, []⟩) rfl rfl rfl rfl rfl (astep_do rfl (emv (eV (v := (I v15)) rfl)))) (dcons (dstep1 (Tm := [(64, (Value.agg (c_api_Uber (G_api_Uber.mk v11 7 x14 (G_api_Ptr.mk (w64 (13 + v11)) v11 (A4.mk 0 0 0 0)))).toArray)), (65, (I v15))]) (L := [(c_api_Dev v16), (c_api_Uber (G_api_Uber.mk v11 7 x14 (G_api_Ptr.mk (w64 (13 + v11)) v11 (A4.mk 0 0 0 0))))]) (H := ⟨0, []⟩) rfl rfl rfl rfl rfl (astep_do rfl (ex_call0 (vs := [(I 40), (Value.agg (c_api_Uber (G_api_Uber.mk v11 7 x14 (G_api_Ptr.mk (w64 (13 + v11)) v11 (A4.mk 0 0 0 0)))).toArray), (I v15)]) (v := (SL 2 c_api_Put x21)) rfl en_17 (cargs (evs rfl (evs rfl (evs rfl evs_nil)))) rfl (ok_label_Phase 40 (G_api_Uber.mk v11 7 x14 (G_api_Ptr.mk (w64 (13 + v11)) v11 (A4.mk 0 0 0 0))) v15 x21 hx21) rfl))) (dcons (dstep1 (Tm := [(63, (Value.agg (c_api_Dev v16).toArray)), (66, (SL 2 c_api_Put x21))]) (L := [(c_api_Dev v16), (c_api_Uber (G_api_Uber.mk v11 7 x14 (G_api_Ptr.mk (w64 (13 + v11)) v11 (A4.mk 0 0 0 0))))]) (H := ⟨0, []⟩) rfl rfl rfl rfl rfl (astep_do rfl (ex_call0 (vs := [(Value.agg (c_api_Dev v16).toArray), (SL 2 c_api_Put x21)]) (v := (Value.tuple #[(Value.agg (c_api_Dev x22.1).toArray), (Bo x22.2)])) rfl en_21 (cargs (evs rfl (evs rfl evs_nil))) rfl (ok_ref1_Write v16 x21 x22 hx22) rfl))) (dcons (dstep1 (Tm := [(67, (Value.tuple #[(Value.agg (c_api_Dev x22.1).toArray), (Bo x22.2)]))]) (L := [(c_api_Dev v16), (c_api_Uber (G_api_Uber.mk v11 7 x14 (G_api_Ptr.mk (w64 (13 + v11)) v11 (A4.mk 0 0 0 0))))]) (H := ⟨0, []⟩) rfl rfl rfl rfl rfl (astep_do rfl (emv (eV (v := (Value.tuple #[(Value.agg (c_api_Dev x22.1).toArray), (Bo x22.2)])) rfl)))) (dcons (dstep1 (Tm := [(62, (Value.tuple #[(Value.agg (c_api_Dev x22.1).toArray), (Bo x22.2)]))]) (L := [(c_api_Dev v16), (c_api_Uber (G_api_Uber.mk v11 7 x14 (G_api_Ptr.mk (w64 (13 + v11)) v11 (A4.mk 0 0 0 0))))]) (H := ⟨0, []⟩) rfl rfl rfl rfl rfl (astep_do rfl (ex_extract (vx := (Value.tuple #[(Value.agg (c_api_Dev x22.1).toArray), (Bo x22.2)])) (v := (Value.agg (c_api_Dev x22.1).toArray)) rfl rfl))) (dcons (dstepN (by intro k hk; simp only [List.mem_cons, List.not_mem_nil, or_false] at hk; rcases hk with rfl | rfl <;> exact ⟨[(62, (Value.tuple #[(Value.agg (c_api_Dev x22.1).toArray), (Bo x22.2)]))], _, _, _, _, _, rfl, rfl, rfl, rfl, astep_do rfl (ex_extract (vx := (Value.tuple #[(Value.agg (c_api_Dev x22.1).toArray), (Bo x22.2)])) (v := (Bo x22.2)) rfl rfl)⟩)) (dcons (dstep1 (Tm := [(6, (LP 0 0)), (68, (Value.agg (c_api_Dev x22.1).toArray))]) (L := [(c_api_Dev v16), (c_api_Uber (G_api_Uber.mk v11 7 x14 (G_api_Ptr.mk (w64 (13 + v11)) v11 (A4.mk 0 0 0 0))))]) (H := ⟨0, []⟩) rfl rfl rfl rfl rfl (astep_do rfl (ex_storeL (vy := (Value.agg (c_api_Dev x22.1).toArray)) (cs := (c_api_Dev v16)) (vs := (c_api_Dev x22.1)) (L' := [(c_api_Dev x22.1), (c_api_Uber (G_api_Uber.mk v11 7 x14 (G_api_Ptr.mk (w64 (13 + v11)) v11 (A4.mk 0 0 0 0))))]) rfl (eV (v := (Value.agg (c_api_Dev x22.1).toArray)) rfl) rfl s_29 rfl (Nat.le_of_ble_eq_true rfl) (by kernel_rfl)))) dnil))))))))) ⟨rfl, rfl⟩) (by kernel_rfl) (by kernel_rfl) ?_
                    exact (Exists.intro x22.1 (And.intro rfl h))
                  · rw [condF hb20] at h
                    refine awp_condF (boF hb20) ?_
                    refine awp_keepE [1, 5, 6, 8, 9, 10] 2 0 (st' := ⟨127, 0, [(1, (U8 t1)), (5, (I (x3.toNat : Int))), (6, (LP 0 0)), (8, (I v11)), (9, (LP 1 0)), (10, (I v15))], [(c_api_Dev v16), (c_api_Uber (G_api_Uber.mk v11 7 x14 (G_api_Ptr.mk (w64 (13 + v11)) v11 (A4.mk 0 0 0 0))))], ⟨0, []⟩⟩) (by kernel_rfl) (by kernel_rfl) ?_
                    refine awp_skip ?_
                    exact (Exists.intro v16 (And.intro rfl h))
                · rintro s ⟨y18, rfl, h⟩
                  unfold M_law7_LabelRing_k1 at h
                  refine awr ?_
                  refine ado rfl rfl rfl (emv (eV (v := (I v15)) rfl)) ?_
                  refine ado rfl rfl rfl (ex_bin (vx := (I v15)) (vy := (I 1)) rfl rfl addI_ok) ?_
                  refine ado rfl rfl rfl (eas (eV (v := (I (w64 (v15 + 1)))) rfl)) ?_
                  refine ake [1, 5, 6, 8, 9, 10] 2 0 (st' := ⟨127, 0, [(1, (U8 t1)), (5, (I (x3.toNat : Int))), (6, (LP 0 0)), (8, (I v11)), (9, (LP 1 0)), (10, (I (w64 (v15 + 1))))], [(c_api_Dev y18), (c_api_Uber (G_api_Uber.mk v11 7 x14 (G_api_Ptr.mk (w64 (13 + v11)) v11 (A4.mk 0 0 0 0))))], ⟨0, []⟩⟩) (by kernel_rfl) (by kernel_rfl) ?_
                  exact Exists.intro n3 (And.intro (Nat.lt_succ_self _) (Exists.intro (w64 (v15 + 1)) (Exists.intro y18 (And.intro rfl h))))
              · rw [condF hb17] at h
                refine awp_condF (boF hb17) ?_
                refine awp_exit ?_
                show AWp _ _ _ _
                refine awr ?_
                refine ado rfl rfl rfl (emv (eV (v := (I v11)) rfl)) ?_
                refine ado rfl rfl rfl (ex_bin (vx := (I v11)) (vy := (I 1)) rfl rfl addI_ok) ?_
                refine ado rfl rfl rfl (eas (eV (v := (I (w64 (v11 + 1)))) rfl)) ?_
                refine ake [1, 5, 6, 8] 1 0 (st' := ⟨127, 0, [(1, (U8 t1)), (5, (I (x3.toNat : Int))), (6, (LP 0 0)), (8, (I (w64 (v11 + 1))))], [(c_api_Dev v16)], ⟨0, []⟩⟩) (by kernel_rfl) (by kernel_rfl) ?_
                exact Exists.intro n2 (And.intro (Nat.lt_succ_self _) (Exists.intro (w64 (v11 + 1)) (Exists.intro v16 (And.intro rfl h))))
          · rw [condF hb13] at h
            refine awp_condF (boF hb13) ?_
            refine awp_exit ?_
            show AWp _ _ _ _
            refine awp_seq ?_
            refine awr ?_
            refine ado rfl rfl rfl (tx_ldLA (vs := (c_api_Dev v12)) Try.underlying29 rfl s_29 (by decide) rfl rfl rfl rfl) ?_
            obtain ⟨x23, hx23, h⟩ := bindS h
            refine ado rfl rfl rfl (ex_call0 (vs := [(Value.agg (c_api_Dev v12).toArray)]) (v := (SL 9 c_api_Uber x23)) rfl en_27 (cargs (evs rfl evs_nil)) rfl (ok_label_Roots v12 x23 hx23) rfl) ?_
            refine ado rfl rfl rfl (eas (eV (v := (SL 9 c_api_Uber x23)) rfl)) ?_
            refine ake [1, 5, 11] 0 0 (st' := ⟨127, 0, [(1, (U8 t1)), (5, (I (x3.toNat : Int))), (11, (SL 9 c_api_Uber x23))], [], ⟨0, []⟩⟩) (by kernel_rfl) (by kernel_rfl) ?_
            show AWp _ _ _ _
            refine awp_seq ?_
            refine awr ?_
            refine ado rfl rfl rfl (emv (eV (v := (I (x3.toNat : Int))) rfl)) ?_
            refine ado rfl rfl rfl (ex_min (m := (x3.toNat : Int)) (n := 6) rfl rfl) ?_
            refine ado rfl rfl rfl (eas (eV (v := (I (min (x3.toNat : Int) 6))) rfl)) ?_
            refine ake [1, 5, 11, 12] 0 0 (st' := ⟨127, 0, [(1, (U8 t1)), (5, (I (x3.toNat : Int))), (11, (SL 9 c_api_Uber x23)), (12, (I (min (x3.toNat : Int) 6)))], [], ⟨0, []⟩⟩) (by kernel_rfl) (by kernel_rfl) ?_
            show AWp _ _ _ _
            refine awp_seqJ (fun s => ∃ (y24 : Int), s = ⟨127, 0, [(5, (I (x3.toNat : Int))), (11, (SL 9 c_api_Uber x23)), (12, (I y24))], [], ⟨0, []⟩⟩ ∧ M_law7_LabelRing_k2 (M_law7_LabelRing_l1 t1 x3 n1) (M_law7_LabelRing_l2 (M_law7_LabelRing_l1 t1 x3 n1) t1 x3 n2) x3 x23 y24 = some r) ?_ ?_
            · refine awp_seq ?_
              refine awr ?_
              refine ado rfl rfl rfl (emv (eV (v := (U8 t1)) rfl)) ?_
              obtain ⟨x25, hx25, h⟩ := bindS h
              refine ado rfl rfl rfl (ex_bin (vx := (U8 t1)) (vy := (U8 3)) rfl rfl (rem8_ok hx25)) ?_
              refine ado rfl rfl rfl (ex_bin (vx := (U8 x25)) (vy := (U8 0)) rfl rfl gtr8_ok) ?_
              refine ado rfl rfl rfl (emv (eV (v := (Bo (decide (x25 > 0)))) rfl)) ?_
              refine arun_guard (v := (I (x3.toNat : Int))) ((decide (x25 > 0)) == true) rfl rfl rfl (fun hc => emv (eV (v := (I (x3.toNat : Int))) rfl)) ?_
              refine arun_guard (v := (Bo (decide ((x3.toNat : Int) > 6)))) ((decide (x25 > 0)) == true) rfl rfl rfl (fun hc => ex_bin (vx := (I (x3.toNat : Int))) (vy := (I 6)) (cond_of hc) rfl gtrI_ok) ?_
              refine ado rfl rfl rfl (ex_pick rfl pkAnd) ?_
              refine ake [5, 11, 12, 80] 0 0 (st' := ⟨127, 0, [(5, (I (x3.toNat : Int))), (11, (SL 9 c_api_Uber x23)), (12, (I (min (x3.toNat : Int) 6))), (80, (Bo ((decide (x25 > 0)) && (decide ((x3.toNat : Int) > 6)))))], [], ⟨0, []⟩⟩) (by kernel_rfl) (by kernel_rfl) ?_
              show AWp _ _ _ _
              rcases Bool.eq_false_or_eq_true ((decide (x25 > 0)) && (decide ((x3.toNat : Int) > 6))) with hb26 | hb26
              · rw [condT hb26] at h
                refine awp_condT (boT hb26) ?_
                refine awr ?_
                refine ado rfl rfl rfl (emv (eV (v := (I (min (x3.toNat : Int) 6))) rfl)) ?_
                refine ado rfl rfl rfl (ex_bin (vx := (I (min (x3.toNat : Int) 6))) (vy := (I 1)) rfl rfl addI_ok) ?_
                refine ado rfl rfl rfl (eas (eV (v := (I (w64 ((min (x3.toNat : Int) 6) + 1)))) rfl)) ?_
                refine ake [5, 11, 12] 0 0 (st' := ⟨127, 0, [(5, (I (x3.toNat : Int))), (11, (SL 9 c_api_Uber x23)), (12, (I (w64 ((min (x3.toNat : Int) 6) + 1))))], [], ⟨0, []⟩⟩) (by kernel_rfl) (by kernel_rfl) ?_
                exact (Exists.intro (w64 ((min (x3.toNat : Int) 6) + 1)) (And.intro rfl h))
              · rw [condF hb26] at h
                refine awp_condF (boF hb26) ?_
                refine awp_keepE [5, 11, 12] 0 0 (st' := ⟨127, 0, [(5, (I (x3.toNat : Int))), (11, (SL 9 c_api_Uber x23)), (12, (I (min (x3.toNat : Int) 6)))], [], ⟨0, []⟩⟩) (by kernel_rfl) (by kernel_rfl) ?_
                refine awp_skip ?_
                exact (Exists.intro (min (x3.toNat : Int) 6) (And.intro rfl h))
            · rintro s ⟨y24, rfl, h⟩
              unfold M_law7_LabelRing_k2 at h
              refine awp_seq ?_
              refine awp_seq ?_
              refine awr ?_
              refine ado rfl rfl rfl (emv (eV (v := (SL 9 c_api_Uber x23)) rfl)) ?_
              refine ado rfl rfl rfl (tx_lenD (xs := x23) ce_api_Uber Try.underlying54 rfl) ?_
              refine ado rfl rfl rfl (emv (eV (v := (I y24)) rfl)) ?_
              refine ado rfl rfl rfl (ex_bin (vx := (I (x23.length : Int))) (vy := (I y24)) rfl rfl neqI_ok) ?_
              refine ake [5, 11, 86] 0 0 (st' := ⟨127, 0, [(5, (I (x3.toNat : Int))), (11, (SL 9 c_api_Uber x23)), (86, (Bo ((x23.length : Int) != y24)))], [], ⟨0, []⟩⟩) (by kernel_rfl) (by kernel_rfl) ?_
              show AWp _ _ _ _
              rcases Bool.eq_false_or_eq_true ((x23.length : Int) != y24) with hb27 | hb27
              · rw [condT hb27] at h
                refine awp_condT (boT hb27) ?_
                refine awp_seq ?_
                refine awr ?_
                refine ado rfl rfl rfl (eas (eV (v := (Bo false)) rfl)) ?_
                refine ake [4] 0 0 (st' := ⟨127, 0, [(4, (Bo false))], [], ⟨0, []⟩⟩) (by kernel_rfl) (by kernel_rfl) ?_
                show AWp _ _ _ _
                refine awp_ret ?_
                cases h
                exact ares1 (rtmp rfl (eV rfl))
              · rw [condF hb27] at h
                refine awp_condF (boF hb27) ?_
                refine awp_skip ?_
                show AWp _ _ _ _
                refine awp_seq ?_
                refine awp_seq ?_
                refine awr ?_
                refine ado rfl rfl rfl (eas (eV (v := (I 0)) rfl)) ?_
                refine ake [5, 11, 13] 0 0 (st' := ⟨127, 0, [(5, (I (x3.toNat : Int))), (11, (SL 9 c_api_Uber x23)), (13, (I 0))], [], ⟨0, []⟩⟩) (by kernel_rfl) (by kernel_rfl) ?_
                show AWp _ _ _ _
                refine awp_block ?_
                refine awp_loop (fun n s => ∃ (v28 : Int), s = ⟨127, 0, [(5, (I (x3.toNat : Int))), (11, (SL 9 c_api_Uber x23)), (13, (I v28))], [], ⟨0, []⟩⟩ ∧ M_law7_LabelRing_l4 (M_law7_LabelRing_l1 t1 x3 n1) (M_law7_LabelRing_l2 (M_law7_LabelRing_l1 t1 x3 n1) t1 x3 n2) x3 x23 n v28 = some r) fuel (Exists.intro 0 (And.intro rfl h)) ?_
                rintro n s ⟨v28, rfl, h⟩ -
                cases n with
                | zero => cases h
                | succ n4 =>
                  unfold M_law7_LabelRing_l4 at h
                  refine awp_seq ?_
                  refine awp_seq ?_
                  refine awr ?_
                  refine ado rfl rfl rfl (emv (eV (v := (I v28)) rfl)) ?_
                  refine ado rfl rfl rfl (emv (eV (v := (SL 9 c_api_Uber x23)) rfl)) ?_
                  refine ado rfl rfl rfl (tx_lenD (xs := x23) ce_api_Uber Try.underlying54 rfl) ?_
                  refine ado rfl rfl rfl (ex_bin (vx := (I v28)) (vy := (I (x23.length : Int))) rfl rfl lssI_ok) ?_
                  refine ake [5, 11, 13, 90] 0 0 (st' := ⟨127, 0, [(5, (I (x3.toNat : Int))), (11, (SL 9 c_api_Uber x23)), (13, (I v28)), (90, (Bo (decide (v28 < (x23.length : Int)))))], [], ⟨0, []⟩⟩) (by kernel_rfl) (by kernel_rfl) ?_
                  show AWp _ _ _ _
                  rcases Bool.eq_false_or_eq_true (decide (v28 < (x23.length : Int))) with hb29 | hb29
                  · rw [condT hb29] at h
                    refine awp_condT (boT hb29) ?_
                    refine awp_skip ?_
                    show AWp _ _ _ _
                    refine awp_seq ?_
                    refine awp_block ?_
                    refine awp_seq ?_
                    refine awr ?_
                    refine ado rfl rfl rfl (emv (eV (v := (SL 9 c_api_Uber x23)) rfl)) ?_
                    refine ado rfl rfl rfl (emv (eV (v := (I v28)) rfl)) ?_
                    obtain ⟨x30, hx30, h⟩ := bindS h
                    refine ado rfl rfl rfl (tx_idxD (c := c_api_Uber) (xs := x23) (i := v28) ce_api_Uber Try.underlying54 s_37 rfl rfl hx30) ?_
                    refine ado rfl rfl rfl (ex_fieldAddrD (vs := (List.drop 0 (c_api_Uber x30))) Try.underlying37 rfl s_3 (by decide) rfl rfl) ?_
                    refine ado rfl rfl rfl (tx_ldD1 (v := (I x30.Txg)) Try.underlying3 rfl rfl rfl) ?_
                    refine ado rfl rfl rfl (emv (eV (v := (I (x3.toNat : Int))) rfl)) ?_
                    refine ado rfl rfl rfl (emv (eV (v := (I v28)) rfl)) ?_
                    refine ado rfl rfl rfl (ex_bin (vx := (I (x3.toNat : Int))) (vy := (I v28)) rfl rfl subI_ok) ?_
                    refine ado rfl rfl rfl (ex_bin (vx := (I x30.Txg)) (vy := (I (w64 ((x3.toNat : Int) - v28)))) rfl rfl neqI_ok) ?_
                    refine ado rfl rfl rfl (emv (eV (v := (Bo (x30.Txg != (w64 ((x3.toNat : Int) - v28))))) rfl)) ?_
                    refine arun_guard (v := (SL 9 c_api_Uber x23)) ((x30.Txg != (w64 ((x3.toNat : Int) - v28))) == false) rfl rfl rfl (fun hc => emv (eV (v := (SL 9 c_api_Uber x23)) rfl)) ?_
                    refine arun_guard (v := (I v28)) ((x30.Txg != (w64 ((x3.toNat : Int) - v28))) == false) rfl rfl rfl (fun hc => emv (eV (v := (I v28)) rfl)) ?_
                    obtain ⟨x31, hx31, h⟩ := bindS h
                    refine arun_guard (v := (DP (c_api_Uber x31))) ((x30.Txg != (w64 ((x3.toNat : Int) - v28))) == false) rfl rfl rfl (fun hc => tx_idxD (c := c_api_Uber) (xs := x23) (i := v28) ce_api_Uber Try.underlying54 s_37 (cond_of hc) (cond_of hc) (gd_of hc hx31)) ?_
                    refine arun_guard (v := (DP (List.drop 2 (c_api_Uber x31)))) ((x30.Txg != (w64 ((x3.toNat : Int) - v28))) == false) rfl rfl rfl (fun hc => ex_fieldAddrD (vs := (List.drop 2 (c_api_Uber x31))) Try.underlying37 rfl s_3 (by decide) (cond_of hc) rfl) ?_
                    refine arun_guard (v := (I x31.Seat)) ((x30.Txg != (w64 ((x3.toNat : Int) - v28))) == false) rfl rfl rfl (fun hc => tx_ldD1 (v := (I x31.Seat)) Try.underlying3 rfl (cond_of hc) rfl) ?_
                    refine arun_guard (v := (I (x3.toNat : Int))) ((x30.Txg != (w64 ((x3.toNat : Int) - v28))) == false) rfl rfl rfl (fun hc => emv (eV (v := (I (x3.toNat : Int))) rfl)) ?_
                    refine arun_guard (v := (I v28)) ((x30.Txg != (w64 ((x3.toNat : Int) - v28))) == false) rfl rfl rfl (fun hc => emv (eV (v := (I v28)) rfl)) ?_
                    refine arun_guard (v := (I (w64 ((x3.toNat : Int) - v28)))) ((x30.Txg != (w64 ((x3.toNat : Int) - v28))) == false) rfl rfl rfl (fun hc => ex_bin (vx := (I (x3.toNat : Int))) (vy := (I v28)) (cond_of hc) (cond_of hc) subI_ok) ?_
                    obtain ⟨x32, hx32, h⟩ := bindS h
                    refine arun_guard (v := (I x32)) ((x30.Txg != (w64 ((x3.toNat : Int) - v28))) == false) rfl rfl rfl (fun hc => ex_bin (vx := (I (w64 ((x3.toNat : Int) - v28)))) (vy := (I 6)) (cond_of hc) rfl (remI_ok (gd_of hc hx32))) ?_
                    refine arun_guard (v := (Bo (x31.Seat != x32))) ((x30.Txg != (w64 ((x3.toNat : Int) - v28))) == false) rfl rfl rfl (fun hc => ex_bin (vx := (I x31.Seat)) (vy := (I x32)) (cond_of hc) (cond_of hc) neqI_ok) ?_
                    refine ado rfl rfl rfl (ex_pick rfl pkOr) ?_
                    refine ado rfl rfl rfl (emv (eV (v := (Bo ((x30.Txg != (w64 ((x3.toNat : Int) - v28))) || (x31.Seat != x32)))) rfl)) ?_
                    refine arun_guard (v := (SL 9 c_api_Uber x23)) (((x30.Txg != (w64 ((x3.toNat : Int) - v28))) || (x31.Seat != x32)) == false) rfl rfl rfl (fun hc => emv (eV (v := (SL 9 c_api_Uber x23)) rfl)) ?_
                    refine arun_guard (v := (I v28)) (((x30.Txg != (w64 ((x3.toNat : Int) - v28))) || (x31.Seat != x32)) == false) rfl rfl rfl (fun hc => emv (eV (v := (I v28)) rfl)) ?_
                    obtain ⟨x33, hx33, h⟩ := bindS h
                    refine arun_guard (v := (DP (c_api_Uber x33))) (((x30.Txg != (w64 ((x3.toNat : Int) - v28))) || (x31.Seat != x32)) == false) rfl rfl rfl (fun hc => tx_idxD (c := c_api_Uber) (xs := x23) (i := v28) ce_api_Uber Try.underlying54 s_37 (cond_of hc) (cond_of hc) (gd_of hc hx33)) ?_
                    refine arun_guard (v := (DP (List.drop 3 (c_api_Uber x33)))) (((x30.Txg != (w64 ((x3.toNat : Int) - v28))) || (x31.Seat != x32)) == false) rfl rfl rfl (fun hc => ex_fieldAddrD (vs := (List.drop 3 (c_api_Uber x33))) Try.underlying37 rfl s_35 (by decide) (cond_of hc) rfl) ?_
                    refine arun_guard (v := (DP (List.drop 0 (List.drop 3 (c_api_Uber x33))))) (((x30.Txg != (w64 ((x3.toNat : Int) - v28))) || (x31.Seat != x32)) == false) rfl rfl rfl (fun hc => ex_fieldAddrD (vs := (List.drop 0 (List.drop 3 (c_api_Uber x33)))) Try.underlying35 rfl s_3 (by decide) (cond_of hc) rfl) ?_
                    refine arun_guard (v := (I x33.Root.Addr)) (((x30.Txg != (w64 ((x3.toNat : Int) - v28))) || (x31.Seat != x32)) == false) rfl rfl rfl (fun hc => tx_ldD1 (v := (I x33.Root.Addr)) Try.underlying3 rfl (cond_of hc) rfl) ?_
                    refine arun_guard (v := (I (x3.toNat : Int))) (((x30.Txg != (w64 ((x3.toNat : Int) - v28))) || (x31.Seat != x32)) == false) rfl rfl rfl (fun hc => emv (eV (v := (I (x3.toNat : Int))) rfl)) ?_
                    refine arun_guard (v := (I (w64 (13 + (x3.toNat : Int))))) (((x30.Txg != (w64 ((x3.toNat : Int) - v28))) || (x31.Seat != x32)) == false) rfl rfl rfl (fun hc => ex_bin (vx := (I 13)) (vy := (I (x3.toNat : Int))) rfl (cond_of hc) addI_ok) ?_
                    refine arun_guard (v := (I v28)) (((x30.Txg != (w64 ((x3.toNat : Int) - v28))) || (x31.Seat != x32)) == false) rfl rfl rfl (fun hc => emv (eV (v := (I v28)) rfl)) ?_
                    refine arun_guard (v := (I (w64 ((w64 (13 + (x3.toNat : Int))) - v28)))) (((x30.Txg != (w64 ((x3.toNat : Int) - v28))) || (x31.Seat != x32)) == false) rfl rfl rfl (fun hc => ex_bin (vx := (I (w64 (13 + (x3.toNat : Int))))) (vy := (I v28)) (cond_of hc) (cond_of hc) subI_ok) ?_
                    refine arun_guard (v := (Bo (x33.Root.Addr != (w64 ((w64 (13 + (x3.toNat : Int))) - v28))))) (((x30.Txg != (w64 ((x3.toNat : Int) - v28))) || (x31.Seat != x32)) == false) rfl rfl rfl (fun hc => ex_bin (vx := (I x33.Root.Addr)) (vy := (I (w64 ((w64 (13 + (x3.toNat : Int))) - v28)))) (cond_of hc) (cond_of hc) neqI_ok) ?_
                    refine ado rfl rfl rfl (ex_pick rfl pkOr) ?_
                    refine ake [5, 11, 13, 126] 0 0 (st' := ⟨127, 0, [(5, (I (x3.toNat : Int))), (11, (SL 9 c_api_Uber x23)), (13, (I v28)), (126, (Bo (((x30.Txg != (w64 ((x3.toNat : Int) - v28))) || (x31.Seat != x32)) || (x33.Root.Addr != (w64 ((w64 (13 + (x3.toNat : Int))) - v28))))))], [], ⟨0, []⟩⟩) (by kernel_rfl) (by kernel_rfl) ?_
                    show AWp _ _ _ _
                    rcases Bool.eq_false_or_eq_true (((x30.Txg != (w64 ((x3.toNat : Int) - v28))) || (x31.Seat != x32)) || (x33.Root.Addr != (w64 ((w64 (13 + (x3.toNat : Int))) - v28)))) with hb34 | hb34
                    · rw [condT hb34] at h
                      refine awp_condT (boT hb34) ?_
                      refine awp_seq ?_
                      refine awr ?_
                      refine ado rfl rfl rfl (eas (eV (v := (Bo false)) rfl)) ?_
                      refine ake [4] 0 0 (st' := ⟨127, 0, [(4, (Bo false))], [], ⟨0, []⟩⟩) (by kernel_rfl) (by kernel_rfl) ?_
                      show AWp _ _ _ _
                      refine awp_ret ?_
                      cases h
                      exact ares1 (rtmp rfl (eV rfl))
                    · rw [condF hb34] at h
                      refine awp_condF (boF hb34) ?_
                      refine awp_skip ?_
                      show AWp _ _ _ _
                      refine awr ?_
                      refine ado rfl rfl rfl (emv (eV (v := (I v28)) rfl)) ?_
                      refine ado rfl rfl rfl (ex_bin (vx := (I v28)) (vy := (I 1)) rfl rfl addI_ok) ?_
                      refine ado rfl rfl rfl (eas (eV (v := (I (w64 (v28 + 1)))) rfl)) ?_
                      refine ake [5, 11, 13] 0 0 (st' := ⟨127, 0, [(5, (I (x3.toNat : Int))), (11, (SL 9 c_api_Uber x23)), (13, (I (w64 (v28 + 1))))], [], ⟨0, []⟩⟩) (by kernel_rfl) (by kernel_rfl) ?_
                      exact Exists.intro n4 (And.intro (Nat.lt_succ_self _) (Exists.intro (w64 (v28 + 1)) (And.intro rfl h)))
                  · rw [condF hb29] at h
                    refine awp_condF (boF hb29) ?_
                    refine awp_exit ?_
                    show AWp _ _ _ _
                    refine awp_seq ?_
                    refine awr ?_
                    refine ado rfl rfl rfl (eas (eV (v := (Bo true)) rfl)) ?_
                    refine ake [4] 0 0 (st' := ⟨127, 0, [(4, (Bo true))], [], ⟨0, []⟩⟩) (by kernel_rfl) (by kernel_rfl) ?_
                    show AWp _ _ _ _
                    refine awp_ret ?_
                    cases h
                    exact ares1 (rtmp rfl (eV rfl))

end Go.Proofs
