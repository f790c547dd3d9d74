/- Pure models of functions of the program, and that its code does what they say: palimpref1 Roots, palimpref1 SameUbers. Written by a program. -/
import Derived.Test.YtmhfodjiefednaaR712
import Derived.Test.YtmhfodjiefednaaR715
import Derived.Test.YtmhfodjiefednaaR716
import Derived.Test.YtmhfodjiefednaaR717
import Derived.Test.YtmhfodjiefednaaR7B
set_option maxRecDepth 20000
set_option maxHeartbeats 4000000
namespace Go.Proofs
open Go Go.Fhl
set_option linter.unusedVariables false
set_option linter.unusedSimpArgs false
noncomputable def M_ref1_Roots_k1 (c_1 : (Int → List GUb → Option (List GUb))) (c_2 : (Int → List GUb → Option (List GUb))) (t0 : GDv) (x1 : (Int × Int × Bool)) (v2 : Int) (v5 : Int) (y8 : List GUb) : Option (List GUb) :=
  c_2 (w64 (v5 + 1)) y8
noncomputable def M_ref1_Roots_l2 (c_1 : (Int → List GUb → Option (List GUb))) (t0 : GDv) (x1 : (Int × Int × Bool)) (v2 : Int) : Nat → Int → List GUb → Option (List GUb)
  | 0, _, _ => none
  | n2 + 1, v5, v6 =>
  cond (decide (v5 < 6)) (Option.bind (M_ref1_At x1.2.1 v2) fun (x9 : Int) => Option.bind (M_ref1_Read t0 (w64 ((w64 (x9 + 1)) + v5))) fun (x10 : (Str × Bool)) => Option.bind (M_ref1_TakeUber x10.1) fun (x11 : (GUb × Bool)) => cond (((!x11.2) || (x11.1.Guid != x1.1)) || (x11.1.Seat != v5)) (M_ref1_Roots_k1 c_1 (M_ref1_Roots_l2 c_1 t0 x1 v2 n2) t0 x1 v2 v5 v6) (Option.bind (M_ref1_fall v6 x11.1) fun (x13 : (List GUb)) => M_ref1_Roots_k1 c_1 (M_ref1_Roots_l2 c_1 t0 x1 v2 n2) t0 x1 v2 v5 x13)) (c_1 (w64 (v2 + 1)) v6)
noncomputable def M_ref1_Roots_l1 (t0 : GDv) (x1 : (Int × Int × Bool)) : Nat → Int → List GUb → Option (List GUb)
  | 0, _, _ => none
  | n1 + 1, v2, v3 =>
  cond ((decide (v2 < 4)) && x1.2.2) (M_ref1_Roots_l2 (M_ref1_Roots_l1 t0 x1 n1) t0 x1 v2 fuel 0 v3) (some v3)
noncomputable def M_ref1_Roots (t0 : GDv) : Option (List GUb) :=
  Option.bind (M_ref1_Found t0) fun (x1 : (Int × Int × Bool)) => M_ref1_Roots_l1 t0 x1 fuel 0 ([] : List GUb)
theorem ok_ref1_Roots (t0 : GDv) (r : (List GUb)) (h : M_ref1_Roots t0 = some r) : FFn Try.prog 28 [(Value.agg (cDv t0).toArray)] (SL 9 cUb r) := by
  refine FFn.of_body (n := 64) Try.func28 rfl Try.ntmps28 rfl rfl rfl rfl ?_
  show AWp _ _ _ ⟨64, 0, [(0, (Value.agg (cDv t0).toArray))], [], ⟨0, []⟩⟩
  unfold M_ref1_Roots at h
  refine aws ?_
  refine awr ?_
  refine ado rfl rfl rfl (ex_box (vx := (Value.agg (cDv t0).toArray)) (cs := (cDv t0)) (k := 0) (L' := [(cDv t0)]) (eV (v := (Value.agg (cDv t0).toArray)) rfl) rfl rfl rfl) ?_
  refine ado rfl rfl rfl (eas (eV (v := (Value.slice none 0 0)) rfl)) ?_
  refine ake [1] 1 0 (st' := ⟨64, 0, [(1, (LP 0 0))], [(cDv t0)], ⟨0, []⟩⟩) (by kernel_rfl) (by kernel_rfl) ?_
  show AWp _ _ _ _
  refine aws ?_
  refine awr ?_
  refine ado rfl rfl rfl (tx_ldLA (vs := (cDv t0)) Try.underlying29 rfl s_29 (by decide) rfl rfl rfl rfl) ?_
  obtain ⟨x1, hx1, h⟩ := bindS h
  refine ado rfl rfl rfl (ex_call0 (vs := [(Value.agg (cDv t0).toArray)]) (v := (Value.tuple #[(I x1.1), (I x1.2.1), (Bo x1.2.2)])) rfl en_25 (cargs (evs rfl evs_nil)) rfl (ok_ref1_Found t0 x1 hx1) rfl) ?_
  refine ado rfl rfl rfl (emv (eV (v := (Value.tuple #[(I x1.1), (I x1.2.1), (Bo x1.2.2)])) rfl)) ?_
  refine ado rfl rfl rfl (ex_extract (vx := (Value.tuple #[(I x1.1), (I x1.2.1), (Bo x1.2.2)])) (v := (I x1.1)) rfl rfl) ?_
  refine ado rfl rfl rfl (ex_extract (vx := (Value.tuple #[(I x1.1), (I x1.2.1), (Bo x1.2.2)])) (v := (I x1.2.1)) rfl rfl) ?_
  refine ado rfl rfl rfl (ex_extract (vx := (Value.tuple #[(I x1.1), (I x1.2.1), (Bo x1.2.2)])) (v := (Bo x1.2.2)) rfl rfl) ?_
  refine ado rfl rfl rfl (eas (eV (v := (I x1.1)) rfl)) ?_
  refine ado rfl rfl rfl (eas (eV (v := (I x1.2.1)) rfl)) ?_
  refine ado rfl rfl rfl (eas (eV (v := (Bo x1.2.2)) rfl)) ?_
  refine ake [1, 3, 4, 5] 1 0 (st' := ⟨64, 0, [(1, (LP 0 0)), (3, (I x1.1)), (4, (I x1.2.1)), (5, (Bo x1.2.2))], [(cDv t0)], ⟨0, []⟩⟩) (by kernel_rfl) (by kernel_rfl) ?_
  show AWp _ _ _ _
  refine aws ?_
  refine awr ?_
  refine ado rfl rfl rfl (eas (eV (v := (Value.slice none 0 0)) rfl)) ?_
  refine ake [1, 3, 4, 5, 6] 1 0 (st' := ⟨64, 0, [(1, (LP 0 0)), (3, (I x1.1)), (4, (I x1.2.1)), (5, (Bo x1.2.2)), (6, (Value.slice none 0 0))], [(cDv t0)], ⟨0, []⟩⟩) (by kernel_rfl) (by kernel_rfl) ?_
  show AWp _ _ _ _
  refine aws ?_
  refine aws ?_
  refine awr ?_
  refine ado rfl rfl rfl (eas (eV (v := (I 0)) rfl)) ?_
  refine ake [1, 3, 4, 5, 6, 7] 1 0 (st' := ⟨64, 0, [(1, (LP 0 0)), (3, (I x1.1)), (4, (I x1.2.1)), (5, (Bo x1.2.2)), (6, (Value.slice none 0 0)), (7, (I 0))], [(cDv t0)], ⟨0, []⟩⟩) (by kernel_rfl) (by kernel_rfl) ?_
  show AWp _ _ _ _
  refine awp_block ?_
  refine awp_nilGro 6 9 rfl (by decide) ?_
  refine awp_keepE [1, 3, 4, 5, 6, 7] 1 1 (st' := ⟨64, 0, [(1, (LP 0 0)), (3, (I x1.1)), (4, (I x1.2.1)), (5, (Bo x1.2.2)), (6, (GV 0 0)), (7, (I 0))], [(cDv t0)], ⟨1, [(0, ⟨9, (([] : List GUb).flatMap cUb), true⟩)]⟩⟩) (by kernel_rfl) (by kernel_rfl) ?_
  refine awp_loop (fun n s => ∃ (v2 : Int) (v3 : List GUb), s = ⟨64, 0, [(1, (LP 0 0)), (3, (I x1.1)), (4, (I x1.2.1)), (5, (Bo x1.2.2)), (6, (GV 0 v3.length)), (7, (I v2))], [(cDv t0)], ⟨1, [(0, ⟨9, ((v3).flatMap cUb), true⟩)]⟩⟩ ∧ M_ref1_Roots_l1 t0 x1 n v2 v3 = some r) fuel (Exists.intro 0 (Exists.intro ([] : List GUb) (And.intro rfl h))) ?_
  rintro n s ⟨v2, v3, rfl, h⟩ -
  cases n with
  | zero => cases h
  | succ n1 =>
    unfold M_ref1_Roots_l1 at h
    refine aws ?_
    refine aws ?_
    refine awr ?_
    refine ado rfl rfl rfl (emv (eV (v := (I v2)) rfl)) ?_
    refine ado rfl rfl rfl (ex_bin (vx := (I v2)) (vy := (I 4)) rfl rfl lssI_ok) ?_
    refine ado rfl rfl rfl (emv (eV (v := (Bo (decide (v2 < 4)))) rfl)) ?_
    refine agu (v := (Bo x1.2.2)) ((decide (v2 < 4)) == true) rfl rfl rfl (fun hc => emv (eV (v := (Bo x1.2.2)) rfl)) ?_
    refine ado rfl rfl rfl (ex_pick rfl pkAnd) ?_
    refine ake [1, 3, 4, 5, 6, 7, 23] 1 1 (st' := ⟨64, 0, [(1, (LP 0 0)), (3, (I x1.1)), (4, (I x1.2.1)), (5, (Bo x1.2.2)), (6, (GV 0 v3.length)), (7, (I v2)), (23, (Bo ((decide (v2 < 4)) && x1.2.2)))], [(cDv t0)], ⟨1, [(0, ⟨9, ((v3).flatMap cUb), true⟩)]⟩⟩) (by kernel_rfl) (by kernel_rfl) ?_
    show AWp _ _ _ _
    rcases Bool.eq_false_or_eq_true ((decide (v2 < 4)) && x1.2.2) with hb4 | hb4
    · rw [condT hb4] at h
      refine awp_condT (boT hb4) ?_
      refine awp_skip ?_
      show AWp _ _ _ _
      refine aws ?_
      refine awp_block ?_
      refine aws ?_
      refine awr ?_
      refine ado rfl rfl rfl (eas (eV (v := (I 0)) rfl)) ?_
      refine ake [1, 3, 4, 5, 6, 7, 8] 1 1 (st' := ⟨64, 0, [(1, (LP 0 0)), (3, (I x1.1)), (4, (I x1.2.1)), (5, (Bo x1.2.2)), (6, (GV 0 v3.length)), (7, (I v2)), (8, (I 0))], [(cDv t0)], ⟨1, [(0, ⟨9, ((v3).flatMap cUb), true⟩)]⟩⟩) (by kernel_rfl) (by kernel_rfl) ?_
      show AWp _ _ _ _
      refine awp_block ?_
      refine awp_loop (fun n s => ∃ (v5 : Int) (v6 : List GUb), s = ⟨64, 0, [(1, (LP 0 0)), (3, (I x1.1)), (4, (I x1.2.1)), (5, (Bo x1.2.2)), (6, (GV 0 v6.length)), (7, (I v2)), (8, (I v5))], [(cDv t0)], ⟨1, [(0, ⟨9, ((v6).flatMap cUb), true⟩)]⟩⟩ ∧ M_ref1_Roots_l2 (M_ref1_Roots_l1 t0 x1 n1) t0 x1 v2 n v5 v6 = some r) fuel (Exists.intro 0 (Exists.intro v3 (And.intro rfl h))) ?_
      rintro n s ⟨v5, v6, rfl, h⟩ -
      cases n with
      | zero => cases h
      | succ n2 =>
        unfold M_ref1_Roots_l2 at h
        refine aws ?_
        refine aws ?_
        refine awr ?_
        refine ado rfl rfl rfl (emv (eV (v := (I v5)) rfl)) ?_
        refine ado rfl rfl rfl (ex_bin (vx := (I v5)) (vy := (I 6)) rfl rfl lssI_ok) ?_
        refine ake [1, 3, 4, 5, 6, 7, 8, 27] 1 1 (st' := ⟨64, 0, [(1, (LP 0 0)), (3, (I x1.1)), (4, (I x1.2.1)), (5, (Bo x1.2.2)), (6, (GV 0 v6.length)), (7, (I v2)), (8, (I v5)), (27, (Bo (decide (v5 < 6))))], [(cDv t0)], ⟨1, [(0, ⟨9, ((v6).flatMap cUb), true⟩)]⟩⟩) (by kernel_rfl) (by kernel_rfl) ?_
        show AWp _ _ _ _
        rcases Bool.eq_false_or_eq_true (decide (v5 < 6)) with hb7 | hb7
        · rw [condT hb7] at h
          refine awp_condT (boT hb7) ?_
          refine awp_skip ?_
          show AWp _ _ _ _
          refine awp_seqJ (fun s => ∃ (y8 : List GUb), s = ⟨64, 0, [(1, (LP 0 0)), (3, (I x1.1)), (4, (I x1.2.1)), (5, (Bo x1.2.2)), (6, (GV 0 y8.length)), (7, (I v2)), (8, (I v5))], [(cDv t0)], ⟨1, [(0, ⟨9, ((y8).flatMap cUb), true⟩)]⟩⟩ ∧ M_ref1_Roots_k1 (M_ref1_Roots_l1 t0 x1 n1) (M_ref1_Roots_l2 (M_ref1_Roots_l1 t0 x1 n1) t0 x1 v2 n2) t0 x1 v2 v5 y8 = some r) ?_ ?_
          · refine awp_block ?_
            refine aws ?_
            obtain ⟨x9, hx9, h⟩ := bindS h
            obtain ⟨x10, hx10, h⟩ := bindS h
            refine awp_kn [1, 3, 4, 5, 6, 7, 8, 9] 1 1 (st' := ⟨64, 0, [(1, (LP 0 0)), (3, (I x1.1)), (4, (I x1.2.1)), (5, (Bo x1.2.2)), (6, (GV 0 v6.length)), (7, (I v2)), (8, (I v5)), (9, (S x10.1))], [(cDv t0)], ⟨1, [(0, ⟨9, ((v6).flatMap cUb), true⟩)]⟩⟩) (awp_draw (T := [(Value.agg (cDv t0).toArray), (I x1.2.1), (I v2), (I x9), (I (w64 (x9 + 1))), (I v5), (I (w64 ((w64 (x9 + 1)) + v5))), (Value.tuple #[(S x10.1), (Bo x10.2)]), (Value.tuple #[(S x10.1), (Bo x10.2)]), (S x10.1), (Bo x10.2), (S x10.1), (Bo x10.2)]) (LH := [([(cDv t0)], ⟨1, [(0, ⟨9, ((v6).flatMap cUb), true⟩)]⟩)]) (D := [⟨[(1, none)], [], [0], false⟩, ⟨[(4, none)], [], [0], false⟩, ⟨[(7, none)], [], [0], false⟩, ⟨[(32, some 1), (33, some 2)], [1, 2], [0], false⟩, ⟨[(34, some 3)], [1, 2, 3], [0], false⟩, ⟨[(8, none)], [], [0], false⟩, ⟨[(35, some 4), (36, some 5)], [1, 2, 3, 4, 5], [0], false⟩, ⟨[(31, some 0), (37, some 6)], [0, 1, 2, 3, 4, 5, 6], [0], false⟩, ⟨[(38, some 7)], [0, 1, 2, 3, 4, 5, 6, 7], [0], false⟩, ⟨[(30, some 8)], [0, 1, 2, 3, 4, 5, 6, 7, 8], [0], false⟩, ⟨[(30, some 8)], [0, 1, 2, 3, 4, 5, 6, 7, 8], [0], false⟩, ⟨[(39, some 9)], [0, 1, 2, 3, 4, 5, 6, 7, 8, 9], [0], false⟩, ⟨[(40, some 10)], [0, 1, 2, 3, 4, 5, 6, 7, 8, 9, 10, 11], [0], false⟩]) (S := []) (plan := [0, 1, 2, 3, 4, 5, 6, 7, 8, 9, 10, 11, 12]) mo (by kernel_rfl) rfl rfl rfl (dcons (dst1 (Tm := [(1, (LP 0 0))]) (L := [(cDv t0)]) (H := ⟨1, [(0, ⟨9, ((v6).flatMap cUb), true⟩)]⟩) rfl rfl rfl rfl rfl (asd rfl (tx_ldLA (vs := (cDv t0)) Try.underlying29 rfl s_29 (by decide) rfl rfl rfl rfl))) (dcons (dst1 (Tm := [(4, (I x1.2.1))]) (L := [(cDv t0)]) (H := ⟨1, [(0, ⟨9, ((v6).flatMap cUb), true⟩)]⟩) rfl rfl rfl rfl rfl (asd rfl (emv (eV (v := (I x1.2.1)) rfl)))) (dcons (dst1 (Tm := [(7, (I v2))]) (L := [(cDv t0)]) (H := ⟨1, [(0, ⟨9, ((v6).flatMap cUb), true⟩)]⟩) rfl rfl rfl rfl rfl (asd rfl (emv (eV (v := (I v2)) rfl)))) (dcons (dst1 (Tm := [(32, (I x1.2.1)), (33, (I v2))]) (L := [(cDv t0)]) (H := ⟨1, [(0, ⟨9, ((v6).flatMap cUb), true⟩)]⟩) rfl rfl rfl rfl rfl (asd rfl (ex_call0 (vs := [(I x1.2.1), (I v2)]) (v := (I x9)) rfl en_11 (cargs (evs rfl (evs rfl evs_nil))) rfl (ok_ref1_At x1.2.1 v2 x9 hx9) rfl))) (dcons (dst1 (Tm := [(34, (I x9))]) (L := [(cDv t0)]) (H := ⟨1, [(0, ⟨9, ((v6).flatMap cUb), true⟩)]⟩) rfl rfl rfl rfl rfl (asd rfl (ex_bin (vx := (I x9)) (vy := (I 1)) rfl rfl addI_ok))) (dcons (dst1 (Tm := [(8, (I v5))]) (L := [(cDv t0)]) (H := ⟨1, [(0, ⟨9, ((v6).flatMap cUb), true⟩)]⟩) rfl rfl rfl rfl rfl (asd rfl (emv (eV (v := (I v5)) rfl)))) (dcons (dst1 (Tm := [(35, (I (w64 (x9 + 1)))), (36, (I v5))]) (L := [(cDv t0)]) (H := ⟨1, [(0, ⟨9, ((v6).flatMap cUb), true⟩)]⟩) rfl rfl rfl rfl rfl (asd rfl (ex_bin (vx := (I (w64 (x9 + 1)))) (vy := (I v5)) rfl rfl addI_ok))) (dcons (dst1 (Tm := [(31, (Value.agg (cDv t0).toArray)), (37, (I (w64 ((w64 (x9 + 1)) + v5))))]) (L := [(cDv t0)]) (H := ⟨1, [(0, ⟨9, ((v6).flatMap cUb), true⟩)]⟩) rfl rfl rfl rfl rfl (asd rfl (ex_call0 (vs := [(Value.agg (cDv t0).toArray), (I (w64 ((w64 (x9 + 1)) + v5)))]) (v := (Value.tuple #[(S x10.1), (Bo x10.2)])) rfl en_42 (cargs (evs rfl (evs rfl evs_nil))) rfl (ok_ref1_Read t0 (w64 ((w64 (x9 + 1)) + v5)) x10 hx10) rfl))) (dcons (dst1 (Tm := [(38, (Value.tuple #[(S x10.1), (Bo x10.2)]))]) (L := [(cDv t0)]) (H := ⟨1, [(0, ⟨9, ((v6).flatMap cUb), true⟩)]⟩) rfl rfl rfl rfl rfl (asd rfl (emv (eV (v := (Value.tuple #[(S x10.1), (Bo x10.2)])) rfl)))) (dcons (dst1 (Tm := [(30, (Value.tuple #[(S x10.1), (Bo x10.2)]))]) (L := [(cDv t0)]) (H := ⟨1, [(0, ⟨9, ((v6).flatMap cUb), true⟩)]⟩) rfl rfl rfl rfl rfl (asd rfl (ex_extract (vx := (Value.tuple #[(S x10.1), (Bo x10.2)])) (v := (S x10.1)) rfl rfl))) (dcons (dst1 (Tm := [(30, (Value.tuple #[(S x10.1), (Bo x10.2)]))]) (L := [(cDv t0)]) (H := ⟨1, [(0, ⟨9, ((v6).flatMap cUb), true⟩)]⟩) rfl rfl rfl rfl rfl (asd rfl (ex_extract (vx := (Value.tuple #[(S x10.1), (Bo x10.2)])) (v := (Bo x10.2)) rfl rfl))) (dcons (dst1 (Tm := [(39, (S x10.1))]) (L := [(cDv t0)]) (H := ⟨1, [(0, ⟨9, ((v6).flatMap cUb), true⟩)]⟩) rfl rfl rfl rfl rfl (asd rfl (eas (eV (v := (S x10.1)) rfl)))) (dcons (dst1 (Tm := [(40, (Bo x10.2))]) (L := [(cDv t0)]) (H := ⟨1, [(0, ⟨9, ((v6).flatMap cUb), true⟩)]⟩) rfl rfl rfl rfl rfl (asd rfl (eas (eV (v := (Bo x10.2)) rfl)))) dnil))))))))))))) ⟨rfl, rfl⟩) (by kernel_rfl) (by kernel_rfl) ?_
            show AWp _ _ _ _
            refine aws ?_
            refine awr ?_
            refine ado rfl rfl rfl (emv (eV (v := (S x10.1)) rfl)) ?_
            obtain ⟨x11, hx11, h⟩ := bindS h
            refine ado rfl rfl rfl (ex_call0 (vs := [(S x10.1)]) (v := (Value.tuple #[(Value.agg (cUb x11.1).toArray), (Bo x11.2)])) rfl en_49 (cargs (evs rfl evs_nil)) rfl (ok_ref1_TakeUber x10.1 x11 hx11) rfl) ?_
            refine ado rfl rfl rfl (emv (eV (v := (Value.tuple #[(Value.agg (cUb x11.1).toArray), (Bo x11.2)])) rfl)) ?_
            refine ado rfl rfl rfl (ex_extract (vx := (Value.tuple #[(Value.agg (cUb x11.1).toArray), (Bo x11.2)])) (v := (Value.agg (cUb x11.1).toArray)) rfl rfl) ?_
            refine ado rfl rfl rfl (ex_extract (vx := (Value.tuple #[(Value.agg (cUb x11.1).toArray), (Bo x11.2)])) (v := (Bo x11.2)) rfl rfl) ?_
            refine ado rfl rfl rfl (ex_alloc (k := 1) (zs := (cUb (GUb.mk 0 0 0 (GPt.mk 0 0 (A4.mk 0 0 0 0))))) (L' := [(cDv t0), (cUb (GUb.mk 0 0 0 (GPt.mk 0 0 (A4.mk 0 0 0 0))))]) z_37 rfl rfl rfl rfl) ?_
            refine arun_do0 rfl rfl (ex_storeL (vy := (Value.agg (cUb x11.1).toArray)) (cs := (cUb (GUb.mk 0 0 0 (GPt.mk 0 0 (A4.mk 0 0 0 0))))) (vs := (cUb x11.1)) (L' := [(cDv t0), (cUb x11.1)]) rfl (eV (v := (Value.agg (cUb x11.1).toArray)) rfl) rfl s_37 rfl (Nat.le_of_ble_eq_true rfl) (by kernel_rfl)) ?_
            refine ado rfl rfl rfl (eas (eV (v := (Bo x11.2)) rfl)) ?_
            refine ake [1, 3, 4, 5, 6, 7, 8, 11, 12] 2 1 (st' := ⟨64, 0, [(1, (LP 0 0)), (3, (I x1.1)), (4, (I x1.2.1)), (5, (Bo x1.2.2)), (6, (GV 0 v6.length)), (7, (I v2)), (8, (I v5)), (11, (LP 1 0)), (12, (Bo x11.2))], [(cDv t0), (cUb x11.1)], ⟨1, [(0, ⟨9, ((v6).flatMap cUb), true⟩)]⟩⟩) (by kernel_rfl) (by kernel_rfl) ?_
            show AWp _ _ _ _
            refine aws ?_
            refine aws ?_
            refine awr ?_
            refine ado rfl rfl rfl (emv (eV (v := (Bo x11.2)) rfl)) ?_
            refine ado rfl rfl rfl (ex_un (vx := (Bo x11.2)) rfl notB_ok) ?_
            refine ado rfl rfl rfl (emv (eV (v := (Bo (!x11.2))) rfl)) ?_
            refine agu (v := (LP 1 1)) ((!x11.2) == false) rfl rfl rfl (fun hc => efa (v := (LP 1 1)) Try.underlying37 rfl s_3 (by decide) rfl rfl) ?_
            refine agu (v := (I x11.1.Guid)) ((!x11.2) == false) rfl rfl rfl (fun hc => tx_ldL1 (v := (I x11.1.Guid)) Try.underlying3 rfl (cdo hc) rfl rfl) ?_
            refine agu (v := (I x1.1)) ((!x11.2) == false) rfl rfl rfl (fun hc => emv (eV (v := (I x1.1)) rfl)) ?_
            refine agu (v := (Bo (x11.1.Guid != x1.1))) ((!x11.2) == false) rfl rfl rfl (fun hc => ex_bin (vx := (I x11.1.Guid)) (vy := (I x1.1)) (cdo hc) (cdo hc) neqI_ok) ?_
            refine ado rfl rfl rfl (ex_pick rfl pkOr) ?_
            refine ado rfl rfl rfl (emv (eV (v := (Bo ((!x11.2) || (x11.1.Guid != x1.1)))) rfl)) ?_
            refine agu (v := (LP 1 2)) (((!x11.2) || (x11.1.Guid != x1.1)) == false) rfl rfl rfl (fun hc => efa (v := (LP 1 2)) Try.underlying37 rfl s_3 (by decide) rfl rfl) ?_
            refine agu (v := (I x11.1.Seat)) (((!x11.2) || (x11.1.Guid != x1.1)) == false) rfl rfl rfl (fun hc => tx_ldL1 (v := (I x11.1.Seat)) Try.underlying3 rfl (cdo hc) rfl rfl) ?_
            refine agu (v := (I v5)) (((!x11.2) || (x11.1.Guid != x1.1)) == false) rfl rfl rfl (fun hc => emv (eV (v := (I v5)) rfl)) ?_
            refine agu (v := (Bo (x11.1.Seat != v5))) (((!x11.2) || (x11.1.Guid != x1.1)) == false) rfl rfl rfl (fun hc => ex_bin (vx := (I x11.1.Seat)) (vy := (I v5)) (cdo hc) (cdo hc) neqI_ok) ?_
            refine ado rfl rfl rfl (ex_pick rfl pkOr) ?_
            refine ake [1, 3, 4, 5, 6, 7, 8, 11, 59] 2 1 (st' := ⟨64, 0, [(1, (LP 0 0)), (3, (I x1.1)), (4, (I x1.2.1)), (5, (Bo x1.2.2)), (6, (GV 0 v6.length)), (7, (I v2)), (8, (I v5)), (11, (LP 1 0)), (59, (Bo (((!x11.2) || (x11.1.Guid != x1.1)) || (x11.1.Seat != v5))))], [(cDv t0), (cUb x11.1)], ⟨1, [(0, ⟨9, ((v6).flatMap cUb), true⟩)]⟩⟩) (by kernel_rfl) (by kernel_rfl) ?_
            show AWp _ _ _ _
            rcases Bool.eq_false_or_eq_true (((!x11.2) || (x11.1.Guid != x1.1)) || (x11.1.Seat != v5)) with hb12 | hb12
            · rw [condT hb12] at h
              refine awp_condT (boT hb12) ?_
              refine awp_keepE [1, 3, 4, 5, 6, 7, 8] 1 1 (st' := ⟨64, 0, [(1, (LP 0 0)), (3, (I x1.1)), (4, (I x1.2.1)), (5, (Bo x1.2.2)), (6, (GV 0 v6.length)), (7, (I v2)), (8, (I v5))], [(cDv t0)], ⟨1, [(0, ⟨9, ((v6).flatMap cUb), true⟩)]⟩⟩) (by kernel_rfl) (by kernel_rfl) ?_
              refine awp_exit ?_
              exact (Exists.intro v6 (And.intro rfl h))
            · rw [condF hb12] at h
              refine awp_condF (boF hb12) ?_
              refine awp_skip ?_
              show AWp _ _ _ _
              refine awr ?_
              refine ado rfl rfl rfl (emv (eV (v := (GV 0 v6.length)) rfl)) ?_
              refine ado rfl rfl rfl (tx_ldLA (vs := (cUb x11.1)) Try.underlying37 rfl s_37 (by decide) rfl rfl rfl rfl) ?_
              obtain ⟨x13, hx13, h⟩ := bindS h
              refine ado rfl rfl rfl (ex_callGr (vs := [(GV 0 v6.length), (Value.agg (cUb x11.1).toArray)]) (vs' := [(GV 0 v6.length), (Value.agg (cUb x11.1).toArray)]) (n := 0) (len := x13.length) (cs := ((v6).flatMap cUb)) (cs' := ((x13).flatMap cUb)) (H' := ⟨1, [(0, ⟨9, ((x13).flatMap cUb), true⟩)]⟩) rfl en_50 (cargs (evs rfl (evs rfl evs_nil))) rfl (.cons (.inr (.inr (.inl ⟨_, rfl, rfl⟩))) (.cons (.inl ⟨rfl, rfl⟩) .nil)) (ok_ref1_fall v6 x11.1 x13 hx13) rfl) ?_
              refine ado rfl rfl rfl (eas (eV (v := (GV 0 x13.length)) rfl)) ?_
              refine ake [1, 3, 4, 5, 6, 7, 8] 1 1 (st' := ⟨64, 0, [(1, (LP 0 0)), (3, (I x1.1)), (4, (I x1.2.1)), (5, (Bo x1.2.2)), (6, (GV 0 x13.length)), (7, (I v2)), (8, (I v5))], [(cDv t0)], ⟨1, [(0, ⟨9, ((x13).flatMap cUb), true⟩)]⟩⟩) (by kernel_rfl) (by kernel_rfl) ?_
              exact (Exists.intro x13 (And.intro rfl h))
          · rintro s ⟨y8, rfl, h⟩
            unfold M_ref1_Roots_k1 at h
            refine awr ?_
            refine ado rfl rfl rfl (emv (eV (v := (I v5)) rfl)) ?_
            refine ado rfl rfl rfl (ex_bin (vx := (I v5)) (vy := (I 1)) rfl rfl addI_ok) ?_
            refine ado rfl rfl rfl (eas (eV (v := (I (w64 (v5 + 1)))) rfl)) ?_
            refine ake [1, 3, 4, 5, 6, 7, 8] 1 1 (st' := ⟨64, 0, [(1, (LP 0 0)), (3, (I x1.1)), (4, (I x1.2.1)), (5, (Bo x1.2.2)), (6, (GV 0 y8.length)), (7, (I v2)), (8, (I (w64 (v5 + 1))))], [(cDv t0)], ⟨1, [(0, ⟨9, ((y8).flatMap cUb), true⟩)]⟩⟩) (by kernel_rfl) (by kernel_rfl) ?_
            exact Exists.intro n2 (And.intro (Nat.lt_succ_self _) (Exists.intro (w64 (v5 + 1)) (Exists.intro y8 (And.intro rfl h))))
        · rw [condF hb7] at h
          refine awp_condF (boF hb7) ?_
          refine awp_exit ?_
          show AWp _ _ _ _
          refine awr ?_
          refine ado rfl rfl rfl (emv (eV (v := (I v2)) rfl)) ?_
          refine ado rfl rfl rfl (ex_bin (vx := (I v2)) (vy := (I 1)) rfl rfl addI_ok) ?_
          refine ado rfl rfl rfl (eas (eV (v := (I (w64 (v2 + 1)))) rfl)) ?_
          refine ake [1, 3, 4, 5, 6, 7] 1 1 (st' := ⟨64, 0, [(1, (LP 0 0)), (3, (I x1.1)), (4, (I x1.2.1)), (5, (Bo x1.2.2)), (6, (GV 0 v6.length)), (7, (I (w64 (v2 + 1))))], [(cDv t0)], ⟨1, [(0, ⟨9, ((v6).flatMap cUb), true⟩)]⟩⟩) (by kernel_rfl) (by kernel_rfl) ?_
          exact Exists.intro n1 (And.intro (Nat.lt_succ_self _) (Exists.intro (w64 (v2 + 1)) (Exists.intro v6 (And.intro rfl h))))
    · rw [condF hb4] at h
      refine awp_condF (boF hb4) ?_
      refine awp_exit ?_
      show AWp _ _ _ _
      refine aws ?_
      refine awr ?_
      refine ado rfl rfl rfl (emv (eV (v := (GV 0 v3.length)) rfl)) ?_
      refine ado rfl rfl rfl (eas (eV (v := (GV 0 v3.length)) rfl)) ?_
      refine ake [2] 0 1 (st' := ⟨64, 0, [(2, (GV 0 v3.length))], [], ⟨1, [(0, ⟨9, ((v3).flatMap cUb), true⟩)]⟩⟩) (by kernel_rfl) (by kernel_rfl) ?_
      show AWp _ _ _ _
      refine awp_freeze 0 (bk := ⟨9, ((v3).flatMap cUb), true⟩) (T' := [(2, (SL 9 cUb v3))]) (L' := []) rfl (fzG ce_api_Uber rfl rfl FzT.nil) (FzL.refl _) ?_
      show AWp _ _ _ ⟨64, 0, [(2, (SL 9 cUb v3))], [], ⟨1, []⟩⟩
      refine awp_ret ?_
      cases h
      exact ares1 (rtmp rfl (eV rfl))

noncomputable def M_ref1_SameUbers_l1 (t0 : (List GUb)) (t1 : (List GUb)) : Nat → Int → Option Bool
  | 0, _ => none
  | n1 + 1, v2 =>
  cond (decide (v2 < (t0.length : Int))) (Option.bind (getI t0 v2) fun (x4 : GUb) => Option.bind (getI t1 v2) fun (x5 : GUb) => cond (!decide (x4 = x5)) (some false) ((M_ref1_SameUbers_l1 t0 t1 n1) (w64 (v2 + 1)))) (some true)
noncomputable def M_ref1_SameUbers (t0 : (List GUb)) (t1 : (List GUb)) : Option Bool :=
  cond ((t0.length : Int) != (t1.length : Int)) (some false) (M_ref1_SameUbers_l1 t0 t1 fuel 0)
theorem ok_ref1_SameUbers (t0 : (List GUb)) (t1 : (List GUb)) (r : Bool) (h : M_ref1_SameUbers t0 t1 = some r) : FFn Try.prog 26 [(SL 9 cUb t0), (SL 9 cUb t1)] (Bo r) := by
  refine FFn.of_body (n := 26) Try.func26 rfl Try.ntmps26 rfl rfl rfl rfl ?_
  show AWp _ _ _ ⟨26, 0, [(0, (SL 9 cUb t0)), (1, (SL 9 cUb t1))], [], ⟨0, []⟩⟩
  unfold M_ref1_SameUbers at h
  refine aws ?_
  refine awr ?_
  refine ado rfl rfl rfl (eas (eV (v := (Bo false)) rfl)) ?_
  refine ake [0, 1] 0 0 (st' := ⟨26, 0, [(0, (SL 9 cUb t0)), (1, (SL 9 cUb t1))], [], ⟨0, []⟩⟩) (by kernel_rfl) (by kernel_rfl) ?_
  show AWp _ _ _ _
  refine aws ?_
  refine aws ?_
  refine awr ?_
  refine ado rfl rfl rfl (emv (eV (v := (SL 9 cUb t0)) rfl)) ?_
  refine ado rfl rfl rfl (tx_lenD (xs := t0) ce_api_Uber Try.underlying54 rfl) ?_
  refine ado rfl rfl rfl (emv (eV (v := (SL 9 cUb t1)) rfl)) ?_
  refine ado rfl rfl rfl (tx_lenD (xs := t1) ce_api_Uber Try.underlying54 rfl) ?_
  refine ado rfl rfl rfl (ex_bin (vx := (I (t0.length : Int))) (vy := (I (t1.length : Int))) rfl rfl neqI_ok) ?_
  refine ake [0, 1, 10] 0 0 (st' := ⟨26, 0, [(0, (SL 9 cUb t0)), (1, (SL 9 cUb t1)), (10, (Bo ((t0.length : Int) != (t1.length : Int))))], [], ⟨0, []⟩⟩) (by kernel_rfl) (by kernel_rfl) ?_
  show AWp _ _ _ _
  rcases Bool.eq_false_or_eq_true ((t0.length : Int) != (t1.length : Int)) with hb1 | hb1
  · rw [condT hb1] at h
    refine awp_condT (boT hb1) ?_
    refine aws ?_
    refine awr ?_
    refine ado rfl rfl rfl (eas (eV (v := (Bo false)) rfl)) ?_
    refine ake [4] 0 0 (st' := ⟨26, 0, [(4, (Bo false))], [], ⟨0, []⟩⟩) (by kernel_rfl) (by kernel_rfl) ?_
    show AWp _ _ _ _
    refine awp_ret ?_
    cases h
    exact ares1 (rtmp rfl (eV rfl))
  · rw [condF hb1] at h
    refine awp_condF (boF hb1) ?_
    refine awp_skip ?_
    show AWp _ _ _ _
    refine aws ?_
    refine aws ?_
    refine awr ?_
    refine ado rfl rfl rfl (eas (eV (v := (I 0)) rfl)) ?_
    refine ake [0, 1, 5] 0 0 (st' := ⟨26, 0, [(0, (SL 9 cUb t0)), (1, (SL 9 cUb t1)), (5, (I 0))], [], ⟨0, []⟩⟩) (by kernel_rfl) (by kernel_rfl) ?_
    show AWp _ _ _ _
    refine awp_block ?_
    refine awp_loop (fun n s => ∃ (v2 : Int), s = ⟨26, 0, [(0, (SL 9 cUb t0)), (1, (SL 9 cUb t1)), (5, (I v2))], [], ⟨0, []⟩⟩ ∧ M_ref1_SameUbers_l1 t0 t1 n v2 = some r) fuel (Exists.intro 0 (And.intro rfl h)) ?_
    rintro n s ⟨v2, rfl, h⟩ -
    cases n with
    | zero => cases h
    | succ n1 =>
      unfold M_ref1_SameUbers_l1 at h
      refine aws ?_
      refine aws ?_
      refine awr ?_
      refine ado rfl rfl rfl (emv (eV (v := (I v2)) rfl)) ?_
      refine ado rfl rfl rfl (emv (eV (v := (SL 9 cUb t0)) rfl)) ?_
      refine ado rfl rfl rfl (tx_lenD (xs := t0) ce_api_Uber Try.underlying54 rfl) ?_
      refine ado rfl rfl rfl (ex_bin (vx := (I v2)) (vy := (I (t0.length : Int))) rfl rfl lssI_ok) ?_
      refine ake [0, 1, 5, 14] 0 0 (st' := ⟨26, 0, [(0, (SL 9 cUb t0)), (1, (SL 9 cUb t1)), (5, (I v2)), (14, (Bo (decide (v2 < (t0.length : Int)))))], [], ⟨0, []⟩⟩) (by kernel_rfl) (by kernel_rfl) ?_
      show AWp _ _ _ _
      rcases Bool.eq_false_or_eq_true (decide (v2 < (t0.length : Int))) with hb3 | hb3
      · rw [condT hb3] at h
        refine awp_condT (boT hb3) ?_
        refine awp_skip ?_
        show AWp _ _ _ _
        refine aws ?_
        refine awp_block ?_
        refine aws ?_
        obtain ⟨x4, hx4, h⟩ := bindS h
        obtain ⟨x5, hx5, h⟩ := bindS h
        refine awp_kn [0, 1, 5, 25] 0 0 (st' := ⟨26, 0, [(0, (SL 9 cUb t0)), (1, (SL 9 cUb t1)), (5, (I v2)), (25, (Bo (!decide (x4 = x5))))], [], ⟨0, []⟩⟩) (awp_draw (T := [(SL 9 cUb t0), (I v2), (DP (cUb x4)), (Value.agg (cUb x4).toArray), (SL 9 cUb t1), (I v2), (DP (cUb x5)), (Value.agg (cUb x5).toArray), (Bo (!decide (x4 = x5)))]) (LH := [([], ⟨0, []⟩)]) (D := [⟨[(0, none)], [], [0], false⟩, ⟨[(5, none)], [], [0], false⟩, ⟨[(17, some 0), (18, some 1)], [0, 1], [0], false⟩, ⟨[(19, some 2)], [0, 1, 2], [0], false⟩, ⟨[(1, none)], [], [0], false⟩, ⟨[(5, none)], [], [0], false⟩, ⟨[(21, some 4), (22, some 5)], [4, 5], [0], false⟩, ⟨[(23, some 6)], [4, 5, 6], [0], false⟩, ⟨[(20, some 3), (24, some 7)], [0, 1, 2, 3, 4, 5, 6, 7], [0], false⟩]) (S := []) (plan := [0, 1, 2, 3, 4, 5, 6, 7, 8]) mo (by kernel_rfl) rfl rfl rfl (dcons (dst1 (Tm := [(0, (SL 9 cUb t0))]) (L := []) (H := ⟨0, []⟩) rfl rfl rfl rfl rfl (asd rfl (emv (eV (v := (SL 9 cUb t0)) rfl)))) (dcons (dst1 (Tm := [(5, (I v2))]) (L := []) (H := ⟨0, []⟩) rfl rfl rfl rfl rfl (asd rfl (emv (eV (v := (I v2)) rfl)))) (dcons (dst1 (Tm := [(17, (SL 9 cUb t0)), (18, (I v2))]) (L := []) (H := ⟨0, []⟩) rfl rfl rfl rfl rfl (asd rfl (tx_idxD (c := cUb) (xs := t0) (i := v2) ce_api_Uber Try.underlying54 s_37 rfl rfl hx4))) (dcons (dst1 (Tm := [(19, (DP (cUb x4)))]) (L := []) (H := ⟨0, []⟩) rfl rfl rfl rfl rfl (asd rfl (tx_ldDA (vs := (cUb x4)) Try.underlying37 rfl s_37 (by decide) rfl (Nat.le_of_ble_eq_true rfl) rfl))) (dcons (dst1 (Tm := [(1, (SL 9 cUb t1))]) (L := []) (H := ⟨0, []⟩) rfl rfl rfl rfl rfl (asd rfl (emv (eV (v := (SL 9 cUb t1)) rfl)))) (dcons (dst1 (Tm := [(5, (I v2))]) (L := []) (H := ⟨0, []⟩) rfl rfl rfl rfl rfl (asd rfl (emv (eV (v := (I v2)) rfl)))) (dcons (dst1 (Tm := [(21, (SL 9 cUb t1)), (22, (I v2))]) (L := []) (H := ⟨0, []⟩) rfl rfl rfl rfl rfl (asd rfl (tx_idxD (c := cUb) (xs := t1) (i := v2) ce_api_Uber Try.underlying54 s_37 rfl rfl hx5))) (dcons (dst1 (Tm := [(23, (DP (cUb x5)))]) (L := []) (H := ⟨0, []⟩) rfl rfl rfl rfl rfl (asd rfl (tx_ldDA (vs := (cUb x5)) Try.underlying37 rfl s_37 (by decide) rfl (Nat.le_of_ble_eq_true rfl) rfl))) (dcons (dst1 (Tm := [(20, (Value.agg (cUb x4).toArray)), (24, (Value.agg (cUb x5).toArray))]) (L := []) (H := ⟨0, []⟩) rfl rfl rfl rfl rfl (asd rfl (ex_bin (vx := (Value.agg (cUb x4).toArray)) (vy := (Value.agg (cUb x5).toArray)) rfl rfl neq_37))) dnil))))))))) ⟨rfl, rfl⟩) (by kernel_rfl) (by kernel_rfl) ?_
        show AWp _ _ _ _
        rcases Bool.eq_false_or_eq_true (!decide (x4 = x5)) with hb6 | hb6
        · rw [condT hb6] at h
          refine awp_condT (boT hb6) ?_
          refine aws ?_
          refine awr ?_
          refine ado rfl rfl rfl (eas (eV (v := (Bo false)) rfl)) ?_
          refine ake [4] 0 0 (st' := ⟨26, 0, [(4, (Bo false))], [], ⟨0, []⟩⟩) (by kernel_rfl) (by kernel_rfl) ?_
          show AWp _ _ _ _
          refine awp_ret ?_
          cases h
          exact ares1 (rtmp rfl (eV rfl))
        · rw [condF hb6] at h
          refine awp_condF (boF hb6) ?_
          refine awp_skip ?_
          show AWp _ _ _ _
          refine awr ?_
          refine ado rfl rfl rfl (emv (eV (v := (I v2)) rfl)) ?_
          refine ado rfl rfl rfl (ex_bin (vx := (I v2)) (vy := (I 1)) rfl rfl addI_ok) ?_
          refine ado rfl rfl rfl (eas (eV (v := (I (w64 (v2 + 1)))) rfl)) ?_
          refine ake [0, 1, 5] 0 0 (st' := ⟨26, 0, [(0, (SL 9 cUb t0)), (1, (SL 9 cUb t1)), (5, (I (w64 (v2 + 1))))], [], ⟨0, []⟩⟩) (by kernel_rfl) (by kernel_rfl) ?_
          exact Exists.intro n1 (And.intro (Nat.lt_succ_self _) (Exists.intro (w64 (v2 + 1)) (And.intro rfl h)))
      · rw [condF hb3] at h
        refine awp_condF (boF hb3) ?_
        refine awp_exit ?_
        show AWp _ _ _ _
        refine aws ?_
        refine awr ?_
        refine ado rfl rfl rfl (eas (eV (v := (Bo true)) rfl)) ?_
        refine ake [4] 0 0 (st' := ⟨26, 0, [(4, (Bo true))], [], ⟨0, []⟩⟩) (by kernel_rfl) (by kernel_rfl) ?_
        show AWp _ _ _ _
        refine awp_ret ?_
        cases h
        exact ares1 (rtmp rfl (eV rfl))

end Go.Proofs
