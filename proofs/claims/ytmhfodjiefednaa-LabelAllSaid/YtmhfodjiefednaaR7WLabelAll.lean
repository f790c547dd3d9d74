/- Pure models of functions of the program, and that its code does what they say: palimplaw7 LabelAll. Written by a program. -/
import Derived.Test.YtmhfodjiefednaaR70
import Derived.Test.YtmhfodjiefednaaR710
import Derived.Test.YtmhfodjiefednaaR711
import Derived.Test.YtmhfodjiefednaaR712
import Derived.Test.YtmhfodjiefednaaR713
import Derived.Test.YtmhfodjiefednaaR714
import Derived.Test.YtmhfodjiefednaaR716
import Derived.Test.YtmhfodjiefednaaR718
import Derived.Test.YtmhfodjiefednaaR73
import Derived.Test.YtmhfodjiefednaaR74
import Derived.Test.YtmhfodjiefednaaR75
import Derived.Test.YtmhfodjiefednaaR77
import Derived.Test.YtmhfodjiefednaaR7B
set_option maxRecDepth 20000
set_option maxHeartbeats 4000000
namespace Go.Proofs
open Go Go.Fhl
set_option linter.unusedVariables false
set_option linter.unusedSimpArgs false
noncomputable def M_law7_LabelAll_k1 (c_1 : (Int → Option Bool)) (c_2 : (Int → GDv → Option Bool)) (t0 : Int) (t3 : (List (A4 UInt8))) (t4 : UInt8) (t5 : UInt8) (t6 : UInt8) (x22 : UInt8) (v24 : Int) (y27 : GDv) : Option Bool :=
  c_2 (w64 (v24 + 1)) y27
noncomputable def M_law7_LabelAll_k2 (c_1 : (Int → Option Bool)) (c_2 : (Int → GDv → Option Bool)) (t0 : Int) (t3 : (List (A4 UInt8))) (t4 : UInt8) (t5 : UInt8) (t6 : UInt8) (x22 : UInt8) (v24 : Int) (v25 : GDv) (y40 : (List GPu)) : Option Bool :=
  Option.bind (M_ref1_Write v25 y40) fun (x56 : (GDv × Bool)) => M_law7_LabelAll_k1 c_1 c_2 t0 t3 t4 t5 t6 x22 v24 x56.1
noncomputable def M_law7_LabelAll_l3 (c_1 : (Int → Option Bool)) (c_2 : (Int → GDv → Option Bool)) (x57 : (GDv × Bool)) (x59 : GDv) (x60 : GDv) : Nat → Int → Option Bool
  | 0, _ => none
  | n3 + 1, v61 =>
  cond (decide (v61 < (([x57.1, x59, (GDv.mk [] [] 0 0 false), x60] : List GDv).length : Int))) (Option.bind (getI ([x57.1, x59, (GDv.mk [] [] 0 0 false), x60] : List GDv) v61) fun (x63 : GDv) => Option.bind (M_label_Found x63) fun (x64 : (Int × Int × Bool)) => Option.bind (getI ([x57.1, x59, (GDv.mk [] [] 0 0 false), x60] : List GDv) v61) fun (x65 : GDv) => Option.bind (M_ref1_Found x65) fun (x66 : (Int × Int × Bool)) => Option.bind (gd ((((x64.1 != x66.1) || (x64.2.1 != x66.2.1)) || (x64.2.2 != x66.2.2)) == false) (getI ([x57.1, x59, (GDv.mk [] [] 0 0 false), x60] : List GDv) v61)) fun (x67 : GDv) => Option.bind (gd ((((x64.1 != x66.1) || (x64.2.1 != x66.2.1)) || (x64.2.2 != x66.2.2)) == false) (M_label_Roots x67)) fun (x68 : (List GUb)) => Option.bind (gd ((((x64.1 != x66.1) || (x64.2.1 != x66.2.1)) || (x64.2.2 != x66.2.2)) == false) (getI ([x57.1, x59, (GDv.mk [] [] 0 0 false), x60] : List GDv) v61)) fun (x69 : GDv) => Option.bind (gd ((((x64.1 != x66.1) || (x64.2.1 != x66.2.1)) || (x64.2.2 != x66.2.2)) == false) (M_ref1_Roots x69)) fun (x70 : (List GUb)) => Option.bind (gd ((((x64.1 != x66.1) || (x64.2.1 != x66.2.1)) || (x64.2.2 != x66.2.2)) == false) (M_ref1_SameUbers x68 x70)) fun (x71 : Bool) => cond ((((x64.1 != x66.1) || (x64.2.1 != x66.2.1)) || (x64.2.2 != x66.2.2)) || (!x71)) (some false) ((M_law7_LabelAll_l3 c_1 c_2 x57 x59 x60 n3) (w64 (v61 + 1)))) (some true)
noncomputable def M_law7_LabelAll_l2 (c_1 : (Int → Option Bool)) (t0 : Int) (t3 : (List (A4 UInt8))) (t4 : UInt8) (t5 : UInt8) (t6 : UInt8) (x22 : UInt8) : Nat → Int → GDv → Option Bool
  | 0, _, _ => none
  | n2 + 1, v24, v25 =>
  cond (decide (v24 < (t3.length : Int))) (Option.bind (getI t3 v24) fun (x28 : (A4 UInt8)) => Option.bind (M_law7_uberOf x28) fun (x29 : GUb) => Option.bind (getI t3 v24) fun (x30 : (A4 UInt8)) => Option.bind (rem8 x30.x3 4) fun (x31 : UInt8) => Option.bind (M_label_Phase t0 x29 (w64 ((x31.toNat : Int) - 1))) fun (x32 : (List GPu)) => Option.bind (M_ref1_Phase t0 x29 (w64 ((x31.toNat : Int) - 1))) fun (x33 : (List GPu)) => Option.bind (M_ref1_SamePuts x32 x33) fun (x34 : Bool) => Option.bind (gd ((!x34) == false) (M_label_Phase (w64 ((w64 (60 + (x22.toNat : Int))) - 28)) x29 (w64 ((x31.toNat : Int) - 1)))) fun (x35 : (List GPu)) => Option.bind (gd ((!x34) == false) (M_ref1_Phase (w64 ((w64 (60 + (x22.toNat : Int))) - 28)) x29 (w64 ((x31.toNat : Int) - 1)))) fun (x36 : (List GPu)) => Option.bind (gd ((!x34) == false) (M_ref1_SamePuts x35 x36)) fun (x37 : Bool) => cond ((!x34) || (!x37)) (some false) (Option.bind (M_ref1_Phase (w64 ((w64 (60 + (x22.toNat : Int))) - 28)) x29 (w64 ((x31.toNat : Int) - 1))) fun (x39 : (List GPu)) => Option.bind (getI t3 v24) fun (x41 : (A4 UInt8)) => Option.bind (quo8 x41.x3 32) fun (x42 : UInt8) => cond (x42 == 0) (Option.bind (getI t3 v24) fun (x44 : (A4 UInt8)) => Option.bind (rem8 x44.x2 4) fun (x45 : UInt8) => Option.bind (M_ref1_At (w64 ((w64 (60 + (x22.toNat : Int))) - 28)) (x45.toNat : Int)) fun (x46 : Int) => Option.bind (getI t3 v24) fun (x47 : (A4 UInt8)) => Option.bind (quo8 x47.x1 128) fun (x48 : UInt8) => Option.bind (getI t3 v24) fun (x49 : (A4 UInt8)) => Option.bind (quo8 x49.x0 200) fun (x50 : UInt8) => Option.bind (M_ref1_Config (w64 (7 + (x48.toNat : Int))) (w64 ((w64 ((w64 (60 + (x22.toNat : Int))) - 28)) + (x50.toNat : Int)))) fun (x51 : Str) => M_law7_LabelAll_k2 c_1 (M_law7_LabelAll_l2 c_1 t0 t3 t4 t5 t6 x22 n2) t0 t3 t4 t5 t6 x22 v24 v25 ([(GPu.mk x46 x51)] : List GPu)) (cond (x42 == 1) (Option.bind (getI t3 v24) fun (x53 : (A4 UInt8)) => Option.bind (remI (x53.x2.toNat : Int) (w64 (60 + (x22.toNat : Int)))) fun (x54 : Int) => Option.bind (M_ref1_PutUber x29) fun (x55 : Str) => M_law7_LabelAll_k2 c_1 (M_law7_LabelAll_l2 c_1 t0 t3 t4 t5 t6 x22 n2) t0 t3 t4 t5 t6 x22 v24 v25 ([(GPu.mk x54 x55)] : List GPu)) (M_law7_LabelAll_k2 c_1 (M_law7_LabelAll_l2 c_1 t0 t3 t4 t5 t6 x22 n2) t0 t3 t4 t5 t6 x22 v24 v25 x39)))) (Option.bind (M_ref1_Flush v25) fun (x57 : (GDv × Bool)) => Option.bind (remI (t4.toNat : Int) (w64 (60 + (x22.toNat : Int)))) fun (x58 : Int) => Option.bind (M_ref1_Turn x57.1 x58 (t5.toNat : Int) (t6.toNat : Int)) fun (x59 : GDv) => Option.bind (M_ref1_New 300) fun (x60 : GDv) => M_law7_LabelAll_l3 c_1 (M_law7_LabelAll_l2 c_1 t0 t3 t4 t5 t6 x22 n2) x57 x59 x60 fuel 0)
noncomputable def M_law7_LabelAll_l1 (t0 : Int) (t1 : Int) (t2 : Int) (t3 : (List (A4 UInt8))) (t4 : UInt8) (t5 : UInt8) (t6 : UInt8) (t7 : UInt8) : Nat → Int → Option Bool
  | 0, _ => none
  | n1 + 1, v4 =>
  cond (decide (v4 < 5)) (Option.bind (M_label_At t0 v4) fun (x6 : Int) => Option.bind (M_ref1_At t0 v4) fun (x7 : Int) => Option.bind (gd ((x6 != x7) == false) (rem8 t7 201)) fun (x8 : UInt8) => Option.bind (gd ((x6 != x7) == false) (M_label_At (w64 (40 + (x8.toNat : Int))) v4)) fun (x9 : Int) => Option.bind (gd ((x6 != x7) == false) (rem8 t7 201)) fun (x10 : UInt8) => Option.bind (gd ((x6 != x7) == false) (M_ref1_At (w64 (40 + (x10.toNat : Int))) v4)) fun (x11 : Int) => Option.bind (gd (((x6 != x7) || (x9 != x11)) == false) (M_label_Slot t0 v4 t2)) fun (x12 : Int) => Option.bind (gd (((x6 != x7) || (x9 != x11)) == false) (M_ref1_Slot t0 v4 t2)) fun (x13 : Int) => Option.bind (gd ((((x6 != x7) || (x9 != x11)) || (x12 != x13)) == false) (rem8 t6 7)) fun (x14 : UInt8) => Option.bind (gd ((((x6 != x7) || (x9 != x11)) || (x12 != x13)) == false) (M_label_Slot 60 v4 (x14.toNat : Int))) fun (x15 : Int) => Option.bind (gd ((((x6 != x7) || (x9 != x11)) || (x12 != x13)) == false) (rem8 t6 7)) fun (x16 : UInt8) => Option.bind (gd ((((x6 != x7) || (x9 != x11)) || (x12 != x13)) == false) (M_ref1_Slot 60 v4 (x16.toNat : Int))) fun (x17 : Int) => cond ((((x6 != x7) || (x9 != x11)) || (x12 != x13)) || (x15 != x17)) (some false) ((M_law7_LabelAll_l1 t0 t1 t2 t3 t4 t5 t6 t7 n1) (w64 (v4 + 1)))) (Option.bind (M_label_At t0 t1) fun (x19 : Int) => Option.bind (M_ref1_At t0 t1) fun (x20 : Int) => cond (x19 != x20) (some false) (Option.bind (rem8 t7 20) fun (x22 : UInt8) => Option.bind (M_ref1_New (w64 (60 + (x22.toNat : Int)))) fun (x23 : GDv) => M_law7_LabelAll_l2 (M_law7_LabelAll_l1 t0 t1 t2 t3 t4 t5 t6 t7 n1) t0 t3 t4 t5 t6 x22 fuel 0 x23))
noncomputable def M_law7_LabelAll (t0 : Int) (t1 : Int) (t2 : Int) (t3 : (List (A4 UInt8))) (t4 : UInt8) (t5 : UInt8) (t6 : UInt8) (t7 : UInt8) : Option Bool :=
  Option.bind (M_law7_begun) fun (x1 : Bool) => cond (!x1) (some false) (cond (decide ((t3.length : Int) > 20)) (some true) (M_law7_LabelAll_l1 t0 t1 t2 t3 t4 t5 t6 t7 fuel (-1)))
theorem ok_law7_LabelAll (t0 : Int) (t1 : Int) (t2 : Int) (t3 : (List (A4 UInt8))) (t4 : UInt8) (t5 : UInt8) (t6 : UInt8) (t7 : UInt8) (r : Bool) (h : M_law7_LabelAll t0 t1 t2 t3 t4 t5 t6 t7 = some r) : FFn Try.prog 3 [(I t0), (I t1), (I t2), (SL 4 (cA4 c8) t3), (U8 t4), (U8 t5), (U8 t6), (U8 t7)] (Bo r) := by
  refine FFn.of_body (n := 277) Try.func3 rfl Try.ntmps3 rfl rfl rfl rfl ?_
  show AWp _ _ _ ⟨277, 0, [(0, (I t0)), (1, (I t1)), (2, (I t2)), (3, (SL 4 (cA4 c8) t3)), (4, (U8 t4)), (5, (U8 t5)), (6, (U8 t6)), (7, (U8 t7))], [], ⟨0, []⟩⟩
  unfold M_law7_LabelAll at h
  refine aws ?_
  refine awr ?_
  refine ado rfl rfl rfl (eas (eV (v := (Bo false)) rfl)) ?_
  refine ake [0, 1, 2, 3, 4, 5, 6, 7] 0 0 (st' := ⟨277, 0, [(0, (I t0)), (1, (I t1)), (2, (I t2)), (3, (SL 4 (cA4 c8) t3)), (4, (U8 t4)), (5, (U8 t5)), (6, (U8 t6)), (7, (U8 t7))], [], ⟨0, []⟩⟩) (by kernel_rfl) (by kernel_rfl) ?_
  show AWp _ _ _ _
  refine aws ?_
  refine aws ?_
  refine awr ?_
  obtain ⟨x1, hx1, h⟩ := bindS h
  refine ado rfl rfl rfl (ex_call0 (vs := []) (v := (Bo x1)) rfl en_9 (cargs evs_nil) rfl (ok_law7_begun  x1 hx1) rfl) ?_
  refine ado rfl rfl rfl (ex_un (vx := (Bo x1)) rfl notB_ok) ?_
  refine ake [0, 1, 2, 3, 4, 5, 6, 7, 33] 0 0 (st' := ⟨277, 0, [(0, (I t0)), (1, (I t1)), (2, (I t2)), (3, (SL 4 (cA4 c8) t3)), (4, (U8 t4)), (5, (U8 t5)), (6, (U8 t6)), (7, (U8 t7)), (33, (Bo (!x1)))], [], ⟨0, []⟩⟩) (by kernel_rfl) (by kernel_rfl) ?_
  show AWp _ _ _ _
  rcases Bool.eq_false_or_eq_true (!x1) with hb2 | hb2
  · rw [condT hb2] at h
    refine awp_condT (boT hb2) ?_
    refine aws ?_
    refine awr ?_
    refine ado rfl rfl rfl (eas (eV (v := (Bo false)) rfl)) ?_
    refine ake [16] 0 0 (st' := ⟨277, 0, [(16, (Bo false))], [], ⟨0, []⟩⟩) (by kernel_rfl) (by kernel_rfl) ?_
    show AWp _ _ _ _
    refine awp_ret ?_
    cases h
    exact ares1 (rtmp rfl (eV rfl))
  · rw [condF hb2] at h
    refine awp_condF (boF hb2) ?_
    refine awp_skip ?_
    show AWp _ _ _ _
    refine aws ?_
    refine aws ?_
    refine awr ?_
    refine ado rfl rfl rfl (emv (eV (v := (SL 4 (cA4 c8) t3)) rfl)) ?_
    refine ado rfl rfl rfl (tx_lenD (xs := t3) (ceA4 ce8) Try.underlying22 rfl) ?_
    refine ado rfl rfl rfl (ex_bin (vx := (I (t3.length : Int))) (vy := (I 20)) rfl rfl gtrI_ok) ?_
    refine ake [0, 1, 2, 3, 4, 5, 6, 7, 36] 0 0 (st' := ⟨277, 0, [(0, (I t0)), (1, (I t1)), (2, (I t2)), (3, (SL 4 (cA4 c8) t3)), (4, (U8 t4)), (5, (U8 t5)), (6, (U8 t6)), (7, (U8 t7)), (36, (Bo (decide ((t3.length : Int) > 20))))], [], ⟨0, []⟩⟩) (by kernel_rfl) (by kernel_rfl) ?_
    show AWp _ _ _ _
    rcases Bool.eq_false_or_eq_true (decide ((t3.length : Int) > 20)) with hb3 | hb3
    · rw [condT hb3] at h
      refine awp_condT (boT hb3) ?_
      refine aws ?_
      refine awr ?_
      refine ado rfl rfl rfl (eas (eV (v := (Bo true)) rfl)) ?_
      refine ake [16] 0 0 (st' := ⟨277, 0, [(16, (Bo true))], [], ⟨0, []⟩⟩) (by kernel_rfl) (by kernel_rfl) ?_
      show AWp _ _ _ _
      refine awp_ret ?_
      cases h
      exact ares1 (rtmp rfl (eV rfl))
    · rw [condF hb3] at h
      refine awp_condF (boF hb3) ?_
      refine awp_skip ?_
      show AWp _ _ _ _
      refine aws ?_
      refine aws ?_
      refine awr ?_
      refine ado rfl rfl rfl (eas (eV (v := (I (-1))) rfl)) ?_
      refine ake [0, 1, 2, 3, 4, 5, 6, 7, 17] 0 0 (st' := ⟨277, 0, [(0, (I t0)), (1, (I t1)), (2, (I t2)), (3, (SL 4 (cA4 c8) t3)), (4, (U8 t4)), (5, (U8 t5)), (6, (U8 t6)), (7, (U8 t7)), (17, (I (-1)))], [], ⟨0, []⟩⟩) (by kernel_rfl) (by kernel_rfl) ?_
      show AWp _ _ _ _
      refine awp_block ?_
      refine awp_loop (fun n s => ∃ (v4 : Int), s = ⟨277, 0, [(0, (I t0)), (1, (I t1)), (2, (I t2)), (3, (SL 4 (cA4 c8) t3)), (4, (U8 t4)), (5, (U8 t5)), (6, (U8 t6)), (7, (U8 t7)), (17, (I v4))], [], ⟨0, []⟩⟩ ∧ M_law7_LabelAll_l1 t0 t1 t2 t3 t4 t5 t6 t7 n v4 = some r) fuel (Exists.intro (-1) (And.intro rfl h)) ?_
      rintro n s ⟨v4, rfl, h⟩ -
      cases n with
      | zero => cases h
      | succ n1 =>
        unfold M_law7_LabelAll_l1 at h
        refine aws ?_
        refine aws ?_
        refine awr ?_
        refine ado rfl rfl rfl (emv (eV (v := (I v4)) rfl)) ?_
        refine ado rfl rfl rfl (ex_bin (vx := (I v4)) (vy := (I 5)) rfl rfl lssI_ok) ?_
        refine ake [0, 1, 2, 3, 4, 5, 6, 7, 17, 38] 0 0 (st' := ⟨277, 0, [(0, (I t0)), (1, (I t1)), (2, (I t2)), (3, (SL 4 (cA4 c8) t3)), (4, (U8 t4)), (5, (U8 t5)), (6, (U8 t6)), (7, (U8 t7)), (17, (I v4)), (38, (Bo (decide (v4 < 5))))], [], ⟨0, []⟩⟩) (by kernel_rfl) (by kernel_rfl) ?_
        show AWp _ _ _ _
        rcases Bool.eq_false_or_eq_true (decide (v4 < 5)) with hb5 | hb5
        · rw [condT hb5] at h
          refine awp_condT (boT hb5) ?_
          refine awp_skip ?_
          show AWp _ _ _ _
          refine aws ?_
          refine awp_block ?_
          refine aws ?_
          refine awr ?_
          refine ado rfl rfl rfl (emv (eV (v := (I t0)) rfl)) ?_
          refine ado rfl rfl rfl (emv (eV (v := (I v4)) rfl)) ?_
          obtain ⟨x6, hx6, h⟩ := bindS h
          refine ado rfl rfl rfl (ex_call0 (vs := [(I t0), (I v4)]) (v := (I x6)) rfl en_10 (cargs (evs rfl (evs rfl evs_nil))) rfl (ok_label_At t0 v4 x6 hx6) rfl) ?_
          refine ado rfl rfl rfl (emv (eV (v := (I t0)) rfl)) ?_
          refine ado rfl rfl rfl (emv (eV (v := (I v4)) rfl)) ?_
          obtain ⟨x7, hx7, h⟩ := bindS h
          refine ado rfl rfl rfl (ex_call0 (vs := [(I t0), (I v4)]) (v := (I x7)) rfl en_11 (cargs (evs rfl (evs rfl evs_nil))) rfl (ok_ref1_At t0 v4 x7 hx7) rfl) ?_
          refine ado rfl rfl rfl (ex_bin (vx := (I x6)) (vy := (I x7)) rfl rfl neqI_ok) ?_
          refine ado rfl rfl rfl (emv (eV (v := (Bo (x6 != x7))) rfl)) ?_
          refine agu (v := (U8 t7)) ((x6 != x7) == false) rfl rfl rfl (fun hc => emv (eV (v := (U8 t7)) rfl)) ?_
          obtain ⟨x8, hx8, h⟩ := bindS h
          refine agu (v := (U8 x8)) ((x6 != x7) == false) rfl rfl rfl (fun hc => ex_bin (vx := (U8 t7)) (vy := (U8 201)) (cdo hc) rfl (rem8_ok (gd_of hc hx8))) ?_
          refine agu (v := (I (x8.toNat : Int))) ((x6 != x7) == false) rfl rfl rfl (fun hc => tx_8_64 Try.underlying5 Try.underlying3 (cdo hc)) ?_
          refine agu (v := (I (w64 (40 + (x8.toNat : Int))))) ((x6 != x7) == false) rfl rfl rfl (fun hc => ex_bin (vx := (I 40)) (vy := (I (x8.toNat : Int))) rfl (cdo hc) addI_ok) ?_
          refine agu (v := (I v4)) ((x6 != x7) == false) rfl rfl rfl (fun hc => emv (eV (v := (I v4)) rfl)) ?_
          obtain ⟨x9, hx9, h⟩ := bindS h
          refine agu (v := (I x9)) ((x6 != x7) == false) rfl rfl rfl (fun hc => ex_call0 (vs := [(I (w64 (40 + (x8.toNat : Int)))), (I v4)]) (v := (I x9)) rfl en_10 (cargs (evs (cdo hc) (evs (cdo hc) evs_nil))) rfl (ok_label_At (w64 (40 + (x8.toNat : Int))) v4 x9 (gd_of hc hx9)) rfl) ?_
          refine agu (v := (U8 t7)) ((x6 != x7) == false) rfl rfl rfl (fun hc => emv (eV (v := (U8 t7)) rfl)) ?_
          obtain ⟨x10, hx10, h⟩ := bindS h
          refine agu (v := (U8 x10)) ((x6 != x7) == false) rfl rfl rfl (fun hc => ex_bin (vx := (U8 t7)) (vy := (U8 201)) (cdo hc) rfl (rem8_ok (gd_of hc hx10))) ?_
          refine agu (v := (I (x10.toNat : Int))) ((x6 != x7) == false) rfl rfl rfl (fun hc => tx_8_64 Try.underlying5 Try.underlying3 (cdo hc)) ?_
          refine agu (v := (I (w64 (40 + (x10.toNat : Int))))) ((x6 != x7) == false) rfl rfl rfl (fun hc => ex_bin (vx := (I 40)) (vy := (I (x10.toNat : Int))) rfl (cdo hc) addI_ok) ?_
          refine agu (v := (I v4)) ((x6 != x7) == false) rfl rfl rfl (fun hc => emv (eV (v := (I v4)) rfl)) ?_
          obtain ⟨x11, hx11, h⟩ := bindS h
          refine agu (v := (I x11)) ((x6 != x7) == false) rfl rfl rfl (fun hc => ex_call0 (vs := [(I (w64 (40 + (x10.toNat : Int)))), (I v4)]) (v := (I x11)) rfl en_11 (cargs (evs (cdo hc) (evs (cdo hc) evs_nil))) rfl (ok_ref1_At (w64 (40 + (x10.toNat : Int))) v4 x11 (gd_of hc hx11)) rfl) ?_
          refine agu (v := (Bo (x9 != x11))) ((x6 != x7) == false) rfl rfl rfl (fun hc => ex_bin (vx := (I x9)) (vy := (I x11)) (cdo hc) (cdo hc) neqI_ok) ?_
          refine ado rfl rfl rfl (ex_pick rfl pkOr) ?_
          refine ado rfl rfl rfl (emv (eV (v := (Bo ((x6 != x7) || (x9 != x11)))) rfl)) ?_
          refine agu (v := (I t0)) (((x6 != x7) || (x9 != x11)) == false) rfl rfl rfl (fun hc => emv (eV (v := (I t0)) rfl)) ?_
          refine agu (v := (I v4)) (((x6 != x7) || (x9 != x11)) == false) rfl rfl rfl (fun hc => emv (eV (v := (I v4)) rfl)) ?_
          refine agu (v := (I t2)) (((x6 != x7) || (x9 != x11)) == false) rfl rfl rfl (fun hc => emv (eV (v := (I t2)) rfl)) ?_
          obtain ⟨x12, hx12, h⟩ := bindS h
          refine agu (v := (I x12)) (((x6 != x7) || (x9 != x11)) == false) rfl rfl rfl (fun hc => ex_call0 (vs := [(I t0), (I v4), (I t2)]) (v := (I x12)) rfl en_12 (cargs (evs (cdo hc) (evs (cdo hc) (evs (cdo hc) evs_nil)))) rfl (ok_label_Slot t0 v4 t2 x12 (gd_of hc hx12)) rfl) ?_
          refine agu (v := (I t0)) (((x6 != x7) || (x9 != x11)) == false) rfl rfl rfl (fun hc => emv (eV (v := (I t0)) rfl)) ?_
          refine agu (v := (I v4)) (((x6 != x7) || (x9 != x11)) == false) rfl rfl rfl (fun hc => emv (eV (v := (I v4)) rfl)) ?_
          refine agu (v := (I t2)) (((x6 != x7) || (x9 != x11)) == false) rfl rfl rfl (fun hc => emv (eV (v := (I t2)) rfl)) ?_
          obtain ⟨x13, hx13, h⟩ := bindS h
          refine agu (v := (I x13)) (((x6 != x7) || (x9 != x11)) == false) rfl rfl rfl (fun hc => ex_call0 (vs := [(I t0), (I v4), (I t2)]) (v := (I x13)) rfl en_13 (cargs (evs (cdo hc) (evs (cdo hc) (evs (cdo hc) evs_nil)))) rfl (ok_ref1_Slot t0 v4 t2 x13 (gd_of hc hx13)) rfl) ?_
          refine agu (v := (Bo (x12 != x13))) (((x6 != x7) || (x9 != x11)) == false) rfl rfl rfl (fun hc => ex_bin (vx := (I x12)) (vy := (I x13)) (cdo hc) (cdo hc) neqI_ok) ?_
          refine ado rfl rfl rfl (ex_pick rfl pkOr) ?_
          refine ado rfl rfl rfl (emv (eV (v := (Bo (((x6 != x7) || (x9 != x11)) || (x12 != x13)))) rfl)) ?_
          refine agu (v := (I v4)) ((((x6 != x7) || (x9 != x11)) || (x12 != x13)) == false) rfl rfl rfl (fun hc => emv (eV (v := (I v4)) rfl)) ?_
          refine agu (v := (U8 t6)) ((((x6 != x7) || (x9 != x11)) || (x12 != x13)) == false) rfl rfl rfl (fun hc => emv (eV (v := (U8 t6)) rfl)) ?_
          obtain ⟨x14, hx14, h⟩ := bindS h
          refine agu (v := (U8 x14)) ((((x6 != x7) || (x9 != x11)) || (x12 != x13)) == false) rfl rfl rfl (fun hc => ex_bin (vx := (U8 t6)) (vy := (U8 7)) (cdo hc) rfl (rem8_ok (gd_of hc hx14))) ?_
          refine agu (v := (I (x14.toNat : Int))) ((((x6 != x7) || (x9 != x11)) || (x12 != x13)) == false) rfl rfl rfl (fun hc => tx_8_64 Try.underlying5 Try.underlying3 (cdo hc)) ?_
          obtain ⟨x15, hx15, h⟩ := bindS h
          refine agu (v := (I x15)) ((((x6 != x7) || (x9 != x11)) || (x12 != x13)) == false) rfl rfl rfl (fun hc => ex_call0 (vs := [(I 60), (I v4), (I (x14.toNat : Int))]) (v := (I x15)) rfl en_12 (cargs (evs rfl (evs (cdo hc) (evs (cdo hc) evs_nil)))) rfl (ok_label_Slot 60 v4 (x14.toNat : Int) x15 (gd_of hc hx15)) rfl) ?_
          refine agu (v := (I v4)) ((((x6 != x7) || (x9 != x11)) || (x12 != x13)) == false) rfl rfl rfl (fun hc => emv (eV (v := (I v4)) rfl)) ?_
          refine agu (v := (U8 t6)) ((((x6 != x7) || (x9 != x11)) || (x12 != x13)) == false) rfl rfl rfl (fun hc => emv (eV (v := (U8 t6)) rfl)) ?_
          obtain ⟨x16, hx16, h⟩ := bindS h
          refine agu (v := (U8 x16)) ((((x6 != x7) || (x9 != x11)) || (x12 != x13)) == false) rfl rfl rfl (fun hc => ex_bin (vx := (U8 t6)) (vy := (U8 7)) (cdo hc) rfl (rem8_ok (gd_of hc hx16))) ?_
          refine agu (v := (I (x16.toNat : Int))) ((((x6 != x7) || (x9 != x11)) || (x12 != x13)) == false) rfl rfl rfl (fun hc => tx_8_64 Try.underlying5 Try.underlying3 (cdo hc)) ?_
          obtain ⟨x17, hx17, h⟩ := bindS h
          refine agu (v := (I x17)) ((((x6 != x7) || (x9 != x11)) || (x12 != x13)) == false) rfl rfl rfl (fun hc => ex_call0 (vs := [(I 60), (I v4), (I (x16.toNat : Int))]) (v := (I x17)) rfl en_13 (cargs (evs rfl (evs (cdo hc) (evs (cdo hc) evs_nil)))) rfl (ok_ref1_Slot 60 v4 (x16.toNat : Int) x17 (gd_of hc hx17)) rfl) ?_
          refine agu (v := (Bo (x15 != x17))) ((((x6 != x7) || (x9 != x11)) || (x12 != x13)) == false) rfl rfl rfl (fun hc => ex_bin (vx := (I x15)) (vy := (I x17)) (cdo hc) (cdo hc) neqI_ok) ?_
          refine ado rfl rfl rfl (ex_pick rfl pkOr) ?_
          refine ake [0, 1, 2, 3, 4, 5, 6, 7, 17, 86] 0 0 (st' := ⟨277, 0, [(0, (I t0)), (1, (I t1)), (2, (I t2)), (3, (SL 4 (cA4 c8) t3)), (4, (U8 t4)), (5, (U8 t5)), (6, (U8 t6)), (7, (U8 t7)), (17, (I v4)), (86, (Bo ((((x6 != x7) || (x9 != x11)) || (x12 != x13)) || (x15 != x17))))], [], ⟨0, []⟩⟩) (by kernel_rfl) (by kernel_rfl) ?_
          show AWp _ _ _ _
          rcases Bool.eq_false_or_eq_true ((((x6 != x7) || (x9 != x11)) || (x12 != x13)) || (x15 != x17)) with hb18 | hb18
          · rw [condT hb18] at h
            refine awp_condT (boT hb18) ?_
            refine aws ?_
            refine awr ?_
            refine ado rfl rfl rfl (eas (eV (v := (Bo false)) rfl)) ?_
            refine ake [16] 0 0 (st' := ⟨277, 0, [(16, (Bo false))], [], ⟨0, []⟩⟩) (by kernel_rfl) (by kernel_rfl) ?_
            show AWp _ _ _ _
            refine awp_ret ?_
            cases h
            exact ares1 (rtmp rfl (eV rfl))
          · rw [condF hb18] at h
            refine awp_condF (boF hb18) ?_
            refine awp_skip ?_
            show AWp _ _ _ _
            refine awr ?_
            refine ado rfl rfl rfl (emv (eV (v := (I v4)) rfl)) ?_
            refine ado rfl rfl rfl (ex_bin (vx := (I v4)) (vy := (I 1)) rfl rfl addI_ok) ?_
            refine ado rfl rfl rfl (eas (eV (v := (I (w64 (v4 + 1)))) rfl)) ?_
            refine ake [0, 1, 2, 3, 4, 5, 6, 7, 17] 0 0 (st' := ⟨277, 0, [(0, (I t0)), (1, (I t1)), (2, (I t2)), (3, (SL 4 (cA4 c8) t3)), (4, (U8 t4)), (5, (U8 t5)), (6, (U8 t6)), (7, (U8 t7)), (17, (I (w64 (v4 + 1))))], [], ⟨0, []⟩⟩) (by kernel_rfl) (by kernel_rfl) ?_
            exact Exists.intro n1 (And.intro (Nat.lt_succ_self _) (Exists.intro (w64 (v4 + 1)) (And.intro rfl h)))
        · rw [condF hb5] at h
          refine awp_condF (boF hb5) ?_
          refine awp_exit ?_
          show AWp _ _ _ _
          refine aws ?_
          refine aws ?_
          refine awr ?_
          refine ado rfl rfl rfl (emv (eV (v := (I t0)) rfl)) ?_
          refine ado rfl rfl rfl (emv (eV (v := (I t1)) rfl)) ?_
          obtain ⟨x19, hx19, h⟩ := bindS h
          refine ado rfl rfl rfl (ex_call0 (vs := [(I t0), (I t1)]) (v := (I x19)) rfl en_10 (cargs (evs rfl (evs rfl evs_nil))) rfl (ok_label_At t0 t1 x19 hx19) rfl) ?_
          refine ado rfl rfl rfl (emv (eV (v := (I t0)) rfl)) ?_
          refine ado rfl rfl rfl (emv (eV (v := (I t1)) rfl)) ?_
          obtain ⟨x20, hx20, h⟩ := bindS h
          refine ado rfl rfl rfl (ex_call0 (vs := [(I t0), (I t1)]) (v := (I x20)) rfl en_11 (cargs (evs rfl (evs rfl evs_nil))) rfl (ok_ref1_At t0 t1 x20 hx20) rfl) ?_
          refine ado rfl rfl rfl (ex_bin (vx := (I x19)) (vy := (I x20)) rfl rfl neqI_ok) ?_
          refine ake [0, 3, 4, 5, 6, 7, 93] 0 0 (st' := ⟨277, 0, [(0, (I t0)), (3, (SL 4 (cA4 c8) t3)), (4, (U8 t4)), (5, (U8 t5)), (6, (U8 t6)), (7, (U8 t7)), (93, (Bo (x19 != x20)))], [], ⟨0, []⟩⟩) (by kernel_rfl) (by kernel_rfl) ?_
          show AWp _ _ _ _
          rcases Bool.eq_false_or_eq_true (x19 != x20) with hb21 | hb21
          · rw [condT hb21] at h
            refine awp_condT (boT hb21) ?_
            refine aws ?_
            refine awr ?_
            refine ado rfl rfl rfl (eas (eV (v := (Bo false)) rfl)) ?_
            refine ake [16] 0 0 (st' := ⟨277, 0, [(16, (Bo false))], [], ⟨0, []⟩⟩) (by kernel_rfl) (by kernel_rfl) ?_
            show AWp _ _ _ _
            refine awp_ret ?_
            cases h
            exact ares1 (rtmp rfl (eV rfl))
          · rw [condF hb21] at h
            refine awp_condF (boF hb21) ?_
            refine awp_skip ?_
            show AWp _ _ _ _
            refine aws ?_
            refine awr ?_
            refine ado rfl rfl rfl (emv (eV (v := (U8 t7)) rfl)) ?_
            obtain ⟨x22, hx22, h⟩ := bindS h
            refine ado rfl rfl rfl (ex_bin (vx := (U8 t7)) (vy := (U8 20)) rfl rfl (rem8_ok hx22)) ?_
            refine ado rfl rfl rfl (tx_8_64 Try.underlying5 Try.underlying3 rfl) ?_
            refine ado rfl rfl rfl (ex_bin (vx := (I 60)) (vy := (I (x22.toNat : Int))) rfl rfl addI_ok) ?_
            refine ado rfl rfl rfl (eas (eV (v := (I (w64 (60 + (x22.toNat : Int))))) rfl)) ?_
            refine ake [0, 3, 4, 5, 6, 18] 0 0 (st' := ⟨277, 0, [(0, (I t0)), (3, (SL 4 (cA4 c8) t3)), (4, (U8 t4)), (5, (U8 t5)), (6, (U8 t6)), (18, (I (w64 (60 + (x22.toNat : Int)))))], [], ⟨0, []⟩⟩) (by kernel_rfl) (by kernel_rfl) ?_
            show AWp _ _ _ _
            refine aws ?_
            refine awr ?_
            refine ado rfl rfl rfl (emv (eV (v := (I (w64 (60 + (x22.toNat : Int))))) rfl)) ?_
            obtain ⟨x23, hx23, h⟩ := bindS h
            refine ado rfl rfl rfl (ex_call0 (vs := [(I (w64 (60 + (x22.toNat : Int))))]) (v := (Value.agg (cDv x23).toArray)) rfl en_14 (cargs (evs rfl evs_nil)) rfl (ok_ref1_New (w64 (60 + (x22.toNat : Int))) x23 hx23) rfl) ?_
            refine ado rfl rfl rfl (ex_allocW (k := 0) (zs := (cDv (GDv.mk [] [] 0 0 false))) (L' := [(cDv (GDv.mk [] [] 0 0 false))]) z_29 rfl (by repeat (first | exact trivial | refine ⟨.inl rfl, ?_⟩ | refine ⟨.inr ⟨rfl, _, rfl⟩, ?_⟩)) rfl rfl) ?_
            refine arun_do0 rfl rfl (ex_storeL (vy := (Value.agg (cDv x23).toArray)) (cs := (cDv (GDv.mk [] [] 0 0 false))) (vs := (cDv x23)) (L' := [(cDv x23)]) rfl (eV (v := (Value.agg (cDv x23).toArray)) rfl) rfl s_29 rfl (Nat.le_of_ble_eq_true rfl) (by kernel_rfl)) ?_
            refine ake [0, 3, 4, 5, 6, 18, 19] 1 0 (st' := ⟨277, 0, [(0, (I t0)), (3, (SL 4 (cA4 c8) t3)), (4, (U8 t4)), (5, (U8 t5)), (6, (U8 t6)), (18, (I (w64 (60 + (x22.toNat : Int))))), (19, (LP 0 0))], [(cDv x23)], ⟨0, []⟩⟩) (by kernel_rfl) (by kernel_rfl) ?_
            show AWp _ _ _ _
            refine aws ?_
            refine aws ?_
            refine awr ?_
            refine ado rfl rfl rfl (eas (eV (v := (I 0)) rfl)) ?_
            refine ake [0, 3, 4, 5, 6, 18, 19, 20] 1 0 (st' := ⟨277, 0, [(0, (I t0)), (3, (SL 4 (cA4 c8) t3)), (4, (U8 t4)), (5, (U8 t5)), (6, (U8 t6)), (18, (I (w64 (60 + (x22.toNat : Int))))), (19, (LP 0 0)), (20, (I 0))], [(cDv x23)], ⟨0, []⟩⟩) (by kernel_rfl) (by kernel_rfl) ?_
            show AWp _ _ _ _
            refine awp_block ?_
            refine awp_loop (fun n s => ∃ (v24 : Int) (v25 : GDv), s = ⟨277, 0, [(0, (I t0)), (3, (SL 4 (cA4 c8) t3)), (4, (U8 t4)), (5, (U8 t5)), (6, (U8 t6)), (18, (I (w64 (60 + (x22.toNat : Int))))), (19, (LP 0 0)), (20, (I v24))], [(cDv v25)], ⟨0, []⟩⟩ ∧ M_law7_LabelAll_l2 (M_law7_LabelAll_l1 t0 t1 t2 t3 t4 t5 t6 t7 n1) t0 t3 t4 t5 t6 x22 n v24 v25 = some r) fuel (Exists.intro 0 (Exists.intro x23 (And.intro rfl h))) ?_
            rintro n s ⟨v24, v25, rfl, h⟩ -
            cases n with
            | zero => cases h
            | succ n2 =>
              unfold M_law7_LabelAll_l2 at h
              refine aws ?_
              refine aws ?_
              refine awr ?_
              refine ado rfl rfl rfl (emv (eV (v := (I v24)) rfl)) ?_
              refine ado rfl rfl rfl (emv (eV (v := (SL 4 (cA4 c8) t3)) rfl)) ?_
              refine ado rfl rfl rfl (tx_lenD (xs := t3) (ceA4 ce8) Try.underlying22 rfl) ?_
              refine ado rfl rfl rfl (ex_bin (vx := (I v24)) (vy := (I (t3.length : Int))) rfl rfl lssI_ok) ?_
              refine ake [0, 3, 4, 5, 6, 18, 19, 20, 103] 1 0 (st' := ⟨277, 0, [(0, (I t0)), (3, (SL 4 (cA4 c8) t3)), (4, (U8 t4)), (5, (U8 t5)), (6, (U8 t6)), (18, (I (w64 (60 + (x22.toNat : Int))))), (19, (LP 0 0)), (20, (I v24)), (103, (Bo (decide (v24 < (t3.length : Int)))))], [(cDv v25)], ⟨0, []⟩⟩) (by kernel_rfl) (by kernel_rfl) ?_
              show AWp _ _ _ _
              rcases Bool.eq_false_or_eq_true (decide (v24 < (t3.length : Int))) with hb26 | hb26
              · rw [condT hb26] at h
                refine awp_condT (boT hb26) ?_
                refine awp_skip ?_
                show AWp _ _ _ _
                refine awp_seqJ (fun s => ∃ (y27 : GDv), s = ⟨277, 0, [(0, (I t0)), (3, (SL 4 (cA4 c8) t3)), (4, (U8 t4)), (5, (U8 t5)), (6, (U8 t6)), (18, (I (w64 (60 + (x22.toNat : Int))))), (19, (LP 0 0)), (20, (I v24))], [(cDv y27)], ⟨0, []⟩⟩ ∧ M_law7_LabelAll_k1 (M_law7_LabelAll_l1 t0 t1 t2 t3 t4 t5 t6 t7 n1) (M_law7_LabelAll_l2 (M_law7_LabelAll_l1 t0 t1 t2 t3 t4 t5 t6 t7 n1) t0 t3 t4 t5 t6 x22 n2) t0 t3 t4 t5 t6 x22 v24 y27 = some r) ?_ ?_
                · refine awp_block ?_
                  refine aws ?_
                  refine awr ?_
                  refine ado rfl rfl rfl (emv (eV (v := (SL 4 (cA4 c8) t3)) rfl)) ?_
                  refine ado rfl rfl rfl (emv (eV (v := (I v24)) rfl)) ?_
                  obtain ⟨x28, hx28, h⟩ := bindS h
                  refine ado rfl rfl rfl (tx_idxD (c := (cA4 c8)) (xs := t3) (i := v24) (ceA4 ce8) Try.underlying22 s_39 rfl rfl hx28) ?_
                  refine ado rfl rfl rfl (tx_ldDA (vs := ((cA4 c8) x28)) Try.underlying39 rfl s_39 (by decide) rfl (Nat.le_of_ble_eq_true rfl) rfl) ?_
                  obtain ⟨x29, hx29, h⟩ := bindS h
                  refine ado rfl rfl rfl (ex_call0 (vs := [(Value.agg ((cA4 c8) x28).toArray)]) (v := (Value.agg (cUb x29).toArray)) rfl en_15 (cargs (evs rfl evs_nil)) rfl (ok_law7_uberOf x28 x29 hx29) rfl) ?_
                  refine ado rfl rfl rfl (ex_alloc (k := 1) (zs := (cUb (GUb.mk 0 0 0 (GPt.mk 0 0 (A4.mk 0 0 0 0))))) (L' := [(cDv v25), (cUb (GUb.mk 0 0 0 (GPt.mk 0 0 (A4.mk 0 0 0 0))))]) z_37 rfl rfl rfl rfl) ?_
                  refine arun_do0 rfl rfl (ex_storeL (vy := (Value.agg (cUb x29).toArray)) (cs := (cUb (GUb.mk 0 0 0 (GPt.mk 0 0 (A4.mk 0 0 0 0))))) (vs := (cUb x29)) (L' := [(cDv v25), (cUb x29)]) rfl (eV (v := (Value.agg (cUb x29).toArray)) rfl) rfl s_37 rfl (Nat.le_of_ble_eq_true rfl) (by kernel_rfl)) ?_
                  refine ake [0, 3, 4, 5, 6, 18, 19, 20, 21] 2 0 (st' := ⟨277, 0, [(0, (I t0)), (3, (SL 4 (cA4 c8) t3)), (4, (U8 t4)), (5, (U8 t5)), (6, (U8 t6)), (18, (I (w64 (60 + (x22.toNat : Int))))), (19, (LP 0 0)), (20, (I v24)), (21, (LP 1 0))], [(cDv v25), (cUb x29)], ⟨0, []⟩⟩) (by kernel_rfl) (by kernel_rfl) ?_
                  show AWp _ _ _ _
                  refine aws ?_
                  refine awr ?_
                  refine ado rfl rfl rfl (emv (eV (v := (SL 4 (cA4 c8) t3)) rfl)) ?_
                  refine ado rfl rfl rfl (emv (eV (v := (I v24)) rfl)) ?_
                  obtain ⟨x30, hx30, h⟩ := bindS h
                  refine ado rfl rfl rfl (tx_idxD (c := (cA4 c8)) (xs := t3) (i := v24) (ceA4 ce8) Try.underlying22 s_39 rfl rfl hx30) ?_
                  refine ado rfl rfl rfl (ex_indexAddrAD (vs := (List.drop 3 ((cA4 c8) x30))) (i := 3) Try.underlying39 s_5 rfl rfl (by decide) rfl) ?_
                  refine ado rfl rfl rfl (tx_ldD1 (v := (U8 x30.x3)) Try.underlying5 rfl rfl rfl) ?_
                  obtain ⟨x31, hx31, h⟩ := bindS h
                  refine ado rfl rfl rfl (ex_bin (vx := (U8 x30.x3)) (vy := (U8 4)) rfl rfl (rem8_ok hx31)) ?_
                  refine ado rfl rfl rfl (tx_8_64 Try.underlying5 Try.underlying3 rfl) ?_
                  refine ado rfl rfl rfl (ex_bin (vx := (I (x31.toNat : Int))) (vy := (I 1)) rfl rfl subI_ok) ?_
                  refine ado rfl rfl rfl (eas (eV (v := (I (w64 ((x31.toNat : Int) - 1)))) rfl)) ?_
                  refine ake [0, 3, 4, 5, 6, 18, 19, 20, 21, 22] 2 0 (st' := ⟨277, 0, [(0, (I t0)), (3, (SL 4 (cA4 c8) t3)), (4, (U8 t4)), (5, (U8 t5)), (6, (U8 t6)), (18, (I (w64 (60 + (x22.toNat : Int))))), (19, (LP 0 0)), (20, (I v24)), (21, (LP 1 0)), (22, (I (w64 ((x31.toNat : Int) - 1))))], [(cDv v25), (cUb x29)], ⟨0, []⟩⟩) (by kernel_rfl) (by kernel_rfl) ?_
                  show AWp _ _ _ _
                  refine aws ?_
                  refine aws ?_
                  obtain ⟨x32, hx32, h⟩ := bindS h
                  obtain ⟨x33, hx33, h⟩ := bindS h
                  obtain ⟨x34, hx34, h⟩ := bindS h
                  obtain ⟨x35, hx35, h⟩ := bindS h
                  obtain ⟨x36, hx36, h⟩ := bindS h
                  obtain ⟨x37, hx37, h⟩ := bindS h
                  refine awp_kn [0, 3, 4, 5, 6, 18, 19, 20, 21, 22, 142] 2 0 (st' := ⟨277, 0, [(0, (I t0)), (3, (SL 4 (cA4 c8) t3)), (4, (U8 t4)), (5, (U8 t5)), (6, (U8 t6)), (18, (I (w64 (60 + (x22.toNat : Int))))), (19, (LP 0 0)), (20, (I v24)), (21, (LP 1 0)), (22, (I (w64 ((x31.toNat : Int) - 1)))), (142, (Bo ((!x34) || (!x37))))], [(cDv v25), (cUb x29)], ⟨0, []⟩⟩) (awp_draw (T := [(I t0), (Value.agg (cUb x29).toArray), (I (w64 ((x31.toNat : Int) - 1))), (SL 2 cPu x32), (I t0), (Value.agg (cUb x29).toArray), (I (w64 ((x31.toNat : Int) - 1))), (SL 2 cPu x33), (Bo x34), (Bo (!x34)), (Bo (!x34)), (cond ((!x34) == false) (I (w64 (60 + (x22.toNat : Int)))) skipV), (cond ((!x34) == false) (I (w64 ((w64 (60 + (x22.toNat : Int))) - 28))) skipV), (cond ((!x34) == false) (Value.agg (cUb x29).toArray) skipV), (cond ((!x34) == false) (I (w64 ((x31.toNat : Int) - 1))) skipV), (cond ((!x34) == false) (SL 2 cPu x35) skipV), (cond ((!x34) == false) (I (w64 (60 + (x22.toNat : Int)))) skipV), (cond ((!x34) == false) (I (w64 ((w64 (60 + (x22.toNat : Int))) - 28))) skipV), (cond ((!x34) == false) (Value.agg (cUb x29).toArray) skipV), (cond ((!x34) == false) (I (w64 ((x31.toNat : Int) - 1))) skipV), (cond ((!x34) == false) (SL 2 cPu x36) skipV), (cond ((!x34) == false) (Bo x37) skipV), (cond ((!x34) == false) (Bo (!x37)) skipV), (Bo ((!x34) || (!x37)))]) (LH := [([(cDv v25), (cUb x29)], ⟨0, []⟩)]) (D := [⟨[(0, none)], [], [0], false⟩, ⟨[(21, none)], [], [0], false⟩, ⟨[(22, none)], [], [0], false⟩, ⟨[(119, some 0), (120, some 1), (121, some 2)], [0, 1, 2], [0], false⟩, ⟨[(0, none)], [], [0], false⟩, ⟨[(21, none)], [], [0], false⟩, ⟨[(22, none)], [], [0], false⟩, ⟨[(123, some 4), (124, some 5), (125, some 6)], [0, 1, 2, 3, 4, 5, 6], [0], false⟩, ⟨[(122, some 3), (126, some 7)], [0, 1, 2, 3, 4, 5, 6, 7], [0], false⟩, ⟨[(127, some 8)], [0, 1, 2, 3, 4, 5, 6, 7, 8], [0], false⟩, ⟨[(128, some 9)], [0, 1, 2, 3, 4, 5, 6, 7, 8, 9], [0], false⟩, ⟨[(18, none), (129, some 10)], [0, 1, 2, 3, 4, 5, 6, 7, 8, 9, 10], [0], false⟩, ⟨[(130, some 11), (129, some 10)], [0, 1, 2, 3, 4, 5, 6, 7, 8, 9, 10, 11], [0], false⟩, ⟨[(21, none), (129, some 10)], [0, 1, 2, 3, 4, 5, 6, 7, 8, 9, 10], [0], false⟩, ⟨[(22, none), (129, some 10)], [0, 1, 2, 3, 4, 5, 6, 7, 8, 9, 10], [0], false⟩, ⟨[(131, some 12), (132, some 13), (133, some 14), (129, some 10)], [0, 1, 2, 3, 4, 5, 6, 7, 8, 9, 10, 11, 12, 13, 14], [0], false⟩, ⟨[(18, none), (129, some 10)], [0, 1, 2, 3, 4, 5, 6, 7, 8, 9, 10], [0], false⟩, ⟨[(135, some 16), (129, some 10)], [0, 1, 2, 3, 4, 5, 6, 7, 8, 9, 10, 16], [0], false⟩, ⟨[(21, none), (129, some 10)], [0, 1, 2, 3, 4, 5, 6, 7, 8, 9, 10], [0], false⟩, ⟨[(22, none), (129, some 10)], [0, 1, 2, 3, 4, 5, 6, 7, 8, 9, 10], [0], false⟩, ⟨[(136, some 17), (137, some 18), (138, some 19), (129, some 10)], [0, 1, 2, 3, 4, 5, 6, 7, 8, 9, 10, 11, 12, 13, 14, 15, 16, 17, 18, 19], [0], false⟩, ⟨[(134, some 15), (139, some 20), (129, some 10)], [0, 1, 2, 3, 4, 5, 6, 7, 8, 9, 10, 11, 12, 13, 14, 15, 16, 17, 18, 19, 20], [0], false⟩, ⟨[(140, some 21), (129, some 10)], [0, 1, 2, 3, 4, 5, 6, 7, 8, 9, 10, 11, 12, 13, 14, 15, 16, 17, 18, 19, 20, 21], [0], false⟩, ⟨[(129, some 10), (141, some 22)], [0, 1, 2, 3, 4, 5, 6, 7, 8, 9, 10, 11, 12, 13, 14, 15, 16, 17, 18, 19, 20, 21, 22], [0], false⟩]) (S := []) (plan := [0, 1, 2, 3, 4, 5, 6, 7, 8, 9, 10, 11, 12, 13, 14, 15, 16, 17, 18, 19, 20, 21, 22, 23]) mo (by kernel_rfl) rfl rfl rfl (dcons (dst1 (Tm := [(0, (I t0))]) (L := [(cDv v25), (cUb x29)]) (H := ⟨0, []⟩) rfl rfl rfl rfl rfl (asd rfl (emv (eV (v := (I t0)) rfl)))) (dcons (dst1 (Tm := [(21, (LP 1 0))]) (L := [(cDv v25), (cUb x29)]) (H := ⟨0, []⟩) rfl rfl rfl rfl rfl (asd rfl (tx_ldLA (vs := (cUb x29)) Try.underlying37 rfl s_37 (by decide) rfl rfl rfl rfl))) (dcons (dst1 (Tm := [(22, (I (w64 ((x31.toNat : Int) - 1))))]) (L := [(cDv v25), (cUb x29)]) (H := ⟨0, []⟩) rfl rfl rfl rfl rfl (asd rfl (emv (eV (v := (I (w64 ((x31.toNat : Int) - 1)))) rfl)))) (dcons (dst1 (Tm := [(119, (I t0)), (120, (Value.agg (cUb x29).toArray)), (121, (I (w64 ((x31.toNat : Int) - 1))))]) (L := [(cDv v25), (cUb x29)]) (H := ⟨0, []⟩) rfl rfl rfl rfl rfl (asd rfl (ex_call0 (vs := [(I t0), (Value.agg (cUb x29).toArray), (I (w64 ((x31.toNat : Int) - 1)))]) (v := (SL 2 cPu x32)) rfl en_17 (cargs (evs rfl (evs rfl (evs rfl evs_nil)))) rfl (ok_label_Phase t0 x29 (w64 ((x31.toNat : Int) - 1)) x32 hx32) rfl))) (dcons (dst1 (Tm := [(0, (I t0))]) (L := [(cDv v25), (cUb x29)]) (H := ⟨0, []⟩) rfl rfl rfl rfl rfl (asd rfl (emv (eV (v := (I t0)) rfl)))) (dcons (dst1 (Tm := [(21, (LP 1 0))]) (L := [(cDv v25), (cUb x29)]) (H := ⟨0, []⟩) rfl rfl rfl rfl rfl (asd rfl (tx_ldLA (vs := (cUb x29)) Try.underlying37 rfl s_37 (by decide) rfl rfl rfl rfl))) (dcons (dst1 (Tm := [(22, (I (w64 ((x31.toNat : Int) - 1))))]) (L := [(cDv v25), (cUb x29)]) (H := ⟨0, []⟩) rfl rfl rfl rfl rfl (asd rfl (emv (eV (v := (I (w64 ((x31.toNat : Int) - 1)))) rfl)))) (dcons (dst1 (Tm := [(123, (I t0)), (124, (Value.agg (cUb x29).toArray)), (125, (I (w64 ((x31.toNat : Int) - 1))))]) (L := [(cDv v25), (cUb x29)]) (H := ⟨0, []⟩) rfl rfl rfl rfl rfl (asd rfl (ex_call0 (vs := [(I t0), (Value.agg (cUb x29).toArray), (I (w64 ((x31.toNat : Int) - 1)))]) (v := (SL 2 cPu x33)) rfl en_18 (cargs (evs rfl (evs rfl (evs rfl evs_nil)))) rfl (ok_ref1_Phase t0 x29 (w64 ((x31.toNat : Int) - 1)) x33 hx33) rfl))) (dcons (dst1 (Tm := [(122, (SL 2 cPu x32)), (126, (SL 2 cPu x33))]) (L := [(cDv v25), (cUb x29)]) (H := ⟨0, []⟩) rfl rfl rfl rfl rfl (asd rfl (ex_call0 (vs := [(SL 2 cPu x32), (SL 2 cPu x33)]) (v := (Bo x34)) rfl en_16 (cargs (evs rfl (evs rfl evs_nil))) rfl (ok_ref1_SamePuts x32 x33 x34 hx34) rfl))) (dcons (dst1 (Tm := [(127, (Bo x34))]) (L := [(cDv v25), (cUb x29)]) (H := ⟨0, []⟩) rfl rfl rfl rfl rfl (asd rfl (ex_un (vx := (Bo x34)) rfl notB_ok))) (dcons (dst1 (Tm := [(128, (Bo (!x34)))]) (L := [(cDv v25), (cUb x29)]) (H := ⟨0, []⟩) rfl rfl rfl rfl rfl (asd rfl (emv (eV (v := (Bo (!x34))) rfl)))) (dcons (dst1 (Tm := [(18, (I (w64 (60 + (x22.toNat : Int))))), (129, (Bo (!x34)))]) (L := [(cDv v25), (cUb x29)]) (H := ⟨0, []⟩) rfl rfl rfl rfl rfl (astep_guard (v := (I (w64 (60 + (x22.toNat : Int))))) ((!x34) == false) rfl (fun hc => emv (eV (v := (I (w64 (60 + (x22.toNat : Int))))) rfl)))) (dcons (dst1 (Tm := [(130, (cond ((!x34) == false) (I (w64 (60 + (x22.toNat : Int)))) skipV)), (129, (Bo (!x34)))]) (L := [(cDv v25), (cUb x29)]) (H := ⟨0, []⟩) rfl rfl rfl rfl rfl (astep_guard (v := (I (w64 ((w64 (60 + (x22.toNat : Int))) - 28)))) ((!x34) == false) rfl (fun hc => ex_bin (vx := (I (w64 (60 + (x22.toNat : Int))))) (vy := (I 28)) (cdo hc) rfl subI_ok))) (dcons (dst1 (Tm := [(21, (LP 1 0)), (129, (Bo (!x34)))]) (L := [(cDv v25), (cUb x29)]) (H := ⟨0, []⟩) rfl rfl rfl rfl rfl (astep_guard (v := (Value.agg (cUb x29).toArray)) ((!x34) == false) rfl (fun hc => tx_ldLA (vs := (cUb x29)) Try.underlying37 rfl s_37 (by decide) rfl rfl rfl rfl))) (dcons (dst1 (Tm := [(22, (I (w64 ((x31.toNat : Int) - 1)))), (129, (Bo (!x34)))]) (L := [(cDv v25), (cUb x29)]) (H := ⟨0, []⟩) rfl rfl rfl rfl rfl (astep_guard (v := (I (w64 ((x31.toNat : Int) - 1)))) ((!x34) == false) rfl (fun hc => emv (eV (v := (I (w64 ((x31.toNat : Int) - 1)))) rfl)))) (dcons (dst1 (Tm := [(131, (cond ((!x34) == false) (I (w64 ((w64 (60 + (x22.toNat : Int))) - 28))) skipV)), (132, (cond ((!x34) == false) (Value.agg (cUb x29).toArray) skipV)), (133, (cond ((!x34) == false) (I (w64 ((x31.toNat : Int) - 1))) skipV)), (129, (Bo (!x34)))]) (L := [(cDv v25), (cUb x29)]) (H := ⟨0, []⟩) rfl rfl rfl rfl rfl (astep_guard (v := (SL 2 cPu x35)) ((!x34) == false) rfl (fun hc => ex_call0 (vs := [(I (w64 ((w64 (60 + (x22.toNat : Int))) - 28))), (Value.agg (cUb x29).toArray), (I (w64 ((x31.toNat : Int) - 1)))]) (v := (SL 2 cPu x35)) rfl en_17 (cargs (evs (cdo hc) (evs (cdo hc) (evs (cdo hc) evs_nil)))) rfl (ok_label_Phase (w64 ((w64 (60 + (x22.toNat : Int))) - 28)) x29 (w64 ((x31.toNat : Int) - 1)) x35 (gd_of hc hx35)) rfl))) (dcons (dst1 (Tm := [(18, (I (w64 (60 + (x22.toNat : Int))))), (129, (Bo (!x34)))]) (L := [(cDv v25), (cUb x29)]) (H := ⟨0, []⟩) rfl rfl rfl rfl rfl (astep_guard (v := (I (w64 (60 + (x22.toNat : Int))))) ((!x34) == false) rfl (fun hc => emv (eV (v := (I (w64 (60 + (x22.toNat : Int))))) rfl)))) (dcons (dst1 (Tm := [(135, (cond ((!x34) == false) (I (w64 (60 + (x22.toNat : Int)))) skipV)), (129, (Bo (!x34)))]) (L := [(cDv v25), (cUb x29)]) (H := ⟨0, []⟩) rfl rfl rfl rfl rfl (astep_guard (v := (I (w64 ((w64 (60 + (x22.toNat : Int))) - 28)))) ((!x34) == false) rfl (fun hc => ex_bin (vx := (I (w64 (60 + (x22.toNat : Int))))) (vy := (I 28)) (cdo hc) rfl subI_ok))) (dcons (dst1 (Tm := [(21, (LP 1 0)), (129, (Bo (!x34)))]) (L := [(cDv v25), (cUb x29)]) (H := ⟨0, []⟩) rfl rfl rfl rfl rfl (astep_guard (v := (Value.agg (cUb x29).toArray)) ((!x34) == false) rfl (fun hc => tx_ldLA (vs := (cUb x29)) Try.underlying37 rfl s_37 (by decide) rfl rfl rfl rfl))) (dcons (dst1 (Tm := [(22, (I (w64 ((x31.toNat : Int) - 1)))), (129, (Bo (!x34)))]) (L := [(cDv v25), (cUb x29)]) (H := ⟨0, []⟩) rfl rfl rfl rfl rfl (astep_guard (v := (I (w64 ((x31.toNat : Int) - 1)))) ((!x34) == false) rfl (fun hc => emv (eV (v := (I (w64 ((x31.toNat : Int) - 1)))) rfl)))) (dcons (dst1 (Tm := [(136, (cond ((!x34) == false) (I (w64 ((w64 (60 + (x22.toNat : Int))) - 28))) skipV)), (137, (cond ((!x34) == false) (Value.agg (cUb x29).toArray) skipV)), (138, (cond ((!x34) == false) (I (w64 ((x31.toNat : Int) - 1))) skipV)), (129, (Bo (!x34)))]) (L := [(cDv v25), (cUb x29)]) (H := ⟨0, []⟩) rfl rfl rfl rfl rfl (astep_guard (v := (SL 2 cPu x36)) ((!x34) == false) rfl (fun hc => ex_call0 (vs := [(I (w64 ((w64 (60 + (x22.toNat : Int))) - 28))), (Value.agg (cUb x29).toArray), (I (w64 ((x31.toNat : Int) - 1)))]) (v := (SL 2 cPu x36)) rfl en_18 (cargs (evs (cdo hc) (evs (cdo hc) (evs (cdo hc) evs_nil)))) rfl (ok_ref1_Phase (w64 ((w64 (60 + (x22.toNat : Int))) - 28)) x29 (w64 ((x31.toNat : Int) - 1)) x36 (gd_of hc hx36)) rfl))) (dcons (dst1 (Tm := [(134, (cond ((!x34) == false) (SL 2 cPu x35) skipV)), (139, (cond ((!x34) == false) (SL 2 cPu x36) skipV)), (129, (Bo (!x34)))]) (L := [(cDv v25), (cUb x29)]) (H := ⟨0, []⟩) rfl rfl rfl rfl rfl (astep_guard (v := (Bo x37)) ((!x34) == false) rfl (fun hc => ex_call0 (vs := [(SL 2 cPu x35), (SL 2 cPu x36)]) (v := (Bo x37)) rfl en_16 (cargs (evs (cdo hc) (evs (cdo hc) evs_nil))) rfl (ok_ref1_SamePuts x35 x36 x37 (gd_of hc hx37)) rfl))) (dcons (dst1 (Tm := [(140, (cond ((!x34) == false) (Bo x37) skipV)), (129, (Bo (!x34)))]) (L := [(cDv v25), (cUb x29)]) (H := ⟨0, []⟩) rfl rfl rfl rfl rfl (astep_guard (v := (Bo (!x37))) ((!x34) == false) rfl (fun hc => ex_un (vx := (Bo x37)) (cdo hc) notB_ok))) (dcons (dst1 (Tm := [(129, (Bo (!x34))), (141, (cond ((!x34) == false) (Bo (!x37)) skipV))]) (L := [(cDv v25), (cUb x29)]) (H := ⟨0, []⟩) rfl rfl rfl rfl rfl (asd rfl (ex_pick rfl pkOr))) dnil)))))))))))))))))))))))) ⟨rfl, rfl⟩) (by kernel_rfl) (by kernel_rfl) ?_
                  show AWp _ _ _ _
                  rcases Bool.eq_false_or_eq_true ((!x34) || (!x37)) with hb38 | hb38
                  · rw [condT hb38] at h
                    refine awp_condT (boT hb38) ?_
                    refine aws ?_
                    refine awr ?_
                    refine ado rfl rfl rfl (eas (eV (v := (Bo false)) rfl)) ?_
                    refine ake [16] 0 0 (st' := ⟨277, 0, [(16, (Bo false))], [], ⟨0, []⟩⟩) (by kernel_rfl) (by kernel_rfl) ?_
                    show AWp _ _ _ _
                    refine awp_ret ?_
                    cases h
                    exact ares1 (rtmp rfl (eV rfl))
                  · rw [condF hb38] at h
                    refine awp_condF (boF hb38) ?_
                    refine awp_skip ?_
                    show AWp _ _ _ _
                    refine aws ?_
                    refine awr ?_
                    refine ado rfl rfl rfl (emv (eV (v := (I (w64 (60 + (x22.toNat : Int))))) rfl)) ?_
                    refine ado rfl rfl rfl (ex_bin (vx := (I (w64 (60 + (x22.toNat : Int))))) (vy := (I 28)) rfl rfl subI_ok) ?_
                    refine ado rfl rfl rfl (tx_ldLA (vs := (cUb x29)) Try.underlying37 rfl s_37 (by decide) rfl rfl rfl rfl) ?_
                    refine ado rfl rfl rfl (emv (eV (v := (I (w64 ((x31.toNat : Int) - 1)))) rfl)) ?_
                    obtain ⟨x39, hx39, h⟩ := bindS h
                    refine ado rfl rfl rfl (ex_call0 (vs := [(I (w64 ((w64 (60 + (x22.toNat : Int))) - 28))), (Value.agg (cUb x29).toArray), (I (w64 ((x31.toNat : Int) - 1)))]) (v := (SL 2 cPu x39)) rfl en_18 (cargs (evs rfl (evs rfl (evs rfl evs_nil)))) rfl (ok_ref1_Phase (w64 ((w64 (60 + (x22.toNat : Int))) - 28)) x29 (w64 ((x31.toNat : Int) - 1)) x39 hx39) rfl) ?_
                    refine ado rfl rfl rfl (eas (eV (v := (SL 2 cPu x39)) rfl)) ?_
                    refine ake [0, 3, 4, 5, 6, 18, 19, 20, 21, 23] 2 0 (st' := ⟨277, 0, [(0, (I t0)), (3, (SL 4 (cA4 c8) t3)), (4, (U8 t4)), (5, (U8 t5)), (6, (U8 t6)), (18, (I (w64 (60 + (x22.toNat : Int))))), (19, (LP 0 0)), (20, (I v24)), (21, (LP 1 0)), (23, (SL 2 cPu x39))], [(cDv v25), (cUb x29)], ⟨0, []⟩⟩) (by kernel_rfl) (by kernel_rfl) ?_
                    show AWp _ _ _ _
                    refine awp_seqJ (fun s => ∃ (y40 : (List GPu)), s = ⟨277, 0, [(0, (I t0)), (3, (SL 4 (cA4 c8) t3)), (4, (U8 t4)), (5, (U8 t5)), (6, (U8 t6)), (18, (I (w64 (60 + (x22.toNat : Int))))), (19, (LP 0 0)), (20, (I v24)), (23, (SL 2 cPu y40))], [(cDv v25)], ⟨0, []⟩⟩ ∧ M_law7_LabelAll_k2 (M_law7_LabelAll_l1 t0 t1 t2 t3 t4 t5 t6 t7 n1) (M_law7_LabelAll_l2 (M_law7_LabelAll_l1 t0 t1 t2 t3 t4 t5 t6 t7 n1) t0 t3 t4 t5 t6 x22 n2) t0 t3 t4 t5 t6 x22 v24 v25 y40 = some r) ?_ ?_
                    · refine aws ?_
                      refine awr ?_
                      refine ado rfl rfl rfl (emv (eV (v := (SL 4 (cA4 c8) t3)) rfl)) ?_
                      refine ado rfl rfl rfl (emv (eV (v := (I v24)) rfl)) ?_
                      obtain ⟨x41, hx41, h⟩ := bindS h
                      refine ado rfl rfl rfl (tx_idxD (c := (cA4 c8)) (xs := t3) (i := v24) (ceA4 ce8) Try.underlying22 s_39 rfl rfl hx41) ?_
                      refine ado rfl rfl rfl (ex_indexAddrAD (vs := (List.drop 3 ((cA4 c8) x41))) (i := 3) Try.underlying39 s_5 rfl rfl (by decide) rfl) ?_
                      refine ado rfl rfl rfl (tx_ldD1 (v := (U8 x41.x3)) Try.underlying5 rfl rfl rfl) ?_
                      obtain ⟨x42, hx42, h⟩ := bindS h
                      refine ado rfl rfl rfl (ex_bin (vx := (U8 x41.x3)) (vy := (U8 32)) rfl rfl (quo8_ok hx42)) ?_
                      refine ake [0, 3, 4, 5, 6, 18, 19, 20, 21, 23, 153] 2 0 (st' := ⟨277, 0, [(0, (I t0)), (3, (SL 4 (cA4 c8) t3)), (4, (U8 t4)), (5, (U8 t5)), (6, (U8 t6)), (18, (I (w64 (60 + (x22.toNat : Int))))), (19, (LP 0 0)), (20, (I v24)), (21, (LP 1 0)), (23, (SL 2 cPu x39)), (153, (U8 x42))], [(cDv v25), (cUb x29)], ⟨0, []⟩⟩) (by kernel_rfl) (by kernel_rfl) ?_
                      show AWp _ _ _ _
                      refine awp_block ?_
                      refine aws ?_
                      refine awr ?_
                      refine ado rfl rfl rfl (ex_bin (vx := (U8 x42)) (vy := (U8 0)) rfl rfl eql8_ok) ?_
                      refine ado rfl rfl rfl (eas (eV (v := (Bo (x42 == 0))) rfl)) ?_
                      refine ake [0, 3, 4, 5, 6, 18, 19, 20, 21, 23, 153, 154] 2 0 (st' := ⟨277, 0, [(0, (I t0)), (3, (SL 4 (cA4 c8) t3)), (4, (U8 t4)), (5, (U8 t5)), (6, (U8 t6)), (18, (I (w64 (60 + (x22.toNat : Int))))), (19, (LP 0 0)), (20, (I v24)), (21, (LP 1 0)), (23, (SL 2 cPu x39)), (153, (U8 x42)), (154, (Bo (x42 == 0)))], [(cDv v25), (cUb x29)], ⟨0, []⟩⟩) (by kernel_rfl) (by kernel_rfl) ?_
                      show AWp _ _ _ _
                      rcases Bool.eq_false_or_eq_true (x42 == 0) with hb43 | hb43
                      · rw [condT hb43] at h
                        refine awp_condT (boT hb43) ?_
                        obtain ⟨x44, hx44, h⟩ := bindS h
                        obtain ⟨x45, hx45, h⟩ := bindS h
                        obtain ⟨x46, hx46, h⟩ := bindS h
                        obtain ⟨x47, hx47, h⟩ := bindS h
                        obtain ⟨x48, hx48, h⟩ := bindS h
                        obtain ⟨x49, hx49, h⟩ := bindS h
                        obtain ⟨x50, hx50, h⟩ := bindS h
                        obtain ⟨x51, hx51, h⟩ := bindS h
                        refine awp_kn [0, 3, 4, 5, 6, 18, 19, 20, 23] 1 0 (st' := ⟨277, 0, [(0, (I t0)), (3, (SL 4 (cA4 c8) t3)), (4, (U8 t4)), (5, (U8 t5)), (6, (U8 t6)), (18, (I (w64 (60 + (x22.toNat : Int))))), (19, (LP 0 0)), (20, (I v24)), (23, (SL 2 cPu ([(GPu.mk x46 x51)] : List GPu)))], [(cDv v25)], ⟨0, []⟩⟩) (awp_draw (T := [(I (w64 (60 + (x22.toNat : Int)))), (I (w64 ((w64 (60 + (x22.toNat : Int))) - 28))), (SL 4 (cA4 c8) t3), (I v24), (DP ((cA4 c8) x44)), (DP (List.drop 2 ((cA4 c8) x44))), (U8 x44.x2), (U8 x45), (I (x45.toNat : Int)), (I x46), (SL 4 (cA4 c8) t3), (I v24), (DP ((cA4 c8) x47)), (DP (List.drop 1 ((cA4 c8) x47))), (U8 x47.x1), (U8 x48), (I (x48.toNat : Int)), (I (w64 (7 + (x48.toNat : Int)))), (I (w64 (60 + (x22.toNat : Int)))), (I (w64 ((w64 (60 + (x22.toNat : Int))) - 28))), (SL 4 (cA4 c8) t3), (I v24), (DP ((cA4 c8) x49)), (DP (List.drop 0 ((cA4 c8) x49))), (U8 x49.x0), (U8 x50), (I (x50.toNat : Int)), (I (w64 ((w64 ((w64 (60 + (x22.toNat : Int))) - 28)) + (x50.toNat : Int)))), (S x51), (Value.agg (cPu (GPu.mk x46 x51)).toArray), (SL 2 cPu ([(GPu.mk x46 x51)] : List GPu)), (SL 2 cPu ([(GPu.mk x46 x51)] : List GPu))]) (LH := [([(cDv v25), (cUb x29)], ⟨0, []⟩)]) (D := [⟨[(18, none)], [], [0], false⟩, ⟨[(156, some 0)], [0], [0], false⟩, ⟨[(3, none)], [], [0], false⟩, ⟨[(20, none)], [], [0], false⟩, ⟨[(158, some 2), (159, some 3)], [2, 3], [0], false⟩, ⟨[(160, some 4)], [2, 3, 4], [0], false⟩, ⟨[(161, some 5)], [2, 3, 4, 5], [0], false⟩, ⟨[(162, some 6)], [2, 3, 4, 5, 6], [0], false⟩, ⟨[(163, some 7)], [2, 3, 4, 5, 6, 7], [0], false⟩, ⟨[(157, some 1), (164, some 8)], [0, 1, 2, 3, 4, 5, 6, 7, 8], [0], false⟩, ⟨[(3, none)], [], [0], false⟩, ⟨[(20, none)], [], [0], false⟩, ⟨[(166, some 10), (167, some 11)], [10, 11], [0], false⟩, ⟨[(168, some 12)], [10, 11, 12], [0], false⟩, ⟨[(169, some 13)], [10, 11, 12, 13], [0], false⟩, ⟨[(170, some 14)], [10, 11, 12, 13, 14], [0], false⟩, ⟨[(171, some 15)], [10, 11, 12, 13, 14, 15], [0], false⟩, ⟨[(172, some 16)], [10, 11, 12, 13, 14, 15, 16], [0], false⟩, ⟨[(18, none)], [], [0], false⟩, ⟨[(174, some 18)], [18], [0], false⟩, ⟨[(3, none)], [], [0], false⟩, ⟨[(20, none)], [], [0], false⟩, ⟨[(176, some 20), (177, some 21)], [20, 21], [0], false⟩, ⟨[(178, some 22)], [20, 21, 22], [0], false⟩, ⟨[(179, some 23)], [20, 21, 22, 23], [0], false⟩, ⟨[(180, some 24)], [20, 21, 22, 23, 24], [0], false⟩, ⟨[(181, some 25)], [20, 21, 22, 23, 24, 25], [0], false⟩, ⟨[(175, some 19), (182, some 26)], [18, 19, 20, 21, 22, 23, 24, 25, 26], [0], false⟩, ⟨[(173, some 17), (183, some 27)], [0, 1, 2, 3, 4, 5, 6, 7, 8, 9, 10, 11, 12, 13, 14, 15, 16, 17, 18, 19, 20, 21, 22, 23, 24, 25, 26, 27], [0], false⟩, ⟨[(165, some 9), (184, some 28)], [0, 1, 2, 3, 4, 5, 6, 7, 8, 9, 10, 11, 12, 13, 14, 15, 16, 17, 18, 19, 20, 21, 22, 23, 24, 25, 26, 27, 28], [0], false⟩, ⟨[(185, some 29)], [0, 1, 2, 3, 4, 5, 6, 7, 8, 9, 10, 11, 12, 13, 14, 15, 16, 17, 18, 19, 20, 21, 22, 23, 24, 25, 26, 27, 28, 29], [0], false⟩, ⟨[(186, some 30)], [0, 1, 2, 3, 4, 5, 6, 7, 8, 9, 10, 11, 12, 13, 14, 15, 16, 17, 18, 19, 20, 21, 22, 23, 24, 25, 26, 27, 28, 29, 30], [0], false⟩]) (S := []) (plan := [0, 1, 2, 3, 4, 5, 6, 7, 8, 9, 10, 11, 12, 13, 14, 15, 16, 17, 18, 19, 20, 21, 22, 23, 24, 25, 26, 27, 28, 29, 30, 31]) mo (by kernel_rfl) rfl rfl rfl (dcons (dst1 (Tm := [(18, (I (w64 (60 + (x22.toNat : Int)))))]) (L := [(cDv v25), (cUb x29)]) (H := ⟨0, []⟩) rfl rfl rfl rfl rfl (asd rfl (emv (eV (v := (I (w64 (60 + (x22.toNat : Int))))) rfl)))) (dcons (dst1 (Tm := [(156, (I (w64 (60 + (x22.toNat : Int)))))]) (L := [(cDv v25), (cUb x29)]) (H := ⟨0, []⟩) rfl rfl rfl rfl rfl (asd rfl (ex_bin (vx := (I (w64 (60 + (x22.toNat : Int))))) (vy := (I 28)) rfl rfl subI_ok))) (dcons (dst1 (Tm := [(3, (SL 4 (cA4 c8) t3))]) (L := [(cDv v25), (cUb x29)]) (H := ⟨0, []⟩) rfl rfl rfl rfl rfl (asd rfl (emv (eV (v := (SL 4 (cA4 c8) t3)) rfl)))) (dcons (dst1 (Tm := [(20, (I v24))]) (L := [(cDv v25), (cUb x29)]) (H := ⟨0, []⟩) rfl rfl rfl rfl rfl (asd rfl (emv (eV (v := (I v24)) rfl)))) (dcons (dst1 (Tm := [(158, (SL 4 (cA4 c8) t3)), (159, (I v24))]) (L := [(cDv v25), (cUb x29)]) (H := ⟨0, []⟩) rfl rfl rfl rfl rfl (asd rfl (tx_idxD (c := (cA4 c8)) (xs := t3) (i := v24) (ceA4 ce8) Try.underlying22 s_39 rfl rfl hx44))) (dcons (dst1 (Tm := [(160, (DP ((cA4 c8) x44)))]) (L := [(cDv v25), (cUb x29)]) (H := ⟨0, []⟩) rfl rfl rfl rfl rfl (asd rfl (ex_indexAddrAD (vs := (List.drop 2 ((cA4 c8) x44))) (i := 2) Try.underlying39 s_5 rfl rfl (by decide) rfl))) (dcons (dst1 (Tm := [(161, (DP (List.drop 2 ((cA4 c8) x44))))]) (L := [(cDv v25), (cUb x29)]) (H := ⟨0, []⟩) rfl rfl rfl rfl rfl (asd rfl (tx_ldD1 (v := (U8 x44.x2)) Try.underlying5 rfl rfl rfl))) (dcons (dst1 (Tm := [(162, (U8 x44.x2))]) (L := [(cDv v25), (cUb x29)]) (H := ⟨0, []⟩) rfl rfl rfl rfl rfl (asd rfl (ex_bin (vx := (U8 x44.x2)) (vy := (U8 4)) rfl rfl (rem8_ok hx45)))) (dcons (dst1 (Tm := [(163, (U8 x45))]) (L := [(cDv v25), (cUb x29)]) (H := ⟨0, []⟩) rfl rfl rfl rfl rfl (asd rfl (tx_8_64 Try.underlying5 Try.underlying3 rfl))) (dcons (dst1 (Tm := [(157, (I (w64 ((w64 (60 + (x22.toNat : Int))) - 28)))), (164, (I (x45.toNat : Int)))]) (L := [(cDv v25), (cUb x29)]) (H := ⟨0, []⟩) rfl rfl rfl rfl rfl (asd rfl (ex_call0 (vs := [(I (w64 ((w64 (60 + (x22.toNat : Int))) - 28))), (I (x45.toNat : Int))]) (v := (I x46)) rfl en_11 (cargs (evs rfl (evs rfl evs_nil))) rfl (ok_ref1_At (w64 ((w64 (60 + (x22.toNat : Int))) - 28)) (x45.toNat : Int) x46 hx46) rfl))) (dcons (dst1 (Tm := [(3, (SL 4 (cA4 c8) t3))]) (L := [(cDv v25), (cUb x29)]) (H := ⟨0, []⟩) rfl rfl rfl rfl rfl (asd rfl (emv (eV (v := (SL 4 (cA4 c8) t3)) rfl)))) (dcons (dst1 (Tm := [(20, (I v24))]) (L := [(cDv v25), (cUb x29)]) (H := ⟨0, []⟩) rfl rfl rfl rfl rfl (asd rfl (emv (eV (v := (I v24)) rfl)))) (dcons (dst1 (Tm := [(166, (SL 4 (cA4 c8) t3)), (167, (I v24))]) (L := [(cDv v25), (cUb x29)]) (H := ⟨0, []⟩) rfl rfl rfl rfl rfl (asd rfl (tx_idxD (c := (cA4 c8)) (xs := t3) (i := v24) (ceA4 ce8) Try.underlying22 s_39 rfl rfl hx47))) (dcons (dst1 (Tm := [(168, (DP ((cA4 c8) x47)))]) (L := [(cDv v25), (cUb x29)]) (H := ⟨0, []⟩) rfl rfl rfl rfl rfl (asd rfl (ex_indexAddrAD (vs := (List.drop 1 ((cA4 c8) x47))) (i := 1) Try.underlying39 s_5 rfl rfl (by decide) rfl))) (dcons (dst1 (Tm := [(169, (DP (List.drop 1 ((cA4 c8) x47))))]) (L := [(cDv v25), (cUb x29)]) (H := ⟨0, []⟩) rfl rfl rfl rfl rfl (asd rfl (tx_ldD1 (v := (U8 x47.x1)) Try.underlying5 rfl rfl rfl))) (dcons (dst1 (Tm := [(170, (U8 x47.x1))]) (L := [(cDv v25), (cUb x29)]) (H := ⟨0, []⟩) rfl rfl rfl rfl rfl (asd rfl (ex_bin (vx := (U8 x47.x1)) (vy := (U8 128)) rfl rfl (quo8_ok hx48)))) (dcons (dst1 (Tm := [(171, (U8 x48))]) (L := [(cDv v25), (cUb x29)]) (H := ⟨0, []⟩) rfl rfl rfl rfl rfl (asd rfl (tx_8_64 Try.underlying5 Try.underlying3 rfl))) (dcons (dst1 (Tm := [(172, (I (x48.toNat : Int)))]) (L := [(cDv v25), (cUb x29)]) (H := ⟨0, []⟩) rfl rfl rfl rfl rfl (asd rfl (ex_bin (vx := (I 7)) (vy := (I (x48.toNat : Int))) rfl rfl addI_ok))) (dcons (dst1 (Tm := [(18, (I (w64 (60 + (x22.toNat : Int)))))]) (L := [(cDv v25), (cUb x29)]) (H := ⟨0, []⟩) rfl rfl rfl rfl rfl (asd rfl (emv (eV (v := (I (w64 (60 + (x22.toNat : Int))))) rfl)))) (dcons (dst1 (Tm := [(174, (I (w64 (60 + (x22.toNat : Int)))))]) (L := [(cDv v25), (cUb x29)]) (H := ⟨0, []⟩) rfl rfl rfl rfl rfl (asd rfl (ex_bin (vx := (I (w64 (60 + (x22.toNat : Int))))) (vy := (I 28)) rfl rfl subI_ok))) (dcons (dst1 (Tm := [(3, (SL 4 (cA4 c8) t3))]) (L := [(cDv v25), (cUb x29)]) (H := ⟨0, []⟩) rfl rfl rfl rfl rfl (asd rfl (emv (eV (v := (SL 4 (cA4 c8) t3)) rfl)))) (dcons (dst1 (Tm := [(20, (I v24))]) (L := [(cDv v25), (cUb x29)]) (H := ⟨0, []⟩) rfl rfl rfl rfl rfl (asd rfl (emv (eV (v := (I v24)) rfl)))) (dcons (dst1 (Tm := [(176, (SL 4 (cA4 c8) t3)), (177, (I v24))]) (L := [(cDv v25), (cUb x29)]) (H := ⟨0, []⟩) rfl rfl rfl rfl rfl (asd rfl (tx_idxD (c := (cA4 c8)) (xs := t3) (i := v24) (ceA4 ce8) Try.underlying22 s_39 rfl rfl hx49))) (dcons (dst1 (Tm := [(178, (DP ((cA4 c8) x49)))]) (L := [(cDv v25), (cUb x29)]) (H := ⟨0, []⟩) rfl rfl rfl rfl rfl (asd rfl (ex_indexAddrAD (vs := (List.drop 0 ((cA4 c8) x49))) (i := 0) Try.underlying39 s_5 rfl rfl (by decide) rfl))) (dcons (dst1 (Tm := [(179, (DP (List.drop 0 ((cA4 c8) x49))))]) (L := [(cDv v25), (cUb x29)]) (H := ⟨0, []⟩) rfl rfl rfl rfl rfl (asd rfl (tx_ldD1 (v := (U8 x49.x0)) Try.underlying5 rfl rfl rfl))) (dcons (dst1 (Tm := [(180, (U8 x49.x0))]) (L := [(cDv v25), (cUb x29)]) (H := ⟨0, []⟩) rfl rfl rfl rfl rfl (asd rfl (ex_bin (vx := (U8 x49.x0)) (vy := (U8 200)) rfl rfl (quo8_ok hx50)))) (dcons (dst1 (Tm := [(181, (U8 x50))]) (L := [(cDv v25), (cUb x29)]) (H := ⟨0, []⟩) rfl rfl rfl rfl rfl (asd rfl (tx_8_64 Try.underlying5 Try.underlying3 rfl))) (dcons (dst1 (Tm := [(175, (I (w64 ((w64 (60 + (x22.toNat : Int))) - 28)))), (182, (I (x50.toNat : Int)))]) (L := [(cDv v25), (cUb x29)]) (H := ⟨0, []⟩) rfl rfl rfl rfl rfl (asd rfl (ex_bin (vx := (I (w64 ((w64 (60 + (x22.toNat : Int))) - 28)))) (vy := (I (x50.toNat : Int))) rfl rfl addI_ok))) (dcons (dst1 (Tm := [(173, (I (w64 (7 + (x48.toNat : Int))))), (183, (I (w64 ((w64 ((w64 (60 + (x22.toNat : Int))) - 28)) + (x50.toNat : Int)))))]) (L := [(cDv v25), (cUb x29)]) (H := ⟨0, []⟩) rfl rfl rfl rfl rfl (asd rfl (ex_call0 (vs := [(I (w64 (7 + (x48.toNat : Int)))), (I (w64 ((w64 ((w64 (60 + (x22.toNat : Int))) - 28)) + (x50.toNat : Int))))]) (v := (S x51)) rfl en_19 (cargs (evs rfl (evs rfl evs_nil))) rfl (ok_ref1_Config (w64 (7 + (x48.toNat : Int))) (w64 ((w64 ((w64 (60 + (x22.toNat : Int))) - 28)) + (x50.toNat : Int))) x51 hx51) rfl))) (dcons (dst1 (Tm := [(165, (I x46)), (184, (S x51))]) (L := [(cDv v25), (cUb x29)]) (H := ⟨0, []⟩) rfl rfl rfl rfl rfl (asd rfl (ex_build (qs := [(0, (I x46)), (1, (S x51))]) (v := (Value.agg (cPu (GPu.mk x46 x51)).toArray)) (evp rfl (evp rfl evp_nil)) (by kernel_rfl)))) (dcons (dst1 (Tm := [(185, (Value.agg (cPu (GPu.mk x46 x51)).toArray))]) (L := [(cDv v25), (cUb x29)]) (H := ⟨0, []⟩) rfl rfl rfl rfl rfl (asd rfl (ex_buildSliceD (qs := [(0, (Value.agg (cPu (GPu.mk x46 x51)).toArray))]) (cells := (([(GPu.mk x46 x51)] : List GPu).flatMap cPu)) Try.underlying27 s_44 (by decide) (evp rfl evp_nil) rfl (by kernel_rfl) (by kernel_rfl) (by kernel_rfl)))) (dcons (dst1 (Tm := [(186, (SL 2 cPu ([(GPu.mk x46 x51)] : List GPu)))]) (L := [(cDv v25), (cUb x29)]) (H := ⟨0, []⟩) rfl rfl rfl rfl rfl (asd rfl (eas (eV (v := (SL 2 cPu ([(GPu.mk x46 x51)] : List GPu))) rfl)))) dnil)))))))))))))))))))))))))))))))) ⟨rfl, rfl⟩) (by kernel_rfl) (by kernel_rfl) ?_
                        exact (Exists.intro ([(GPu.mk x46 x51)] : List GPu) (And.intro rfl h))
                      · rw [condF hb43] at h
                        refine awp_condF (boF hb43) ?_
                        refine aws ?_
                        refine awr ?_
                        refine ado rfl rfl rfl (ex_bin (vx := (U8 x42)) (vy := (U8 1)) rfl rfl eql8_ok) ?_
                        refine ado rfl rfl rfl (eas (eV (v := (Bo (x42 == 1))) rfl)) ?_
                        refine ake [0, 3, 4, 5, 6, 18, 19, 20, 21, 23, 187] 2 0 (st' := ⟨277, 0, [(0, (I t0)), (3, (SL 4 (cA4 c8) t3)), (4, (U8 t4)), (5, (U8 t5)), (6, (U8 t6)), (18, (I (w64 (60 + (x22.toNat : Int))))), (19, (LP 0 0)), (20, (I v24)), (21, (LP 1 0)), (23, (SL 2 cPu x39)), (187, (Bo (x42 == 1)))], [(cDv v25), (cUb x29)], ⟨0, []⟩⟩) (by kernel_rfl) (by kernel_rfl) ?_
                        show AWp _ _ _ _
                        rcases Bool.eq_false_or_eq_true (x42 == 1) with hb52 | hb52
                        · rw [condT hb52] at h
                          refine awp_condT (boT hb52) ?_
                          obtain ⟨x53, hx53, h⟩ := bindS h
                          obtain ⟨x54, hx54, h⟩ := bindS h
                          obtain ⟨x55, hx55, h⟩ := bindS h
                          refine awp_kn [0, 3, 4, 5, 6, 18, 19, 20, 23] 1 0 (st' := ⟨277, 0, [(0, (I t0)), (3, (SL 4 (cA4 c8) t3)), (4, (U8 t4)), (5, (U8 t5)), (6, (U8 t6)), (18, (I (w64 (60 + (x22.toNat : Int))))), (19, (LP 0 0)), (20, (I v24)), (23, (SL 2 cPu ([(GPu.mk x54 x55)] : List GPu)))], [(cDv v25)], ⟨0, []⟩⟩) (awp_draw (T := [(SL 4 (cA4 c8) t3), (I v24), (DP ((cA4 c8) x53)), (DP (List.drop 2 ((cA4 c8) x53))), (U8 x53.x2), (I (x53.x2.toNat : Int)), (I (w64 (60 + (x22.toNat : Int)))), (I x54), (Value.agg (cUb x29).toArray), (S x55), (Value.agg (cPu (GPu.mk x54 x55)).toArray), (SL 2 cPu ([(GPu.mk x54 x55)] : List GPu)), (SL 2 cPu ([(GPu.mk x54 x55)] : List GPu))]) (LH := [([(cDv v25), (cUb x29)], ⟨0, []⟩)]) (D := [⟨[(3, none)], [], [0], false⟩, ⟨[(20, none)], [], [0], false⟩, ⟨[(189, some 0), (190, some 1)], [0, 1], [0], false⟩, ⟨[(191, some 2)], [0, 1, 2], [0], false⟩, ⟨[(192, some 3)], [0, 1, 2, 3], [0], false⟩, ⟨[(193, some 4)], [0, 1, 2, 3, 4], [0], false⟩, ⟨[(18, none)], [], [0], false⟩, ⟨[(194, some 5), (195, some 6)], [0, 1, 2, 3, 4, 5, 6], [0], false⟩, ⟨[(21, none)], [], [0], false⟩, ⟨[(197, some 8)], [8], [0], false⟩, ⟨[(196, some 7), (198, some 9)], [0, 1, 2, 3, 4, 5, 6, 7, 8, 9], [0], false⟩, ⟨[(199, some 10)], [0, 1, 2, 3, 4, 5, 6, 7, 8, 9, 10], [0], false⟩, ⟨[(200, some 11)], [0, 1, 2, 3, 4, 5, 6, 7, 8, 9, 10, 11], [0], false⟩]) (S := []) (plan := [0, 1, 2, 3, 4, 5, 6, 7, 8, 9, 10, 11, 12]) mo (by kernel_rfl) rfl rfl rfl (dcons (dst1 (Tm := [(3, (SL 4 (cA4 c8) t3))]) (L := [(cDv v25), (cUb x29)]) (H := ⟨0, []⟩) rfl rfl rfl rfl rfl (asd rfl (emv (eV (v := (SL 4 (cA4 c8) t3)) rfl)))) (dcons (dst1 (Tm := [(20, (I v24))]) (L := [(cDv v25), (cUb x29)]) (H := ⟨0, []⟩) rfl rfl rfl rfl rfl (asd rfl (emv (eV (v := (I v24)) rfl)))) (dcons (dst1 (Tm := [(189, (SL 4 (cA4 c8) t3)), (190, (I v24))]) (L := [(cDv v25), (cUb x29)]) (H := ⟨0, []⟩) rfl rfl rfl rfl rfl (asd rfl (tx_idxD (c := (cA4 c8)) (xs := t3) (i := v24) (ceA4 ce8) Try.underlying22 s_39 rfl rfl hx53))) (dcons (dst1 (Tm := [(191, (DP ((cA4 c8) x53)))]) (L := [(cDv v25), (cUb x29)]) (H := ⟨0, []⟩) rfl rfl rfl rfl rfl (asd rfl (ex_indexAddrAD (vs := (List.drop 2 ((cA4 c8) x53))) (i := 2) Try.underlying39 s_5 rfl rfl (by decide) rfl))) (dcons (dst1 (Tm := [(192, (DP (List.drop 2 ((cA4 c8) x53))))]) (L := [(cDv v25), (cUb x29)]) (H := ⟨0, []⟩) rfl rfl rfl rfl rfl (asd rfl (tx_ldD1 (v := (U8 x53.x2)) Try.underlying5 rfl rfl rfl))) (dcons (dst1 (Tm := [(193, (U8 x53.x2))]) (L := [(cDv v25), (cUb x29)]) (H := ⟨0, []⟩) rfl rfl rfl rfl rfl (asd rfl (tx_8_64 Try.underlying5 Try.underlying3 rfl))) (dcons (dst1 (Tm := [(18, (I (w64 (60 + (x22.toNat : Int)))))]) (L := [(cDv v25), (cUb x29)]) (H := ⟨0, []⟩) rfl rfl rfl rfl rfl (asd rfl (emv (eV (v := (I (w64 (60 + (x22.toNat : Int))))) rfl)))) (dcons (dst1 (Tm := [(194, (I (x53.x2.toNat : Int))), (195, (I (w64 (60 + (x22.toNat : Int)))))]) (L := [(cDv v25), (cUb x29)]) (H := ⟨0, []⟩) rfl rfl rfl rfl rfl (asd rfl (ex_bin (vx := (I (x53.x2.toNat : Int))) (vy := (I (w64 (60 + (x22.toNat : Int))))) rfl rfl (remI_ok hx54)))) (dcons (dst1 (Tm := [(21, (LP 1 0))]) (L := [(cDv v25), (cUb x29)]) (H := ⟨0, []⟩) rfl rfl rfl rfl rfl (asd rfl (tx_ldLA (vs := (cUb x29)) Try.underlying37 rfl s_37 (by decide) rfl rfl rfl rfl))) (dcons (dst1 (Tm := [(197, (Value.agg (cUb x29).toArray))]) (L := [(cDv v25), (cUb x29)]) (H := ⟨0, []⟩) rfl rfl rfl rfl rfl (asd rfl (ex_call0 (vs := [(Value.agg (cUb x29).toArray)]) (v := (S x55)) rfl en_20 (cargs (evs rfl evs_nil)) rfl (ok_ref1_PutUber x29 x55 hx55) rfl))) (dcons (dst1 (Tm := [(196, (I x54)), (198, (S x55))]) (L := [(cDv v25), (cUb x29)]) (H := ⟨0, []⟩) rfl rfl rfl rfl rfl (asd rfl (ex_build (qs := [(0, (I x54)), (1, (S x55))]) (v := (Value.agg (cPu (GPu.mk x54 x55)).toArray)) (evp rfl (evp rfl evp_nil)) (by kernel_rfl)))) (dcons (dst1 (Tm := [(199, (Value.agg (cPu (GPu.mk x54 x55)).toArray))]) (L := [(cDv v25), (cUb x29)]) (H := ⟨0, []⟩) rfl rfl rfl rfl rfl (asd rfl (ex_buildSliceD (qs := [(0, (Value.agg (cPu (GPu.mk x54 x55)).toArray))]) (cells := (([(GPu.mk x54 x55)] : List GPu).flatMap cPu)) Try.underlying27 s_44 (by decide) (evp rfl evp_nil) rfl (by kernel_rfl) (by kernel_rfl) (by kernel_rfl)))) (dcons (dst1 (Tm := [(200, (SL 2 cPu ([(GPu.mk x54 x55)] : List GPu)))]) (L := [(cDv v25), (cUb x29)]) (H := ⟨0, []⟩) rfl rfl rfl rfl rfl (asd rfl (eas (eV (v := (SL 2 cPu ([(GPu.mk x54 x55)] : List GPu))) rfl)))) dnil))))))))))))) ⟨rfl, rfl⟩) (by kernel_rfl) (by kernel_rfl) ?_
                          exact (Exists.intro ([(GPu.mk x54 x55)] : List GPu) (And.intro rfl h))
                        · rw [condF hb52] at h
                          refine awp_condF (boF hb52) ?_
                          refine awp_keepE [0, 3, 4, 5, 6, 18, 19, 20, 23] 1 0 (st' := ⟨277, 0, [(0, (I t0)), (3, (SL 4 (cA4 c8) t3)), (4, (U8 t4)), (5, (U8 t5)), (6, (U8 t6)), (18, (I (w64 (60 + (x22.toNat : Int))))), (19, (LP 0 0)), (20, (I v24)), (23, (SL 2 cPu x39))], [(cDv v25)], ⟨0, []⟩⟩) (by kernel_rfl) (by kernel_rfl) ?_
                          refine awp_skip ?_
                          exact (Exists.intro x39 (And.intro rfl h))
                    · rintro s ⟨y40, rfl, h⟩
                      unfold M_law7_LabelAll_k2 at h
                      refine awr ?_
                      refine ado rfl rfl rfl (tx_ldLA (vs := (cDv v25)) Try.underlying29 rfl s_29 (by decide) rfl rfl rfl rfl) ?_
                      refine ado rfl rfl rfl (emv (eV (v := (SL 2 cPu y40)) rfl)) ?_
                      obtain ⟨x56, hx56, h⟩ := bindS h
                      refine ado rfl rfl rfl (ex_call0 (vs := [(Value.agg (cDv v25).toArray), (SL 2 cPu y40)]) (v := (Value.tuple #[(Value.agg (cDv x56.1).toArray), (Bo x56.2)])) rfl en_21 (cargs (evs rfl (evs rfl evs_nil))) rfl (ok_ref1_Write v25 y40 x56 hx56) rfl) ?_
                      refine ado rfl rfl rfl (emv (eV (v := (Value.tuple #[(Value.agg (cDv x56.1).toArray), (Bo x56.2)])) rfl)) ?_
                      refine ado rfl rfl rfl (ex_extract (vx := (Value.tuple #[(Value.agg (cDv x56.1).toArray), (Bo x56.2)])) (v := (Value.agg (cDv x56.1).toArray)) rfl rfl) ?_
                      refine ado rfl rfl rfl (ex_extract (vx := (Value.tuple #[(Value.agg (cDv x56.1).toArray), (Bo x56.2)])) (v := (Bo x56.2)) rfl rfl) ?_
                      refine arun_do0 rfl rfl (ex_storeL (vy := (Value.agg (cDv x56.1).toArray)) (cs := (cDv v25)) (vs := (cDv x56.1)) (L' := [(cDv x56.1)]) rfl (eV (v := (Value.agg (cDv x56.1).toArray)) rfl) rfl s_29 rfl (Nat.le_of_ble_eq_true rfl) (by kernel_rfl)) ?_
                      refine ake [0, 3, 4, 5, 6, 18, 19, 20] 1 0 (st' := ⟨277, 0, [(0, (I t0)), (3, (SL 4 (cA4 c8) t3)), (4, (U8 t4)), (5, (U8 t5)), (6, (U8 t6)), (18, (I (w64 (60 + (x22.toNat : Int))))), (19, (LP 0 0)), (20, (I v24))], [(cDv x56.1)], ⟨0, []⟩⟩) (by kernel_rfl) (by kernel_rfl) ?_
                      exact (Exists.intro x56.1 (And.intro rfl h))
                · rintro s ⟨y27, rfl, h⟩
                  unfold M_law7_LabelAll_k1 at h
                  refine awr ?_
                  refine ado rfl rfl rfl (emv (eV (v := (I v24)) rfl)) ?_
                  refine ado rfl rfl rfl (ex_bin (vx := (I v24)) (vy := (I 1)) rfl rfl addI_ok) ?_
                  refine ado rfl rfl rfl (eas (eV (v := (I (w64 (v24 + 1)))) rfl)) ?_
                  refine ake [0, 3, 4, 5, 6, 18, 19, 20] 1 0 (st' := ⟨277, 0, [(0, (I t0)), (3, (SL 4 (cA4 c8) t3)), (4, (U8 t4)), (5, (U8 t5)), (6, (U8 t6)), (18, (I (w64 (60 + (x22.toNat : Int))))), (19, (LP 0 0)), (20, (I (w64 (v24 + 1))))], [(cDv y27)], ⟨0, []⟩⟩) (by kernel_rfl) (by kernel_rfl) ?_
                  exact Exists.intro n2 (And.intro (Nat.lt_succ_self _) (Exists.intro (w64 (v24 + 1)) (Exists.intro y27 (And.intro rfl h))))
              · rw [condF hb26] at h
                refine awp_condF (boF hb26) ?_
                refine awp_exit ?_
                show AWp _ _ _ _
                refine aws ?_
                refine awr ?_
                refine ado rfl rfl rfl (tx_ldLA (vs := (cDv v25)) Try.underlying29 rfl s_29 (by decide) rfl rfl rfl rfl) ?_
                obtain ⟨x57, hx57, h⟩ := bindS h
                refine ado rfl rfl rfl (ex_call0 (vs := [(Value.agg (cDv v25).toArray)]) (v := (Value.tuple #[(Value.agg (cDv x57.1).toArray), (Bo x57.2)])) rfl en_22 (cargs (evs rfl evs_nil)) rfl (ok_ref1_Flush v25 x57 hx57) rfl) ?_
                refine ado rfl rfl rfl (emv (eV (v := (Value.tuple #[(Value.agg (cDv x57.1).toArray), (Bo x57.2)])) rfl)) ?_
                refine ado rfl rfl rfl (ex_extract (vx := (Value.tuple #[(Value.agg (cDv x57.1).toArray), (Bo x57.2)])) (v := (Value.agg (cDv x57.1).toArray)) rfl rfl) ?_
                refine ado rfl rfl rfl (ex_extract (vx := (Value.tuple #[(Value.agg (cDv x57.1).toArray), (Bo x57.2)])) (v := (Bo x57.2)) rfl rfl) ?_
                refine arun_do0 rfl rfl (ex_storeL (vy := (Value.agg (cDv x57.1).toArray)) (cs := (cDv v25)) (vs := (cDv x57.1)) (L' := [(cDv x57.1)]) rfl (eV (v := (Value.agg (cDv x57.1).toArray)) rfl) rfl s_29 rfl (Nat.le_of_ble_eq_true rfl) (by kernel_rfl)) ?_
                refine ake [4, 5, 6, 18, 19] 1 0 (st' := ⟨277, 0, [(4, (U8 t4)), (5, (U8 t5)), (6, (U8 t6)), (18, (I (w64 (60 + (x22.toNat : Int))))), (19, (LP 0 0))], [(cDv x57.1)], ⟨0, []⟩⟩) (by kernel_rfl) (by kernel_rfl) ?_
                show AWp _ _ _ _
                refine aws ?_
                obtain ⟨x58, hx58, h⟩ := bindS h
                obtain ⟨x59, hx59, h⟩ := bindS h
                obtain ⟨x60, hx60, h⟩ := bindS h
                refine awp_kn [24] 0 0 (st' := ⟨277, 0, [(24, (SL 5 cDv ([x57.1, x59, (GDv.mk [] [] 0 0 false), x60] : List GDv)))], [], ⟨0, []⟩⟩) (awp_draw (T := [(Value.agg (cDv x57.1).toArray), (Value.agg (cDv x57.1).toArray), (U8 t4), (I (t4.toNat : Int)), (I (w64 (60 + (x22.toNat : Int)))), (I x58), (U8 t5), (I (t5.toNat : Int)), (U8 t6), (I (t6.toNat : Int)), (Value.agg (cDv x59).toArray), (Value.agg (cDv (GDv.mk [] [] 0 0 false)).toArray), (Value.agg (cDv x60).toArray), (SL 5 cDv ([x57.1, x59, (GDv.mk [] [] 0 0 false), x60] : List GDv)), (SL 5 cDv ([x57.1, x59, (GDv.mk [] [] 0 0 false), x60] : List GDv))]) (LH := [([(cDv x57.1)], ⟨0, []⟩)]) (D := [⟨[(19, none)], [], [0], false⟩, ⟨[(19, none)], [], [0], false⟩, ⟨[(4, none)], [], [0], false⟩, ⟨[(214, some 2)], [2], [0], false⟩, ⟨[(18, none)], [], [0], false⟩, ⟨[(215, some 3), (216, some 4)], [2, 3, 4], [0], false⟩, ⟨[(5, none)], [], [0], false⟩, ⟨[(218, some 6)], [6], [0], false⟩, ⟨[(6, none)], [], [0], false⟩, ⟨[(220, some 8)], [8], [0], false⟩, ⟨[(213, some 1), (217, some 5), (219, some 7), (221, some 9)], [1, 2, 3, 4, 5, 6, 7, 8, 9], [0], false⟩, ⟨[], [], [0], false⟩, ⟨[], [1, 2, 3, 4, 5, 6, 7, 8, 9, 10], [0], false⟩, ⟨[(212, some 0), (222, some 10), (223, some 11), (224, some 12)], [0, 1, 2, 3, 4, 5, 6, 7, 8, 9, 10, 11, 12], [0], false⟩, ⟨[(225, some 13)], [0, 1, 2, 3, 4, 5, 6, 7, 8, 9, 10, 11, 12, 13], [0], false⟩]) (S := []) (plan := [0, 1, 2, 3, 4, 5, 6, 7, 8, 9, 10, 11, 12, 13, 14]) mo (by kernel_rfl) rfl rfl rfl (dcons (dst1 (Tm := [(19, (LP 0 0))]) (L := [(cDv x57.1)]) (H := ⟨0, []⟩) rfl rfl rfl rfl rfl (asd rfl (tx_ldLA (vs := (cDv x57.1)) Try.underlying29 rfl s_29 (by decide) rfl rfl rfl rfl))) (dcons (dst1 (Tm := [(19, (LP 0 0))]) (L := [(cDv x57.1)]) (H := ⟨0, []⟩) rfl rfl rfl rfl rfl (asd rfl (tx_ldLA (vs := (cDv x57.1)) Try.underlying29 rfl s_29 (by decide) rfl rfl rfl rfl))) (dcons (dst1 (Tm := [(4, (U8 t4))]) (L := [(cDv x57.1)]) (H := ⟨0, []⟩) rfl rfl rfl rfl rfl (asd rfl (emv (eV (v := (U8 t4)) rfl)))) (dcons (dst1 (Tm := [(214, (U8 t4))]) (L := [(cDv x57.1)]) (H := ⟨0, []⟩) rfl rfl rfl rfl rfl (asd rfl (tx_8_64 Try.underlying5 Try.underlying3 rfl))) (dcons (dst1 (Tm := [(18, (I (w64 (60 + (x22.toNat : Int)))))]) (L := [(cDv x57.1)]) (H := ⟨0, []⟩) rfl rfl rfl rfl rfl (asd rfl (emv (eV (v := (I (w64 (60 + (x22.toNat : Int))))) rfl)))) (dcons (dst1 (Tm := [(215, (I (t4.toNat : Int))), (216, (I (w64 (60 + (x22.toNat : Int)))))]) (L := [(cDv x57.1)]) (H := ⟨0, []⟩) rfl rfl rfl rfl rfl (asd rfl (ex_bin (vx := (I (t4.toNat : Int))) (vy := (I (w64 (60 + (x22.toNat : Int))))) rfl rfl (remI_ok hx58)))) (dcons (dst1 (Tm := [(5, (U8 t5))]) (L := [(cDv x57.1)]) (H := ⟨0, []⟩) rfl rfl rfl rfl rfl (asd rfl (emv (eV (v := (U8 t5)) rfl)))) (dcons (dst1 (Tm := [(218, (U8 t5))]) (L := [(cDv x57.1)]) (H := ⟨0, []⟩) rfl rfl rfl rfl rfl (asd rfl (tx_8_64 Try.underlying5 Try.underlying3 rfl))) (dcons (dst1 (Tm := [(6, (U8 t6))]) (L := [(cDv x57.1)]) (H := ⟨0, []⟩) rfl rfl rfl rfl rfl (asd rfl (emv (eV (v := (U8 t6)) rfl)))) (dcons (dst1 (Tm := [(220, (U8 t6))]) (L := [(cDv x57.1)]) (H := ⟨0, []⟩) rfl rfl rfl rfl rfl (asd rfl (tx_8_64 Try.underlying5 Try.underlying3 rfl))) (dcons (dst1 (Tm := [(213, (Value.agg (cDv x57.1).toArray)), (217, (I x58)), (219, (I (t5.toNat : Int))), (221, (I (t6.toNat : Int)))]) (L := [(cDv x57.1)]) (H := ⟨0, []⟩) rfl rfl rfl rfl rfl (asd rfl (ex_call0 (vs := [(Value.agg (cDv x57.1).toArray), (I x58), (I (t5.toNat : Int)), (I (t6.toNat : Int))]) (v := (Value.agg (cDv x59).toArray)) rfl en_23 (cargs (evs rfl (evs rfl (evs rfl (evs rfl evs_nil))))) rfl (ok_ref1_Turn x57.1 x58 (t5.toNat : Int) (t6.toNat : Int) x59 hx59) rfl))) (dcons (dst1 (Tm := []) (L := [(cDv x57.1)]) (H := ⟨0, []⟩) rfl rfl rfl rfl rfl (asd rfl (ex_buildW (vs := ([(Value.slice none 0 0)] ++ ([(Value.slice none 0 0)] ++ ([(I 0)] ++ ([(I 0)] ++ ([(Bo false)]))))).toArray) (qs := []) (ws := (cDv (GDv.mk [] [] 0 0 false))) evp_nil (by kernel_rfl) (by repeat (first | exact trivial | refine ⟨.inl rfl, ?_⟩ | refine ⟨.inr ⟨rfl, _, rfl⟩, ?_⟩))))) (dcons (dst1 (Tm := []) (L := [(cDv x57.1)]) (H := ⟨0, []⟩) rfl rfl rfl rfl rfl (asd rfl (ex_call0 (vs := [(I 300)]) (v := (Value.agg (cDv x60).toArray)) rfl en_14 (cargs (evs rfl evs_nil)) rfl (ok_ref1_New 300 x60 hx60) rfl))) (dcons (dst1 (Tm := [(212, (Value.agg (cDv x57.1).toArray)), (222, (Value.agg (cDv x59).toArray)), (223, (Value.agg (cDv (GDv.mk [] [] 0 0 false)).toArray)), (224, (Value.agg (cDv x60).toArray))]) (L := [(cDv x57.1)]) (H := ⟨0, []⟩) rfl rfl rfl rfl rfl (asd rfl (ex_buildSliceD (qs := [(0, (Value.agg (cDv x57.1).toArray)), (1, (Value.agg (cDv x59).toArray)), (2, (Value.agg (cDv (GDv.mk [] [] 0 0 false)).toArray)), (3, (Value.agg (cDv x60).toArray))]) (cells := (([x57.1, x59, (GDv.mk [] [] 0 0 false), x60] : List GDv).flatMap cDv)) Try.underlying50 s_29 (by decide) (evp rfl (evp rfl (evp rfl (evp rfl evp_nil)))) rfl (by kernel_rfl) (by kernel_rfl) (by kernel_rfl)))) (dcons (dst1 (Tm := [(225, (SL 5 cDv ([x57.1, x59, (GDv.mk [] [] 0 0 false), x60] : List GDv)))]) (L := [(cDv x57.1)]) (H := ⟨0, []⟩) rfl rfl rfl rfl rfl (asd rfl (eas (eV (v := (SL 5 cDv ([x57.1, x59, (GDv.mk [] [] 0 0 false), x60] : List GDv))) rfl)))) dnil))))))))))))))) ⟨rfl, rfl⟩) (by kernel_rfl) (by kernel_rfl) ?_
                show AWp _ _ _ _
                refine aws ?_
                refine aws ?_
                refine awr ?_
                refine ado rfl rfl rfl (eas (eV (v := (I 0)) rfl)) ?_
                refine ake [24, 25] 0 0 (st' := ⟨277, 0, [(24, (SL 5 cDv ([x57.1, x59, (GDv.mk [] [] 0 0 false), x60] : List GDv))), (25, (I 0))], [], ⟨0, []⟩⟩) (by kernel_rfl) (by kernel_rfl) ?_
                show AWp _ _ _ _
                refine awp_block ?_
                refine awp_loop (fun n s => ∃ (v61 : Int), s = ⟨277, 0, [(24, (SL 5 cDv ([x57.1, x59, (GDv.mk [] [] 0 0 false), x60] : List GDv))), (25, (I v61))], [], ⟨0, []⟩⟩ ∧ M_law7_LabelAll_l3 (M_law7_LabelAll_l1 t0 t1 t2 t3 t4 t5 t6 t7 n1) (M_law7_LabelAll_l2 (M_law7_LabelAll_l1 t0 t1 t2 t3 t4 t5 t6 t7 n1) t0 t3 t4 t5 t6 x22 n2) x57 x59 x60 n v61 = some r) fuel (Exists.intro 0 (And.intro rfl h)) ?_
                rintro n s ⟨v61, rfl, h⟩ -
                cases n with
                | zero => cases h
                | succ n3 =>
                  unfold M_law7_LabelAll_l3 at h
                  refine aws ?_
                  refine aws ?_
                  refine awr ?_
                  refine ado rfl rfl rfl (emv (eV (v := (I v61)) rfl)) ?_
                  refine ado rfl rfl rfl (emv (eV (v := (SL 5 cDv ([x57.1, x59, (GDv.mk [] [] 0 0 false), x60] : List GDv))) rfl)) ?_
                  refine ado rfl rfl rfl (tx_lenD (xs := ([x57.1, x59, (GDv.mk [] [] 0 0 false), x60] : List GDv)) ce_api_Dev Try.underlying50 rfl) ?_
                  refine ado rfl rfl rfl (ex_bin (vx := (I v61)) (vy := (I (([x57.1, x59, (GDv.mk [] [] 0 0 false), x60] : List GDv).length : Int))) rfl rfl lssI_ok) ?_
                  refine ake [24, 25, 229] 0 0 (st' := ⟨277, 0, [(24, (SL 5 cDv ([x57.1, x59, (GDv.mk [] [] 0 0 false), x60] : List GDv))), (25, (I v61)), (229, (Bo (decide (v61 < (([x57.1, x59, (GDv.mk [] [] 0 0 false), x60] : List GDv).length : Int)))))], [], ⟨0, []⟩⟩) (by kernel_rfl) (by kernel_rfl) ?_
                  show AWp _ _ _ _
                  rcases Bool.eq_false_or_eq_true (decide (v61 < (([x57.1, x59, (GDv.mk [] [] 0 0 false), x60] : List GDv).length : Int))) with hb62 | hb62
                  · rw [condT hb62] at h
                    refine awp_condT (boT hb62) ?_
                    refine awp_skip ?_
                    show AWp _ _ _ _
                    refine aws ?_
                    refine awp_block ?_
                    refine aws ?_
                    refine awr ?_
                    refine ado rfl rfl rfl (emv (eV (v := (SL 5 cDv ([x57.1, x59, (GDv.mk [] [] 0 0 false), x60] : List GDv))) rfl)) ?_
                    refine ado rfl rfl rfl (emv (eV (v := (I v61)) rfl)) ?_
                    obtain ⟨x63, hx63, h⟩ := bindS h
                    refine ado rfl rfl rfl (tx_idxD (c := cDv) (xs := ([x57.1, x59, (GDv.mk [] [] 0 0 false), x60] : List GDv)) (i := v61) ce_api_Dev Try.underlying50 s_29 rfl rfl hx63) ?_
                    refine ado rfl rfl rfl (tx_ldDA (vs := (cDv x63)) Try.underlying29 rfl s_29 (by decide) rfl (Nat.le_of_ble_eq_true rfl) rfl) ?_
                    obtain ⟨x64, hx64, h⟩ := bindS h
                    refine ado rfl rfl rfl (ex_call0 (vs := [(Value.agg (cDv x63).toArray)]) (v := (Value.tuple #[(I x64.1), (I x64.2.1), (Bo x64.2.2)])) rfl en_24 (cargs (evs rfl evs_nil)) rfl (ok_label_Found x63 x64 hx64) rfl) ?_
                    refine ado rfl rfl rfl (emv (eV (v := (Value.tuple #[(I x64.1), (I x64.2.1), (Bo x64.2.2)])) rfl)) ?_
                    refine ado rfl rfl rfl (ex_extract (vx := (Value.tuple #[(I x64.1), (I x64.2.1), (Bo x64.2.2)])) (v := (I x64.1)) rfl rfl) ?_
                    refine ado rfl rfl rfl (ex_extract (vx := (Value.tuple #[(I x64.1), (I x64.2.1), (Bo x64.2.2)])) (v := (I x64.2.1)) rfl rfl) ?_
                    refine ado rfl rfl rfl (ex_extract (vx := (Value.tuple #[(I x64.1), (I x64.2.1), (Bo x64.2.2)])) (v := (Bo x64.2.2)) rfl rfl) ?_
                    refine ado rfl rfl rfl (eas (eV (v := (I x64.1)) rfl)) ?_
                    refine ado rfl rfl rfl (eas (eV (v := (I x64.2.1)) rfl)) ?_
                    refine ado rfl rfl rfl (eas (eV (v := (Bo x64.2.2)) rfl)) ?_
                    refine ake [24, 25, 26, 27, 28] 0 0 (st' := ⟨277, 0, [(24, (SL 5 cDv ([x57.1, x59, (GDv.mk [] [] 0 0 false), x60] : List GDv))), (25, (I v61)), (26, (I x64.1)), (27, (I x64.2.1)), (28, (Bo x64.2.2))], [], ⟨0, []⟩⟩) (by kernel_rfl) (by kernel_rfl) ?_
                    show AWp _ _ _ _
                    refine aws ?_
                    refine awr ?_
                    refine ado rfl rfl rfl (emv (eV (v := (SL 5 cDv ([x57.1, x59, (GDv.mk [] [] 0 0 false), x60] : List GDv))) rfl)) ?_
                    refine ado rfl rfl rfl (emv (eV (v := (I v61)) rfl)) ?_
                    obtain ⟨x65, hx65, h⟩ := bindS h
                    refine ado rfl rfl rfl (tx_idxD (c := cDv) (xs := ([x57.1, x59, (GDv.mk [] [] 0 0 false), x60] : List GDv)) (i := v61) ce_api_Dev Try.underlying50 s_29 rfl rfl hx65) ?_
                    refine ado rfl rfl rfl (tx_ldDA (vs := (cDv x65)) Try.underlying29 rfl s_29 (by decide) rfl (Nat.le_of_ble_eq_true rfl) rfl) ?_
                    obtain ⟨x66, hx66, h⟩ := bindS h
                    refine ado rfl rfl rfl (ex_call0 (vs := [(Value.agg (cDv x65).toArray)]) (v := (Value.tuple #[(I x66.1), (I x66.2.1), (Bo x66.2.2)])) rfl en_25 (cargs (evs rfl evs_nil)) rfl (ok_ref1_Found x65 x66 hx66) rfl) ?_
                    refine ado rfl rfl rfl (emv (eV (v := (Value.tuple #[(I x66.1), (I x66.2.1), (Bo x66.2.2)])) rfl)) ?_
                    refine ado rfl rfl rfl (ex_extract (vx := (Value.tuple #[(I x66.1), (I x66.2.1), (Bo x66.2.2)])) (v := (I x66.1)) rfl rfl) ?_
                    refine ado rfl rfl rfl (ex_extract (vx := (Value.tuple #[(I x66.1), (I x66.2.1), (Bo x66.2.2)])) (v := (I x66.2.1)) rfl rfl) ?_
                    refine ado rfl rfl rfl (ex_extract (vx := (Value.tuple #[(I x66.1), (I x66.2.1), (Bo x66.2.2)])) (v := (Bo x66.2.2)) rfl rfl) ?_
                    refine ado rfl rfl rfl (eas (eV (v := (I x66.1)) rfl)) ?_
                    refine ado rfl rfl rfl (eas (eV (v := (I x66.2.1)) rfl)) ?_
                    refine ado rfl rfl rfl (eas (eV (v := (Bo x66.2.2)) rfl)) ?_
                    refine ake [24, 25, 26, 27, 28, 29, 30, 31] 0 0 (st' := ⟨277, 0, [(24, (SL 5 cDv ([x57.1, x59, (GDv.mk [] [] 0 0 false), x60] : List GDv))), (25, (I v61)), (26, (I x64.1)), (27, (I x64.2.1)), (28, (Bo x64.2.2)), (29, (I x66.1)), (30, (I x66.2.1)), (31, (Bo x66.2.2))], [], ⟨0, []⟩⟩) (by kernel_rfl) (by kernel_rfl) ?_
                    show AWp _ _ _ _
                    refine aws ?_
                    obtain ⟨x67, hx67, h⟩ := bindS h
                    obtain ⟨x68, hx68, h⟩ := bindS h
                    obtain ⟨x69, hx69, h⟩ := bindS h
                    obtain ⟨x70, hx70, h⟩ := bindS h
                    obtain ⟨x71, hx71, h⟩ := bindS h
                    refine awp_kn [24, 25, 276] 0 0 (st' := ⟨277, 0, [(24, (SL 5 cDv ([x57.1, x59, (GDv.mk [] [] 0 0 false), x60] : List GDv))), (25, (I v61)), (276, (Bo ((((x64.1 != x66.1) || (x64.2.1 != x66.2.1)) || (x64.2.2 != x66.2.2)) || (!x71))))], [], ⟨0, []⟩⟩) (awp_draw (T := [(I x64.1), (I x66.1), (Bo (x64.1 != x66.1)), (Bo (x64.1 != x66.1)), (cond ((x64.1 != x66.1) == false) (I x64.2.1) skipV), (cond ((x64.1 != x66.1) == false) (I x66.2.1) skipV), (cond ((x64.1 != x66.1) == false) (Bo (x64.2.1 != x66.2.1)) skipV), (Bo ((x64.1 != x66.1) || (x64.2.1 != x66.2.1))), (Bo ((x64.1 != x66.1) || (x64.2.1 != x66.2.1))), (cond (((x64.1 != x66.1) || (x64.2.1 != x66.2.1)) == false) (Bo x64.2.2) skipV), (cond (((x64.1 != x66.1) || (x64.2.1 != x66.2.1)) == false) (Bo x66.2.2) skipV), (cond (((x64.1 != x66.1) || (x64.2.1 != x66.2.1)) == false) (Bo (x64.2.2 != x66.2.2)) skipV), (Bo (((x64.1 != x66.1) || (x64.2.1 != x66.2.1)) || (x64.2.2 != x66.2.2))), (Bo (((x64.1 != x66.1) || (x64.2.1 != x66.2.1)) || (x64.2.2 != x66.2.2))), (cond ((((x64.1 != x66.1) || (x64.2.1 != x66.2.1)) || (x64.2.2 != x66.2.2)) == false) (SL 5 cDv ([x57.1, x59, (GDv.mk [] [] 0 0 false), x60] : List GDv)) skipV), (cond ((((x64.1 != x66.1) || (x64.2.1 != x66.2.1)) || (x64.2.2 != x66.2.2)) == false) (I v61) skipV), (cond ((((x64.1 != x66.1) || (x64.2.1 != x66.2.1)) || (x64.2.2 != x66.2.2)) == false) (DP (cDv x67)) skipV), (cond ((((x64.1 != x66.1) || (x64.2.1 != x66.2.1)) || (x64.2.2 != x66.2.2)) == false) (Value.agg (cDv x67).toArray) skipV), (cond ((((x64.1 != x66.1) || (x64.2.1 != x66.2.1)) || (x64.2.2 != x66.2.2)) == false) (SL 9 cUb x68) skipV), (cond ((((x64.1 != x66.1) || (x64.2.1 != x66.2.1)) || (x64.2.2 != x66.2.2)) == false) (SL 5 cDv ([x57.1, x59, (GDv.mk [] [] 0 0 false), x60] : List GDv)) skipV), (cond ((((x64.1 != x66.1) || (x64.2.1 != x66.2.1)) || (x64.2.2 != x66.2.2)) == false) (I v61) skipV), (cond ((((x64.1 != x66.1) || (x64.2.1 != x66.2.1)) || (x64.2.2 != x66.2.2)) == false) (DP (cDv x69)) skipV), (cond ((((x64.1 != x66.1) || (x64.2.1 != x66.2.1)) || (x64.2.2 != x66.2.2)) == false) (Value.agg (cDv x69).toArray) skipV), (cond ((((x64.1 != x66.1) || (x64.2.1 != x66.2.1)) || (x64.2.2 != x66.2.2)) == false) (SL 9 cUb x70) skipV), (cond ((((x64.1 != x66.1) || (x64.2.1 != x66.2.1)) || (x64.2.2 != x66.2.2)) == false) (Bo x71) skipV), (cond ((((x64.1 != x66.1) || (x64.2.1 != x66.2.1)) || (x64.2.2 != x66.2.2)) == false) (Bo (!x71)) skipV), (Bo ((((x64.1 != x66.1) || (x64.2.1 != x66.2.1)) || (x64.2.2 != x66.2.2)) || (!x71)))]) (LH := [([], ⟨0, []⟩)]) (D := [⟨[(26, none)], [], [0], false⟩, ⟨[(29, none)], [], [0], false⟩, ⟨[(250, some 0), (251, some 1)], [0, 1], [0], false⟩, ⟨[(252, some 2)], [0, 1, 2], [0], false⟩, ⟨[(27, none), (253, some 3)], [0, 1, 2, 3], [0], false⟩, ⟨[(30, none), (253, some 3)], [0, 1, 2, 3], [0], false⟩, ⟨[(254, some 4), (255, some 5), (253, some 3)], [0, 1, 2, 3, 4, 5], [0], false⟩, ⟨[(253, some 3), (256, some 6)], [0, 1, 2, 3, 4, 5, 6], [0], false⟩, ⟨[(257, some 7)], [0, 1, 2, 3, 4, 5, 6, 7], [0], false⟩, ⟨[(28, none), (258, some 8)], [0, 1, 2, 3, 4, 5, 6, 7, 8], [0], false⟩, ⟨[(31, none), (258, some 8)], [0, 1, 2, 3, 4, 5, 6, 7, 8], [0], false⟩, ⟨[(259, some 9), (260, some 10), (258, some 8)], [0, 1, 2, 3, 4, 5, 6, 7, 8, 9, 10], [0], false⟩, ⟨[(258, some 8), (261, some 11)], [0, 1, 2, 3, 4, 5, 6, 7, 8, 9, 10, 11], [0], false⟩, ⟨[(262, some 12)], [0, 1, 2, 3, 4, 5, 6, 7, 8, 9, 10, 11, 12], [0], false⟩, ⟨[(24, none), (263, some 13)], [0, 1, 2, 3, 4, 5, 6, 7, 8, 9, 10, 11, 12, 13], [0], false⟩, ⟨[(25, none), (263, some 13)], [0, 1, 2, 3, 4, 5, 6, 7, 8, 9, 10, 11, 12, 13], [0], false⟩, ⟨[(264, some 14), (265, some 15), (263, some 13)], [0, 1, 2, 3, 4, 5, 6, 7, 8, 9, 10, 11, 12, 13, 14, 15], [0], false⟩, ⟨[(266, some 16), (263, some 13)], [0, 1, 2, 3, 4, 5, 6, 7, 8, 9, 10, 11, 12, 13, 14, 15, 16], [0], false⟩, ⟨[(267, some 17), (263, some 13)], [0, 1, 2, 3, 4, 5, 6, 7, 8, 9, 10, 11, 12, 13, 14, 15, 16, 17], [0], false⟩, ⟨[(24, none), (263, some 13)], [0, 1, 2, 3, 4, 5, 6, 7, 8, 9, 10, 11, 12, 13], [0], false⟩, ⟨[(25, none), (263, some 13)], [0, 1, 2, 3, 4, 5, 6, 7, 8, 9, 10, 11, 12, 13], [0], false⟩, ⟨[(269, some 19), (270, some 20), (263, some 13)], [0, 1, 2, 3, 4, 5, 6, 7, 8, 9, 10, 11, 12, 13, 19, 20], [0], false⟩, ⟨[(271, some 21), (263, some 13)], [0, 1, 2, 3, 4, 5, 6, 7, 8, 9, 10, 11, 12, 13, 19, 20, 21], [0], false⟩, ⟨[(272, some 22), (263, some 13)], [0, 1, 2, 3, 4, 5, 6, 7, 8, 9, 10, 11, 12, 13, 14, 15, 16, 17, 18, 19, 20, 21, 22], [0], false⟩, ⟨[(268, some 18), (273, some 23), (263, some 13)], [0, 1, 2, 3, 4, 5, 6, 7, 8, 9, 10, 11, 12, 13, 14, 15, 16, 17, 18, 19, 20, 21, 22, 23], [0], false⟩, ⟨[(274, some 24), (263, some 13)], [0, 1, 2, 3, 4, 5, 6, 7, 8, 9, 10, 11, 12, 13, 14, 15, 16, 17, 18, 19, 20, 21, 22, 23, 24], [0], false⟩, ⟨[(263, some 13), (275, some 25)], [0, 1, 2, 3, 4, 5, 6, 7, 8, 9, 10, 11, 12, 13, 14, 15, 16, 17, 18, 19, 20, 21, 22, 23, 24, 25], [0], false⟩]) (S := []) (plan := [0, 1, 2, 3, 4, 5, 6, 7, 8, 9, 10, 11, 12, 13, 14, 15, 16, 17, 18, 19, 20, 21, 22, 23, 24, 25, 26]) mo (by kernel_rfl) rfl rfl rfl (dcons (dst1 (Tm := [(26, (I x64.1))]) (L := []) (H := ⟨0, []⟩) rfl rfl rfl rfl rfl (asd rfl (emv (eV (v := (I x64.1)) rfl)))) (dcons (dst1 (Tm := [(29, (I x66.1))]) (L := []) (H := ⟨0, []⟩) rfl rfl rfl rfl rfl (asd rfl (emv (eV (v := (I x66.1)) rfl)))) (dcons (dst1 (Tm := [(250, (I x64.1)), (251, (I x66.1))]) (L := []) (H := ⟨0, []⟩) rfl rfl rfl rfl rfl (asd rfl (ex_bin (vx := (I x64.1)) (vy := (I x66.1)) rfl rfl neqI_ok))) (dcons (dst1 (Tm := [(252, (Bo (x64.1 != x66.1)))]) (L := []) (H := ⟨0, []⟩) rfl rfl rfl rfl rfl (asd rfl (emv (eV (v := (Bo (x64.1 != x66.1))) rfl)))) (dcons (dst1 (Tm := [(27, (I x64.2.1)), (253, (Bo (x64.1 != x66.1)))]) (L := []) (H := ⟨0, []⟩) rfl rfl rfl rfl rfl (astep_guard (v := (I x64.2.1)) ((x64.1 != x66.1) == false) rfl (fun hc => emv (eV (v := (I x64.2.1)) rfl)))) (dcons (dst1 (Tm := [(30, (I x66.2.1)), (253, (Bo (x64.1 != x66.1)))]) (L := []) (H := ⟨0, []⟩) rfl rfl rfl rfl rfl (astep_guard (v := (I x66.2.1)) ((x64.1 != x66.1) == false) rfl (fun hc => emv (eV (v := (I x66.2.1)) rfl)))) (dcons (dst1 (Tm := [(254, (cond ((x64.1 != x66.1) == false) (I x64.2.1) skipV)), (255, (cond ((x64.1 != x66.1) == false) (I x66.2.1) skipV)), (253, (Bo (x64.1 != x66.1)))]) (L := []) (H := ⟨0, []⟩) rfl rfl rfl rfl rfl (astep_guard (v := (Bo (x64.2.1 != x66.2.1))) ((x64.1 != x66.1) == false) rfl (fun hc => ex_bin (vx := (I x64.2.1)) (vy := (I x66.2.1)) (cdo hc) (cdo hc) neqI_ok))) (dcons (dst1 (Tm := [(253, (Bo (x64.1 != x66.1))), (256, (cond ((x64.1 != x66.1) == false) (Bo (x64.2.1 != x66.2.1)) skipV))]) (L := []) (H := ⟨0, []⟩) rfl rfl rfl rfl rfl (asd rfl (ex_pick rfl pkOr))) (dcons (dst1 (Tm := [(257, (Bo ((x64.1 != x66.1) || (x64.2.1 != x66.2.1))))]) (L := []) (H := ⟨0, []⟩) rfl rfl rfl rfl rfl (asd rfl (emv (eV (v := (Bo ((x64.1 != x66.1) || (x64.2.1 != x66.2.1)))) rfl)))) (dcons (dst1 (Tm := [(28, (Bo x64.2.2)), (258, (Bo ((x64.1 != x66.1) || (x64.2.1 != x66.2.1))))]) (L := []) (H := ⟨0, []⟩) rfl rfl rfl rfl rfl (astep_guard (v := (Bo x64.2.2)) (((x64.1 != x66.1) || (x64.2.1 != x66.2.1)) == false) rfl (fun hc => emv (eV (v := (Bo x64.2.2)) rfl)))) (dcons (dst1 (Tm := [(31, (Bo x66.2.2)), (258, (Bo ((x64.1 != x66.1) || (x64.2.1 != x66.2.1))))]) (L := []) (H := ⟨0, []⟩) rfl rfl rfl rfl rfl (astep_guard (v := (Bo x66.2.2)) (((x64.1 != x66.1) || (x64.2.1 != x66.2.1)) == false) rfl (fun hc => emv (eV (v := (Bo x66.2.2)) rfl)))) (dcons (dst1 (Tm := [(259, (cond (((x64.1 != x66.1) || (x64.2.1 != x66.2.1)) == false) (Bo x64.2.2) skipV)), (260, (cond (((x64.1 != x66.1) || (x64.2.1 != x66.2.1)) == false) (Bo x66.2.2) skipV)), (258, (Bo ((x64.1 != x66.1) || (x64.2.1 != x66.2.1))))]) (L := []) (H := ⟨0, []⟩) rfl rfl rfl rfl rfl (astep_guard (v := (Bo (x64.2.2 != x66.2.2))) (((x64.1 != x66.1) || (x64.2.1 != x66.2.1)) == false) rfl (fun hc => ex_bin (vx := (Bo x64.2.2)) (vy := (Bo x66.2.2)) (cdo hc) (cdo hc) (neqB_ok Try.underlying4)))) (dcons (dst1 (Tm := [(258, (Bo ((x64.1 != x66.1) || (x64.2.1 != x66.2.1)))), (261, (cond (((x64.1 != x66.1) || (x64.2.1 != x66.2.1)) == false) (Bo (x64.2.2 != x66.2.2)) skipV))]) (L := []) (H := ⟨0, []⟩) rfl rfl rfl rfl rfl (asd rfl (ex_pick rfl pkOr))) (dcons (dst1 (Tm := [(262, (Bo (((x64.1 != x66.1) || (x64.2.1 != x66.2.1)) || (x64.2.2 != x66.2.2))))]) (L := []) (H := ⟨0, []⟩) rfl rfl rfl rfl rfl (asd rfl (emv (eV (v := (Bo (((x64.1 != x66.1) || (x64.2.1 != x66.2.1)) || (x64.2.2 != x66.2.2)))) rfl)))) (dcons (dst1 (Tm := [(24, (SL 5 cDv ([x57.1, x59, (GDv.mk [] [] 0 0 false), x60] : List GDv))), (263, (Bo (((x64.1 != x66.1) || (x64.2.1 != x66.2.1)) || (x64.2.2 != x66.2.2))))]) (L := []) (H := ⟨0, []⟩) rfl rfl rfl rfl rfl (astep_guard (v := (SL 5 cDv ([x57.1, x59, (GDv.mk [] [] 0 0 false), x60] : List GDv))) ((((x64.1 != x66.1) || (x64.2.1 != x66.2.1)) || (x64.2.2 != x66.2.2)) == false) rfl (fun hc => emv (eV (v := (SL 5 cDv ([x57.1, x59, (GDv.mk [] [] 0 0 false), x60] : List GDv))) rfl)))) (dcons (dst1 (Tm := [(25, (I v61)), (263, (Bo (((x64.1 != x66.1) || (x64.2.1 != x66.2.1)) || (x64.2.2 != x66.2.2))))]) (L := []) (H := ⟨0, []⟩) rfl rfl rfl rfl rfl (astep_guard (v := (I v61)) ((((x64.1 != x66.1) || (x64.2.1 != x66.2.1)) || (x64.2.2 != x66.2.2)) == false) rfl (fun hc => emv (eV (v := (I v61)) rfl)))) (dcons (dst1 (Tm := [(264, (cond ((((x64.1 != x66.1) || (x64.2.1 != x66.2.1)) || (x64.2.2 != x66.2.2)) == false) (SL 5 cDv ([x57.1, x59, (GDv.mk [] [] 0 0 false), x60] : List GDv)) skipV)), (265, (cond ((((x64.1 != x66.1) || (x64.2.1 != x66.2.1)) || (x64.2.2 != x66.2.2)) == false) (I v61) skipV)), (263, (Bo (((x64.1 != x66.1) || (x64.2.1 != x66.2.1)) || (x64.2.2 != x66.2.2))))]) (L := []) (H := ⟨0, []⟩) rfl rfl rfl rfl rfl (astep_guard (v := (DP (cDv x67))) ((((x64.1 != x66.1) || (x64.2.1 != x66.2.1)) || (x64.2.2 != x66.2.2)) == false) rfl (fun hc => tx_idxD (c := cDv) (xs := ([x57.1, x59, (GDv.mk [] [] 0 0 false), x60] : List GDv)) (i := v61) ce_api_Dev Try.underlying50 s_29 (cdo hc) (cdo hc) (gd_of hc hx67)))) (dcons (dst1 (Tm := [(266, (cond ((((x64.1 != x66.1) || (x64.2.1 != x66.2.1)) || (x64.2.2 != x66.2.2)) == false) (DP (cDv x67)) skipV)), (263, (Bo (((x64.1 != x66.1) || (x64.2.1 != x66.2.1)) || (x64.2.2 != x66.2.2))))]) (L := []) (H := ⟨0, []⟩) rfl rfl rfl rfl rfl (astep_guard (v := (Value.agg (cDv x67).toArray)) ((((x64.1 != x66.1) || (x64.2.1 != x66.2.1)) || (x64.2.2 != x66.2.2)) == false) rfl (fun hc => tx_ldDA (vs := (cDv x67)) Try.underlying29 rfl s_29 (by decide) (cdo hc) (Nat.le_of_ble_eq_true rfl) rfl))) (dcons (dst1 (Tm := [(267, (cond ((((x64.1 != x66.1) || (x64.2.1 != x66.2.1)) || (x64.2.2 != x66.2.2)) == false) (Value.agg (cDv x67).toArray) skipV)), (263, (Bo (((x64.1 != x66.1) || (x64.2.1 != x66.2.1)) || (x64.2.2 != x66.2.2))))]) (L := []) (H := ⟨0, []⟩) rfl rfl rfl rfl rfl (astep_guard (v := (SL 9 cUb x68)) ((((x64.1 != x66.1) || (x64.2.1 != x66.2.1)) || (x64.2.2 != x66.2.2)) == false) rfl (fun hc => ex_call0 (vs := [(Value.agg (cDv x67).toArray)]) (v := (SL 9 cUb x68)) rfl en_27 (cargs (evs (cdo hc) evs_nil)) rfl (ok_label_Roots x67 x68 (gd_of hc hx68)) rfl))) (dcons (dst1 (Tm := [(24, (SL 5 cDv ([x57.1, x59, (GDv.mk [] [] 0 0 false), x60] : List GDv))), (263, (Bo (((x64.1 != x66.1) || (x64.2.1 != x66.2.1)) || (x64.2.2 != x66.2.2))))]) (L := []) (H := ⟨0, []⟩) rfl rfl rfl rfl rfl (astep_guard (v := (SL 5 cDv ([x57.1, x59, (GDv.mk [] [] 0 0 false), x60] : List GDv))) ((((x64.1 != x66.1) || (x64.2.1 != x66.2.1)) || (x64.2.2 != x66.2.2)) == false) rfl (fun hc => emv (eV (v := (SL 5 cDv ([x57.1, x59, (GDv.mk [] [] 0 0 false), x60] : List GDv))) rfl)))) (dcons (dst1 (Tm := [(25, (I v61)), (263, (Bo (((x64.1 != x66.1) || (x64.2.1 != x66.2.1)) || (x64.2.2 != x66.2.2))))]) (L := []) (H := ⟨0, []⟩) rfl rfl rfl rfl rfl (astep_guard (v := (I v61)) ((((x64.1 != x66.1) || (x64.2.1 != x66.2.1)) || (x64.2.2 != x66.2.2)) == false) rfl (fun hc => emv (eV (v := (I v61)) rfl)))) (dcons (dst1 (Tm := [(269, (cond ((((x64.1 != x66.1) || (x64.2.1 != x66.2.1)) || (x64.2.2 != x66.2.2)) == false) (SL 5 cDv ([x57.1, x59, (GDv.mk [] [] 0 0 false), x60] : List GDv)) skipV)), (270, (cond ((((x64.1 != x66.1) || (x64.2.1 != x66.2.1)) || (x64.2.2 != x66.2.2)) == false) (I v61) skipV)), (263, (Bo (((x64.1 != x66.1) || (x64.2.1 != x66.2.1)) || (x64.2.2 != x66.2.2))))]) (L := []) (H := ⟨0, []⟩) rfl rfl rfl rfl rfl (astep_guard (v := (DP (cDv x69))) ((((x64.1 != x66.1) || (x64.2.1 != x66.2.1)) || (x64.2.2 != x66.2.2)) == false) rfl (fun hc => tx_idxD (c := cDv) (xs := ([x57.1, x59, (GDv.mk [] [] 0 0 false), x60] : List GDv)) (i := v61) ce_api_Dev Try.underlying50 s_29 (cdo hc) (cdo hc) (gd_of hc hx69)))) (dcons (dst1 (Tm := [(271, (cond ((((x64.1 != x66.1) || (x64.2.1 != x66.2.1)) || (x64.2.2 != x66.2.2)) == false) (DP (cDv x69)) skipV)), (263, (Bo (((x64.1 != x66.1) || (x64.2.1 != x66.2.1)) || (x64.2.2 != x66.2.2))))]) (L := []) (H := ⟨0, []⟩) rfl rfl rfl rfl rfl (astep_guard (v := (Value.agg (cDv x69).toArray)) ((((x64.1 != x66.1) || (x64.2.1 != x66.2.1)) || (x64.2.2 != x66.2.2)) == false) rfl (fun hc => tx_ldDA (vs := (cDv x69)) Try.underlying29 rfl s_29 (by decide) (cdo hc) (Nat.le_of_ble_eq_true rfl) rfl))) (dcons (dst1 (Tm := [(272, (cond ((((x64.1 != x66.1) || (x64.2.1 != x66.2.1)) || (x64.2.2 != x66.2.2)) == false) (Value.agg (cDv x69).toArray) skipV)), (263, (Bo (((x64.1 != x66.1) || (x64.2.1 != x66.2.1)) || (x64.2.2 != x66.2.2))))]) (L := []) (H := ⟨0, []⟩) rfl rfl rfl rfl rfl (astep_guard (v := (SL 9 cUb x70)) ((((x64.1 != x66.1) || (x64.2.1 != x66.2.1)) || (x64.2.2 != x66.2.2)) == false) rfl (fun hc => ex_call0 (vs := [(Value.agg (cDv x69).toArray)]) (v := (SL 9 cUb x70)) rfl en_28 (cargs (evs (cdo hc) evs_nil)) rfl (ok_ref1_Roots x69 x70 (gd_of hc hx70)) rfl))) (dcons (dst1 (Tm := [(268, (cond ((((x64.1 != x66.1) || (x64.2.1 != x66.2.1)) || (x64.2.2 != x66.2.2)) == false) (SL 9 cUb x68) skipV)), (273, (cond ((((x64.1 != x66.1) || (x64.2.1 != x66.2.1)) || (x64.2.2 != x66.2.2)) == false) (SL 9 cUb x70) skipV)), (263, (Bo (((x64.1 != x66.1) || (x64.2.1 != x66.2.1)) || (x64.2.2 != x66.2.2))))]) (L := []) (H := ⟨0, []⟩) rfl rfl rfl rfl rfl (astep_guard (v := (Bo x71)) ((((x64.1 != x66.1) || (x64.2.1 != x66.2.1)) || (x64.2.2 != x66.2.2)) == false) rfl (fun hc => ex_call0 (vs := [(SL 9 cUb x68), (SL 9 cUb x70)]) (v := (Bo x71)) rfl en_26 (cargs (evs (cdo hc) (evs (cdo hc) evs_nil))) rfl (ok_ref1_SameUbers x68 x70 x71 (gd_of hc hx71)) rfl))) (dcons (dst1 (Tm := [(274, (cond ((((x64.1 != x66.1) || (x64.2.1 != x66.2.1)) || (x64.2.2 != x66.2.2)) == false) (Bo x71) skipV)), (263, (Bo (((x64.1 != x66.1) || (x64.2.1 != x66.2.1)) || (x64.2.2 != x66.2.2))))]) (L := []) (H := ⟨0, []⟩) rfl rfl rfl rfl rfl (astep_guard (v := (Bo (!x71))) ((((x64.1 != x66.1) || (x64.2.1 != x66.2.1)) || (x64.2.2 != x66.2.2)) == false) rfl (fun hc => ex_un (vx := (Bo x71)) (cdo hc) notB_ok))) (dcons (dst1 (Tm := [(263, (Bo (((x64.1 != x66.1) || (x64.2.1 != x66.2.1)) || (x64.2.2 != x66.2.2)))), (275, (cond ((((x64.1 != x66.1) || (x64.2.1 != x66.2.1)) || (x64.2.2 != x66.2.2)) == false) (Bo (!x71)) skipV))]) (L := []) (H := ⟨0, []⟩) rfl rfl rfl rfl rfl (asd rfl (ex_pick rfl pkOr))) dnil))))))))))))))))))))))))))) ⟨rfl, rfl⟩) (by kernel_rfl) (by kernel_rfl) ?_
                    show AWp _ _ _ _
                    rcases Bool.eq_false_or_eq_true ((((x64.1 != x66.1) || (x64.2.1 != x66.2.1)) || (x64.2.2 != x66.2.2)) || (!x71)) with hb72 | hb72
                    · rw [condT hb72] at h
                      refine awp_condT (boT hb72) ?_
                      refine aws ?_
                      refine awr ?_
                      refine ado rfl rfl rfl (eas (eV (v := (Bo false)) rfl)) ?_
                      refine ake [16] 0 0 (st' := ⟨277, 0, [(16, (Bo false))], [], ⟨0, []⟩⟩) (by kernel_rfl) (by kernel_rfl) ?_
                      show AWp _ _ _ _
                      refine awp_ret ?_
                      cases h
                      exact ares1 (rtmp rfl (eV rfl))
                    · rw [condF hb72] at h
                      refine awp_condF (boF hb72) ?_
                      refine awp_skip ?_
                      show AWp _ _ _ _
                      refine awr ?_
                      refine ado rfl rfl rfl (emv (eV (v := (I v61)) rfl)) ?_
                      refine ado rfl rfl rfl (ex_bin (vx := (I v61)) (vy := (I 1)) rfl rfl addI_ok) ?_
                      refine ado rfl rfl rfl (eas (eV (v := (I (w64 (v61 + 1)))) rfl)) ?_
                      refine ake [24, 25] 0 0 (st' := ⟨277, 0, [(24, (SL 5 cDv ([x57.1, x59, (GDv.mk [] [] 0 0 false), x60] : List GDv))), (25, (I (w64 (v61 + 1))))], [], ⟨0, []⟩⟩) (by kernel_rfl) (by kernel_rfl) ?_
                      exact Exists.intro n3 (And.intro (Nat.lt_succ_self _) (Exists.intro (w64 (v61 + 1)) (And.intro rfl h)))
                  · rw [condF hb62] at h
                    refine awp_condF (boF hb62) ?_
                    refine awp_exit ?_
                    show AWp _ _ _ _
                    refine aws ?_
                    refine awr ?_
                    refine ado rfl rfl rfl (eas (eV (v := (Bo true)) rfl)) ?_
                    refine ake [16] 0 0 (st' := ⟨277, 0, [(16, (Bo true))], [], ⟨0, []⟩⟩) (by kernel_rfl) (by kernel_rfl) ?_
                    show AWp _ _ _ _
                    refine awp_ret ?_
                    cases h
                    exact ares1 (rtmp rfl (eV rfl))

end Go.Proofs
