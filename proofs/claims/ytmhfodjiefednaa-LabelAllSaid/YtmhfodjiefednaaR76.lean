/- Pure models of functions of the program, and that its code does what they say: palimpref1 Put, palimpref1 Sum. Written by a program. -/
import Derived.Test.YtmhfodjiefednaaR7B
set_option maxRecDepth 20000
set_option maxHeartbeats 4000000
namespace Go.Proofs
open Go Go.Fhl
set_option linter.unusedVariables false
set_option linter.unusedSimpArgs false
noncomputable def M_ref1_Put_l2 (c_1 : (Str → Int → Option Str)) (t0 : Str) (t1 : (List Int)) (v3 : Int) : Nat → Str → Int → Option Str
  | 0, _, _ => none
  | n2 + 1, v7, v8 =>
  cond (decide (v8 ≥ 0)) (Option.bind (getI t1 v3) fun (x10 : Int) => Option.bind (shrI x10 (w64 (8 * v8))) fun (x11 : Int) => Option.bind (addS v7 ([(UInt8.ofInt x11)] : List UInt8)) fun (x12 : Str) => (M_ref1_Put_l2 c_1 t0 t1 v3 n2) x12 (w64 (v8 - 1))) (c_1 v7 (w64 (v3 + 1)))
noncomputable def M_ref1_Put_l1 (t0 : Str) (t1 : (List Int)) : Nat → Str → Int → Option Str
  | 0, _, _ => none
  | n1 + 1, v2, v3 =>
  cond (decide (v3 < (t0.length : Int))) (Option.bind (getI t0 v3) fun (x5 : UInt8) => cond ((decide ((w64 ((x5.toNat : Int) - 48)) < 1)) || (decide ((w64 ((x5.toNat : Int) - 48)) > 4))) (some []) (M_ref1_Put_l2 (M_ref1_Put_l1 t0 t1 n1) t0 t1 v3 fuel v2 (w64 ((w64 ((x5.toNat : Int) - 48)) - 1)))) (some v2)
noncomputable def M_ref1_Put (t0 : Str) (t1 : (List Int)) : Option Str :=
  cond ((t0.length : Int) != (t1.length : Int)) (some []) (M_ref1_Put_l1 t0 t1 fuel ([] : Str) 0)
theorem ok_ref1_Put (t0 : Str) (t1 : (List Int)) (r : Str) (h : M_ref1_Put t0 t1 = some r) : FFn Try.prog 37 [(S t0), (SL 1 cI t1)] (S r) := by
  refine FFn.of_body (n := 50) Try.func37 rfl Try.ntmps37 rfl rfl rfl rfl ?_
  show AWp _ _ _ ⟨50, 0, [(0, (S t0)), (1, (SL 1 cI t1))], [], ⟨0, []⟩⟩
  unfold M_ref1_Put at h
  refine aws ?_
  refine awr ?_
  refine ado rfl rfl rfl (eas (eV (v := (S [])) rfl)) ?_
  refine ake [0, 1] 0 0 (st' := ⟨50, 0, [(0, (S t0)), (1, (SL 1 cI t1))], [], ⟨0, []⟩⟩) (by kernel_rfl) (by kernel_rfl) ?_
  show AWp _ _ _ _
  refine aws ?_
  refine aws ?_
  refine awr ?_
  refine ado rfl rfl rfl (emv (eV (v := (S t0)) rfl)) ?_
  refine ado rfl rfl rfl (tx_lenS Try.underlying9 rfl) ?_
  refine ado rfl rfl rfl (emv (eV (v := (SL 1 cI t1)) rfl)) ?_
  refine ado rfl rfl rfl (tx_lenD (xs := t1) ceI Try.underlying59 rfl) ?_
  refine ado rfl rfl rfl (ex_bin (vx := (I (t0.length : Int))) (vy := (I (t1.length : Int))) rfl rfl neqI_ok) ?_
  refine ake [0, 1, 13] 0 0 (st' := ⟨50, 0, [(0, (S t0)), (1, (SL 1 cI t1)), (13, (Bo ((t0.length : Int) != (t1.length : Int))))], [], ⟨0, []⟩⟩) (by kernel_rfl) (by kernel_rfl) ?_
  show AWp _ _ _ _
  rcases Bool.eq_false_or_eq_true ((t0.length : Int) != (t1.length : Int)) with hb1 | hb1
  · rw [condT hb1] at h
    refine awp_condT (boT hb1) ?_
    refine aws ?_
    refine awr ?_
    refine ado rfl rfl rfl (eas (eV (v := (S [])) rfl)) ?_
    refine ake [4] 0 0 (st' := ⟨50, 0, [(4, (S []))], [], ⟨0, []⟩⟩) (by kernel_rfl) (by kernel_rfl) ?_
    show AWp _ _ _ _
    refine awp_ret ?_
    cases h
    exact ares1 (rtmp rfl (eV rfl))
  · rw [condF hb1] at h
    refine awp_condF (boF hb1) ?_
    refine awp_skip ?_
    show AWp _ _ _ _
    refine aws ?_
    refine awr ?_
    refine ado rfl rfl rfl (eas (eV (v := (S [])) rfl)) ?_
    refine ake [0, 1, 5] 0 0 (st' := ⟨50, 0, [(0, (S t0)), (1, (SL 1 cI t1)), (5, (S []))], [], ⟨0, []⟩⟩) (by kernel_rfl) (by kernel_rfl) ?_
    show AWp _ _ _ _
    refine aws ?_
    refine aws ?_
    refine awr ?_
    refine ado rfl rfl rfl (eas (eV (v := (I 0)) rfl)) ?_
    refine ake [0, 1, 5, 6] 0 0 (st' := ⟨50, 0, [(0, (S t0)), (1, (SL 1 cI t1)), (5, (S [])), (6, (I 0))], [], ⟨0, []⟩⟩) (by kernel_rfl) (by kernel_rfl) ?_
    show AWp _ _ _ _
    refine awp_block ?_
    refine awp_loop (fun n s => ∃ (v2 : Str) (v3 : Int), s = ⟨50, 0, [(0, (S t0)), (1, (SL 1 cI t1)), (5, (S v2)), (6, (I v3))], [], ⟨0, []⟩⟩ ∧ M_ref1_Put_l1 t0 t1 n v2 v3 = some r) fuel (Exists.intro ([] : Str) (Exists.intro 0 (And.intro rfl h))) ?_
    rintro n s ⟨v2, v3, rfl, h⟩ -
    cases n with
    | zero => cases h
    | succ n1 =>
      unfold M_ref1_Put_l1 at h
      refine aws ?_
      refine aws ?_
      refine awr ?_
      refine ado rfl rfl rfl (emv (eV (v := (I v3)) rfl)) ?_
      refine ado rfl rfl rfl (emv (eV (v := (S t0)) rfl)) ?_
      refine ado rfl rfl rfl (tx_lenS Try.underlying9 rfl) ?_
      refine ado rfl rfl rfl (ex_bin (vx := (I v3)) (vy := (I (t0.length : Int))) rfl rfl lssI_ok) ?_
      refine ake [0, 1, 5, 6, 17] 0 0 (st' := ⟨50, 0, [(0, (S t0)), (1, (SL 1 cI t1)), (5, (S v2)), (6, (I v3)), (17, (Bo (decide (v3 < (t0.length : Int)))))], [], ⟨0, []⟩⟩) (by kernel_rfl) (by kernel_rfl) ?_
      show AWp _ _ _ _
      rcases Bool.eq_false_or_eq_true (decide (v3 < (t0.length : Int))) with hb4 | hb4
      · rw [condT hb4] at h
        refine awp_condT (boT hb4) ?_
        refine awp_skip ?_
        show AWp _ _ _ _
        refine aws ?_
        refine awp_block ?_
        refine aws ?_
        refine awr ?_
        refine ado rfl rfl rfl (emv (eV (v := (S t0)) rfl)) ?_
        refine ado rfl rfl rfl (emv (eV (v := (I v3)) rfl)) ?_
        obtain ⟨x5, hx5, h⟩ := bindS h
        refine ado rfl rfl rfl (tx_idxS (u := t0) (i := v3) Try.underlying9 rfl rfl hx5) ?_
        refine ado rfl rfl rfl (tx_8_64 Try.underlying5 Try.underlying3 rfl) ?_
        refine ado rfl rfl rfl (ex_bin (vx := (I (x5.toNat : Int))) (vy := (I 48)) rfl rfl subI_ok) ?_
        refine ado rfl rfl rfl (eas (eV (v := (I (w64 ((x5.toNat : Int) - 48)))) rfl)) ?_
        refine ake [0, 1, 5, 6, 7] 0 0 (st' := ⟨50, 0, [(0, (S t0)), (1, (SL 1 cI t1)), (5, (S v2)), (6, (I v3)), (7, (I (w64 ((x5.toNat : Int) - 48))))], [], ⟨0, []⟩⟩) (by kernel_rfl) (by kernel_rfl) ?_
        show AWp _ _ _ _
        refine aws ?_
        refine aws ?_
        refine awr ?_
        refine ado rfl rfl rfl (emv (eV (v := (I (w64 ((x5.toNat : Int) - 48)))) rfl)) ?_
        refine ado rfl rfl rfl (ex_bin (vx := (I (w64 ((x5.toNat : Int) - 48)))) (vy := (I 1)) rfl rfl lssI_ok) ?_
        refine ado rfl rfl rfl (emv (eV (v := (Bo (decide ((w64 ((x5.toNat : Int) - 48)) < 1)))) rfl)) ?_
        refine agu (v := (I (w64 ((x5.toNat : Int) - 48)))) ((decide ((w64 ((x5.toNat : Int) - 48)) < 1)) == false) rfl rfl rfl (fun hc => emv (eV (v := (I (w64 ((x5.toNat : Int) - 48)))) rfl)) ?_
        refine agu (v := (Bo (decide ((w64 ((x5.toNat : Int) - 48)) > 4)))) ((decide ((w64 ((x5.toNat : Int) - 48)) < 1)) == false) rfl rfl rfl (fun hc => ex_bin (vx := (I (w64 ((x5.toNat : Int) - 48)))) (vy := (I 4)) (cdo hc) rfl gtrI_ok) ?_
        refine ado rfl rfl rfl (ex_pick rfl pkOr) ?_
        refine ake [0, 1, 5, 6, 7, 30] 0 0 (st' := ⟨50, 0, [(0, (S t0)), (1, (SL 1 cI t1)), (5, (S v2)), (6, (I v3)), (7, (I (w64 ((x5.toNat : Int) - 48)))), (30, (Bo ((decide ((w64 ((x5.toNat : Int) - 48)) < 1)) || (decide ((w64 ((x5.toNat : Int) - 48)) > 4)))))], [], ⟨0, []⟩⟩) (by kernel_rfl) (by kernel_rfl) ?_
        show AWp _ _ _ _
        rcases Bool.eq_false_or_eq_true ((decide ((w64 ((x5.toNat : Int) - 48)) < 1)) || (decide ((w64 ((x5.toNat : Int) - 48)) > 4))) with hb6 | hb6
        · rw [condT hb6] at h
          refine awp_condT (boT hb6) ?_
          refine aws ?_
          refine awr ?_
          refine ado rfl rfl rfl (eas (eV (v := (S [])) rfl)) ?_
          refine ake [4] 0 0 (st' := ⟨50, 0, [(4, (S []))], [], ⟨0, []⟩⟩) (by kernel_rfl) (by kernel_rfl) ?_
          show AWp _ _ _ _
          refine awp_ret ?_
          cases h
          exact ares1 (rtmp rfl (eV rfl))
        · rw [condF hb6] at h
          refine awp_condF (boF hb6) ?_
          refine awp_skip ?_
          show AWp _ _ _ _
          refine aws ?_
          refine awr ?_
          refine ado rfl rfl rfl (emv (eV (v := (I (w64 ((x5.toNat : Int) - 48)))) rfl)) ?_
          refine ado rfl rfl rfl (ex_bin (vx := (I (w64 ((x5.toNat : Int) - 48)))) (vy := (I 1)) rfl rfl subI_ok) ?_
          refine ado rfl rfl rfl (eas (eV (v := (I (w64 ((w64 ((x5.toNat : Int) - 48)) - 1)))) rfl)) ?_
          refine ake [0, 1, 5, 6, 8] 0 0 (st' := ⟨50, 0, [(0, (S t0)), (1, (SL 1 cI t1)), (5, (S v2)), (6, (I v3)), (8, (I (w64 ((w64 ((x5.toNat : Int) - 48)) - 1))))], [], ⟨0, []⟩⟩) (by kernel_rfl) (by kernel_rfl) ?_
          show AWp _ _ _ _
          refine awp_block ?_
          refine awp_loop (fun n s => ∃ (v7 : Str) (v8 : Int), s = ⟨50, 0, [(0, (S t0)), (1, (SL 1 cI t1)), (5, (S v7)), (6, (I v3)), (8, (I v8))], [], ⟨0, []⟩⟩ ∧ M_ref1_Put_l2 (M_ref1_Put_l1 t0 t1 n1) t0 t1 v3 n v7 v8 = some r) fuel (Exists.intro v2 (Exists.intro (w64 ((w64 ((x5.toNat : Int) - 48)) - 1)) (And.intro rfl h))) ?_
          rintro n s ⟨v7, v8, rfl, h⟩ -
          cases n with
          | zero => cases h
          | succ n2 =>
            unfold M_ref1_Put_l2 at h
            refine aws ?_
            refine aws ?_
            refine awr ?_
            refine ado rfl rfl rfl (emv (eV (v := (I v8)) rfl)) ?_
            refine ado rfl rfl rfl (ex_bin (vx := (I v8)) (vy := (I 0)) rfl rfl geqI_ok) ?_
            refine ake [0, 1, 5, 6, 8, 34] 0 0 (st' := ⟨50, 0, [(0, (S t0)), (1, (SL 1 cI t1)), (5, (S v7)), (6, (I v3)), (8, (I v8)), (34, (Bo (decide (v8 ≥ 0))))], [], ⟨0, []⟩⟩) (by kernel_rfl) (by kernel_rfl) ?_
            show AWp _ _ _ _
            rcases Bool.eq_false_or_eq_true (decide (v8 ≥ 0)) with hb9 | hb9
            · rw [condT hb9] at h
              refine awp_condT (boT hb9) ?_
              refine awp_skip ?_
              show AWp _ _ _ _
              refine aws ?_
              refine awp_block ?_
              refine awr ?_
              refine ado rfl rfl rfl (emv (eV (v := (S v7)) rfl)) ?_
              refine ado rfl rfl rfl (emv (eV (v := (SL 1 cI t1)) rfl)) ?_
              refine ado rfl rfl rfl (emv (eV (v := (I v3)) rfl)) ?_
              obtain ⟨x10, hx10, h⟩ := bindS h
              refine ado rfl rfl rfl (tx_idxD (c := cI) (xs := t1) (i := v3) ceI Try.underlying59 s_3 rfl rfl hx10) ?_
              refine ado rfl rfl rfl (tx_ldD1 (v := (I x10)) Try.underlying3 rfl rfl rfl) ?_
              refine ado rfl rfl rfl (emv (eV (v := (I v8)) rfl)) ?_
              refine ado rfl rfl rfl (ex_bin (vx := (I 8)) (vy := (I v8)) rfl rfl mulI_ok) ?_
              obtain ⟨x11, hx11, h⟩ := bindS h
              refine ado rfl rfl rfl (ex_bin (vx := (I x10)) (vy := (I (w64 (8 * v8)))) rfl rfl (shrI_ok hx11)) ?_
              refine ado rfl rfl rfl (tx_64_8 Try.underlying3 Try.underlying5 rfl) ?_
              refine ado rfl rfl rfl (ex_buildSliceD (qs := [(0, (U8 (UInt8.ofInt x11)))]) (cells := (([(UInt8.ofInt x11)] : List UInt8).flatMap c8)) Try.underlying72 s_5 (by decide) (evp rfl evp_nil) rfl (by kernel_rfl) (by kernel_rfl) (by kernel_rfl)) ?_
              refine ado rfl rfl rfl (tx_bsD (bs := ([(UInt8.ofInt x11)] : List UInt8)) Try.underlying72 Try.underlying9 Try.underlying5 rfl) ?_
              obtain ⟨x12, hx12, h⟩ := bindS h
              refine ado rfl rfl rfl (ex_bin (vx := (S v7)) (vy := (S ([(UInt8.ofInt x11)] : List UInt8))) rfl rfl (addS_ok hx12)) ?_
              refine ado rfl rfl rfl (eas (eV (v := (S x12)) rfl)) ?_
              refine ake [0, 1, 5, 6, 8] 0 0 (st' := ⟨50, 0, [(0, (S t0)), (1, (SL 1 cI t1)), (5, (S x12)), (6, (I v3)), (8, (I v8))], [], ⟨0, []⟩⟩) (by kernel_rfl) (by kernel_rfl) ?_
              show AWp _ _ _ _
              refine awr ?_
              refine ado rfl rfl rfl (emv (eV (v := (I v8)) rfl)) ?_
              refine ado rfl rfl rfl (ex_bin (vx := (I v8)) (vy := (I 1)) rfl rfl subI_ok) ?_
              refine ado rfl rfl rfl (eas (eV (v := (I (w64 (v8 - 1)))) rfl)) ?_
              refine ake [0, 1, 5, 6, 8] 0 0 (st' := ⟨50, 0, [(0, (S t0)), (1, (SL 1 cI t1)), (5, (S x12)), (6, (I v3)), (8, (I (w64 (v8 - 1))))], [], ⟨0, []⟩⟩) (by kernel_rfl) (by kernel_rfl) ?_
              exact Exists.intro n2 (And.intro (Nat.lt_succ_self _) (Exists.intro x12 (Exists.intro (w64 (v8 - 1)) (And.intro rfl h))))
            · rw [condF hb9] at h
              refine awp_condF (boF hb9) ?_
              refine awp_exit ?_
              show AWp _ _ _ _
              refine awr ?_
              refine ado rfl rfl rfl (emv (eV (v := (I v3)) rfl)) ?_
              refine ado rfl rfl rfl (ex_bin (vx := (I v3)) (vy := (I 1)) rfl rfl addI_ok) ?_
              refine ado rfl rfl rfl (eas (eV (v := (I (w64 (v3 + 1)))) rfl)) ?_
              refine ake [0, 1, 5, 6] 0 0 (st' := ⟨50, 0, [(0, (S t0)), (1, (SL 1 cI t1)), (5, (S v7)), (6, (I (w64 (v3 + 1))))], [], ⟨0, []⟩⟩) (by kernel_rfl) (by kernel_rfl) ?_
              exact Exists.intro n1 (And.intro (Nat.lt_succ_self _) (Exists.intro v7 (Exists.intro (w64 (v3 + 1)) (And.intro rfl h))))
      · rw [condF hb4] at h
        refine awp_condF (boF hb4) ?_
        refine awp_exit ?_
        show AWp _ _ _ _
        refine aws ?_
        refine awr ?_
        refine ado rfl rfl rfl (emv (eV (v := (S v2)) rfl)) ?_
        refine ado rfl rfl rfl (eas (eV (v := (S v2)) rfl)) ?_
        refine ake [4] 0 0 (st' := ⟨50, 0, [(4, (S v2))], [], ⟨0, []⟩⟩) (by kernel_rfl) (by kernel_rfl) ?_
        show AWp _ _ _ _
        refine awp_ret ?_
        cases h
        exact ares1 (rtmp rfl (eV rfl))

noncomputable def M_ref1_Sum_k1 (c_1 : (Str → Int → Option (A4 UInt32))) (c_2 : (Int → (A4 UInt32) → Option (A4 UInt32))) (c_3 : (UInt32 → Int → Option (A4 UInt32))) (v1 : Str) (v6 : Int) (v7 : (A4 UInt32)) (v10 : Int) (y12 : UInt32) : Option (A4 UInt32) :=
  c_3 y12 (w64 (v10 - 1))
noncomputable def M_ref1_Sum_l4 (c_1 : (Str → Int → Option (A4 UInt32))) (c_2 : (Int → (A4 UInt32) → Option (A4 UInt32))) (c_3 : (UInt32 → Int → Option (A4 UInt32))) (v1 : Str) (v6 : Int) : Nat → UInt32 → Int → (A4 UInt32) → Option (A4 UInt32)
  | 0, _, _, _ => none
  | n4 + 1, v15, v16, v17 =>
  cond (decide (v16 < 4)) (Option.bind (inA 4 v16) fun (x19 : Unit) => Option.bind (A4.get v17 v16) fun (x20 : UInt32) => Option.bind (inA 4 v16) fun (x21 : Unit) => Option.bind (A4.set v17 v16 (x20 + v15)) fun (x22 : A4 UInt32) => Option.bind (inA 4 v16) fun (x23 : Unit) => Option.bind (A4.get x22 v16) fun (x24 : UInt32) => (M_ref1_Sum_l4 c_1 c_2 c_3 v1 v6 n4) x24 (w64 (v16 + 1)) x22) (c_2 (w64 (v6 + 4)) v17)
noncomputable def M_ref1_Sum_l3 (c_1 : (Str → Int → Option (A4 UInt32))) (c_2 : (Int → (A4 UInt32) → Option (A4 UInt32))) (v1 : Str) (v6 : Int) (v7 : (A4 UInt32)) : Nat → UInt32 → Int → Option (A4 UInt32)
  | 0, _, _ => none
  | n3 + 1, v9, v10 =>
  cond (decide (v10 ≥ 0)) (cond (decide ((w64 (v6 + v10)) < (v1.length : Int))) (Option.bind (getI v1 (w64 (v6 + v10))) fun (x14 : UInt8) => M_ref1_Sum_k1 c_1 c_2 (M_ref1_Sum_l3 c_1 c_2 v1 v6 v7 n3) v1 v6 v7 v10 ((v9 * 256) + x14.toUInt32)) (M_ref1_Sum_k1 c_1 c_2 (M_ref1_Sum_l3 c_1 c_2 v1 v6 v7 n3) v1 v6 v7 v10 (v9 * 256))) (M_ref1_Sum_l4 c_1 c_2 (M_ref1_Sum_l3 c_1 c_2 v1 v6 v7 n3) v1 v6 fuel v9 0 v7)
noncomputable def M_ref1_Sum_l2 (c_1 : (Str → Int → Option (A4 UInt32))) (v1 : Str) : Nat → Int → (A4 UInt32) → Option (A4 UInt32)
  | 0, _, _ => none
  | n2 + 1, v6, v7 =>
  cond (decide (v6 < (v1.length : Int))) (M_ref1_Sum_l3 c_1 (M_ref1_Sum_l2 c_1 v1 n2) v1 v6 v7 fuel 0 3) (some v7)
noncomputable def M_ref1_Sum_l1 (t0 : (List Str)) : Nat → Str → Int → Option (A4 UInt32)
  | 0, _, _ => none
  | n1 + 1, v1, v2 =>
  cond (decide (v2 < (t0.length : Int))) (Option.bind (getI t0 v2) fun (x4 : Str) => Option.bind (addS v1 x4) fun (x5 : Str) => (M_ref1_Sum_l1 t0 n1) x5 (w64 (v2 + 1))) (M_ref1_Sum_l2 (M_ref1_Sum_l1 t0 n1) v1 fuel 0 (A4.mk 0 0 0 0))
noncomputable def M_ref1_Sum (t0 : (List Str)) : Option (A4 UInt32) :=
  M_ref1_Sum_l1 t0 fuel ([] : Str) 0
theorem ok_ref1_Sum (t0 : (List Str)) (r : (A4 UInt32)) (h : M_ref1_Sum t0 = some r) : FFn Try.prog 69 [(SL 1 cS t0)] (Value.agg ((cA4 c32) r).toArray) := by
  refine FFn.of_body (n := 63) Try.func69 rfl Try.ntmps69 rfl rfl rfl rfl ?_
  show AWp _ _ _ ⟨63, 0, [(0, (SL 1 cS t0))], [], ⟨0, []⟩⟩
  unfold M_ref1_Sum at h
  refine aws ?_
  refine awr ?_
  refine ado rfl rfl rfl (ex_alloc (k := 0) (zs := ((cA4 c32) (A4.mk 0 0 0 0))) (L' := [((cA4 c32) (A4.mk 0 0 0 0))]) z_33 rfl rfl rfl rfl) ?_
  refine ake [0, 2] 1 0 (st' := ⟨63, 0, [(0, (SL 1 cS t0)), (2, (LP 0 0))], [((cA4 c32) (A4.mk 0 0 0 0))], ⟨0, []⟩⟩) (by kernel_rfl) (by kernel_rfl) ?_
  show AWp _ _ _ _
  refine aws ?_
  refine awr ?_
  refine ado rfl rfl rfl (eas (eV (v := (S [])) rfl)) ?_
  refine ake [0, 2, 3] 1 0 (st' := ⟨63, 0, [(0, (SL 1 cS t0)), (2, (LP 0 0)), (3, (S []))], [((cA4 c32) (A4.mk 0 0 0 0))], ⟨0, []⟩⟩) (by kernel_rfl) (by kernel_rfl) ?_
  show AWp _ _ _ _
  refine aws ?_
  refine aws ?_
  refine awr ?_
  refine ado rfl rfl rfl (eas (eV (v := (I 0)) rfl)) ?_
  refine ake [0, 2, 3, 4] 1 0 (st' := ⟨63, 0, [(0, (SL 1 cS t0)), (2, (LP 0 0)), (3, (S [])), (4, (I 0))], [((cA4 c32) (A4.mk 0 0 0 0))], ⟨0, []⟩⟩) (by kernel_rfl) (by kernel_rfl) ?_
  show AWp _ _ _ _
  refine awp_block ?_
  refine awp_loop (fun n s => ∃ (v1 : Str) (v2 : Int), s = ⟨63, 0, [(0, (SL 1 cS t0)), (2, (LP 0 0)), (3, (S v1)), (4, (I v2))], [((cA4 c32) (A4.mk 0 0 0 0))], ⟨0, []⟩⟩ ∧ M_ref1_Sum_l1 t0 n v1 v2 = some r) fuel (Exists.intro ([] : Str) (Exists.intro 0 (And.intro rfl h))) ?_
  rintro n s ⟨v1, v2, rfl, h⟩ -
  cases n with
  | zero => cases h
  | succ n1 =>
    unfold M_ref1_Sum_l1 at h
    refine aws ?_
    refine aws ?_
    refine awr ?_
    refine ado rfl rfl rfl (emv (eV (v := (I v2)) rfl)) ?_
    refine ado rfl rfl rfl (emv (eV (v := (SL 1 cS t0)) rfl)) ?_
    refine ado rfl rfl rfl (tx_lenD (xs := t0) ceS Try.underlying26 rfl) ?_
    refine ado rfl rfl rfl (ex_bin (vx := (I v2)) (vy := (I (t0.length : Int))) rfl rfl lssI_ok) ?_
    refine ake [0, 2, 3, 4, 13] 1 0 (st' := ⟨63, 0, [(0, (SL 1 cS t0)), (2, (LP 0 0)), (3, (S v1)), (4, (I v2)), (13, (Bo (decide (v2 < (t0.length : Int)))))], [((cA4 c32) (A4.mk 0 0 0 0))], ⟨0, []⟩⟩) (by kernel_rfl) (by kernel_rfl) ?_
    show AWp _ _ _ _
    rcases Bool.eq_false_or_eq_true (decide (v2 < (t0.length : Int))) with hb3 | hb3
    · rw [condT hb3] at h
      refine awp_condT (boT hb3) ?_
      refine awp_skip ?_
      show AWp _ _ _ _
      refine aws ?_
      refine awp_block ?_
      refine awr ?_
      refine ado rfl rfl rfl (emv (eV (v := (S v1)) rfl)) ?_
      refine ado rfl rfl rfl (emv (eV (v := (SL 1 cS t0)) rfl)) ?_
      refine ado rfl rfl rfl (emv (eV (v := (I v2)) rfl)) ?_
      obtain ⟨x4, hx4, h⟩ := bindS h
      refine ado rfl rfl rfl (tx_idxD (c := cS) (xs := t0) (i := v2) ceS Try.underlying26 s_9 rfl rfl hx4) ?_
      refine ado rfl rfl rfl (tx_ldD1 (v := (S x4)) Try.underlying9 rfl rfl rfl) ?_
      obtain ⟨x5, hx5, h⟩ := bindS h
      refine ado rfl rfl rfl (ex_bin (vx := (S v1)) (vy := (S x4)) rfl rfl (addS_ok hx5)) ?_
      refine ado rfl rfl rfl (eas (eV (v := (S x5)) rfl)) ?_
      refine ake [0, 2, 3, 4] 1 0 (st' := ⟨63, 0, [(0, (SL 1 cS t0)), (2, (LP 0 0)), (3, (S x5)), (4, (I v2))], [((cA4 c32) (A4.mk 0 0 0 0))], ⟨0, []⟩⟩) (by kernel_rfl) (by kernel_rfl) ?_
      show AWp _ _ _ _
      refine awr ?_
      refine ado rfl rfl rfl (emv (eV (v := (I v2)) rfl)) ?_
      refine ado rfl rfl rfl (ex_bin (vx := (I v2)) (vy := (I 1)) rfl rfl addI_ok) ?_
      refine ado rfl rfl rfl (eas (eV (v := (I (w64 (v2 + 1)))) rfl)) ?_
      refine ake [0, 2, 3, 4] 1 0 (st' := ⟨63, 0, [(0, (SL 1 cS t0)), (2, (LP 0 0)), (3, (S x5)), (4, (I (w64 (v2 + 1))))], [((cA4 c32) (A4.mk 0 0 0 0))], ⟨0, []⟩⟩) (by kernel_rfl) (by kernel_rfl) ?_
      exact Exists.intro n1 (And.intro (Nat.lt_succ_self _) (Exists.intro x5 (Exists.intro (w64 (v2 + 1)) (And.intro rfl h))))
    · rw [condF hb3] at h
      refine awp_condF (boF hb3) ?_
      refine awp_exit ?_
      show AWp _ _ _ _
      refine aws ?_
      refine awr ?_
      refine ado rfl rfl rfl (ex_alloc (k := 1) (zs := ((cA4 c32) (A4.mk 0 0 0 0))) (L' := [((cA4 c32) (A4.mk 0 0 0 0)), ((cA4 c32) (A4.mk 0 0 0 0))]) z_33 rfl rfl rfl rfl) ?_
      refine ake [2, 3, 5] 2 0 (st' := ⟨63, 0, [(2, (LP 0 0)), (3, (S v1)), (5, (LP 1 0))], [((cA4 c32) (A4.mk 0 0 0 0)), ((cA4 c32) (A4.mk 0 0 0 0))], ⟨0, []⟩⟩) (by kernel_rfl) (by kernel_rfl) ?_
      show AWp _ _ _ _
      refine aws ?_
      refine aws ?_
      refine awr ?_
      refine ado rfl rfl rfl (eas (eV (v := (I 0)) rfl)) ?_
      refine ake [2, 3, 5, 6] 2 0 (st' := ⟨63, 0, [(2, (LP 0 0)), (3, (S v1)), (5, (LP 1 0)), (6, (I 0))], [((cA4 c32) (A4.mk 0 0 0 0)), ((cA4 c32) (A4.mk 0 0 0 0))], ⟨0, []⟩⟩) (by kernel_rfl) (by kernel_rfl) ?_
      show AWp _ _ _ _
      refine awp_block ?_
      refine awp_loop (fun n s => ∃ (v6 : Int) (v7 : (A4 UInt32)), s = ⟨63, 0, [(2, (LP 0 0)), (3, (S v1)), (5, (LP 1 0)), (6, (I v6))], [((cA4 c32) (A4.mk 0 0 0 0)), ((cA4 c32) v7)], ⟨0, []⟩⟩ ∧ M_ref1_Sum_l2 (M_ref1_Sum_l1 t0 n1) v1 n v6 v7 = some r) fuel (Exists.intro 0 (Exists.intro (A4.mk 0 0 0 0) (And.intro rfl h))) ?_
      rintro n s ⟨v6, v7, rfl, h⟩ -
      cases n with
      | zero => cases h
      | succ n2 =>
        unfold M_ref1_Sum_l2 at h
        refine aws ?_
        refine aws ?_
        refine awr ?_
        refine ado rfl rfl rfl (emv (eV (v := (I v6)) rfl)) ?_
        refine ado rfl rfl rfl (emv (eV (v := (S v1)) rfl)) ?_
        refine ado rfl rfl rfl (tx_lenS Try.underlying9 rfl) ?_
        refine ado rfl rfl rfl (ex_bin (vx := (I v6)) (vy := (I (v1.length : Int))) rfl rfl lssI_ok) ?_
        refine ake [2, 3, 5, 6, 25] 2 0 (st' := ⟨63, 0, [(2, (LP 0 0)), (3, (S v1)), (5, (LP 1 0)), (6, (I v6)), (25, (Bo (decide (v6 < (v1.length : Int)))))], [((cA4 c32) (A4.mk 0 0 0 0)), ((cA4 c32) v7)], ⟨0, []⟩⟩) (by kernel_rfl) (by kernel_rfl) ?_
        show AWp _ _ _ _
        rcases Bool.eq_false_or_eq_true (decide (v6 < (v1.length : Int))) with hb8 | hb8
        · rw [condT hb8] at h
          refine awp_condT (boT hb8) ?_
          refine awp_skip ?_
          show AWp _ _ _ _
          refine aws ?_
          refine awp_block ?_
          refine aws ?_
          refine awr ?_
          refine ado rfl rfl rfl (eas (eV (v := (U32 0)) rfl)) ?_
          refine ake [2, 3, 5, 6, 7] 2 0 (st' := ⟨63, 0, [(2, (LP 0 0)), (3, (S v1)), (5, (LP 1 0)), (6, (I v6)), (7, (U32 0))], [((cA4 c32) (A4.mk 0 0 0 0)), ((cA4 c32) v7)], ⟨0, []⟩⟩) (by kernel_rfl) (by kernel_rfl) ?_
          show AWp _ _ _ _
          refine aws ?_
          refine aws ?_
          refine awr ?_
          refine ado rfl rfl rfl (eas (eV (v := (I 3)) rfl)) ?_
          refine ake [2, 3, 5, 6, 7, 8] 2 0 (st' := ⟨63, 0, [(2, (LP 0 0)), (3, (S v1)), (5, (LP 1 0)), (6, (I v6)), (7, (U32 0)), (8, (I 3))], [((cA4 c32) (A4.mk 0 0 0 0)), ((cA4 c32) v7)], ⟨0, []⟩⟩) (by kernel_rfl) (by kernel_rfl) ?_
          show AWp _ _ _ _
          refine awp_block ?_
          refine awp_loop (fun n s => ∃ (v9 : UInt32) (v10 : Int), s = ⟨63, 0, [(2, (LP 0 0)), (3, (S v1)), (5, (LP 1 0)), (6, (I v6)), (7, (U32 v9)), (8, (I v10))], [((cA4 c32) (A4.mk 0 0 0 0)), ((cA4 c32) v7)], ⟨0, []⟩⟩ ∧ M_ref1_Sum_l3 (M_ref1_Sum_l1 t0 n1) (M_ref1_Sum_l2 (M_ref1_Sum_l1 t0 n1) v1 n2) v1 v6 v7 n v9 v10 = some r) fuel (Exists.intro 0 (Exists.intro 3 (And.intro rfl h))) ?_
          rintro n s ⟨v9, v10, rfl, h⟩ -
          cases n with
          | zero => cases h
          | succ n3 =>
            unfold M_ref1_Sum_l3 at h
            refine aws ?_
            refine aws ?_
            refine awr ?_
            refine ado rfl rfl rfl (emv (eV (v := (I v10)) rfl)) ?_
            refine ado rfl rfl rfl (ex_bin (vx := (I v10)) (vy := (I 0)) rfl rfl geqI_ok) ?_
            refine ake [2, 3, 5, 6, 7, 8, 29] 2 0 (st' := ⟨63, 0, [(2, (LP 0 0)), (3, (S v1)), (5, (LP 1 0)), (6, (I v6)), (7, (U32 v9)), (8, (I v10)), (29, (Bo (decide (v10 ≥ 0))))], [((cA4 c32) (A4.mk 0 0 0 0)), ((cA4 c32) v7)], ⟨0, []⟩⟩) (by kernel_rfl) (by kernel_rfl) ?_
            show AWp _ _ _ _
            rcases Bool.eq_false_or_eq_true (decide (v10 ≥ 0)) with hb11 | hb11
            · rw [condT hb11] at h
              refine awp_condT (boT hb11) ?_
              refine awp_skip ?_
              show AWp _ _ _ _
              refine awp_seqJ (fun s => ∃ (y12 : UInt32), s = ⟨63, 0, [(2, (LP 0 0)), (3, (S v1)), (5, (LP 1 0)), (6, (I v6)), (7, (U32 y12)), (8, (I v10))], [((cA4 c32) (A4.mk 0 0 0 0)), ((cA4 c32) v7)], ⟨0, []⟩⟩ ∧ M_ref1_Sum_k1 (M_ref1_Sum_l1 t0 n1) (M_ref1_Sum_l2 (M_ref1_Sum_l1 t0 n1) v1 n2) (M_ref1_Sum_l3 (M_ref1_Sum_l1 t0 n1) (M_ref1_Sum_l2 (M_ref1_Sum_l1 t0 n1) v1 n2) v1 v6 v7 n3) v1 v6 v7 v10 y12 = some r) ?_ ?_
              · refine awp_block ?_
                refine aws ?_
                refine awr ?_
                refine ado rfl rfl rfl (emv (eV (v := (U32 v9)) rfl)) ?_
                refine ado rfl rfl rfl (ex_bin (vx := (U32 v9)) (vy := (U32 256)) rfl rfl mul32_ok) ?_
                refine ado rfl rfl rfl (eas (eV (v := (U32 (v9 * 256))) rfl)) ?_
                refine ake [2, 3, 5, 6, 7, 8] 2 0 (st' := ⟨63, 0, [(2, (LP 0 0)), (3, (S v1)), (5, (LP 1 0)), (6, (I v6)), (7, (U32 (v9 * 256))), (8, (I v10))], [((cA4 c32) (A4.mk 0 0 0 0)), ((cA4 c32) v7)], ⟨0, []⟩⟩) (by kernel_rfl) (by kernel_rfl) ?_
                show AWp _ _ _ _
                refine aws ?_
                refine awr ?_
                refine ado rfl rfl rfl (emv (eV (v := (I v6)) rfl)) ?_
                refine ado rfl rfl rfl (emv (eV (v := (I v10)) rfl)) ?_
                refine ado rfl rfl rfl (ex_bin (vx := (I v6)) (vy := (I v10)) rfl rfl addI_ok) ?_
                refine ado rfl rfl rfl (emv (eV (v := (S v1)) rfl)) ?_
                refine ado rfl rfl rfl (tx_lenS Try.underlying9 rfl) ?_
                refine ado rfl rfl rfl (ex_bin (vx := (I (w64 (v6 + v10)))) (vy := (I (v1.length : Int))) rfl rfl lssI_ok) ?_
                refine ake [2, 3, 5, 6, 7, 8, 39] 2 0 (st' := ⟨63, 0, [(2, (LP 0 0)), (3, (S v1)), (5, (LP 1 0)), (6, (I v6)), (7, (U32 (v9 * 256))), (8, (I v10)), (39, (Bo (decide ((w64 (v6 + v10)) < (v1.length : Int)))))], [((cA4 c32) (A4.mk 0 0 0 0)), ((cA4 c32) v7)], ⟨0, []⟩⟩) (by kernel_rfl) (by kernel_rfl) ?_
                show AWp _ _ _ _
                rcases Bool.eq_false_or_eq_true (decide ((w64 (v6 + v10)) < (v1.length : Int))) with hb13 | hb13
                · rw [condT hb13] at h
                  refine awp_condT (boT hb13) ?_
                  refine awr ?_
                  refine ado rfl rfl rfl (emv (eV (v := (U32 (v9 * 256))) rfl)) ?_
                  refine ado rfl rfl rfl (emv (eV (v := (S v1)) rfl)) ?_
                  refine ado rfl rfl rfl (emv (eV (v := (I v6)) rfl)) ?_
                  refine ado rfl rfl rfl (emv (eV (v := (I v10)) rfl)) ?_
                  refine ado rfl rfl rfl (ex_bin (vx := (I v6)) (vy := (I v10)) rfl rfl addI_ok) ?_
                  obtain ⟨x14, hx14, h⟩ := bindS h
                  refine ado rfl rfl rfl (tx_idxS (u := v1) (i := (w64 (v6 + v10))) Try.underlying9 rfl rfl hx14) ?_
                  refine ado rfl rfl rfl (tx_8_32 Try.underlying5 Try.underlying31 rfl) ?_
                  refine ado rfl rfl rfl (ex_bin (vx := (U32 (v9 * 256))) (vy := (U32 x14.toUInt32)) rfl rfl add32_ok) ?_
                  refine ado rfl rfl rfl (eas (eV (v := (U32 ((v9 * 256) + x14.toUInt32))) rfl)) ?_
                  refine ake [2, 3, 5, 6, 7, 8] 2 0 (st' := ⟨63, 0, [(2, (LP 0 0)), (3, (S v1)), (5, (LP 1 0)), (6, (I v6)), (7, (U32 ((v9 * 256) + x14.toUInt32))), (8, (I v10))], [((cA4 c32) (A4.mk 0 0 0 0)), ((cA4 c32) v7)], ⟨0, []⟩⟩) (by kernel_rfl) (by kernel_rfl) ?_
                  exact (Exists.intro ((v9 * 256) + x14.toUInt32) (And.intro rfl h))
                · rw [condF hb13] at h
                  refine awp_condF (boF hb13) ?_
                  refine awp_keepE [2, 3, 5, 6, 7, 8] 2 0 (st' := ⟨63, 0, [(2, (LP 0 0)), (3, (S v1)), (5, (LP 1 0)), (6, (I v6)), (7, (U32 (v9 * 256))), (8, (I v10))], [((cA4 c32) (A4.mk 0 0 0 0)), ((cA4 c32) v7)], ⟨0, []⟩⟩) (by kernel_rfl) (by kernel_rfl) ?_
                  refine awp_skip ?_
                  exact (Exists.intro (v9 * 256) (And.intro rfl h))
              · rintro s ⟨y12, rfl, h⟩
                unfold M_ref1_Sum_k1 at h
                refine awr ?_
                refine ado rfl rfl rfl (emv (eV (v := (I v10)) rfl)) ?_
                refine ado rfl rfl rfl (ex_bin (vx := (I v10)) (vy := (I 1)) rfl rfl subI_ok) ?_
                refine ado rfl rfl rfl (eas (eV (v := (I (w64 (v10 - 1)))) rfl)) ?_
                refine ake [2, 3, 5, 6, 7, 8] 2 0 (st' := ⟨63, 0, [(2, (LP 0 0)), (3, (S v1)), (5, (LP 1 0)), (6, (I v6)), (7, (U32 y12)), (8, (I (w64 (v10 - 1))))], [((cA4 c32) (A4.mk 0 0 0 0)), ((cA4 c32) v7)], ⟨0, []⟩⟩) (by kernel_rfl) (by kernel_rfl) ?_
                exact Exists.intro n3 (And.intro (Nat.lt_succ_self _) (Exists.intro y12 (Exists.intro (w64 (v10 - 1)) (And.intro rfl h))))
            · rw [condF hb11] at h
              refine awp_condF (boF hb11) ?_
              refine awp_exit ?_
              show AWp _ _ _ _
              refine aws ?_
              refine awr ?_
              refine ado rfl rfl rfl (eas (eV (v := (I 0)) rfl)) ?_
              refine ake [2, 3, 5, 6, 7, 9] 2 0 (st' := ⟨63, 0, [(2, (LP 0 0)), (3, (S v1)), (5, (LP 1 0)), (6, (I v6)), (7, (U32 v9)), (9, (I 0))], [((cA4 c32) (A4.mk 0 0 0 0)), ((cA4 c32) v7)], ⟨0, []⟩⟩) (by kernel_rfl) (by kernel_rfl) ?_
              show AWp _ _ _ _
              refine awp_block ?_
              refine awp_loop (fun n s => ∃ (v15 : UInt32) (v16 : Int) (v17 : (A4 UInt32)), s = ⟨63, 0, [(2, (LP 0 0)), (3, (S v1)), (5, (LP 1 0)), (6, (I v6)), (7, (U32 v15)), (9, (I v16))], [((cA4 c32) (A4.mk 0 0 0 0)), ((cA4 c32) v17)], ⟨0, []⟩⟩ ∧ M_ref1_Sum_l4 (M_ref1_Sum_l1 t0 n1) (M_ref1_Sum_l2 (M_ref1_Sum_l1 t0 n1) v1 n2) (M_ref1_Sum_l3 (M_ref1_Sum_l1 t0 n1) (M_ref1_Sum_l2 (M_ref1_Sum_l1 t0 n1) v1 n2) v1 v6 v7 n3) v1 v6 n v15 v16 v17 = some r) fuel (Exists.intro v9 (Exists.intro 0 (Exists.intro v7 (And.intro rfl h)))) ?_
              rintro n s ⟨v15, v16, v17, rfl, h⟩ -
              cases n with
              | zero => cases h
              | succ n4 =>
                unfold M_ref1_Sum_l4 at h
                refine aws ?_
                refine aws ?_
                refine awr ?_
                refine ado rfl rfl rfl (emv (eV (v := (I v16)) rfl)) ?_
                refine ado rfl rfl rfl (ex_bin (vx := (I v16)) (vy := (I 4)) rfl rfl lssI_ok) ?_
                refine ake [2, 3, 5, 6, 7, 9, 49] 2 0 (st' := ⟨63, 0, [(2, (LP 0 0)), (3, (S v1)), (5, (LP 1 0)), (6, (I v6)), (7, (U32 v15)), (9, (I v16)), (49, (Bo (decide (v16 < 4))))], [((cA4 c32) (A4.mk 0 0 0 0)), ((cA4 c32) v17)], ⟨0, []⟩⟩) (by kernel_rfl) (by kernel_rfl) ?_
                show AWp _ _ _ _
                rcases Bool.eq_false_or_eq_true (decide (v16 < 4)) with hb18 | hb18
                · rw [condT hb18] at h
                  refine awp_condT (boT hb18) ?_
                  refine awp_skip ?_
                  show AWp _ _ _ _
                  refine aws ?_
                  refine awp_block ?_
                  refine aws ?_
                  refine awr ?_
                  refine ado rfl rfl rfl (emv (eV (v := (I v16)) rfl)) ?_
                  refine ado rfl rfl rfl (emv (eV (v := (I v16)) rfl)) ?_
                  obtain ⟨x19, hx19, h⟩ := bindS h
                  refine ado rfl rfl rfl (ex_indexAddrA (i := v16) (v := (LP 1 (0 + v16.toNat * 1))) Try.underlying33 s_31 rfl rfl (inA_ok hx19) rfl) ?_
                  obtain ⟨x20, hx20, h⟩ := bindS h
                  refine ado rfl rfl rfl (tx_ldL1 (v := (U32 x20)) Try.underlying31 rfl rfl rfl (by obtain ⟨hi, hz⟩ | ⟨hi, hz⟩ | ⟨hi, hz⟩ | ⟨hi, hz⟩ := A4.get_some hx20 <;> (subst hz; simp only [hi]; rfl))) ?_
                  refine ado rfl rfl rfl (emv (eV (v := (U32 v15)) rfl)) ?_
                  refine ado rfl rfl rfl (ex_bin (vx := (U32 x20)) (vy := (U32 v15)) rfl rfl add32_ok) ?_
                  obtain ⟨x21, hx21, h⟩ := bindS h
                  refine ado rfl rfl rfl (ex_indexAddrA (i := v16) (v := (LP 1 (0 + v16.toNat * 1))) Try.underlying33 s_31 rfl rfl (inA_ok hx21) rfl) ?_
                  obtain ⟨x22, hx22, h⟩ := bindS h
                  refine arun_do0 rfl rfl (ex_storeL (vy := (U32 (x20 + v15))) (cs := ((cA4 c32) v17)) (vs := [(U32 (x20 + v15))]) (L' := [((cA4 c32) (A4.mk 0 0 0 0)), ((cA4 c32) x22)]) rfl (eV (v := (U32 (x20 + v15))) rfl) rfl s_31 rfl (by obtain ⟨hi, hz⟩ | ⟨hi, hz⟩ | ⟨hi, hz⟩ | ⟨hi, hz⟩ := A4.set_some hx22 <;> (simp only [hi]; exact Nat.le_of_ble_eq_true rfl)) (by obtain ⟨hi, hz⟩ | ⟨hi, hz⟩ | ⟨hi, hz⟩ | ⟨hi, hz⟩ := A4.set_some hx22 <;> (subst hz; simp only [hi]; rfl))) ?_
                  refine ake [2, 3, 5, 6, 9] 2 0 (st' := ⟨63, 0, [(2, (LP 0 0)), (3, (S v1)), (5, (LP 1 0)), (6, (I v6)), (9, (I v16))], [((cA4 c32) (A4.mk 0 0 0 0)), ((cA4 c32) x22)], ⟨0, []⟩⟩) (by kernel_rfl) (by kernel_rfl) ?_
                  show AWp _ _ _ _
                  refine awr ?_
                  refine ado rfl rfl rfl (emv (eV (v := (I v16)) rfl)) ?_
                  obtain ⟨x23, hx23, h⟩ := bindS h
                  refine ado rfl rfl rfl (ex_indexAddrA (i := v16) (v := (LP 1 (0 + v16.toNat * 1))) Try.underlying33 s_31 rfl rfl (inA_ok hx23) rfl) ?_
                  obtain ⟨x24, hx24, h⟩ := bindS h
                  refine ado rfl rfl rfl (tx_ldL1 (v := (U32 x24)) Try.underlying31 rfl rfl rfl (by obtain ⟨hi, hz⟩ | ⟨hi, hz⟩ | ⟨hi, hz⟩ | ⟨hi, hz⟩ := A4.get_some hx24 <;> (subst hz; simp only [hi]; rfl))) ?_
                  refine ado rfl rfl rfl (eas (eV (v := (U32 x24)) rfl)) ?_
                  refine ake [2, 3, 5, 6, 7, 9] 2 0 (st' := ⟨63, 0, [(2, (LP 0 0)), (3, (S v1)), (5, (LP 1 0)), (6, (I v6)), (7, (U32 x24)), (9, (I v16))], [((cA4 c32) (A4.mk 0 0 0 0)), ((cA4 c32) x22)], ⟨0, []⟩⟩) (by kernel_rfl) (by kernel_rfl) ?_
                  show AWp _ _ _ _
                  refine awr ?_
                  refine ado rfl rfl rfl (emv (eV (v := (I v16)) rfl)) ?_
                  refine ado rfl rfl rfl (ex_bin (vx := (I v16)) (vy := (I 1)) rfl rfl addI_ok) ?_
                  refine ado rfl rfl rfl (eas (eV (v := (I (w64 (v16 + 1)))) rfl)) ?_
                  refine ake [2, 3, 5, 6, 7, 9] 2 0 (st' := ⟨63, 0, [(2, (LP 0 0)), (3, (S v1)), (5, (LP 1 0)), (6, (I v6)), (7, (U32 x24)), (9, (I (w64 (v16 + 1))))], [((cA4 c32) (A4.mk 0 0 0 0)), ((cA4 c32) x22)], ⟨0, []⟩⟩) (by kernel_rfl) (by kernel_rfl) ?_
                  exact Exists.intro n4 (And.intro (Nat.lt_succ_self _) (Exists.intro x24 (Exists.intro (w64 (v16 + 1)) (Exists.intro x22 (And.intro rfl h)))))
                · rw [condF hb18] at h
                  refine awp_condF (boF hb18) ?_
                  refine awp_exit ?_
                  show AWp _ _ _ _
                  refine awr ?_
                  refine ado rfl rfl rfl (emv (eV (v := (I v6)) rfl)) ?_
                  refine ado rfl rfl rfl (ex_bin (vx := (I v6)) (vy := (I 4)) rfl rfl addI_ok) ?_
                  refine ado rfl rfl rfl (eas (eV (v := (I (w64 (v6 + 4)))) rfl)) ?_
                  refine ake [2, 3, 5, 6] 2 0 (st' := ⟨63, 0, [(2, (LP 0 0)), (3, (S v1)), (5, (LP 1 0)), (6, (I (w64 (v6 + 4))))], [((cA4 c32) (A4.mk 0 0 0 0)), ((cA4 c32) v17)], ⟨0, []⟩⟩) (by kernel_rfl) (by kernel_rfl) ?_
                  exact Exists.intro n2 (And.intro (Nat.lt_succ_self _) (Exists.intro (w64 (v6 + 4)) (Exists.intro v17 (And.intro rfl h))))
        · rw [condF hb8] at h
          refine awp_condF (boF hb8) ?_
          refine awp_exit ?_
          show AWp _ _ _ _
          refine aws ?_
          refine awr ?_
          refine ado rfl rfl rfl (tx_ldLA (vs := ((cA4 c32) v7)) Try.underlying33 rfl s_33 (by decide) rfl rfl rfl rfl) ?_
          refine arun_do0 rfl rfl (ex_storeL (vy := (Value.agg ((cA4 c32) v7).toArray)) (cs := ((cA4 c32) (A4.mk 0 0 0 0))) (vs := ((cA4 c32) v7)) (L' := [((cA4 c32) v7), ((cA4 c32) v7)]) rfl (eV (v := (Value.agg ((cA4 c32) v7).toArray)) rfl) rfl s_33 rfl (Nat.le_of_ble_eq_true rfl) (by kernel_rfl)) ?_
          refine ake [2] 1 0 (st' := ⟨63, 0, [(2, (LP 0 0))], [((cA4 c32) v7)], ⟨0, []⟩⟩) (by kernel_rfl) (by kernel_rfl) ?_
          show AWp _ _ _ _
          refine awp_ret ?_
          cases h
          exact ares1 (rcellL rfl rfl rfl (partA Try.underlying33 rfl s_33 (by decide) (Nat.le_of_ble_eq_true rfl) rfl))

end Go.Proofs
