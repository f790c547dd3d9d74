/- Pure models of functions of the program, and that its code does what they say: ptr Put, sum Of, uber sealed. Written by a program. -/
import Derived.Test.YtmhfodjiefednaaR70
import Derived.Test.YtmhfodjiefednaaR71
import Derived.Test.YtmhfodjiefednaaR7B
import Derived.Test.YtmhfodjiefednaaR7X
set_option maxRecDepth 20000
set_option maxHeartbeats 4000000
namespace Go.Proofs
open Go Go.Fhl
set_option linter.unusedVariables false
set_option linter.unusedSimpArgs false
noncomputable def M_ptr_Put_l1 (t0 : (List GPt)) : Nat → Str → Int → Option Str
  | 0, _, _ => none
  | n1 + 1, v1, v2 =>
  cond (decide (v2 < (t0.length : Int))) (Option.bind (getI t0 v2) fun (x4 : GPt) => Option.bind (M_ptr_May x4) fun (x5 : Bool) => cond (!x5) (some []) (Option.bind (M_ptr_pointer_numbers (G_ptr_pointer.mk x4)) fun (x7 : (List Int)) => Option.bind (M_pack_Put ([50, 52, 52, 52, 52, 52] : Str) x7) fun (x8 : Str) => Option.bind (addS v1 x8) fun (x9 : Str) => (M_ptr_Put_l1 t0 n1) x9 (w64 (v2 + 1)))) (some v1)
noncomputable def M_ptr_Put (t0 : (List GPt)) : Option Str :=
  M_ptr_Put_l1 t0 fuel ([] : Str) 0
theorem ok_ptr_Put (t0 : (List GPt)) (r : Str) (h : M_ptr_Put t0 = some r) : FFn Try.prog 68 [(SL 6 cPt t0)] (S r) := by
  refine FFn.of_body (n := 23) Try.func68 rfl Try.ntmps68 rfl rfl rfl rfl ?_
  show AWp _ _ _ ⟨23, 0, [(0, (SL 6 cPt t0))], [], ⟨0, []⟩⟩
  unfold M_ptr_Put at h
  refine aws ?_
  refine awr ?_
  refine ado rfl rfl rfl (eas (eV (v := (S [])) rfl)) ?_
  refine ake [0] 0 0 (st' := ⟨23, 0, [(0, (SL 6 cPt t0))], [], ⟨0, []⟩⟩) (by kernel_rfl) (by kernel_rfl) ?_
  show AWp _ _ _ _
  refine aws ?_
  refine awr ?_
  refine ado rfl rfl rfl (eas (eV (v := (S [])) rfl)) ?_
  refine ake [0, 3] 0 0 (st' := ⟨23, 0, [(0, (SL 6 cPt t0)), (3, (S []))], [], ⟨0, []⟩⟩) (by kernel_rfl) (by kernel_rfl) ?_
  show AWp _ _ _ _
  refine aws ?_
  refine aws ?_
  refine awr ?_
  refine ado rfl rfl rfl (emv (eV (v := (SL 6 cPt t0)) rfl)) ?_
  refine ado rfl rfl rfl (tx_lenD (xs := t0) ce_api_Ptr Try.underlying70 rfl) ?_
  refine ado rfl rfl rfl (emv (eV (v := (I 0)) rfl)) ?_
  refine ake [3, 6, 7, 8] 0 0 (st' := ⟨23, 0, [(3, (S [])), (6, (SL 6 cPt t0)), (7, (I (t0.length : Int))), (8, (I 0))], [], ⟨0, []⟩⟩) (by kernel_rfl) (by kernel_rfl) ?_
  show AWp _ _ _ _
  refine awp_block ?_
  refine awp_loop (fun n s => ∃ (v1 : Str) (v2 : Int), s = ⟨23, 0, [(3, (S v1)), (6, (SL 6 cPt t0)), (7, (I (t0.length : Int))), (8, (I v2))], [], ⟨0, []⟩⟩ ∧ M_ptr_Put_l1 t0 n v1 v2 = some r) fuel (Exists.intro ([] : Str) (Exists.intro 0 (And.intro rfl h))) ?_
  rintro n s ⟨v1, v2, rfl, h⟩ -
  cases n with
  | zero => cases h
  | succ n1 =>
    unfold M_ptr_Put_l1 at h
    refine aws ?_
    refine awr ?_
    refine ado rfl rfl rfl (ex_bin (vx := (I v2)) (vy := (I (t0.length : Int))) rfl rfl lssI_ok) ?_
    refine ake [3, 6, 7, 8, 9] 0 0 (st' := ⟨23, 0, [(3, (S v1)), (6, (SL 6 cPt t0)), (7, (I (t0.length : Int))), (8, (I v2)), (9, (Bo (decide (v2 < (t0.length : Int)))))], [], ⟨0, []⟩⟩) (by kernel_rfl) (by kernel_rfl) ?_
    show AWp _ _ _ _
    refine aws ?_
    rcases Bool.eq_false_or_eq_true (decide (v2 < (t0.length : Int))) with hb3 | hb3
    · rw [condT hb3] at h
      refine awp_condT (boT hb3) ?_
      refine awp_skip ?_
      show AWp _ _ _ _
      refine aws ?_
      refine awp_block ?_
      refine aws ?_
      refine awr ?_
      obtain ⟨x4, hx4, h⟩ := bindS h
      refine ado rfl rfl rfl (tx_idxD (c := cPt) (xs := t0) (i := v2) ce_api_Ptr Try.underlying70 s_35 rfl rfl hx4) ?_
      refine ado rfl rfl rfl (tx_ldDA (vs := (cPt x4)) Try.underlying35 rfl s_35 (by decide) rfl (Nat.le_of_ble_eq_true rfl) rfl) ?_
      refine ado rfl rfl rfl (ex_alloc (k := 0) (zs := (cPt (GPt.mk 0 0 (A4.mk 0 0 0 0)))) (L' := [(cPt (GPt.mk 0 0 (A4.mk 0 0 0 0)))]) z_35 rfl rfl rfl rfl) ?_
      refine arun_do0 rfl rfl (ex_storeL (vy := (Value.agg (cPt x4).toArray)) (cs := (cPt (GPt.mk 0 0 (A4.mk 0 0 0 0)))) (vs := (cPt x4)) (L' := [(cPt x4)]) rfl (eV (v := (Value.agg (cPt x4).toArray)) rfl) rfl s_35 rfl (Nat.le_of_ble_eq_true rfl) (by kernel_rfl)) ?_
      refine ake [3, 5, 6, 7, 8] 1 0 (st' := ⟨23, 0, [(3, (S v1)), (5, (LP 0 0)), (6, (SL 6 cPt t0)), (7, (I (t0.length : Int))), (8, (I v2))], [(cPt x4)], ⟨0, []⟩⟩) (by kernel_rfl) (by kernel_rfl) ?_
      show AWp _ _ _ _
      refine aws ?_
      refine aws ?_
      refine awr ?_
      refine ado rfl rfl rfl (tx_ldLA (vs := (cPt x4)) Try.underlying35 rfl s_35 (by decide) rfl rfl rfl rfl) ?_
      obtain ⟨x5, hx5, h⟩ := bindS h
      refine ado rfl rfl rfl (ex_call0 (vs := [(Value.agg (cPt x4).toArray)]) (v := (Bo x5)) rfl en_65 (cargs (evs rfl evs_nil)) rfl (ok_ptr_May x4 x5 hx5) rfl) ?_
      refine ado rfl rfl rfl (ex_un (vx := (Bo x5)) rfl notB_ok) ?_
      refine ake [3, 5, 6, 7, 8, 14] 1 0 (st' := ⟨23, 0, [(3, (S v1)), (5, (LP 0 0)), (6, (SL 6 cPt t0)), (7, (I (t0.length : Int))), (8, (I v2)), (14, (Bo (!x5)))], [(cPt x4)], ⟨0, []⟩⟩) (by kernel_rfl) (by kernel_rfl) ?_
      show AWp _ _ _ _
      rcases Bool.eq_false_or_eq_true (!x5) with hb6 | hb6
      · rw [condT hb6] at h
        refine awp_condT (boT hb6) ?_
        refine aws ?_
        refine awr ?_
        refine ado rfl rfl rfl (eas (eV (v := (S [])) rfl)) ?_
        refine ake [2] 0 0 (st' := ⟨23, 0, [(2, (S []))], [], ⟨0, []⟩⟩) (by kernel_rfl) (by kernel_rfl) ?_
        show AWp _ _ _ _
        refine awp_ret ?_
        cases h
        exact ares1 (rtmp rfl (eV rfl))
      · rw [condF hb6] at h
        refine awp_condF (boF hb6) ?_
        refine awp_skip ?_
        show AWp _ _ _ _
        refine awr ?_
        refine ado rfl rfl rfl (emv (eV (v := (S v1)) rfl)) ?_
        refine ado rfl rfl rfl (tx_ldLA (vs := (cPt x4)) Try.underlying35 rfl s_35 (by decide) rfl rfl rfl rfl) ?_
        refine ado rfl rfl rfl (ex_build (qs := [(0, (Value.agg (cPt x4).toArray))]) (v := (Value.agg (c_ptr_pointer (G_ptr_pointer.mk x4)).toArray)) (evp rfl evp_nil) (by kernel_rfl)) ?_
        obtain ⟨x7, hx7, h⟩ := bindS h
        refine ado rfl rfl rfl (ex_call0 (vs := [(Value.agg (c_ptr_pointer (G_ptr_pointer.mk x4)).toArray)]) (v := (SL 1 cI x7)) rfl en_85 (cargs (evs rfl evs_nil)) rfl (ok_ptr_pointer_numbers (G_ptr_pointer.mk x4) x7 hx7) rfl) ?_
        obtain ⟨x8, hx8, h⟩ := bindS h
        refine ado rfl rfl rfl (ex_call0 (vs := [(S ([50, 52, 52, 52, 52, 52] : Str)), (SL 1 cI x7)]) (v := (S x8)) rfl en_67 (cargs (evs rfl (evs rfl evs_nil))) rfl (ok_pack_Put ([50, 52, 52, 52, 52, 52] : Str) x7 x8 hx8) rfl) ?_
        obtain ⟨x9, hx9, h⟩ := bindS h
        refine ado rfl rfl rfl (ex_bin (vx := (S v1)) (vy := (S x8)) rfl rfl (addS_ok hx9)) ?_
        refine ado rfl rfl rfl (eas (eV (v := (S x9)) rfl)) ?_
        refine ake [3, 6, 7, 8] 0 0 (st' := ⟨23, 0, [(3, (S x9)), (6, (SL 6 cPt t0)), (7, (I (t0.length : Int))), (8, (I v2))], [], ⟨0, []⟩⟩) (by kernel_rfl) (by kernel_rfl) ?_
        show AWp _ _ _ _
        refine awr ?_
        refine ado rfl rfl rfl (ex_bin (vx := (I v2)) (vy := (I 1)) rfl rfl addI_ok) ?_
        refine ado rfl rfl rfl (emv (eV (v := (I (w64 (v2 + 1)))) rfl)) ?_
        refine ake [3, 6, 7, 8] 0 0 (st' := ⟨23, 0, [(3, (S x9)), (6, (SL 6 cPt t0)), (7, (I (t0.length : Int))), (8, (I (w64 (v2 + 1))))], [], ⟨0, []⟩⟩) (by kernel_rfl) (by kernel_rfl) ?_
        exact Exists.intro n1 (And.intro (Nat.lt_succ_self _) (Exists.intro x9 (Exists.intro (w64 (v2 + 1)) (And.intro rfl h))))
    · rw [condF hb3] at h
      refine awp_condF (boF hb3) ?_
      refine awp_exit ?_
      show AWp _ _ _ _
      refine aws ?_
      refine awr ?_
      refine ado rfl rfl rfl (emv (eV (v := (S v1)) rfl)) ?_
      refine ado rfl rfl rfl (eas (eV (v := (S v1)) rfl)) ?_
      refine ake [2] 0 0 (st' := ⟨23, 0, [(2, (S v1))], [], ⟨0, []⟩⟩) (by kernel_rfl) (by kernel_rfl) ?_
      show AWp _ _ _ _
      refine awp_ret ?_
      cases h
      exact ares1 (rtmp rfl (eV rfl))

noncomputable def M_sum_Of_l3 (c_1 : (Int → (A4 UInt32) → Option (A4 UInt32))) (c_2 : (UInt32 → Int → Option (A4 UInt32))) (x1 : Str) (v2 : Int) : Nat → UInt32 → Int → (A4 UInt32) → Option (A4 UInt32)
  | 0, _, _, _ => none
  | n3 + 1, v11, v12, v13 =>
  cond (decide (v12 < 4)) (Option.bind (inA 4 v12) fun (x15 : Unit) => Option.bind (A4.get v13 v12) fun (x16 : UInt32) => Option.bind (inA 4 v12) fun (x17 : Unit) => Option.bind (A4.set v13 v12 (x16 + v11)) fun (x18 : A4 UInt32) => Option.bind (inA 4 v12) fun (x19 : Unit) => Option.bind (A4.get x18 v12) fun (x20 : UInt32) => (M_sum_Of_l3 c_1 c_2 x1 v2 n3) x20 (w64 (v12 + 1)) x18) (c_1 (w64 (v2 + 4)) v13)
noncomputable def M_sum_Of_l2 (c_1 : (Int → (A4 UInt32) → Option (A4 UInt32))) (x1 : Str) (v2 : Int) (v3 : (A4 UInt32)) (x5 : Str) : Nat → UInt32 → Int → Option (A4 UInt32)
  | 0, _, _ => none
  | n2 + 1, v6, v7 =>
  cond (decide (v7 < (x5.length : Int))) (Option.bind (getI x5 v7) fun (x9 : UInt8) => Option.bind (shl32 x9.toUInt32 (w64 (8 * v7))) fun (x10 : UInt32) => (M_sum_Of_l2 c_1 x1 v2 v3 x5 n2) (v6 ||| x10) (w64 (v7 + 1))) (M_sum_Of_l3 c_1 (M_sum_Of_l2 c_1 x1 v2 v3 x5 n2) x1 v2 fuel v6 0 v3)
noncomputable def M_sum_Of_l1 (x1 : Str) : Nat → Int → (A4 UInt32) → Option (A4 UInt32)
  | 0, _, _ => none
  | n1 + 1, v2, v3 =>
  cond (decide (v2 < (x1.length : Int))) (Option.bind (slL x1 v2 (min (w64 (v2 + 4)) (x1.length : Int))) fun (x5 : Str) => M_sum_Of_l2 (M_sum_Of_l1 x1 n1) x1 v2 v3 x5 fuel 0 0) (some v3)
noncomputable def M_sum_Of (t0 : (List Str)) : Option (A4 UInt32) :=
  Option.bind (M_strings_Join t0 ([] : Str)) fun (x1 : Str) => M_sum_Of_l1 x1 fuel 0 (A4.mk 0 0 0 0)
theorem ok_sum_Of (t0 : (List Str)) (r : (A4 UInt32)) (h : M_sum_Of t0 = some r) : FFn Try.prog 83 [(SL 1 cS t0)] (Value.agg ((cA4 c32) r).toArray) := by
  refine FFn.of_body (n := 55) Try.func83 rfl Try.ntmps83 rfl rfl rfl rfl ?_
  show AWp _ _ _ ⟨55, 0, [(0, (SL 1 cS t0))], [], ⟨0, []⟩⟩
  unfold M_sum_Of at h
  refine aws ?_
  refine awr ?_
  refine ado rfl rfl rfl (ex_alloc (k := 0) (zs := ((cA4 c32) (A4.mk 0 0 0 0))) (L' := [((cA4 c32) (A4.mk 0 0 0 0))]) z_33 rfl rfl rfl rfl) ?_
  refine ake [0, 2] 1 0 (st' := ⟨55, 0, [(0, (SL 1 cS t0)), (2, (LP 0 0))], [((cA4 c32) (A4.mk 0 0 0 0))], ⟨0, []⟩⟩) (by kernel_rfl) (by kernel_rfl) ?_
  show AWp _ _ _ _
  refine aws ?_
  refine awr ?_
  refine ado rfl rfl rfl (ex_alloc (k := 1) (zs := ((cA4 c32) (A4.mk 0 0 0 0))) (L' := [((cA4 c32) (A4.mk 0 0 0 0)), ((cA4 c32) (A4.mk 0 0 0 0))]) z_33 rfl rfl rfl rfl) ?_
  refine ake [0, 2, 3] 2 0 (st' := ⟨55, 0, [(0, (SL 1 cS t0)), (2, (LP 0 0)), (3, (LP 1 0))], [((cA4 c32) (A4.mk 0 0 0 0)), ((cA4 c32) (A4.mk 0 0 0 0))], ⟨0, []⟩⟩) (by kernel_rfl) (by kernel_rfl) ?_
  show AWp _ _ _ _
  refine aws ?_
  refine awr ?_
  refine ado rfl rfl rfl (emv (eV (v := (SL 1 cS t0)) rfl)) ?_
  obtain ⟨x1, hx1, h⟩ := bindS h
  refine ado rfl rfl rfl (ex_call0 (vs := [(SL 1 cS t0), (S [])]) (v := (S x1)) rfl en_91 (cargs (evs rfl (evs rfl evs_nil))) rfl (ok_strings_Join t0 ([] : Str) x1 hx1) rfl) ?_
  refine ado rfl rfl rfl (eas (eV (v := (S x1)) rfl)) ?_
  refine ake [2, 3, 4] 2 0 (st' := ⟨55, 0, [(2, (LP 0 0)), (3, (LP 1 0)), (4, (S x1))], [((cA4 c32) (A4.mk 0 0 0 0)), ((cA4 c32) (A4.mk 0 0 0 0))], ⟨0, []⟩⟩) (by kernel_rfl) (by kernel_rfl) ?_
  show AWp _ _ _ _
  refine aws ?_
  refine aws ?_
  refine awr ?_
  refine ado rfl rfl rfl (eas (eV (v := (I 0)) rfl)) ?_
  refine ake [2, 3, 4, 5] 2 0 (st' := ⟨55, 0, [(2, (LP 0 0)), (3, (LP 1 0)), (4, (S x1)), (5, (I 0))], [((cA4 c32) (A4.mk 0 0 0 0)), ((cA4 c32) (A4.mk 0 0 0 0))], ⟨0, []⟩⟩) (by kernel_rfl) (by kernel_rfl) ?_
  show AWp _ _ _ _
  refine awp_block ?_
  refine awp_loop (fun n s => ∃ (v2 : Int) (v3 : (A4 UInt32)), s = ⟨55, 0, [(2, (LP 0 0)), (3, (LP 1 0)), (4, (S x1)), (5, (I v2))], [((cA4 c32) (A4.mk 0 0 0 0)), ((cA4 c32) v3)], ⟨0, []⟩⟩ ∧ M_sum_Of_l1 x1 n v2 v3 = some r) fuel (Exists.intro 0 (Exists.intro (A4.mk 0 0 0 0) (And.intro rfl h))) ?_
  rintro n s ⟨v2, v3, rfl, h⟩ -
  cases n with
  | zero => cases h
  | succ n1 =>
    unfold M_sum_Of_l1 at h
    refine aws ?_
    refine aws ?_
    refine awr ?_
    refine ado rfl rfl rfl (emv (eV (v := (I v2)) rfl)) ?_
    refine ado rfl rfl rfl (emv (eV (v := (S x1)) rfl)) ?_
    refine ado rfl rfl rfl (tx_lenS Try.underlying9 rfl) ?_
    refine ado rfl rfl rfl (ex_bin (vx := (I v2)) (vy := (I (x1.length : Int))) rfl rfl lssI_ok) ?_
    refine ake [2, 3, 4, 5, 15] 2 0 (st' := ⟨55, 0, [(2, (LP 0 0)), (3, (LP 1 0)), (4, (S x1)), (5, (I v2)), (15, (Bo (decide (v2 < (x1.length : Int)))))], [((cA4 c32) (A4.mk 0 0 0 0)), ((cA4 c32) v3)], ⟨0, []⟩⟩) (by kernel_rfl) (by kernel_rfl) ?_
    show AWp _ _ _ _
    rcases Bool.eq_false_or_eq_true (decide (v2 < (x1.length : Int))) with hb4 | hb4
    · rw [condT hb4] at h
      refine awp_condT (boT hb4) ?_
      refine awp_skip ?_
      show AWp _ _ _ _
      refine aws ?_
      refine awp_block ?_
      refine aws ?_
      refine awr ?_
      refine ado rfl rfl rfl (eas (eV (v := (U32 0)) rfl)) ?_
      refine ake [2, 3, 4, 5, 6] 2 0 (st' := ⟨55, 0, [(2, (LP 0 0)), (3, (LP 1 0)), (4, (S x1)), (5, (I v2)), (6, (U32 0))], [((cA4 c32) (A4.mk 0 0 0 0)), ((cA4 c32) v3)], ⟨0, []⟩⟩) (by kernel_rfl) (by kernel_rfl) ?_
      show AWp _ _ _ _
      refine aws ?_
      refine aws ?_
      refine awr ?_
      refine ado rfl rfl rfl (emv (eV (v := (S x1)) rfl)) ?_
      refine ado rfl rfl rfl (emv (eV (v := (I v2)) rfl)) ?_
      refine ado rfl rfl rfl (emv (eV (v := (I v2)) rfl)) ?_
      refine ado rfl rfl rfl (ex_bin (vx := (I v2)) (vy := (I 4)) rfl rfl addI_ok) ?_
      refine ado rfl rfl rfl (emv (eV (v := (S x1)) rfl)) ?_
      refine ado rfl rfl rfl (tx_lenS Try.underlying9 rfl) ?_
      refine ado rfl rfl rfl (ex_min (m := (w64 (v2 + 4))) (n := (x1.length : Int)) rfl rfl) ?_
      obtain ⟨x5, hx5, h⟩ := bindS h
      refine ado rfl rfl rfl (tx_slS (u := x1) Try.underlying9 rfl (loX (l := v2) rfl) (hiX (l := (min (w64 (v2 + 4)) (x1.length : Int))) rfl) hx5) ?_
      refine ado rfl rfl rfl (tx_sbD Try.underlying9 Try.underlying72 Try.underlying5 rfl) ?_
      refine ado rfl rfl rfl (tx_lenD (xs := x5) ce8 Try.underlying72 rfl) ?_
      refine ado rfl rfl rfl (emv (eV (v := (I 0)) rfl)) ?_
      refine ake [2, 3, 4, 5, 6, 26, 27, 28] 2 0 (st' := ⟨55, 0, [(2, (LP 0 0)), (3, (LP 1 0)), (4, (S x1)), (5, (I v2)), (6, (U32 0)), (26, (SL 1 c8 x5)), (27, (I (x5.length : Int))), (28, (I 0))], [((cA4 c32) (A4.mk 0 0 0 0)), ((cA4 c32) v3)], ⟨0, []⟩⟩) (by kernel_rfl) (by kernel_rfl) ?_
      show AWp _ _ _ _
      refine awp_block ?_
      refine awp_loop (fun n s => ∃ (v6 : UInt32) (v7 : Int), s = ⟨55, 0, [(2, (LP 0 0)), (3, (LP 1 0)), (4, (S x1)), (5, (I v2)), (6, (U32 v6)), (26, (SL 1 c8 x5)), (27, (I (x5.length : Int))), (28, (I v7))], [((cA4 c32) (A4.mk 0 0 0 0)), ((cA4 c32) v3)], ⟨0, []⟩⟩ ∧ M_sum_Of_l2 (M_sum_Of_l1 x1 n1) x1 v2 v3 x5 n v6 v7 = some r) fuel (Exists.intro 0 (Exists.intro 0 (And.intro rfl h))) ?_
      rintro n s ⟨v6, v7, rfl, h⟩ -
      cases n with
      | zero => cases h
      | succ n2 =>
        unfold M_sum_Of_l2 at h
        refine aws ?_
        refine awr ?_
        refine ado rfl rfl rfl (ex_bin (vx := (I v7)) (vy := (I (x5.length : Int))) rfl rfl lssI_ok) ?_
        refine ake [2, 3, 4, 5, 6, 26, 27, 28, 29] 2 0 (st' := ⟨55, 0, [(2, (LP 0 0)), (3, (LP 1 0)), (4, (S x1)), (5, (I v2)), (6, (U32 v6)), (26, (SL 1 c8 x5)), (27, (I (x5.length : Int))), (28, (I v7)), (29, (Bo (decide (v7 < (x5.length : Int)))))], [((cA4 c32) (A4.mk 0 0 0 0)), ((cA4 c32) v3)], ⟨0, []⟩⟩) (by kernel_rfl) (by kernel_rfl) ?_
        show AWp _ _ _ _
        refine aws ?_
        rcases Bool.eq_false_or_eq_true (decide (v7 < (x5.length : Int))) with hb8 | hb8
        · rw [condT hb8] at h
          refine awp_condT (boT hb8) ?_
          refine awp_skip ?_
          show AWp _ _ _ _
          refine aws ?_
          refine awp_block ?_
          refine aws ?_
          refine awr ?_
          refine ado rfl rfl rfl (emv (eV (v := (I v7)) rfl)) ?_
          obtain ⟨x9, hx9, h⟩ := bindS h
          refine ado rfl rfl rfl (tx_idxD (c := c8) (xs := x5) (i := v7) ce8 Try.underlying72 s_5 rfl rfl hx9) ?_
          refine ado rfl rfl rfl (tx_ldD1 (v := (U8 x9)) Try.underlying5 rfl rfl rfl) ?_
          refine ado rfl rfl rfl (eas (eV (v := (I v7)) rfl)) ?_
          refine ado rfl rfl rfl (eas (eV (v := (U8 x9)) rfl)) ?_
          refine ake [2, 3, 4, 5, 6, 7, 8, 26, 27, 28] 2 0 (st' := ⟨55, 0, [(2, (LP 0 0)), (3, (LP 1 0)), (4, (S x1)), (5, (I v2)), (6, (U32 v6)), (7, (I v7)), (8, (U8 x9)), (26, (SL 1 c8 x5)), (27, (I (x5.length : Int))), (28, (I v7))], [((cA4 c32) (A4.mk 0 0 0 0)), ((cA4 c32) v3)], ⟨0, []⟩⟩) (by kernel_rfl) (by kernel_rfl) ?_
          show AWp _ _ _ _
          refine awr ?_
          refine ado rfl rfl rfl (emv (eV (v := (U32 v6)) rfl)) ?_
          refine ado rfl rfl rfl (emv (eV (v := (U8 x9)) rfl)) ?_
          refine ado rfl rfl rfl (tx_8_32 Try.underlying5 Try.underlying31 rfl) ?_
          refine ado rfl rfl rfl (emv (eV (v := (I v7)) rfl)) ?_
          refine ado rfl rfl rfl (ex_bin (vx := (I 8)) (vy := (I v7)) rfl rfl mulI_ok) ?_
          obtain ⟨x10, hx10, h⟩ := bindS h
          refine ado rfl rfl rfl (ex_bin (vx := (U32 x9.toUInt32)) (vy := (I (w64 (8 * v7)))) rfl rfl (shl32_ok hx10)) ?_
          refine ado rfl rfl rfl (ex_bin (vx := (U32 v6)) (vy := (U32 x10)) rfl rfl or32_ok) ?_
          refine ado rfl rfl rfl (eas (eV (v := (U32 (v6 ||| x10))) rfl)) ?_
          refine ake [2, 3, 4, 5, 6, 26, 27, 28] 2 0 (st' := ⟨55, 0, [(2, (LP 0 0)), (3, (LP 1 0)), (4, (S x1)), (5, (I v2)), (6, (U32 (v6 ||| x10))), (26, (SL 1 c8 x5)), (27, (I (x5.length : Int))), (28, (I v7))], [((cA4 c32) (A4.mk 0 0 0 0)), ((cA4 c32) v3)], ⟨0, []⟩⟩) (by kernel_rfl) (by kernel_rfl) ?_
          show AWp _ _ _ _
          refine awr ?_
          refine ado rfl rfl rfl (ex_bin (vx := (I v7)) (vy := (I 1)) rfl rfl addI_ok) ?_
          refine ado rfl rfl rfl (emv (eV (v := (I (w64 (v7 + 1)))) rfl)) ?_
          refine ake [2, 3, 4, 5, 6, 26, 27, 28] 2 0 (st' := ⟨55, 0, [(2, (LP 0 0)), (3, (LP 1 0)), (4, (S x1)), (5, (I v2)), (6, (U32 (v6 ||| x10))), (26, (SL 1 c8 x5)), (27, (I (x5.length : Int))), (28, (I (w64 (v7 + 1))))], [((cA4 c32) (A4.mk 0 0 0 0)), ((cA4 c32) v3)], ⟨0, []⟩⟩) (by kernel_rfl) (by kernel_rfl) ?_
          exact Exists.intro n2 (And.intro (Nat.lt_succ_self _) (Exists.intro (v6 ||| x10) (Exists.intro (w64 (v7 + 1)) (And.intro rfl h))))
        · rw [condF hb8] at h
          refine awp_condF (boF hb8) ?_
          refine awp_exit ?_
          show AWp _ _ _ _
          refine aws ?_
          refine awr ?_
          refine ado rfl rfl rfl (emv (eV (v := (I 0)) rfl)) ?_
          refine ake [2, 3, 4, 5, 6, 41] 2 0 (st' := ⟨55, 0, [(2, (LP 0 0)), (3, (LP 1 0)), (4, (S x1)), (5, (I v2)), (6, (U32 v6)), (41, (I 0))], [((cA4 c32) (A4.mk 0 0 0 0)), ((cA4 c32) v3)], ⟨0, []⟩⟩) (by kernel_rfl) (by kernel_rfl) ?_
          show AWp _ _ _ _
          refine awp_block ?_
          refine awp_loop (fun n s => ∃ (v11 : UInt32) (v12 : Int) (v13 : (A4 UInt32)), s = ⟨55, 0, [(2, (LP 0 0)), (3, (LP 1 0)), (4, (S x1)), (5, (I v2)), (6, (U32 v11)), (41, (I v12))], [((cA4 c32) (A4.mk 0 0 0 0)), ((cA4 c32) v13)], ⟨0, []⟩⟩ ∧ M_sum_Of_l3 (M_sum_Of_l1 x1 n1) (M_sum_Of_l2 (M_sum_Of_l1 x1 n1) x1 v2 v3 x5 n2) x1 v2 n v11 v12 v13 = some r) fuel (Exists.intro v6 (Exists.intro 0 (Exists.intro v3 (And.intro rfl h)))) ?_
          rintro n s ⟨v11, v12, v13, rfl, h⟩ -
          cases n with
          | zero => cases h
          | succ n3 =>
            unfold M_sum_Of_l3 at h
            refine aws ?_
            refine awr ?_
            refine ado rfl rfl rfl (ex_bin (vx := (I v12)) (vy := (I 4)) rfl rfl lssI_ok) ?_
            refine ake [2, 3, 4, 5, 6, 41, 42] 2 0 (st' := ⟨55, 0, [(2, (LP 0 0)), (3, (LP 1 0)), (4, (S x1)), (5, (I v2)), (6, (U32 v11)), (41, (I v12)), (42, (Bo (decide (v12 < 4))))], [((cA4 c32) (A4.mk 0 0 0 0)), ((cA4 c32) v13)], ⟨0, []⟩⟩) (by kernel_rfl) (by kernel_rfl) ?_
            show AWp _ _ _ _
            refine aws ?_
            rcases Bool.eq_false_or_eq_true (decide (v12 < 4)) with hb14 | hb14
            · rw [condT hb14] at h
              refine awp_condT (boT hb14) ?_
              refine awp_skip ?_
              show AWp _ _ _ _
              refine aws ?_
              refine awp_block ?_
              refine aws ?_
              refine awr ?_
              refine ado rfl rfl rfl (emv (eV (v := (I v12)) rfl)) ?_
              refine ado rfl rfl rfl (eas (eV (v := (I v12)) rfl)) ?_
              refine ake [2, 3, 4, 5, 6, 9, 41] 2 0 (st' := ⟨55, 0, [(2, (LP 0 0)), (3, (LP 1 0)), (4, (S x1)), (5, (I v2)), (6, (U32 v11)), (9, (I v12)), (41, (I v12))], [((cA4 c32) (A4.mk 0 0 0 0)), ((cA4 c32) v13)], ⟨0, []⟩⟩) (by kernel_rfl) (by kernel_rfl) ?_
              show AWp _ _ _ _
              refine aws ?_
              refine awr ?_
              refine ado rfl rfl rfl (emv (eV (v := (I v12)) rfl)) ?_
              obtain ⟨x15, hx15, h⟩ := bindS h
              refine ado rfl rfl rfl (ex_indexAddrA (i := v12) (v := (LP 1 (0 + v12.toNat * 1))) Try.underlying33 s_31 rfl rfl (inA_ok hx15) rfl) ?_
              obtain ⟨x16, hx16, h⟩ := bindS h
              refine ado rfl rfl rfl (tx_ldL1 (v := (U32 x16)) Try.underlying31 rfl rfl rfl (by obtain ⟨hi, hz⟩ | ⟨hi, hz⟩ | ⟨hi, hz⟩ | ⟨hi, hz⟩ := A4.get_some hx16 <;> (subst hz; simp only [hi]; rfl))) ?_
              refine ado rfl rfl rfl (emv (eV (v := (U32 v11)) rfl)) ?_
              refine ado rfl rfl rfl (ex_bin (vx := (U32 x16)) (vy := (U32 v11)) rfl rfl add32_ok) ?_
              obtain ⟨x17, hx17, h⟩ := bindS h
              refine ado rfl rfl rfl (ex_indexAddrA (i := v12) (v := (LP 1 (0 + v12.toNat * 1))) Try.underlying33 s_31 rfl rfl (inA_ok hx17) rfl) ?_
              obtain ⟨x18, hx18, h⟩ := bindS h
              refine arun_do0 rfl rfl (ex_storeL (vy := (U32 (x16 + v11))) (cs := ((cA4 c32) v13)) (vs := [(U32 (x16 + v11))]) (L' := [((cA4 c32) (A4.mk 0 0 0 0)), ((cA4 c32) x18)]) rfl (eV (v := (U32 (x16 + v11))) rfl) rfl s_31 rfl (by obtain ⟨hi, hz⟩ | ⟨hi, hz⟩ | ⟨hi, hz⟩ | ⟨hi, hz⟩ := A4.set_some hx18 <;> (simp only [hi]; exact Nat.le_of_ble_eq_true rfl)) (by obtain ⟨hi, hz⟩ | ⟨hi, hz⟩ | ⟨hi, hz⟩ | ⟨hi, hz⟩ := A4.set_some hx18 <;> (subst hz; simp only [hi]; rfl))) ?_
              refine ake [2, 3, 4, 5, 9, 41] 2 0 (st' := ⟨55, 0, [(2, (LP 0 0)), (3, (LP 1 0)), (4, (S x1)), (5, (I v2)), (9, (I v12)), (41, (I v12))], [((cA4 c32) (A4.mk 0 0 0 0)), ((cA4 c32) x18)], ⟨0, []⟩⟩) (by kernel_rfl) (by kernel_rfl) ?_
              show AWp _ _ _ _
              refine awr ?_
              refine ado rfl rfl rfl (emv (eV (v := (I v12)) rfl)) ?_
              obtain ⟨x19, hx19, h⟩ := bindS h
              refine ado rfl rfl rfl (ex_indexAddrA (i := v12) (v := (LP 1 (0 + v12.toNat * 1))) Try.underlying33 s_31 rfl rfl (inA_ok hx19) rfl) ?_
              obtain ⟨x20, hx20, h⟩ := bindS h
              refine ado rfl rfl rfl (tx_ldL1 (v := (U32 x20)) Try.underlying31 rfl rfl rfl (by obtain ⟨hi, hz⟩ | ⟨hi, hz⟩ | ⟨hi, hz⟩ | ⟨hi, hz⟩ := A4.get_some hx20 <;> (subst hz; simp only [hi]; rfl))) ?_
              refine ado rfl rfl rfl (eas (eV (v := (U32 x20)) rfl)) ?_
              refine ake [2, 3, 4, 5, 6, 41] 2 0 (st' := ⟨55, 0, [(2, (LP 0 0)), (3, (LP 1 0)), (4, (S x1)), (5, (I v2)), (6, (U32 x20)), (41, (I v12))], [((cA4 c32) (A4.mk 0 0 0 0)), ((cA4 c32) x18)], ⟨0, []⟩⟩) (by kernel_rfl) (by kernel_rfl) ?_
              show AWp _ _ _ _
              refine awr ?_
              refine ado rfl rfl rfl (ex_bin (vx := (I v12)) (vy := (I 1)) rfl rfl addI_ok) ?_
              refine ado rfl rfl rfl (emv (eV (v := (I (w64 (v12 + 1)))) rfl)) ?_
              refine ake [2, 3, 4, 5, 6, 41] 2 0 (st' := ⟨55, 0, [(2, (LP 0 0)), (3, (LP 1 0)), (4, (S x1)), (5, (I v2)), (6, (U32 x20)), (41, (I (w64 (v12 + 1))))], [((cA4 c32) (A4.mk 0 0 0 0)), ((cA4 c32) x18)], ⟨0, []⟩⟩) (by kernel_rfl) (by kernel_rfl) ?_
              exact Exists.intro n3 (And.intro (Nat.lt_succ_self _) (Exists.intro x20 (Exists.intro (w64 (v12 + 1)) (Exists.intro x18 (And.intro rfl h)))))
            · rw [condF hb14] at h
              refine awp_condF (boF hb14) ?_
              refine awp_exit ?_
              show AWp _ _ _ _
              refine awr ?_
              refine ado rfl rfl rfl (emv (eV (v := (I v2)) rfl)) ?_
              refine ado rfl rfl rfl (ex_bin (vx := (I v2)) (vy := (I 4)) rfl rfl addI_ok) ?_
              refine ado rfl rfl rfl (eas (eV (v := (I (w64 (v2 + 4)))) rfl)) ?_
              refine ake [2, 3, 4, 5] 2 0 (st' := ⟨55, 0, [(2, (LP 0 0)), (3, (LP 1 0)), (4, (S x1)), (5, (I (w64 (v2 + 4))))], [((cA4 c32) (A4.mk 0 0 0 0)), ((cA4 c32) v13)], ⟨0, []⟩⟩) (by kernel_rfl) (by kernel_rfl) ?_
              exact Exists.intro n1 (And.intro (Nat.lt_succ_self _) (Exists.intro (w64 (v2 + 4)) (Exists.intro v13 (And.intro rfl h))))
    · rw [condF hb4] at h
      refine awp_condF (boF hb4) ?_
      refine awp_exit ?_
      show AWp _ _ _ _
      refine aws ?_
      refine awr ?_
      refine ado rfl rfl rfl (tx_ldLA (vs := ((cA4 c32) v3)) Try.underlying33 rfl s_33 (by decide) rfl rfl rfl rfl) ?_
      refine arun_do0 rfl rfl (ex_storeL (vy := (Value.agg ((cA4 c32) v3).toArray)) (cs := ((cA4 c32) (A4.mk 0 0 0 0))) (vs := ((cA4 c32) v3)) (L' := [((cA4 c32) v3), ((cA4 c32) v3)]) rfl (eV (v := (Value.agg ((cA4 c32) v3).toArray)) rfl) rfl s_33 rfl (Nat.le_of_ble_eq_true rfl) (by kernel_rfl)) ?_
      refine ake [2] 1 0 (st' := ⟨55, 0, [(2, (LP 0 0))], [((cA4 c32) v3)], ⟨0, []⟩⟩) (by kernel_rfl) (by kernel_rfl) ?_
      show AWp _ _ _ _
      refine awp_ret ?_
      cases h
      exact ares1 (rcellL rfl rfl rfl (partA Try.underlying33 rfl s_33 (by decide) (Nat.le_of_ble_eq_true rfl) rfl))

noncomputable def M_uber_sealed_l1 (t0 : Str) (x1 : (A4 UInt32)) : Nat → Int → List Int → Option Str
  | 0, _, _ => none
  | n1 + 1, v2, v3 =>
  cond (decide (v2 < 4)) (Option.bind (A4.get x1 v2) fun (x5 : UInt32) => Option.bind (appL 8 v3 ([(x5.toNat : Int)] : List Int)) fun (x6 : List Int) => (M_uber_sealed_l1 t0 x1 n1) (w64 (v2 + 1)) x6) (Option.bind (M_pack_Put ([52, 52, 52, 52] : Str) v3) fun (x7 : Str) => Option.bind (addS t0 x7) fun (x8 : Str) => Option.bind (M_strings_Repeat ([0] : Str) (w64 (256 - (x8.length : Int)))) fun (x9 : Str) => Option.bind (addS x8 x9) fun (x10 : Str) => some x10)
noncomputable def M_uber_sealed (t0 : Str) : Option Str :=
  Option.bind (M_sum_Of ([t0] : List Str)) fun (x1 : (A4 UInt32)) => M_uber_sealed_l1 t0 x1 fuel 0 ([] : List Int)
theorem ok_uber_sealed (t0 : Str) (r : Str) (h : M_uber_sealed t0 = some r) : FFn Try.prog 66 [(S t0)] (S r) := by
  refine FFn.of_body (n := 28) Try.func66 rfl Try.ntmps66 rfl rfl rfl rfl ?_
  show AWp _ _ _ ⟨28, 0, [(0, (S t0))], [], ⟨0, []⟩⟩
  unfold M_uber_sealed at h
  refine aws ?_
  refine awr ?_
  refine ado rfl rfl rfl (eas (eV (v := (S [])) rfl)) ?_
  refine ake [0] 0 0 (st' := ⟨28, 0, [(0, (S t0))], [], ⟨0, []⟩⟩) (by kernel_rfl) (by kernel_rfl) ?_
  show AWp _ _ _ _
  refine aws ?_
  refine awr ?_
  refine ado rfl rfl rfl (eas (eV (v := (Value.slice none 0 0)) rfl)) ?_
  refine ake [0, 3] 0 0 (st' := ⟨28, 0, [(0, (S t0)), (3, (Value.slice none 0 0))], [], ⟨0, []⟩⟩) (by kernel_rfl) (by kernel_rfl) ?_
  show AWp _ _ _ _
  refine aws ?_
  refine aws ?_
  refine awr ?_
  refine ado rfl rfl rfl (emv (eV (v := (S t0)) rfl)) ?_
  refine ado rfl rfl rfl (ex_buildSliceD (qs := [(0, (S t0))]) (cells := (([t0] : List Str).flatMap cS)) Try.underlying26 s_9 (by decide) (evp rfl evp_nil) rfl (by kernel_rfl) (by kernel_rfl) (by kernel_rfl)) ?_
  obtain ⟨x1, hx1, h⟩ := bindS h
  refine ado rfl rfl rfl (ex_call0 (vs := [(SL 1 cS ([t0] : List Str))]) (v := (Value.agg ((cA4 c32) x1).toArray)) rfl en_83 (cargs (evs rfl evs_nil)) rfl (ok_sum_Of ([t0] : List Str) x1 hx1) rfl) ?_
  refine ado rfl rfl rfl (emv (eV (v := (I 0)) rfl)) ?_
  refine ake [0, 3, 8, 9] 0 0 (st' := ⟨28, 0, [(0, (S t0)), (3, (Value.slice none 0 0)), (8, (Value.agg ((cA4 c32) x1).toArray)), (9, (I 0))], [], ⟨0, []⟩⟩) (by kernel_rfl) (by kernel_rfl) ?_
  show AWp _ _ _ _
  refine awp_block ?_
  refine awp_nilGro 3 1 rfl (by decide) ?_
  refine awp_keepE [0, 3, 8, 9] 0 1 (st' := ⟨28, 0, [(0, (S t0)), (3, (GV 0 0)), (8, (Value.agg ((cA4 c32) x1).toArray)), (9, (I 0))], [], ⟨1, [(0, ⟨1, (([] : List Int).flatMap cI), true⟩)]⟩⟩) (by kernel_rfl) (by kernel_rfl) ?_
  refine awp_loop (fun n s => ∃ (v2 : Int) (v3 : List Int), s = ⟨28, 0, [(0, (S t0)), (3, (GV 0 v3.length)), (8, (Value.agg ((cA4 c32) x1).toArray)), (9, (I v2))], [], ⟨1, [(0, ⟨1, ((v3).flatMap cI), true⟩)]⟩⟩ ∧ M_uber_sealed_l1 t0 x1 n v2 v3 = some r) fuel (Exists.intro 0 (Exists.intro ([] : List Int) (And.intro rfl h))) ?_
  rintro n s ⟨v2, v3, rfl, h⟩ -
  cases n with
  | zero => cases h
  | succ n1 =>
    unfold M_uber_sealed_l1 at h
    refine aws ?_
    refine awr ?_
    refine ado rfl rfl rfl (ex_bin (vx := (I v2)) (vy := (I 4)) rfl rfl lssI_ok) ?_
    refine ake [0, 3, 8, 9, 10] 0 1 (st' := ⟨28, 0, [(0, (S t0)), (3, (GV 0 v3.length)), (8, (Value.agg ((cA4 c32) x1).toArray)), (9, (I v2)), (10, (Bo (decide (v2 < 4))))], [], ⟨1, [(0, ⟨1, ((v3).flatMap cI), true⟩)]⟩⟩) (by kernel_rfl) (by kernel_rfl) ?_
    show AWp _ _ _ _
    refine aws ?_
    rcases Bool.eq_false_or_eq_true (decide (v2 < 4)) with hb4 | hb4
    · rw [condT hb4] at h
      refine awp_condT (boT hb4) ?_
      refine awp_skip ?_
      show AWp _ _ _ _
      refine aws ?_
      refine awp_block ?_
      refine aws ?_
      refine awr ?_
      obtain ⟨x5, hx5, h⟩ := bindS h
      refine ado rfl rfl rfl (ex_index (vx := (Value.agg ((cA4 c32) x1).toArray)) (vy := (I v2)) (v := (U32 x5)) rfl rfl (by obtain ⟨hi, hz⟩ | ⟨hi, hz⟩ | ⟨hi, hz⟩ | ⟨hi, hz⟩ := A4.get_some hx5 <;> (subst hz; simp only [hi]; kernel_rfl))) ?_
      refine ado rfl rfl rfl (eas (eV (v := (U32 x5)) rfl)) ?_
      refine ake [0, 3, 5, 8, 9] 0 1 (st' := ⟨28, 0, [(0, (S t0)), (3, (GV 0 v3.length)), (5, (U32 x5)), (8, (Value.agg ((cA4 c32) x1).toArray)), (9, (I v2))], [], ⟨1, [(0, ⟨1, ((v3).flatMap cI), true⟩)]⟩⟩) (by kernel_rfl) (by kernel_rfl) ?_
      show AWp _ _ _ _
      refine awr ?_
      refine ado rfl rfl rfl (emv (eV (v := (GV 0 v3.length)) rfl)) ?_
      refine ado rfl rfl rfl (emv (eV (v := (U32 x5)) rfl)) ?_
      refine ado rfl rfl rfl (tx_32_64 Try.underlying31 Try.underlying3 rfl) ?_
      refine ado rfl rfl rfl (ex_buildSliceD (qs := [(0, (I (x5.toNat : Int)))]) (cells := (([(x5.toNat : Int)] : List Int).flatMap cI)) Try.underlying59 s_3 (by decide) (evp rfl evp_nil) rfl (by kernel_rfl) (by kernel_rfl) (by kernel_rfl)) ?_
      obtain ⟨x6, hx6, h⟩ := bindS h
      refine ado rfl rfl rfl (tx_appG (c := cI) (xs := v3) (H' := ⟨1, [(0, ⟨1, ((x6).flatMap cI), true⟩)]⟩) ceI e_3 rfl rfl rfl (tsrcD (ys := ([(x5.toNat : Int)] : List Int)) ceI Try.underlying59 s_3 Try.underlying59 rfl) hx6 rfl) ?_
      refine ado rfl rfl rfl (eas (eV (v := (GV 0 x6.length)) rfl)) ?_
      refine ake [0, 3, 8, 9] 0 1 (st' := ⟨28, 0, [(0, (S t0)), (3, (GV 0 x6.length)), (8, (Value.agg ((cA4 c32) x1).toArray)), (9, (I v2))], [], ⟨1, [(0, ⟨1, ((x6).flatMap cI), true⟩)]⟩⟩) (by kernel_rfl) (by kernel_rfl) ?_
      show AWp _ _ _ _
      refine awr ?_
      refine ado rfl rfl rfl (ex_bin (vx := (I v2)) (vy := (I 1)) rfl rfl addI_ok) ?_
      refine ado rfl rfl rfl (emv (eV (v := (I (w64 (v2 + 1)))) rfl)) ?_
      refine ake [0, 3, 8, 9] 0 1 (st' := ⟨28, 0, [(0, (S t0)), (3, (GV 0 x6.length)), (8, (Value.agg ((cA4 c32) x1).toArray)), (9, (I (w64 (v2 + 1))))], [], ⟨1, [(0, ⟨1, ((x6).flatMap cI), true⟩)]⟩⟩) (by kernel_rfl) (by kernel_rfl) ?_
      exact Exists.intro n1 (And.intro (Nat.lt_succ_self _) (Exists.intro (w64 (v2 + 1)) (Exists.intro x6 (And.intro rfl h))))
    · rw [condF hb4] at h
      refine awp_condF (boF hb4) ?_
      refine awp_exit ?_
      show AWp _ _ _ _
      refine aws ?_
      refine awr ?_
      refine ado rfl rfl rfl (emv (eV (v := (S t0)) rfl)) ?_
      refine ado rfl rfl rfl (emv (eV (v := (GV 0 v3.length)) rfl)) ?_
      refine arun_freeze 0 (bk := ⟨1, ((v3).flatMap cI), true⟩) (T' := [(0, (S t0)), (3, (SL 1 cI v3)), (8, (Value.agg ((cA4 c32) x1).toArray)), (9, (I v2)), (10, (Bo (decide (v2 < 4)))), (18, (S t0)), (19, (SL 1 cI v3))]) (L' := []) rfl (FzT.keep (v := (S t0)) rfl (fzG ceI rfl rfl (FzT.keep (v := (Value.agg ((cA4 c32) x1).toArray)) rfl (FzT.keep (v := (I v2)) rfl (FzT.keep (v := (Bo (decide (v2 < 4)))) rfl (FzT.keep (v := (S t0)) rfl (fzG ceI rfl rfl FzT.nil))))))) (FzL.refl _) ?_
      show ARun _ _ _ _ _ ⟨28, 0, [(0, (S t0)), (3, (SL 1 cI v3)), (8, (Value.agg ((cA4 c32) x1).toArray)), (9, (I v2)), (10, (Bo (decide (v2 < 4)))), (18, (S t0)), (19, (SL 1 cI v3))], [], ⟨1, []⟩⟩
      obtain ⟨x7, hx7, h⟩ := bindS h
      refine ado rfl rfl rfl (ex_call0 (vs := [(S ([52, 52, 52, 52] : Str)), (SL 1 cI v3)]) (v := (S x7)) rfl en_67 (cargs (evs rfl (evs rfl evs_nil))) rfl (ok_pack_Put ([52, 52, 52, 52] : Str) v3 x7 hx7) rfl) ?_
      obtain ⟨x8, hx8, h⟩ := bindS h
      refine ado rfl rfl rfl (ex_bin (vx := (S t0)) (vy := (S x7)) rfl rfl (addS_ok hx8)) ?_
      refine ado rfl rfl rfl (eas (eV (v := (S x8)) rfl)) ?_
      refine ake [0] 0 0 (st' := ⟨28, 0, [(0, (S x8))], [], ⟨0, []⟩⟩) (by kernel_rfl) (by kernel_rfl) ?_
      show AWp _ _ _ _
      refine aws ?_
      refine awr ?_
      refine ado rfl rfl rfl (emv (eV (v := (S x8)) rfl)) ?_
      refine ado rfl rfl rfl (emv (eV (v := (S x8)) rfl)) ?_
      refine ado rfl rfl rfl (tx_lenS Try.underlying9 rfl) ?_
      refine ado rfl rfl rfl (ex_bin (vx := (I 256)) (vy := (I (x8.length : Int))) rfl rfl subI_ok) ?_
      obtain ⟨x9, hx9, h⟩ := bindS h
      refine ado rfl rfl rfl (ex_call0 (vs := [(S ([0] : Str)), (I (w64 (256 - (x8.length : Int))))]) (v := (S x9)) rfl en_84 (cargs (evs rfl (evs rfl evs_nil))) rfl (ok_strings_Repeat ([0] : Str) (w64 (256 - (x8.length : Int))) x9 hx9) rfl) ?_
      obtain ⟨x10, hx10, h⟩ := bindS h
      refine ado rfl rfl rfl (ex_bin (vx := (S x8)) (vy := (S x9)) rfl rfl (addS_ok hx10)) ?_
      refine ado rfl rfl rfl (eas (eV (v := (S x10)) rfl)) ?_
      refine ake [2] 0 0 (st' := ⟨28, 0, [(2, (S x10))], [], ⟨0, []⟩⟩) (by kernel_rfl) (by kernel_rfl) ?_
      show AWp _ _ _ _
      refine awp_ret ?_
      cases h
      exact ares1 (rtmp rfl (eV rfl))

end Go.Proofs
