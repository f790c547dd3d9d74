/- Pure models of functions of the program, and that its code does what they say: sum Of, uber sealed, uber root bytes. Written by a program. -/
import Derived.Test.YteiaengicalapaaR60
import Derived.Test.YteiaengicalapaaR61
import Derived.Test.YteiaengicalapaaR6B
import Derived.Test.YteiaengicalapaaR6X
set_option maxRecDepth 20000
set_option maxHeartbeats 4000000
namespace Go.Proofs
open Go Go.Fhl
set_option linter.unusedVariables false
set_option linter.unusedSimpArgs false
noncomputable def M_sum_Of_l3 (c_1 : (Int → (A4 UInt32) → Option (A4 UInt32))) (c_2 : (UInt32 → Int → Option (A4 UInt32))) (x1 : Str) (v2 : Int) : Nat → UInt32 → Int → (A4 UInt32) → Option (A4 UInt32)
  | 0, _, _, _ => none
  | n3 + 1, v11, v12, v13 =>
  cond (decide (v12 < 4)) (Option.bind (inA 4 v12) fun (x15 : Unit) => Option.bind (A4.get v13 v12) fun (x16 : UInt32) => Option.bind (inA 4 v12) fun (x17 : Unit) => Option.bind (A4.set v13 v12 (x16 + v11)) fun (x18 : A4 UInt32) => Option.bind (inA 4 v12) fun (x19 : Unit) => Option.bind (A4.get x18 v12) fun (x20 : UInt32) => (M_sum_Of_l3 c_1 c_2 x1 v2 n3) x20 (w64 (v12 + 1)) x18) (c_1 (w64 (v2 + 4)) v13)
noncomputable def M_sum_Of_l2 (c_1 : (Int → (A4 UInt32) → Option (A4 UInt32))) (x1 : Str) (v2 : Int) (v3 : (A4 UInt32)) (x5 : Str) : Nat → UInt32 → Int → Option (A4 UInt32)
  | 0, _, _ => none
  | n2 + 1, v6, v7 =>
  cond (decide (v7 < (x5.length : Int))) (Option.bind (getI x5 v7) fun (x9 : UInt8) => Option.bind (shl32 x9.toUInt32 (w64 (8 * v7))) fun (x10 : UInt32) => (M_sum_Of_l2 c_1 x1 v2 v3 x5 n2) (v6 ||| x10) (w64 (v7 + 1))) (M_sum_Of_l3 c_1 (M_sum_Of_l2 c_1 x1 v2 v3 x5 n2) x1 v2 fuel v6 0 v3)
noncomputable def M_sum_Of_l1 (x1 : Str) : Nat → Int → (A4 UInt32) → Option (A4 UInt32)
  | 0, _, _ => none
  | n1 + 1, v2, v3 =>
  cond (decide (v2 < (x1.length : Int))) (Option.bind (slL x1 v2 (min (w64 (v2 + 4)) (x1.length : Int))) fun (x5 : Str) => M_sum_Of_l2 (M_sum_Of_l1 x1 n1) x1 v2 v3 x5 fuel 0 0) (some v3)
noncomputable def M_sum_Of (t0 : (List Str)) : Option (A4 UInt32) :=
  Option.bind (M_strings_Join t0 ([] : Str)) fun (x1 : Str) => M_sum_Of_l1 x1 fuel 0 (A4.mk 0 0 0 0)
theorem ok_sum_Of (t0 : (List Str)) (r : (A4 UInt32)) (h : M_sum_Of t0 = some r) : FFn Try.prog 37 [(SL 1 cS t0)] (Value.agg ((cA4 c32) r).toArray) := by
  refine FFn.of_body (n := 55) Try.func37 rfl Try.ntmps37 rfl rfl rfl rfl ?_
  show AWp _ _ _ ⟨55, 0, [(0, (SL 1 cS t0))], [], ⟨0, []⟩⟩
  unfold M_sum_Of at h
  refine awp_seq ?_
  refine awp_region ?_
  refine arun_do rfl rfl rfl (ex_alloc (k := 0) (zs := ((cA4 c32) (A4.mk 0 0 0 0))) (L' := [((cA4 c32) (A4.mk 0 0 0 0))]) z_24 rfl rfl rfl rfl) ?_
  refine arun_keepE [0, 2] 1 0 (st' := ⟨55, 0, [(0, (SL 1 cS t0)), (2, (LP 0 0))], [((cA4 c32) (A4.mk 0 0 0 0))], ⟨0, []⟩⟩) (by kernel_rfl) (by kernel_rfl) ?_
  show AWp _ _ _ _
  refine awp_seq ?_
  refine awp_region ?_
  refine arun_do rfl rfl rfl (ex_alloc (k := 1) (zs := ((cA4 c32) (A4.mk 0 0 0 0))) (L' := [((cA4 c32) (A4.mk 0 0 0 0)), ((cA4 c32) (A4.mk 0 0 0 0))]) z_24 rfl rfl rfl rfl) ?_
  refine arun_keepE [0, 2, 3] 2 0 (st' := ⟨55, 0, [(0, (SL 1 cS t0)), (2, (LP 0 0)), (3, (LP 1 0))], [((cA4 c32) (A4.mk 0 0 0 0)), ((cA4 c32) (A4.mk 0 0 0 0))], ⟨0, []⟩⟩) (by kernel_rfl) (by kernel_rfl) ?_
  show AWp _ _ _ _
  refine awp_seq ?_
  refine awp_region ?_
  refine arun_do rfl rfl rfl (ex_move (eV (v := (SL 1 cS t0)) rfl)) ?_
  obtain ⟨x1, hx1, h⟩ := bindS h
  refine arun_do rfl rfl rfl (ex_call0 (vs := [(SL 1 cS t0), (S [])]) (v := (S x1)) rfl en_43 (cargs (evs rfl (evs rfl evs_nil))) rfl (ok_strings_Join t0 ([] : Str) x1 hx1) rfl) ?_
  refine arun_do rfl rfl rfl (ex_assign (eV (v := (S x1)) rfl)) ?_
  refine arun_keepE [2, 3, 4] 2 0 (st' := ⟨55, 0, [(2, (LP 0 0)), (3, (LP 1 0)), (4, (S x1))], [((cA4 c32) (A4.mk 0 0 0 0)), ((cA4 c32) (A4.mk 0 0 0 0))], ⟨0, []⟩⟩) (by kernel_rfl) (by kernel_rfl) ?_
  show AWp _ _ _ _
  refine awp_seq ?_
  refine awp_seq ?_
  refine awp_region ?_
  refine arun_do rfl rfl rfl (ex_assign (eV (v := (I 0)) rfl)) ?_
  refine arun_keepE [2, 3, 4, 5] 2 0 (st' := ⟨55, 0, [(2, (LP 0 0)), (3, (LP 1 0)), (4, (S x1)), (5, (I 0))], [((cA4 c32) (A4.mk 0 0 0 0)), ((cA4 c32) (A4.mk 0 0 0 0))], ⟨0, []⟩⟩) (by kernel_rfl) (by kernel_rfl) ?_
  show AWp _ _ _ _
  refine awp_block ?_
  refine awp_loop (fun n s => ∃ (v2 : Int) (v3 : (A4 UInt32)), s = ⟨55, 0, [(2, (LP 0 0)), (3, (LP 1 0)), (4, (S x1)), (5, (I v2))], [((cA4 c32) (A4.mk 0 0 0 0)), ((cA4 c32) v3)], ⟨0, []⟩⟩ ∧ M_sum_Of_l1 x1 n v2 v3 = some r) fuel (Exists.intro 0 (Exists.intro (A4.mk 0 0 0 0) (And.intro rfl h))) ?_
  rintro n s ⟨v2, v3, rfl, h⟩ -
  cases n with
  | zero => cases h
  | succ n1 =>
    unfold M_sum_Of_l1 at h
    refine awp_seq ?_
    refine awp_seq ?_
    refine awp_region ?_
    refine arun_do rfl rfl rfl (ex_move (eV (v := (I v2)) rfl)) ?_
    refine arun_do rfl rfl rfl (ex_move (eV (v := (S x1)) rfl)) ?_
    refine arun_do rfl rfl rfl (tx_lenS Try.underlying9 rfl) ?_
    refine arun_do rfl rfl rfl (ex_bin (vx := (I v2)) (vy := (I (x1.length : Int))) rfl rfl lssI_ok) ?_
    refine arun_keepE [2, 3, 4, 5, 15] 2 0 (st' := ⟨55, 0, [(2, (LP 0 0)), (3, (LP 1 0)), (4, (S x1)), (5, (I v2)), (15, (Bo (decide (v2 < (x1.length : Int)))))], [((cA4 c32) (A4.mk 0 0 0 0)), ((cA4 c32) v3)], ⟨0, []⟩⟩) (by kernel_rfl) (by kernel_rfl) ?_
    show AWp _ _ _ _
    rcases Bool.eq_false_or_eq_true (decide (v2 < (x1.length : Int))) with hb4 | hb4
    · rw [condT hb4] at h
      refine awp_condT (boT hb4) ?_
      refine awp_skip ?_
      show AWp _ _ _ _
      refine awp_seq ?_
      refine awp_block ?_
      refine awp_seq ?_
      refine awp_region ?_
      refine arun_do rfl rfl rfl (ex_assign (eV (v := (U32 0)) rfl)) ?_
      refine arun_keepE [2, 3, 4, 5, 6] 2 0 (st' := ⟨55, 0, [(2, (LP 0 0)), (3, (LP 1 0)), (4, (S x1)), (5, (I v2)), (6, (U32 0))], [((cA4 c32) (A4.mk 0 0 0 0)), ((cA4 c32) v3)], ⟨0, []⟩⟩) (by kernel_rfl) (by kernel_rfl) ?_
      show AWp _ _ _ _
      refine awp_seq ?_
      refine awp_seq ?_
      refine awp_region ?_
      refine arun_do rfl rfl rfl (ex_move (eV (v := (S x1)) rfl)) ?_
      refine arun_do rfl rfl rfl (ex_move (eV (v := (I v2)) rfl)) ?_
      refine arun_do rfl rfl rfl (ex_move (eV (v := (I v2)) rfl)) ?_
      refine arun_do rfl rfl rfl (ex_bin (vx := (I v2)) (vy := (I 4)) rfl rfl addI_ok) ?_
      refine arun_do rfl rfl rfl (ex_move (eV (v := (S x1)) rfl)) ?_
      refine arun_do rfl rfl rfl (tx_lenS Try.underlying9 rfl) ?_
      refine arun_do rfl rfl rfl (ex_min (m := (w64 (v2 + 4))) (n := (x1.length : Int)) rfl rfl) ?_
      obtain ⟨x5, hx5, h⟩ := bindS h
      refine arun_do rfl rfl rfl (tx_slS (u := x1) Try.underlying9 rfl (loX (l := v2) rfl) (hiX (l := (min (w64 (v2 + 4)) (x1.length : Int))) rfl) hx5) ?_
      refine arun_do rfl rfl rfl (tx_sbD Try.underlying9 Try.underlying35 Try.underlying5 rfl) ?_
      refine arun_do rfl rfl rfl (tx_lenD (xs := x5) ce8 Try.underlying35 rfl) ?_
      refine arun_do rfl rfl rfl (ex_move (eV (v := (I 0)) rfl)) ?_
      refine arun_keepE [2, 3, 4, 5, 6, 26, 27, 28] 2 0 (st' := ⟨55, 0, [(2, (LP 0 0)), (3, (LP 1 0)), (4, (S x1)), (5, (I v2)), (6, (U32 0)), (26, (SL 1 c8 x5)), (27, (I (x5.length : Int))), (28, (I 0))], [((cA4 c32) (A4.mk 0 0 0 0)), ((cA4 c32) v3)], ⟨0, []⟩⟩) (by kernel_rfl) (by kernel_rfl) ?_
      show AWp _ _ _ _
      refine awp_block ?_
      refine awp_loop (fun n s => ∃ (v6 : UInt32) (v7 : Int), s = ⟨55, 0, [(2, (LP 0 0)), (3, (LP 1 0)), (4, (S x1)), (5, (I v2)), (6, (U32 v6)), (26, (SL 1 c8 x5)), (27, (I (x5.length : Int))), (28, (I v7))], [((cA4 c32) (A4.mk 0 0 0 0)), ((cA4 c32) v3)], ⟨0, []⟩⟩ ∧ M_sum_Of_l2 (M_sum_Of_l1 x1 n1) x1 v2 v3 x5 n v6 v7 = some r) fuel (Exists.intro 0 (Exists.intro 0 (And.intro rfl h))) ?_
      rintro n s ⟨v6, v7, rfl, h⟩ -
      cases n with
      | zero => cases h
      | succ n2 =>
        unfold M_sum_Of_l2 at h
        refine awp_seq ?_
        refine awp_region ?_
        refine arun_do rfl rfl rfl (ex_bin (vx := (I v7)) (vy := (I (x5.length : Int))) rfl rfl lssI_ok) ?_
        refine arun_keepE [2, 3, 4, 5, 6, 26, 27, 28, 29] 2 0 (st' := ⟨55, 0, [(2, (LP 0 0)), (3, (LP 1 0)), (4, (S x1)), (5, (I v2)), (6, (U32 v6)), (26, (SL 1 c8 x5)), (27, (I (x5.length : Int))), (28, (I v7)), (29, (Bo (decide (v7 < (x5.length : Int)))))], [((cA4 c32) (A4.mk 0 0 0 0)), ((cA4 c32) v3)], ⟨0, []⟩⟩) (by kernel_rfl) (by kernel_rfl) ?_
        show AWp _ _ _ _
        refine awp_seq ?_
        rcases Bool.eq_false_or_eq_true (decide (v7 < (x5.length : Int))) with hb8 | hb8
        · rw [condT hb8] at h
          refine awp_condT (boT hb8) ?_
          refine awp_skip ?_
          show AWp _ _ _ _
          refine awp_seq ?_
          refine awp_block ?_
          refine awp_seq ?_
          refine awp_region ?_
          refine arun_do rfl rfl rfl (ex_move (eV (v := (I v7)) rfl)) ?_
          obtain ⟨x9, hx9, h⟩ := bindS h
          refine arun_do rfl rfl rfl (tx_idxD (c := c8) (xs := x5) (i := v7) ce8 Try.underlying35 s_5 rfl rfl hx9) ?_
          refine arun_do rfl rfl rfl (tx_ldD1 (v := (U8 x9)) Try.underlying5 rfl rfl rfl) ?_
          refine arun_do rfl rfl rfl (ex_assign (eV (v := (I v7)) rfl)) ?_
          refine arun_do rfl rfl rfl (ex_assign (eV (v := (U8 x9)) rfl)) ?_
          refine arun_keepE [2, 3, 4, 5, 6, 7, 8, 26, 27, 28] 2 0 (st' := ⟨55, 0, [(2, (LP 0 0)), (3, (LP 1 0)), (4, (S x1)), (5, (I v2)), (6, (U32 v6)), (7, (I v7)), (8, (U8 x9)), (26, (SL 1 c8 x5)), (27, (I (x5.length : Int))), (28, (I v7))], [((cA4 c32) (A4.mk 0 0 0 0)), ((cA4 c32) v3)], ⟨0, []⟩⟩) (by kernel_rfl) (by kernel_rfl) ?_
          show AWp _ _ _ _
          refine awp_region ?_
          refine arun_do rfl rfl rfl (ex_move (eV (v := (U32 v6)) rfl)) ?_
          refine arun_do rfl rfl rfl (ex_move (eV (v := (U8 x9)) rfl)) ?_
          refine arun_do rfl rfl rfl (tx_8_32 Try.underlying5 Try.underlying22 rfl) ?_
          refine arun_do rfl rfl rfl (ex_move (eV (v := (I v7)) rfl)) ?_
          refine arun_do rfl rfl rfl (ex_bin (vx := (I 8)) (vy := (I v7)) rfl rfl mulI_ok) ?_
          obtain ⟨x10, hx10, h⟩ := bindS h
          refine arun_do rfl rfl rfl (ex_bin (vx := (U32 x9.toUInt32)) (vy := (I (w64 (8 * v7)))) rfl rfl (shl32_ok hx10)) ?_
          refine arun_do rfl rfl rfl (ex_bin (vx := (U32 v6)) (vy := (U32 x10)) rfl rfl or32_ok) ?_
          refine arun_do rfl rfl rfl (ex_assign (eV (v := (U32 (v6 ||| x10))) rfl)) ?_
          refine arun_keepE [2, 3, 4, 5, 6, 26, 27, 28] 2 0 (st' := ⟨55, 0, [(2, (LP 0 0)), (3, (LP 1 0)), (4, (S x1)), (5, (I v2)), (6, (U32 (v6 ||| x10))), (26, (SL 1 c8 x5)), (27, (I (x5.length : Int))), (28, (I v7))], [((cA4 c32) (A4.mk 0 0 0 0)), ((cA4 c32) v3)], ⟨0, []⟩⟩) (by kernel_rfl) (by kernel_rfl) ?_
          show AWp _ _ _ _
          refine awp_region ?_
          refine arun_do rfl rfl rfl (ex_bin (vx := (I v7)) (vy := (I 1)) rfl rfl addI_ok) ?_
          refine arun_do rfl rfl rfl (ex_move (eV (v := (I (w64 (v7 + 1)))) rfl)) ?_
          refine arun_keepE [2, 3, 4, 5, 6, 26, 27, 28] 2 0 (st' := ⟨55, 0, [(2, (LP 0 0)), (3, (LP 1 0)), (4, (S x1)), (5, (I v2)), (6, (U32 (v6 ||| x10))), (26, (SL 1 c8 x5)), (27, (I (x5.length : Int))), (28, (I (w64 (v7 + 1))))], [((cA4 c32) (A4.mk 0 0 0 0)), ((cA4 c32) v3)], ⟨0, []⟩⟩) (by kernel_rfl) (by kernel_rfl) ?_
          exact Exists.intro n2 (And.intro (Nat.lt_succ_self _) (Exists.intro (v6 ||| x10) (Exists.intro (w64 (v7 + 1)) (And.intro rfl h))))
        · rw [condF hb8] at h
          refine awp_condF (boF hb8) ?_
          refine awp_exit ?_
          show AWp _ _ _ _
          refine awp_seq ?_
          refine awp_region ?_
          refine arun_do rfl rfl rfl (ex_move (eV (v := (I 0)) rfl)) ?_
          refine arun_keepE [2, 3, 4, 5, 6, 41] 2 0 (st' := ⟨55, 0, [(2, (LP 0 0)), (3, (LP 1 0)), (4, (S x1)), (5, (I v2)), (6, (U32 v6)), (41, (I 0))], [((cA4 c32) (A4.mk 0 0 0 0)), ((cA4 c32) v3)], ⟨0, []⟩⟩) (by kernel_rfl) (by kernel_rfl) ?_
          show AWp _ _ _ _
          refine awp_block ?_
          refine awp_loop (fun n s => ∃ (v11 : UInt32) (v12 : Int) (v13 : (A4 UInt32)), s = ⟨55, 0, [(2, (LP 0 0)), (3, (LP 1 0)), (4, (S x1)), (5, (I v2)), (6, (U32 v11)), (41, (I v12))], [((cA4 c32) (A4.mk 0 0 0 0)), ((cA4 c32) v13)], ⟨0, []⟩⟩ ∧ M_sum_Of_l3 (M_sum_Of_l1 x1 n1) (M_sum_Of_l2 (M_sum_Of_l1 x1 n1) x1 v2 v3 x5 n2) x1 v2 n v11 v12 v13 = some r) fuel (Exists.intro v6 (Exists.intro 0 (Exists.intro v3 (And.intro rfl h)))) ?_
          rintro n s ⟨v11, v12, v13, rfl, h⟩ -
          cases n with
          | zero => cases h
          | succ n3 =>
            unfold M_sum_Of_l3 at h
            refine awp_seq ?_
            refine awp_region ?_
            refine arun_do rfl rfl rfl (ex_bin (vx := (I v12)) (vy := (I 4)) rfl rfl lssI_ok) ?_
            refine arun_keepE [2, 3, 4, 5, 6, 41, 42] 2 0 (st' := ⟨55, 0, [(2, (LP 0 0)), (3, (LP 1 0)), (4, (S x1)), (5, (I v2)), (6, (U32 v11)), (41, (I v12)), (42, (Bo (decide (v12 < 4))))], [((cA4 c32) (A4.mk 0 0 0 0)), ((cA4 c32) v13)], ⟨0, []⟩⟩) (by kernel_rfl) (by kernel_rfl) ?_
            show AWp _ _ _ _
            refine awp_seq ?_
            rcases Bool.eq_false_or_eq_true (decide (v12 < 4)) with hb14 | hb14
            · rw [condT hb14] at h
              refine awp_condT (boT hb14) ?_
              refine awp_skip ?_
              show AWp _ _ _ _
              refine awp_seq ?_
              refine awp_block ?_
              refine awp_seq ?_
              refine awp_region ?_
              refine arun_do rfl rfl rfl (ex_move (eV (v := (I v12)) rfl)) ?_
              refine arun_do rfl rfl rfl (ex_assign (eV (v := (I v12)) rfl)) ?_
              refine arun_keepE [2, 3, 4, 5, 6, 9, 41] 2 0 (st' := ⟨55, 0, [(2, (LP 0 0)), (3, (LP 1 0)), (4, (S x1)), (5, (I v2)), (6, (U32 v11)), (9, (I v12)), (41, (I v12))], [((cA4 c32) (A4.mk 0 0 0 0)), ((cA4 c32) v13)], ⟨0, []⟩⟩) (by kernel_rfl) (by kernel_rfl) ?_
              show AWp _ _ _ _
              refine awp_seq ?_
              refine awp_region ?_
              refine arun_do rfl rfl rfl (ex_move (eV (v := (I v12)) rfl)) ?_
              obtain ⟨x15, hx15, h⟩ := bindS h
              refine arun_do rfl rfl rfl (ex_indexAddrA (i := v12) (v := (LP 1 (0 + v12.toNat * 1))) Try.underlying24 s_22 rfl rfl (inA_ok hx15) rfl) ?_
              obtain ⟨x16, hx16, h⟩ := bindS h
              refine arun_do rfl rfl rfl (tx_ldL1 (v := (U32 x16)) Try.underlying22 rfl rfl rfl (by obtain ⟨hi, hz⟩ | ⟨hi, hz⟩ | ⟨hi, hz⟩ | ⟨hi, hz⟩ := A4.get_some hx16 <;> (subst hz; simp only [hi]; rfl))) ?_
              refine arun_do rfl rfl rfl (ex_move (eV (v := (U32 v11)) rfl)) ?_
              refine arun_do rfl rfl rfl (ex_bin (vx := (U32 x16)) (vy := (U32 v11)) rfl rfl add32_ok) ?_
              obtain ⟨x17, hx17, h⟩ := bindS h
              refine arun_do rfl rfl rfl (ex_indexAddrA (i := v12) (v := (LP 1 (0 + v12.toNat * 1))) Try.underlying24 s_22 rfl rfl (inA_ok hx17) rfl) ?_
              obtain ⟨x18, hx18, h⟩ := bindS h
              refine arun_do0 rfl rfl (ex_storeL (vy := (U32 (x16 + v11))) (cs := ((cA4 c32) v13)) (vs := [(U32 (x16 + v11))]) (L' := [((cA4 c32) (A4.mk 0 0 0 0)), ((cA4 c32) x18)]) rfl (eV (v := (U32 (x16 + v11))) rfl) rfl s_22 rfl (by obtain ⟨hi, hz⟩ | ⟨hi, hz⟩ | ⟨hi, hz⟩ | ⟨hi, hz⟩ := A4.set_some hx18 <;> (simp only [hi]; exact Nat.le_of_ble_eq_true rfl)) (by obtain ⟨hi, hz⟩ | ⟨hi, hz⟩ | ⟨hi, hz⟩ | ⟨hi, hz⟩ := A4.set_some hx18 <;> (subst hz; simp only [hi]; rfl))) ?_
              refine arun_keepE [2, 3, 4, 5, 9, 41] 2 0 (st' := ⟨55, 0, [(2, (LP 0 0)), (3, (LP 1 0)), (4, (S x1)), (5, (I v2)), (9, (I v12)), (41, (I v12))], [((cA4 c32) (A4.mk 0 0 0 0)), ((cA4 c32) x18)], ⟨0, []⟩⟩) (by kernel_rfl) (by kernel_rfl) ?_
              show AWp _ _ _ _
              refine awp_region ?_
              refine arun_do rfl rfl rfl (ex_move (eV (v := (I v12)) rfl)) ?_
              obtain ⟨x19, hx19, h⟩ := bindS h
              refine arun_do rfl rfl rfl (ex_indexAddrA (i := v12) (v := (LP 1 (0 + v12.toNat * 1))) Try.underlying24 s_22 rfl rfl (inA_ok hx19) rfl) ?_
              obtain ⟨x20, hx20, h⟩ := bindS h
              refine arun_do rfl rfl rfl (tx_ldL1 (v := (U32 x20)) Try.underlying22 rfl rfl rfl (by obtain ⟨hi, hz⟩ | ⟨hi, hz⟩ | ⟨hi, hz⟩ | ⟨hi, hz⟩ := A4.get_some hx20 <;> (subst hz; simp only [hi]; rfl))) ?_
              refine arun_do rfl rfl rfl (ex_assign (eV (v := (U32 x20)) rfl)) ?_
              refine arun_keepE [2, 3, 4, 5, 6, 41] 2 0 (st' := ⟨55, 0, [(2, (LP 0 0)), (3, (LP 1 0)), (4, (S x1)), (5, (I v2)), (6, (U32 x20)), (41, (I v12))], [((cA4 c32) (A4.mk 0 0 0 0)), ((cA4 c32) x18)], ⟨0, []⟩⟩) (by kernel_rfl) (by kernel_rfl) ?_
              show AWp _ _ _ _
              refine awp_region ?_
              refine arun_do rfl rfl rfl (ex_bin (vx := (I v12)) (vy := (I 1)) rfl rfl addI_ok) ?_
              refine arun_do rfl rfl rfl (ex_move (eV (v := (I (w64 (v12 + 1)))) rfl)) ?_
              refine arun_keepE [2, 3, 4, 5, 6, 41] 2 0 (st' := ⟨55, 0, [(2, (LP 0 0)), (3, (LP 1 0)), (4, (S x1)), (5, (I v2)), (6, (U32 x20)), (41, (I (w64 (v12 + 1))))], [((cA4 c32) (A4.mk 0 0 0 0)), ((cA4 c32) x18)], ⟨0, []⟩⟩) (by kernel_rfl) (by kernel_rfl) ?_
              exact Exists.intro n3 (And.intro (Nat.lt_succ_self _) (Exists.intro x20 (Exists.intro (w64 (v12 + 1)) (Exists.intro x18 (And.intro rfl h)))))
            · rw [condF hb14] at h
              refine awp_condF (boF hb14) ?_
              refine awp_exit ?_
              show AWp _ _ _ _
              refine awp_region ?_
              refine arun_do rfl rfl rfl (ex_move (eV (v := (I v2)) rfl)) ?_
              refine arun_do rfl rfl rfl (ex_bin (vx := (I v2)) (vy := (I 4)) rfl rfl addI_ok) ?_
              refine arun_do rfl rfl rfl (ex_assign (eV (v := (I (w64 (v2 + 4)))) rfl)) ?_
              refine arun_keepE [2, 3, 4, 5] 2 0 (st' := ⟨55, 0, [(2, (LP 0 0)), (3, (LP 1 0)), (4, (S x1)), (5, (I (w64 (v2 + 4))))], [((cA4 c32) (A4.mk 0 0 0 0)), ((cA4 c32) v13)], ⟨0, []⟩⟩) (by kernel_rfl) (by kernel_rfl) ?_
              exact Exists.intro n1 (And.intro (Nat.lt_succ_self _) (Exists.intro (w64 (v2 + 4)) (Exists.intro v13 (And.intro rfl h))))
    · rw [condF hb4] at h
      refine awp_condF (boF hb4) ?_
      refine awp_exit ?_
      show AWp _ _ _ _
      refine awp_seq ?_
      refine awp_region ?_
      refine arun_do rfl rfl rfl (tx_ldLA (vs := ((cA4 c32) v3)) Try.underlying24 rfl s_24 (by decide) rfl rfl rfl rfl) ?_
      refine arun_do0 rfl rfl (ex_storeL (vy := (Value.agg ((cA4 c32) v3).toArray)) (cs := ((cA4 c32) (A4.mk 0 0 0 0))) (vs := ((cA4 c32) v3)) (L' := [((cA4 c32) v3), ((cA4 c32) v3)]) rfl (eV (v := (Value.agg ((cA4 c32) v3).toArray)) rfl) rfl s_24 rfl (Nat.le_of_ble_eq_true rfl) (by kernel_rfl)) ?_
      refine arun_keepE [2] 1 0 (st' := ⟨55, 0, [(2, (LP 0 0))], [((cA4 c32) v3)], ⟨0, []⟩⟩) (by kernel_rfl) (by kernel_rfl) ?_
      show AWp _ _ _ _
      refine awp_ret ?_
      cases h
      exact ares1 (rcellL rfl rfl rfl (partA Try.underlying24 rfl s_24 (by decide) (Nat.le_of_ble_eq_true rfl) rfl))

noncomputable def M_uber_sealed_l1 (t0 : Str) (x1 : (A4 UInt32)) : Nat → Int → List Int → Option Str
  | 0, _, _ => none
  | n1 + 1, v2, v3 =>
  cond (decide (v2 < 4)) (Option.bind (A4.get x1 v2) fun (x5 : UInt32) => Option.bind (appL 8 v3 ([(x5.toNat : Int)] : List Int)) fun (x6 : List Int) => (M_uber_sealed_l1 t0 x1 n1) (w64 (v2 + 1)) x6) (Option.bind (M_pack_Put ([52, 52, 52, 52] : Str) v3) fun (x7 : Str) => Option.bind (addS t0 x7) fun (x8 : Str) => Option.bind (M_strings_Repeat ([0] : Str) (w64 (256 - (x8.length : Int)))) fun (x9 : Str) => Option.bind (addS x8 x9) fun (x10 : Str) => some x10)
noncomputable def M_uber_sealed (t0 : Str) : Option Str :=
  Option.bind (M_sum_Of ([t0] : List Str)) fun (x1 : (A4 UInt32)) => M_uber_sealed_l1 t0 x1 fuel 0 ([] : List Int)
theorem ok_uber_sealed (t0 : Str) (r : Str) (h : M_uber_sealed t0 = some r) : FFn Try.prog 26 [(S t0)] (S r) := by
  refine FFn.of_body (n := 28) Try.func26 rfl Try.ntmps26 rfl rfl rfl rfl ?_
  show AWp _ _ _ ⟨28, 0, [(0, (S t0))], [], ⟨0, []⟩⟩
  unfold M_uber_sealed at h
  refine awp_seq ?_
  refine awp_region ?_
  refine arun_do rfl rfl rfl (ex_assign (eV (v := (S [])) rfl)) ?_
  refine arun_keepE [0] 0 0 (st' := ⟨28, 0, [(0, (S t0))], [], ⟨0, []⟩⟩) (by kernel_rfl) (by kernel_rfl) ?_
  show AWp _ _ _ _
  refine awp_seq ?_
  refine awp_region ?_
  refine arun_do rfl rfl rfl (ex_assign (eV (v := (Value.slice none 0 0)) rfl)) ?_
  refine arun_keepE [0, 3] 0 0 (st' := ⟨28, 0, [(0, (S t0)), (3, (Value.slice none 0 0))], [], ⟨0, []⟩⟩) (by kernel_rfl) (by kernel_rfl) ?_
  show AWp _ _ _ _
  refine awp_seq ?_
  refine awp_seq ?_
  refine awp_region ?_
  refine arun_do rfl rfl rfl (ex_move (eV (v := (S t0)) rfl)) ?_
  refine arun_do rfl rfl rfl (ex_buildSliceD (qs := [(0, (S t0))]) (cells := (([t0] : List Str).flatMap cS)) Try.underlying36 s_9 (by decide) (evp rfl evp_nil) rfl (by kernel_rfl) (by kernel_rfl) (by kernel_rfl)) ?_
  obtain ⟨x1, hx1, h⟩ := bindS h
  refine arun_do rfl rfl rfl (ex_call0 (vs := [(SL 1 cS ([t0] : List Str))]) (v := (Value.agg ((cA4 c32) x1).toArray)) rfl en_37 (cargs (evs rfl evs_nil)) rfl (ok_sum_Of ([t0] : List Str) x1 hx1) rfl) ?_
  refine arun_do rfl rfl rfl (ex_move (eV (v := (I 0)) rfl)) ?_
  refine arun_keepE [0, 3, 8, 9] 0 0 (st' := ⟨28, 0, [(0, (S t0)), (3, (Value.slice none 0 0)), (8, (Value.agg ((cA4 c32) x1).toArray)), (9, (I 0))], [], ⟨0, []⟩⟩) (by kernel_rfl) (by kernel_rfl) ?_
  show AWp _ _ _ _
  refine awp_block ?_
  refine awp_nilGro 3 1 rfl (by decide) ?_
  refine awp_keepE [0, 3, 8, 9] 0 1 (st' := ⟨28, 0, [(0, (S t0)), (3, (GV 0 0)), (8, (Value.agg ((cA4 c32) x1).toArray)), (9, (I 0))], [], ⟨1, [(0, ⟨1, (([] : List Int).flatMap cI), true⟩)]⟩⟩) (by kernel_rfl) (by kernel_rfl) ?_
  refine awp_loop (fun n s => ∃ (v2 : Int) (v3 : List Int), s = ⟨28, 0, [(0, (S t0)), (3, (GV 0 v3.length)), (8, (Value.agg ((cA4 c32) x1).toArray)), (9, (I v2))], [], ⟨1, [(0, ⟨1, ((v3).flatMap cI), true⟩)]⟩⟩ ∧ M_uber_sealed_l1 t0 x1 n v2 v3 = some r) fuel (Exists.intro 0 (Exists.intro ([] : List Int) (And.intro rfl h))) ?_
  rintro n s ⟨v2, v3, rfl, h⟩ -
  cases n with
  | zero => cases h
  | succ n1 =>
    unfold M_uber_sealed_l1 at h
    refine awp_seq ?_
    refine awp_region ?_
    refine arun_do rfl rfl rfl (ex_bin (vx := (I v2)) (vy := (I 4)) rfl rfl lssI_ok) ?_
    refine arun_keepE [0, 3, 8, 9, 10] 0 1 (st' := ⟨28, 0, [(0, (S t0)), (3, (GV 0 v3.length)), (8, (Value.agg ((cA4 c32) x1).toArray)), (9, (I v2)), (10, (Bo (decide (v2 < 4))))], [], ⟨1, [(0, ⟨1, ((v3).flatMap cI), true⟩)]⟩⟩) (by kernel_rfl) (by kernel_rfl) ?_
    show AWp _ _ _ _
    refine awp_seq ?_
    rcases Bool.eq_false_or_eq_true (decide (v2 < 4)) with hb4 | hb4
    · rw [condT hb4] at h
      refine awp_condT (boT hb4) ?_
      refine awp_skip ?_
      show AWp _ _ _ _
      refine awp_seq ?_
      refine awp_block ?_
      refine awp_seq ?_
      refine awp_region ?_
      obtain ⟨x5, hx5, h⟩ := bindS h
      refine arun_do rfl rfl rfl (ex_index (vx := (Value.agg ((cA4 c32) x1).toArray)) (vy := (I v2)) (v := (U32 x5)) rfl rfl (by obtain ⟨hi, hz⟩ | ⟨hi, hz⟩ | ⟨hi, hz⟩ | ⟨hi, hz⟩ := A4.get_some hx5 <;> (subst hz; simp only [hi]; kernel_rfl))) ?_
      refine arun_do rfl rfl rfl (ex_assign (eV (v := (U32 x5)) rfl)) ?_
      refine arun_keepE [0, 3, 5, 8, 9] 0 1 (st' := ⟨28, 0, [(0, (S t0)), (3, (GV 0 v3.length)), (5, (U32 x5)), (8, (Value.agg ((cA4 c32) x1).toArray)), (9, (I v2))], [], ⟨1, [(0, ⟨1, ((v3).flatMap cI), true⟩)]⟩⟩) (by kernel_rfl) (by kernel_rfl) ?_
      show AWp _ _ _ _
      refine awp_region ?_
      refine arun_do rfl rfl rfl (ex_move (eV (v := (GV 0 v3.length)) rfl)) ?_
      refine arun_do rfl rfl rfl (ex_move (eV (v := (U32 x5)) rfl)) ?_
      refine arun_do rfl rfl rfl (tx_32_64 Try.underlying22 Try.underlying3 rfl) ?_
      refine arun_do rfl rfl rfl (ex_buildSliceD (qs := [(0, (I (x5.toNat : Int)))]) (cells := (([(x5.toNat : Int)] : List Int).flatMap cI)) Try.underlying52 s_3 (by decide) (evp rfl evp_nil) rfl (by kernel_rfl) (by kernel_rfl) (by kernel_rfl)) ?_
      obtain ⟨x6, hx6, h⟩ := bindS h
      refine arun_do rfl rfl rfl (tx_appG (c := cI) (xs := v3) (H' := ⟨1, [(0, ⟨1, ((x6).flatMap cI), true⟩)]⟩) ceI e_3 rfl rfl rfl (tsrcD (ys := ([(x5.toNat : Int)] : List Int)) ceI Try.underlying52 s_3 Try.underlying52 rfl) hx6 rfl) ?_
      refine arun_do rfl rfl rfl (ex_assign (eV (v := (GV 0 x6.length)) rfl)) ?_
      refine arun_keepE [0, 3, 8, 9] 0 1 (st' := ⟨28, 0, [(0, (S t0)), (3, (GV 0 x6.length)), (8, (Value.agg ((cA4 c32) x1).toArray)), (9, (I v2))], [], ⟨1, [(0, ⟨1, ((x6).flatMap cI), true⟩)]⟩⟩) (by kernel_rfl) (by kernel_rfl) ?_
      show AWp _ _ _ _
      refine awp_region ?_
      refine arun_do rfl rfl rfl (ex_bin (vx := (I v2)) (vy := (I 1)) rfl rfl addI_ok) ?_
      refine arun_do rfl rfl rfl (ex_move (eV (v := (I (w64 (v2 + 1)))) rfl)) ?_
      refine arun_keepE [0, 3, 8, 9] 0 1 (st' := ⟨28, 0, [(0, (S t0)), (3, (GV 0 x6.length)), (8, (Value.agg ((cA4 c32) x1).toArray)), (9, (I (w64 (v2 + 1))))], [], ⟨1, [(0, ⟨1, ((x6).flatMap cI), true⟩)]⟩⟩) (by kernel_rfl) (by kernel_rfl) ?_
      exact Exists.intro n1 (And.intro (Nat.lt_succ_self _) (Exists.intro (w64 (v2 + 1)) (Exists.intro x6 (And.intro rfl h))))
    · rw [condF hb4] at h
      refine awp_condF (boF hb4) ?_
      refine awp_exit ?_
      show AWp _ _ _ _
      refine awp_seq ?_
      refine awp_region ?_
      refine arun_do rfl rfl rfl (ex_move (eV (v := (S t0)) rfl)) ?_
      refine arun_do rfl rfl rfl (ex_move (eV (v := (GV 0 v3.length)) rfl)) ?_
      refine arun_freeze 0 (bk := ⟨1, ((v3).flatMap cI), true⟩) (T' := [(0, (S t0)), (3, (SL 1 cI v3)), (8, (Value.agg ((cA4 c32) x1).toArray)), (9, (I v2)), (10, (Bo (decide (v2 < 4)))), (18, (S t0)), (19, (SL 1 cI v3))]) (L' := []) rfl (FzT.keep (v := (S t0)) rfl (fzG ceI rfl rfl (FzT.keep (v := (Value.agg ((cA4 c32) x1).toArray)) rfl (FzT.keep (v := (I v2)) rfl (FzT.keep (v := (Bo (decide (v2 < 4)))) rfl (FzT.keep (v := (S t0)) rfl (fzG ceI rfl rfl FzT.nil))))))) (FzL.refl _) ?_
      show ARun _ _ _ _ _ ⟨28, 0, [(0, (S t0)), (3, (SL 1 cI v3)), (8, (Value.agg ((cA4 c32) x1).toArray)), (9, (I v2)), (10, (Bo (decide (v2 < 4)))), (18, (S t0)), (19, (SL 1 cI v3))], [], ⟨1, []⟩⟩
      obtain ⟨x7, hx7, h⟩ := bindS h
      refine arun_do rfl rfl rfl (ex_call0 (vs := [(S ([52, 52, 52, 52] : Str)), (SL 1 cI v3)]) (v := (S x7)) rfl en_27 (cargs (evs rfl (evs rfl evs_nil))) rfl (ok_pack_Put ([52, 52, 52, 52] : Str) v3 x7 hx7) rfl) ?_
      obtain ⟨x8, hx8, h⟩ := bindS h
      refine arun_do rfl rfl rfl (ex_bin (vx := (S t0)) (vy := (S x7)) rfl rfl (addS_ok hx8)) ?_
      refine arun_do rfl rfl rfl (ex_assign (eV (v := (S x8)) rfl)) ?_
      refine arun_keepE [0] 0 0 (st' := ⟨28, 0, [(0, (S x8))], [], ⟨0, []⟩⟩) (by kernel_rfl) (by kernel_rfl) ?_
      show AWp _ _ _ _
      refine awp_seq ?_
      refine awp_region ?_
      refine arun_do rfl rfl rfl (ex_move (eV (v := (S x8)) rfl)) ?_
      refine arun_do rfl rfl rfl (ex_move (eV (v := (S x8)) rfl)) ?_
      refine arun_do rfl rfl rfl (tx_lenS Try.underlying9 rfl) ?_
      refine arun_do rfl rfl rfl (ex_bin (vx := (I 256)) (vy := (I (x8.length : Int))) rfl rfl subI_ok) ?_
      obtain ⟨x9, hx9, h⟩ := bindS h
      refine arun_do rfl rfl rfl (ex_call0 (vs := [(S ([0] : Str)), (I (w64 (256 - (x8.length : Int))))]) (v := (S x9)) rfl en_38 (cargs (evs rfl (evs rfl evs_nil))) rfl (ok_strings_Repeat ([0] : Str) (w64 (256 - (x8.length : Int))) x9 hx9) rfl) ?_
      obtain ⟨x10, hx10, h⟩ := bindS h
      refine arun_do rfl rfl rfl (ex_bin (vx := (S x8)) (vy := (S x9)) rfl rfl (addS_ok hx10)) ?_
      refine arun_do rfl rfl rfl (ex_assign (eV (v := (S x10)) rfl)) ?_
      refine arun_keepE [2] 0 0 (st' := ⟨28, 0, [(2, (S x10))], [], ⟨0, []⟩⟩) (by kernel_rfl) (by kernel_rfl) ?_
      show AWp _ _ _ _
      refine awp_ret ?_
      cases h
      exact ares1 (rtmp rfl (eV rfl))

noncomputable def M_uber_root_bytes (t0 : G_uber_root) : Option Str :=
  Option.bind (M_uber_root_may t0) fun (x1 : Bool) => cond (!x1) (some []) (Option.bind (M_pack_Put ([49, 52, 52, 49] : Str) ([171, t0.Uber.Txg, t0.Uber.Guid, t0.Uber.Seat] : List Int)) fun (x3 : Str) => Option.bind (M_ptr_Put ([t0.Uber.Root] : List G_api_Ptr)) fun (x4 : Str) => Option.bind (addS x3 x4) fun (x5 : Str) => Option.bind (M_uber_sealed x5) fun (x6 : Str) => some x6)
theorem ok_uber_root_bytes (t0 : G_uber_root) (r : Str) (h : M_uber_root_bytes t0 = some r) : FFn Try.prog 22 [(Value.agg (c_uber_root t0).toArray)] (S r) := by
  refine FFn.of_body (n := 24) Try.func22 rfl Try.ntmps22 rfl rfl rfl rfl ?_
  show AWp _ _ _ ⟨24, 0, [(0, (Value.agg (c_uber_root t0).toArray))], [], ⟨0, []⟩⟩
  unfold M_uber_root_bytes at h
  refine awp_seq ?_
  refine awp_region ?_
  refine arun_do rfl rfl rfl (ex_box (vx := (Value.agg (c_uber_root t0).toArray)) (cs := (c_uber_root t0)) (k := 0) (L' := [(c_uber_root t0)]) (eV (v := (Value.agg (c_uber_root t0).toArray)) rfl) rfl rfl rfl) ?_
  refine arun_do rfl rfl rfl (ex_assign (eV (v := (S [])) rfl)) ?_
  refine arun_keepE [1] 1 0 (st' := ⟨24, 0, [(1, (LP 0 0))], [(c_uber_root t0)], ⟨0, []⟩⟩) (by kernel_rfl) (by kernel_rfl) ?_
  show AWp _ _ _ _
  refine awp_seq ?_
  refine awp_seq ?_
  refine awp_region ?_
  refine arun_do rfl rfl rfl (tx_ldLA (vs := (c_uber_root t0)) Try.underlying46 rfl s_46 (by decide) rfl rfl rfl rfl) ?_
  obtain ⟨x1, hx1, h⟩ := bindS h
  refine arun_do rfl rfl rfl (ex_call0 (vs := [(Value.agg (c_uber_root t0).toArray)]) (v := (Bo x1)) rfl en_19 (cargs (evs rfl evs_nil)) rfl (ok_uber_root_may t0 x1 hx1) rfl) ?_
  refine arun_do rfl rfl rfl (ex_un (vx := (Bo x1)) rfl notB_ok) ?_
  refine arun_keepE [1, 5] 1 0 (st' := ⟨24, 0, [(1, (LP 0 0)), (5, (Bo (!x1)))], [(c_uber_root t0)], ⟨0, []⟩⟩) (by kernel_rfl) (by kernel_rfl) ?_
  show AWp _ _ _ _
  rcases Bool.eq_false_or_eq_true (!x1) with hb2 | hb2
  · rw [condT hb2] at h
    refine awp_condT (boT hb2) ?_
    refine awp_seq ?_
    refine awp_region ?_
    refine arun_do rfl rfl rfl (ex_assign (eV (v := (S [])) rfl)) ?_
    refine arun_keepE [2] 0 0 (st' := ⟨24, 0, [(2, (S []))], [], ⟨0, []⟩⟩) (by kernel_rfl) (by kernel_rfl) ?_
    show AWp _ _ _ _
    refine awp_ret ?_
    cases h
    exact ares1 (rtmp rfl (eV rfl))
  · rw [condF hb2] at h
    refine awp_condF (boF hb2) ?_
    refine awp_skip ?_
    show AWp _ _ _ _
    refine awp_seq ?_
    obtain ⟨x3, hx3, h⟩ := bindS h
    obtain ⟨x4, hx4, h⟩ := bindS h
    obtain ⟨x5, hx5, h⟩ := bindS h
    obtain ⟨x6, hx6, h⟩ := bindS h
    refine awp_kn [2] 0 0 (st' := ⟨24, 0, [(2, (S x6))], [], ⟨0, []⟩⟩) (awp_draw (T := [(LP 0 0), (LP 0 0), (I t0.Uber.Txg), (LP 0 0), (LP 0 1), (I t0.Uber.Guid), (LP 0 0), (LP 0 2), (I t0.Uber.Seat), (SL 1 cI ([171, t0.Uber.Txg, t0.Uber.Guid, t0.Uber.Seat] : List Int)), (S x3), (LP 0 0), (LP 0 3), (Value.agg (c_api_Ptr t0.Uber.Root).toArray), (SL 6 c_api_Ptr ([t0.Uber.Root] : List G_api_Ptr)), (S x4), (S x5), (S x6), (S x6)]) (LH := [([(c_uber_root t0)], ⟨0, []⟩)]) (D := [⟨[(1, none)], [], [0], false⟩, ⟨[(6, some 0)], [0], [0], false⟩, ⟨[(7, some 1)], [0, 1], [0], false⟩, ⟨[(1, none)], [], [0], false⟩, ⟨[(9, some 3)], [3], [0], false⟩, ⟨[(10, some 4)], [3, 4], [0], false⟩, ⟨[(1, none)], [], [0], false⟩, ⟨[(12, some 6)], [6], [0], false⟩, ⟨[(13, some 7)], [6, 7], [0], false⟩, ⟨[(8, some 2), (11, some 5), (14, some 8)], [0, 1, 2, 3, 4, 5, 6, 7, 8], [0], false⟩, ⟨[(15, some 9)], [0, 1, 2, 3, 4, 5, 6, 7, 8, 9], [0], false⟩, ⟨[(1, none)], [], [0], false⟩, ⟨[(17, some 11)], [11], [0], false⟩, ⟨[(18, some 12)], [11, 12], [0], false⟩, ⟨[(19, some 13)], [11, 12, 13], [0], false⟩, ⟨[(20, some 14)], [0, 1, 2, 3, 4, 5, 6, 7, 8, 9, 10, 11, 12, 13, 14], [0], false⟩, ⟨[(16, some 10), (21, some 15)], [0, 1, 2, 3, 4, 5, 6, 7, 8, 9, 10, 11, 12, 13, 14, 15], [0], false⟩, ⟨[(22, some 16)], [0, 1, 2, 3, 4, 5, 6, 7, 8, 9, 10, 11, 12, 13, 14, 15, 16], [0], false⟩, ⟨[(23, some 17)], [0, 1, 2, 3, 4, 5, 6, 7, 8, 9, 10, 11, 12, 13, 14, 15, 16, 17], [0], false⟩]) (S := []) (plan := [0, 1, 2, 3, 4, 5, 6, 7, 8, 9, 10, 11, 12, 13, 14, 15, 16, 17, 18]) mo (by kernel_rfl) rfl rfl rfl (dcons (dstep1 (Tm := [(1, (LP 0 0))]) (L := [(c_uber_root t0)]) (H := ⟨0, []⟩) rfl rfl rfl rfl rfl (astep_do rfl (ex_fieldAddr (v := (LP 0 0)) Try.underlying46 rfl s_28 (by decide) rfl rfl))) (dcons (dstep1 (Tm := [(6, (LP 0 0))]) (L := [(c_uber_root t0)]) (H := ⟨0, []⟩) rfl rfl rfl rfl rfl (astep_do rfl (ex_fieldAddr (v := (LP 0 0)) Try.underlying28 rfl s_3 (by decide) rfl rfl))) (dcons (dstep1 (Tm := [(7, (LP 0 0))]) (L := [(c_uber_root t0)]) (H := ⟨0, []⟩) rfl rfl rfl rfl rfl (astep_do rfl (tx_ldL1 (v := (I t0.Uber.Txg)) Try.underlying3 rfl rfl rfl rfl))) (dcons (dstep1 (Tm := [(1, (LP 0 0))]) (L := [(c_uber_root t0)]) (H := ⟨0, []⟩) rfl rfl rfl rfl rfl (astep_do rfl (ex_fieldAddr (v := (LP 0 0)) Try.underlying46 rfl s_28 (by decide) rfl rfl))) (dcons (dstep1 (Tm := [(9, (LP 0 0))]) (L := [(c_uber_root t0)]) (H := ⟨0, []⟩) rfl rfl rfl rfl rfl (astep_do rfl (ex_fieldAddr (v := (LP 0 1)) Try.underlying28 rfl s_3 (by decide) rfl rfl))) (dcons (dstep1 (Tm := [(10, (LP 0 1))]) (L := [(c_uber_root t0)]) (H := ⟨0, []⟩) rfl rfl rfl rfl rfl (astep_do rfl (tx_ldL1 (v := (I t0.Uber.Guid)) Try.underlying3 rfl rfl rfl rfl))) (dcons (dstep1 (Tm := [(1, (LP 0 0))]) (L := [(c_uber_root t0)]) (H := ⟨0, []⟩) rfl rfl rfl rfl rfl (astep_do rfl (ex_fieldAddr (v := (LP 0 0)) Try.underlying46 rfl s_28 (by decide) rfl rfl))) (dcons (dstep1 (Tm := [(12, (LP 0 0))]) (L := [(c_uber_root t0)]) (H := ⟨0, []⟩) rfl rfl rfl rfl rfl (astep_do rfl (ex_fieldAddr (v := (LP 0 2)) Try.underlying28 rfl s_3 (by decide) rfl rfl))) (dcons (dstep1 (Tm := [(13, (LP 0 2))]) (L := [(c_uber_root t0)]) (H := ⟨0, []⟩) rfl rfl rfl rfl rfl (astep_do rfl (tx_ldL1 (v := (I t0.Uber.Seat)) Try.underlying3 rfl rfl rfl rfl))) (dcons (dstep1 (Tm := [(8, (I t0.Uber.Txg)), (11, (I t0.Uber.Guid)), (14, (I t0.Uber.Seat))]) (L := [(c_uber_root t0)]) (H := ⟨0, []⟩) rfl rfl rfl rfl rfl (astep_do rfl (ex_buildSliceD (qs := [(0, (I 171)), (1, (I t0.Uber.Txg)), (2, (I t0.Uber.Guid)), (3, (I t0.Uber.Seat))]) (cells := (([171, t0.Uber.Txg, t0.Uber.Guid, t0.Uber.Seat] : List Int).flatMap cI)) Try.underlying52 s_3 (by decide) (evp rfl (evp rfl (evp rfl (evp rfl evp_nil)))) rfl (by kernel_rfl) (by kernel_rfl) (by kernel_rfl)))) (dcons (dstep1 (Tm := [(15, (SL 1 cI ([171, t0.Uber.Txg, t0.Uber.Guid, t0.Uber.Seat] : List Int)))]) (L := [(c_uber_root t0)]) (H := ⟨0, []⟩) rfl rfl rfl rfl rfl (astep_do rfl (ex_call0 (vs := [(S ([49, 52, 52, 49] : Str)), (SL 1 cI ([171, t0.Uber.Txg, t0.Uber.Guid, t0.Uber.Seat] : List Int))]) (v := (S x3)) rfl en_27 (cargs (evs rfl (evs rfl evs_nil))) rfl (ok_pack_Put ([49, 52, 52, 49] : Str) ([171, t0.Uber.Txg, t0.Uber.Guid, t0.Uber.Seat] : List Int) x3 hx3) rfl))) (dcons (dstep1 (Tm := [(1, (LP 0 0))]) (L := [(c_uber_root t0)]) (H := ⟨0, []⟩) rfl rfl rfl rfl rfl (astep_do rfl (ex_fieldAddr (v := (LP 0 0)) Try.underlying46 rfl s_28 (by decide) rfl rfl))) (dcons (dstep1 (Tm := [(17, (LP 0 0))]) (L := [(c_uber_root t0)]) (H := ⟨0, []⟩) rfl rfl rfl rfl rfl (astep_do rfl (ex_fieldAddr (v := (LP 0 3)) Try.underlying28 rfl s_26 (by decide) rfl rfl))) (dcons (dstep1 (Tm := [(18, (LP 0 3))]) (L := [(c_uber_root t0)]) (H := ⟨0, []⟩) rfl rfl rfl rfl rfl (astep_do rfl (tx_ldLA (vs := (c_api_Ptr t0.Uber.Root)) Try.underlying26 rfl s_26 (by decide) rfl rfl rfl rfl))) (dcons (dstep1 (Tm := [(19, (Value.agg (c_api_Ptr t0.Uber.Root).toArray))]) (L := [(c_uber_root t0)]) (H := ⟨0, []⟩) rfl rfl rfl rfl rfl (astep_do rfl (ex_buildSliceD (qs := [(0, (Value.agg (c_api_Ptr t0.Uber.Root).toArray))]) (cells := (([t0.Uber.Root] : List G_api_Ptr).flatMap c_api_Ptr)) Try.underlying54 s_26 (by decide) (evp rfl evp_nil) rfl (by kernel_rfl) (by kernel_rfl) (by kernel_rfl)))) (dcons (dstep1 (Tm := [(20, (SL 6 c_api_Ptr ([t0.Uber.Root] : List G_api_Ptr)))]) (L := [(c_uber_root t0)]) (H := ⟨0, []⟩) rfl rfl rfl rfl rfl (astep_do rfl (ex_call0 (vs := [(SL 6 c_api_Ptr ([t0.Uber.Root] : List G_api_Ptr))]) (v := (S x4)) rfl en_34 (cargs (evs rfl evs_nil)) rfl (ok_ptr_Put ([t0.Uber.Root] : List G_api_Ptr) x4 hx4) rfl))) (dcons (dstep1 (Tm := [(16, (S x3)), (21, (S x4))]) (L := [(c_uber_root t0)]) (H := ⟨0, []⟩) rfl rfl rfl rfl rfl (astep_do rfl (ex_bin (vx := (S x3)) (vy := (S x4)) rfl rfl (addS_ok hx5)))) (dcons (dstep1 (Tm := [(22, (S x5))]) (L := [(c_uber_root t0)]) (H := ⟨0, []⟩) rfl rfl rfl rfl rfl (astep_do rfl (ex_call0 (vs := [(S x5)]) (v := (S x6)) rfl en_26 (cargs (evs rfl evs_nil)) rfl (ok_uber_sealed x5 x6 hx6) rfl))) (dcons (dstep1 (Tm := [(23, (S x6))]) (L := [(c_uber_root t0)]) (H := ⟨0, []⟩) rfl rfl rfl rfl rfl (astep_do rfl (ex_assign (eV (v := (S x6)) rfl)))) dnil))))))))))))))))))) ⟨rfl, rfl⟩) (by kernel_rfl) (by kernel_rfl) ?_
    show AWp _ _ _ _
    refine awp_ret ?_
    cases h
    exact ares1 (rtmp rfl (eV rfl))

end Go.Proofs
