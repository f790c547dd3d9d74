/- Pure models of functions of the program, and that its code does what they say: sum Of, ptr To, block Ptr, dev has, ptr Fits. Written by a program. -/
import Derived.Test.YtjpgcfniahaelaaR51
import Derived.Test.YtjpgcfniahaelaaR5B
import Derived.Test.YtjpgcfniahaelaaR5X
set_option maxRecDepth 20000
set_option maxHeartbeats 4000000
namespace Go.Proofs
open Go Go.Fhl
set_option linter.unusedVariables false
set_option linter.unusedSimpArgs false
noncomputable def M_sum_Of_l3 (c_1 : (Int → (A4 UInt32) → Option (A4 UInt32))) (c_2 : (UInt32 → Int → Option (A4 UInt32))) (x1 : Str) (v2 : Int) : Nat → UInt32 → Int → (A4 UInt32) → Option (A4 UInt32)
  | 0, _, _, _ => none
  | n3 + 1, v11, v12, v13 =>
  cond (decide (v12 < 4)) (Option.bind (inA 4 v12) fun (x15 : Unit) => Option.bind (A4.get v13 v12) fun (x16 : UInt32) => Option.bind (inA 4 v12) fun (x17 : Unit) => Option.bind (A4.set v13 v12 (x16 + v11)) fun (x18 : A4 UInt32) => Option.bind (inA 4 v12) fun (x19 : Unit) => Option.bind (A4.get x18 v12) fun (x20 : UInt32) => (M_sum_Of_l3 c_1 c_2 x1 v2 n3) x20 (w64 (v12 + 1)) x18) (c_1 (w64 (v2 + 4)) v13)
noncomputable def M_sum_Of_l2 (c_1 : (Int → (A4 UInt32) → Option (A4 UInt32))) (x1 : Str) (v2 : Int) (v3 : (A4 UInt32)) (x5 : Str) : Nat → UInt32 → Int → Option (A4 UInt32)
  | 0, _, _ => none
  | n2 + 1, v6, v7 =>
  cond (decide (v7 < (x5.length : Int))) (Option.bind (getI x5 v7) fun (x9 : UInt8) => Option.bind (shl32 x9.toUInt32 (w64 (8 * v7))) fun (x10 : UInt32) => (M_sum_Of_l2 c_1 x1 v2 v3 x5 n2) (v6 ||| x10) (w64 (v7 + 1))) (M_sum_Of_l3 c_1 (M_sum_Of_l2 c_1 x1 v2 v3 x5 n2) x1 v2 fuel v6 0 v3)
noncomputable def M_sum_Of_l1 (x1 : Str) : Nat → Int → (A4 UInt32) → Option (A4 UInt32)
  | 0, _, _ => none
  | n1 + 1, v2, v3 =>
  cond (decide (v2 < (x1.length : Int))) (Option.bind (slL x1 v2 (min (w64 (v2 + 4)) (x1.length : Int))) fun (x5 : Str) => M_sum_Of_l2 (M_sum_Of_l1 x1 n1) x1 v2 v3 x5 fuel 0 0) (some v3)
noncomputable def M_sum_Of (t0 : (List Str)) : Option (A4 UInt32) :=
  Option.bind (M_strings_Join t0 ([] : Str)) fun (x1 : Str) => M_sum_Of_l1 x1 fuel 0 (A4.mk 0 0 0 0)
theorem ok_sum_Of (t0 : (List Str)) (r : (A4 UInt32)) (h : M_sum_Of t0 = some r) : FFn Try.prog 41 [(SL 1 cS t0)] (Value.agg ((cA4 c32) r).toArray) := by
  refine FFn.of_body (n := 55) Try.func41 rfl Try.ntmps41 rfl rfl rfl rfl ?_
  show AWp _ _ _ ⟨55, 0, [(0, (SL 1 cS t0))], [], ⟨0, []⟩⟩
  unfold M_sum_Of at h
  refine awp_seq ?_
  refine awp_region ?_
  refine arun_do rfl rfl rfl (ex_alloc (k := 0) (zs := ((cA4 c32) (A4.mk 0 0 0 0))) (L' := [((cA4 c32) (A4.mk 0 0 0 0))]) z_30 rfl rfl rfl rfl) ?_
  refine arun_keepE [0, 2] 1 0 (st' := ⟨55, 0, [(0, (SL 1 cS t0)), (2, (LP 0 0))], [((cA4 c32) (A4.mk 0 0 0 0))], ⟨0, []⟩⟩) (by kernel_rfl) (by kernel_rfl) ?_
  show AWp _ _ _ _
  refine awp_seq ?_
  refine awp_region ?_
  refine arun_do rfl rfl rfl (ex_alloc (k := 1) (zs := ((cA4 c32) (A4.mk 0 0 0 0))) (L' := [((cA4 c32) (A4.mk 0 0 0 0)), ((cA4 c32) (A4.mk 0 0 0 0))]) z_30 rfl rfl rfl rfl) ?_
  refine arun_keepE [0, 2, 3] 2 0 (st' := ⟨55, 0, [(0, (SL 1 cS t0)), (2, (LP 0 0)), (3, (LP 1 0))], [((cA4 c32) (A4.mk 0 0 0 0)), ((cA4 c32) (A4.mk 0 0 0 0))], ⟨0, []⟩⟩) (by kernel_rfl) (by kernel_rfl) ?_
  show AWp _ _ _ _
  refine awp_seq ?_
  refine awp_region ?_
  refine arun_do rfl rfl rfl (ex_move (eV (v := (SL 1 cS t0)) rfl)) ?_
  obtain ⟨x1, hx1, h⟩ := bindS h
  refine arun_do rfl rfl rfl (ex_call0 (vs := [(SL 1 cS t0), (S [])]) (v := (S x1)) rfl en_53 (cargs (evs rfl (evs rfl evs_nil))) rfl (ok_strings_Join t0 ([] : Str) x1 hx1) rfl) ?_
  refine arun_do rfl rfl rfl (ex_assign (eV (v := (S x1)) rfl)) ?_
  refine arun_keepE [2, 3, 4] 2 0 (st' := ⟨55, 0, [(2, (LP 0 0)), (3, (LP 1 0)), (4, (S x1))], [((cA4 c32) (A4.mk 0 0 0 0)), ((cA4 c32) (A4.mk 0 0 0 0))], ⟨0, []⟩⟩) (by kernel_rfl) (by kernel_rfl) ?_
  show AWp _ _ _ _
  refine awp_seq ?_
  refine awp_seq ?_
  refine awp_region ?_
  refine arun_do rfl rfl rfl (ex_assign (eV (v := (I 0)) rfl)) ?_
  refine arun_keepE [2, 3, 4, 5] 2 0 (st' := ⟨55, 0, [(2, (LP 0 0)), (3, (LP 1 0)), (4, (S x1)), (5, (I 0))], [((cA4 c32) (A4.mk 0 0 0 0)), ((cA4 c32) (A4.mk 0 0 0 0))], ⟨0, []⟩⟩) (by kernel_rfl) (by kernel_rfl) ?_
  show AWp _ _ _ _
  refine awp_block ?_
  refine awp_loop (fun n s => ∃ (v2 : Int) (v3 : (A4 UInt32)), s = ⟨55, 0, [(2, (LP 0 0)), (3, (LP 1 0)), (4, (S x1)), (5, (I v2))], [((cA4 c32) (A4.mk 0 0 0 0)), ((cA4 c32) v3)], ⟨0, []⟩⟩ ∧ M_sum_Of_l1 x1 n v2 v3 = some r) fuel (Exists.intro 0 (Exists.intro (A4.mk 0 0 0 0) (And.intro rfl h))) ?_
  rintro n s ⟨v2, v3, rfl, h⟩ -
  cases n with
  | zero => cases h
  | succ n1 =>
    unfold M_sum_Of_l1 at h
    refine awp_seq ?_
    refine awp_seq ?_
    refine awp_region ?_
    refine arun_do rfl rfl rfl (ex_move (eV (v := (I v2)) rfl)) ?_
    refine arun_do rfl rfl rfl (ex_move (eV (v := (S x1)) rfl)) ?_
    refine arun_do rfl rfl rfl (tx_lenS Try.underlying9 rfl) ?_
    refine arun_do rfl rfl rfl (ex_bin (vx := (I v2)) (vy := (I (x1.length : Int))) rfl rfl lssI_ok) ?_
    refine arun_keepE [2, 3, 4, 5, 15] 2 0 (st' := ⟨55, 0, [(2, (LP 0 0)), (3, (LP 1 0)), (4, (S x1)), (5, (I v2)), (15, (Bo (decide (v2 < (x1.length : Int)))))], [((cA4 c32) (A4.mk 0 0 0 0)), ((cA4 c32) v3)], ⟨0, []⟩⟩) (by kernel_rfl) (by kernel_rfl) ?_
    show AWp _ _ _ _
    rcases Bool.eq_false_or_eq_true (decide (v2 < (x1.length : Int))) with hb4 | hb4
    · rw [condT hb4] at h
      refine awp_condT (boT hb4) ?_
      refine awp_skip ?_
      show AWp _ _ _ _
      refine awp_seq ?_
      refine awp_block ?_
      refine awp_seq ?_
      refine awp_region ?_
      refine arun_do rfl rfl rfl (ex_assign (eV (v := (U32 0)) rfl)) ?_
      refine arun_keepE [2, 3, 4, 5, 6] 2 0 (st' := ⟨55, 0, [(2, (LP 0 0)), (3, (LP 1 0)), (4, (S x1)), (5, (I v2)), (6, (U32 0))], [((cA4 c32) (A4.mk 0 0 0 0)), ((cA4 c32) v3)], ⟨0, []⟩⟩) (by kernel_rfl) (by kernel_rfl) ?_
      show AWp _ _ _ _
      refine awp_seq ?_
      refine awp_seq ?_
      refine awp_region ?_
      refine arun_do rfl rfl rfl (ex_move (eV (v := (S x1)) rfl)) ?_
      refine arun_do rfl rfl rfl (ex_move (eV (v := (I v2)) rfl)) ?_
      refine arun_do rfl rfl rfl (ex_move (eV (v := (I v2)) rfl)) ?_
      refine arun_do rfl rfl rfl (ex_bin (vx := (I v2)) (vy := (I 4)) rfl rfl addI_ok) ?_
      refine arun_do rfl rfl rfl (ex_move (eV (v := (S x1)) rfl)) ?_
      refine arun_do rfl rfl rfl (tx_lenS Try.underlying9 rfl) ?_
      refine arun_do rfl rfl rfl (ex_min (m := (w64 (v2 + 4))) (n := (x1.length : Int)) rfl rfl) ?_
      obtain ⟨x5, hx5, h⟩ := bindS h
      refine arun_do rfl rfl rfl (tx_slS (u := x1) Try.underlying9 rfl (loX (l := v2) rfl) (hiX (l := (min (w64 (v2 + 4)) (x1.length : Int))) rfl) hx5) ?_
      refine arun_do rfl rfl rfl (tx_sbD Try.underlying9 Try.underlying34 Try.underlying5 rfl) ?_
      refine arun_do rfl rfl rfl (tx_lenD (xs := x5) ce8 Try.underlying34 rfl) ?_
      refine arun_do rfl rfl rfl (ex_move (eV (v := (I 0)) rfl)) ?_
      refine arun_keepE [2, 3, 4, 5, 6, 26, 27, 28] 2 0 (st' := ⟨55, 0, [(2, (LP 0 0)), (3, (LP 1 0)), (4, (S x1)), (5, (I v2)), (6, (U32 0)), (26, (SL 1 c8 x5)), (27, (I (x5.length : Int))), (28, (I 0))], [((cA4 c32) (A4.mk 0 0 0 0)), ((cA4 c32) v3)], ⟨0, []⟩⟩) (by kernel_rfl) (by kernel_rfl) ?_
      show AWp _ _ _ _
      refine awp_block ?_
      refine awp_loop (fun n s => ∃ (v6 : UInt32) (v7 : Int), s = ⟨55, 0, [(2, (LP 0 0)), (3, (LP 1 0)), (4, (S x1)), (5, (I v2)), (6, (U32 v6)), (26, (SL 1 c8 x5)), (27, (I (x5.length : Int))), (28, (I v7))], [((cA4 c32) (A4.mk 0 0 0 0)), ((cA4 c32) v3)], ⟨0, []⟩⟩ ∧ M_sum_Of_l2 (M_sum_Of_l1 x1 n1) x1 v2 v3 x5 n v6 v7 = some r) fuel (Exists.intro 0 (Exists.intro 0 (And.intro rfl h))) ?_
      rintro n s ⟨v6, v7, rfl, h⟩ -
      cases n with
      | zero => cases h
      | succ n2 =>
        unfold M_sum_Of_l2 at h
        refine awp_seq ?_
        refine awp_region ?_
        refine arun_do rfl rfl rfl (ex_bin (vx := (I v7)) (vy := (I (x5.length : Int))) rfl rfl lssI_ok) ?_
        refine arun_keepE [2, 3, 4, 5, 6, 26, 27, 28, 29] 2 0 (st' := ⟨55, 0, [(2, (LP 0 0)), (3, (LP 1 0)), (4, (S x1)), (5, (I v2)), (6, (U32 v6)), (26, (SL 1 c8 x5)), (27, (I (x5.length : Int))), (28, (I v7)), (29, (Bo (decide (v7 < (x5.length : Int)))))], [((cA4 c32) (A4.mk 0 0 0 0)), ((cA4 c32) v3)], ⟨0, []⟩⟩) (by kernel_rfl) (by kernel_rfl) ?_
        show AWp _ _ _ _
        refine awp_seq ?_
        rcases Bool.eq_false_or_eq_true (decide (v7 < (x5.length : Int))) with hb8 | hb8
        · rw [condT hb8] at h
          refine awp_condT (boT hb8) ?_
          refine awp_skip ?_
          show AWp _ _ _ _
          refine awp_seq ?_
          refine awp_block ?_
          refine awp_seq ?_
          refine awp_region ?_
          refine arun_do rfl rfl rfl (ex_move (eV (v := (I v7)) rfl)) ?_
          obtain ⟨x9, hx9, h⟩ := bindS h
          refine arun_do rfl rfl rfl (tx_idxD (c := c8) (xs := x5) (i := v7) ce8 Try.underlying34 s_5 rfl rfl hx9) ?_
          refine arun_do rfl rfl rfl (tx_ldD1 (v := (U8 x9)) Try.underlying5 rfl rfl rfl) ?_
          refine arun_do rfl rfl rfl (ex_assign (eV (v := (I v7)) rfl)) ?_
          refine arun_do rfl rfl rfl (ex_assign (eV (v := (U8 x9)) rfl)) ?_
          refine arun_keepE [2, 3, 4, 5, 6, 7, 8, 26, 27, 28] 2 0 (st' := ⟨55, 0, [(2, (LP 0 0)), (3, (LP 1 0)), (4, (S x1)), (5, (I v2)), (6, (U32 v6)), (7, (I v7)), (8, (U8 x9)), (26, (SL 1 c8 x5)), (27, (I (x5.length : Int))), (28, (I v7))], [((cA4 c32) (A4.mk 0 0 0 0)), ((cA4 c32) v3)], ⟨0, []⟩⟩) (by kernel_rfl) (by kernel_rfl) ?_
          show AWp _ _ _ _
          refine awp_region ?_
          refine arun_do rfl rfl rfl (ex_move (eV (v := (U32 v6)) rfl)) ?_
          refine arun_do rfl rfl rfl (ex_move (eV (v := (U8 x9)) rfl)) ?_
          refine arun_do rfl rfl rfl (tx_8_32 Try.underlying5 Try.underlying28 rfl) ?_
          refine arun_do rfl rfl rfl (ex_move (eV (v := (I v7)) rfl)) ?_
          refine arun_do rfl rfl rfl (ex_bin (vx := (I 8)) (vy := (I v7)) rfl rfl mulI_ok) ?_
          obtain ⟨x10, hx10, h⟩ := bindS h
          refine arun_do rfl rfl rfl (ex_bin (vx := (U32 x9.toUInt32)) (vy := (I (w64 (8 * v7)))) rfl rfl (shl32_ok hx10)) ?_
          refine arun_do rfl rfl rfl (ex_bin (vx := (U32 v6)) (vy := (U32 x10)) rfl rfl or32_ok) ?_
          refine arun_do rfl rfl rfl (ex_assign (eV (v := (U32 (v6 ||| x10))) rfl)) ?_
          refine arun_keepE [2, 3, 4, 5, 6, 26, 27, 28] 2 0 (st' := ⟨55, 0, [(2, (LP 0 0)), (3, (LP 1 0)), (4, (S x1)), (5, (I v2)), (6, (U32 (v6 ||| x10))), (26, (SL 1 c8 x5)), (27, (I (x5.length : Int))), (28, (I v7))], [((cA4 c32) (A4.mk 0 0 0 0)), ((cA4 c32) v3)], ⟨0, []⟩⟩) (by kernel_rfl) (by kernel_rfl) ?_
          show AWp _ _ _ _
          refine awp_region ?_
          refine arun_do rfl rfl rfl (ex_bin (vx := (I v7)) (vy := (I 1)) rfl rfl addI_ok) ?_
          refine arun_do rfl rfl rfl (ex_move (eV (v := (I (w64 (v7 + 1)))) rfl)) ?_
          refine arun_keepE [2, 3, 4, 5, 6, 26, 27, 28] 2 0 (st' := ⟨55, 0, [(2, (LP 0 0)), (3, (LP 1 0)), (4, (S x1)), (5, (I v2)), (6, (U32 (v6 ||| x10))), (26, (SL 1 c8 x5)), (27, (I (x5.length : Int))), (28, (I (w64 (v7 + 1))))], [((cA4 c32) (A4.mk 0 0 0 0)), ((cA4 c32) v3)], ⟨0, []⟩⟩) (by kernel_rfl) (by kernel_rfl) ?_
          exact Exists.intro n2 (And.intro (Nat.lt_succ_self _) (Exists.intro (v6 ||| x10) (Exists.intro (w64 (v7 + 1)) (And.intro rfl h))))
        · rw [condF hb8] at h
          refine awp_condF (boF hb8) ?_
          refine awp_exit ?_
          show AWp _ _ _ _
          refine awp_seq ?_
          refine awp_region ?_
          refine arun_do rfl rfl rfl (ex_move (eV (v := (I 0)) rfl)) ?_
          refine arun_keepE [2, 3, 4, 5, 6, 41] 2 0 (st' := ⟨55, 0, [(2, (LP 0 0)), (3, (LP 1 0)), (4, (S x1)), (5, (I v2)), (6, (U32 v6)), (41, (I 0))], [((cA4 c32) (A4.mk 0 0 0 0)), ((cA4 c32) v3)], ⟨0, []⟩⟩) (by kernel_rfl) (by kernel_rfl) ?_
          show AWp _ _ _ _
          refine awp_block ?_
          refine awp_loop (fun n s => ∃ (v11 : UInt32) (v12 : Int) (v13 : (A4 UInt32)), s = ⟨55, 0, [(2, (LP 0 0)), (3, (LP 1 0)), (4, (S x1)), (5, (I v2)), (6, (U32 v11)), (41, (I v12))], [((cA4 c32) (A4.mk 0 0 0 0)), ((cA4 c32) v13)], ⟨0, []⟩⟩ ∧ M_sum_Of_l3 (M_sum_Of_l1 x1 n1) (M_sum_Of_l2 (M_sum_Of_l1 x1 n1) x1 v2 v3 x5 n2) x1 v2 n v11 v12 v13 = some r) fuel (Exists.intro v6 (Exists.intro 0 (Exists.intro v3 (And.intro rfl h)))) ?_
          rintro n s ⟨v11, v12, v13, rfl, h⟩ -
          cases n with
          | zero => cases h
          | succ n3 =>
            unfold M_sum_Of_l3 at h
            refine awp_seq ?_
            refine awp_region ?_
            refine arun_do rfl rfl rfl (ex_bin (vx := (I v12)) (vy := (I 4)) rfl rfl lssI_ok) ?_
            refine arun_keepE [2, 3, 4, 5, 6, 41, 42] 2 0 (st' := ⟨55, 0, [(2, (LP 0 0)), (3, (LP 1 0)), (4, (S x1)), (5, (I v2)), (6, (U32 v11)), (41, (I v12)), (42, (Bo (decide (v12 < 4))))], [((cA4 c32) (A4.mk 0 0 0 0)), ((cA4 c32) v13)], ⟨0, []⟩⟩) (by kernel_rfl) (by kernel_rfl) ?_
            show AWp _ _ _ _
            refine awp_seq ?_
            rcases Bool.eq_false_or_eq_true (decide (v12 < 4)) with hb14 | hb14
            · rw [condT hb14] at h
              refine awp_condT (boT hb14) ?_
              refine awp_skip ?_
              show AWp _ _ _ _
              refine awp_seq ?_
              refine awp_block ?_
              refine awp_seq ?_
              refine awp_region ?_
              refine arun_do rfl rfl rfl (ex_move (eV (v := (I v12)) rfl)) ?_
              refine arun_do rfl rfl rfl (ex_assign (eV (v := (I v12)) rfl)) ?_
              refine arun_keepE [2, 3, 4, 5, 6, 9, 41] 2 0 (st' := ⟨55, 0, [(2, (LP 0 0)), (3, (LP 1 0)), (4, (S x1)), (5, (I v2)), (6, (U32 v11)), (9, (I v12)), (41, (I v12))], [((cA4 c32) (A4.mk 0 0 0 0)), ((cA4 c32) v13)], ⟨0, []⟩⟩) (by kernel_rfl) (by kernel_rfl) ?_
              show AWp _ _ _ _
              refine awp_seq ?_
              refine awp_region ?_
              refine arun_do rfl rfl rfl (ex_move (eV (v := (I v12)) rfl)) ?_
              obtain ⟨x15, hx15, h⟩ := bindS h
              refine arun_do rfl rfl rfl (ex_indexAddrA (i := v12) (v := (LP 1 (0 + v12.toNat * 1))) Try.underlying30 s_28 rfl rfl (inA_ok hx15) rfl) ?_
              obtain ⟨x16, hx16, h⟩ := bindS h
              refine arun_do rfl rfl rfl (tx_ldL1 (v := (U32 x16)) Try.underlying28 rfl rfl rfl (by obtain ⟨hi, hz⟩ | ⟨hi, hz⟩ | ⟨hi, hz⟩ | ⟨hi, hz⟩ := A4.get_some hx16 <;> (subst hz; simp only [hi]; rfl))) ?_
              refine arun_do rfl rfl rfl (ex_move (eV (v := (U32 v11)) rfl)) ?_
              refine arun_do rfl rfl rfl (ex_bin (vx := (U32 x16)) (vy := (U32 v11)) rfl rfl add32_ok) ?_
              obtain ⟨x17, hx17, h⟩ := bindS h
              refine arun_do rfl rfl rfl (ex_indexAddrA (i := v12) (v := (LP 1 (0 + v12.toNat * 1))) Try.underlying30 s_28 rfl rfl (inA_ok hx17) rfl) ?_
              obtain ⟨x18, hx18, h⟩ := bindS h
              refine arun_do0 rfl rfl (ex_storeL (vy := (U32 (x16 + v11))) (cs := ((cA4 c32) v13)) (vs := [(U32 (x16 + v11))]) (L' := [((cA4 c32) (A4.mk 0 0 0 0)), ((cA4 c32) x18)]) rfl (eV (v := (U32 (x16 + v11))) rfl) rfl s_28 rfl (by obtain ⟨hi, hz⟩ | ⟨hi, hz⟩ | ⟨hi, hz⟩ | ⟨hi, hz⟩ := A4.set_some hx18 <;> (simp only [hi]; exact Nat.le_of_ble_eq_true rfl)) (by obtain ⟨hi, hz⟩ | ⟨hi, hz⟩ | ⟨hi, hz⟩ | ⟨hi, hz⟩ := A4.set_some hx18 <;> (subst hz; simp only [hi]; rfl))) ?_
              refine arun_keepE [2, 3, 4, 5, 9, 41] 2 0 (st' := ⟨55, 0, [(2, (LP 0 0)), (3, (LP 1 0)), (4, (S x1)), (5, (I v2)), (9, (I v12)), (41, (I v12))], [((cA4 c32) (A4.mk 0 0 0 0)), ((cA4 c32) x18)], ⟨0, []⟩⟩) (by kernel_rfl) (by kernel_rfl) ?_
              show AWp _ _ _ _
              refine awp_region ?_
              refine arun_do rfl rfl rfl (ex_move (eV (v := (I v12)) rfl)) ?_
              obtain ⟨x19, hx19, h⟩ := bindS h
              refine arun_do rfl rfl rfl (ex_indexAddrA (i := v12) (v := (LP 1 (0 + v12.toNat * 1))) Try.underlying30 s_28 rfl rfl (inA_ok hx19) rfl) ?_
              obtain ⟨x20, hx20, h⟩ := bindS h
              refine arun_do rfl rfl rfl (tx_ldL1 (v := (U32 x20)) Try.underlying28 rfl rfl rfl (by obtain ⟨hi, hz⟩ | ⟨hi, hz⟩ | ⟨hi, hz⟩ | ⟨hi, hz⟩ := A4.get_some hx20 <;> (subst hz; simp only [hi]; rfl))) ?_
              refine arun_do rfl rfl rfl (ex_assign (eV (v := (U32 x20)) rfl)) ?_
              refine arun_keepE [2, 3, 4, 5, 6, 41] 2 0 (st' := ⟨55, 0, [(2, (LP 0 0)), (3, (LP 1 0)), (4, (S x1)), (5, (I v2)), (6, (U32 x20)), (41, (I v12))], [((cA4 c32) (A4.mk 0 0 0 0)), ((cA4 c32) x18)], ⟨0, []⟩⟩) (by kernel_rfl) (by kernel_rfl) ?_
              show AWp _ _ _ _
              refine awp_region ?_
              refine arun_do rfl rfl rfl (ex_bin (vx := (I v12)) (vy := (I 1)) rfl rfl addI_ok) ?_
              refine arun_do rfl rfl rfl (ex_move (eV (v := (I (w64 (v12 + 1)))) rfl)) ?_
              refine arun_keepE [2, 3, 4, 5, 6, 41] 2 0 (st' := ⟨55, 0, [(2, (LP 0 0)), (3, (LP 1 0)), (4, (S x1)), (5, (I v2)), (6, (U32 x20)), (41, (I (w64 (v12 + 1))))], [((cA4 c32) (A4.mk 0 0 0 0)), ((cA4 c32) x18)], ⟨0, []⟩⟩) (by kernel_rfl) (by kernel_rfl) ?_
              exact Exists.intro n3 (And.intro (Nat.lt_succ_self _) (Exists.intro x20 (Exists.intro (w64 (v12 + 1)) (Exists.intro x18 (And.intro rfl h)))))
            · rw [condF hb14] at h
              refine awp_condF (boF hb14) ?_
              refine awp_exit ?_
              show AWp _ _ _ _
              refine awp_region ?_
              refine arun_do rfl rfl rfl (ex_move (eV (v := (I v2)) rfl)) ?_
              refine arun_do rfl rfl rfl (ex_bin (vx := (I v2)) (vy := (I 4)) rfl rfl addI_ok) ?_
              refine arun_do rfl rfl rfl (ex_assign (eV (v := (I (w64 (v2 + 4)))) rfl)) ?_
              refine arun_keepE [2, 3, 4, 5] 2 0 (st' := ⟨55, 0, [(2, (LP 0 0)), (3, (LP 1 0)), (4, (S x1)), (5, (I (w64 (v2 + 4))))], [((cA4 c32) (A4.mk 0 0 0 0)), ((cA4 c32) v13)], ⟨0, []⟩⟩) (by kernel_rfl) (by kernel_rfl) ?_
              exact Exists.intro n1 (And.intro (Nat.lt_succ_self _) (Exists.intro (w64 (v2 + 4)) (Exists.intro v13 (And.intro rfl h))))
    · rw [condF hb4] at h
      refine awp_condF (boF hb4) ?_
      refine awp_exit ?_
      show AWp _ _ _ _
      refine awp_seq ?_
      refine awp_region ?_
      refine arun_do rfl rfl rfl (tx_ldLA (vs := ((cA4 c32) v3)) Try.underlying30 rfl s_30 (by decide) rfl rfl rfl rfl) ?_
      refine arun_do0 rfl rfl (ex_storeL (vy := (Value.agg ((cA4 c32) v3).toArray)) (cs := ((cA4 c32) (A4.mk 0 0 0 0))) (vs := ((cA4 c32) v3)) (L' := [((cA4 c32) v3), ((cA4 c32) v3)]) rfl (eV (v := (Value.agg ((cA4 c32) v3).toArray)) rfl) rfl s_30 rfl (Nat.le_of_ble_eq_true rfl) (by kernel_rfl)) ?_
      refine arun_keepE [2] 1 0 (st' := ⟨55, 0, [(2, (LP 0 0))], [((cA4 c32) v3)], ⟨0, []⟩⟩) (by kernel_rfl) (by kernel_rfl) ?_
      show AWp _ _ _ _
      refine awp_ret ?_
      cases h
      exact ares1 (rcellL rfl rfl rfl (partA Try.underlying30 rfl s_30 (by decide) (Nat.le_of_ble_eq_true rfl) rfl))

noncomputable def M_ptr_To (t0 : Int) (t1 : Str) (t2 : Int) : Option G_api_Ptr :=
  Option.bind (M_sum_Of ([t1] : List Str)) fun (x1 : (A4 UInt32)) => some (G_api_Ptr.mk t0 t2 x1)
theorem ok_ptr_To (t0 : Int) (t1 : Str) (t2 : Int) (r : G_api_Ptr) (h : M_ptr_To t0 t1 t2 = some r) : FFn Try.prog 32 [(I t0), (S t1), (I t2)] (Value.agg (c_api_Ptr r).toArray) := by
  refine FFn.of_body (n := 13) Try.func32 rfl Try.ntmps32 rfl rfl rfl rfl ?_
  show AWp _ _ _ ⟨13, 0, [(0, (I t0)), (1, (S t1)), (2, (I t2))], [], ⟨0, []⟩⟩
  unfold M_ptr_To at h
  refine awp_seq ?_
  refine awp_region ?_
  refine arun_do rfl rfl rfl (ex_alloc (k := 0) (zs := (c_api_Ptr (G_api_Ptr.mk 0 0 (A4.mk 0 0 0 0)))) (L' := [(c_api_Ptr (G_api_Ptr.mk 0 0 (A4.mk 0 0 0 0)))]) z_32 rfl rfl rfl rfl) ?_
  refine arun_keepE [0, 1, 2, 6] 1 0 (st' := ⟨13, 0, [(0, (I t0)), (1, (S t1)), (2, (I t2)), (6, (LP 0 0))], [(c_api_Ptr (G_api_Ptr.mk 0 0 (A4.mk 0 0 0 0)))], ⟨0, []⟩⟩) (by kernel_rfl) (by kernel_rfl) ?_
  show AWp _ _ _ _
  refine awp_seq ?_
  refine awp_region ?_
  refine arun_do rfl rfl rfl (ex_move (eV (v := (I t0)) rfl)) ?_
  refine arun_do rfl rfl rfl (ex_move (eV (v := (I t2)) rfl)) ?_
  refine arun_do rfl rfl rfl (ex_move (eV (v := (S t1)) rfl)) ?_
  refine arun_do rfl rfl rfl (ex_buildSliceD (qs := [(0, (S t1))]) (cells := (([t1] : List Str).flatMap cS)) Try.underlying35 s_9 (by decide) (evp rfl evp_nil) rfl (by kernel_rfl) (by kernel_rfl) (by kernel_rfl)) ?_
  obtain ⟨x1, hx1, h⟩ := bindS h
  refine arun_do rfl rfl rfl (ex_call0 (vs := [(SL 1 cS ([t1] : List Str))]) (v := (Value.agg ((cA4 c32) x1).toArray)) rfl en_41 (cargs (evs rfl evs_nil)) rfl (ok_sum_Of ([t1] : List Str) x1 hx1) rfl) ?_
  refine arun_do rfl rfl rfl (ex_build (qs := [(0, (I t0)), (1, (I t2)), (2, (Value.agg ((cA4 c32) x1).toArray))]) (v := (Value.agg (c_api_Ptr (G_api_Ptr.mk t0 t2 x1)).toArray)) (evp rfl (evp rfl (evp rfl evp_nil))) (by kernel_rfl)) ?_
  refine arun_do0 rfl rfl (ex_storeL (vy := (Value.agg (c_api_Ptr (G_api_Ptr.mk t0 t2 x1)).toArray)) (cs := (c_api_Ptr (G_api_Ptr.mk 0 0 (A4.mk 0 0 0 0)))) (vs := (c_api_Ptr (G_api_Ptr.mk t0 t2 x1))) (L' := [(c_api_Ptr (G_api_Ptr.mk t0 t2 x1))]) rfl (eV (v := (Value.agg (c_api_Ptr (G_api_Ptr.mk t0 t2 x1)).toArray)) rfl) rfl s_32 rfl (Nat.le_of_ble_eq_true rfl) (by kernel_rfl)) ?_
  refine arun_keepE [6] 1 0 (st' := ⟨13, 0, [(6, (LP 0 0))], [(c_api_Ptr (G_api_Ptr.mk t0 t2 x1))], ⟨0, []⟩⟩) (by kernel_rfl) (by kernel_rfl) ?_
  show AWp _ _ _ _
  refine awp_ret ?_
  cases h
  exact ares1 (rcellL rfl rfl rfl (partA Try.underlying32 rfl s_32 (by decide) (Nat.le_of_ble_eq_true rfl) rfl))

noncomputable def M_block_Ptr (t0 : Int) (t1 : G_api_Block) : Option G_api_Ptr :=
  Option.bind (M_block_Put t1) fun (x1 : Str) => Option.bind (M_ptr_To t0 x1 t1.Birth) fun (x2 : G_api_Ptr) => some x2
theorem ok_block_Ptr (t0 : Int) (t1 : G_api_Block) (r : G_api_Ptr) (h : M_block_Ptr t0 t1 = some r) : FFn Try.prog 14 [(I t0), (Value.agg (c_api_Block t1).toArray)] (Value.agg (c_api_Ptr r).toArray) := by
  refine FFn.of_body (n := 11) Try.func14 rfl Try.ntmps14 rfl rfl rfl rfl ?_
  show AWp _ _ _ ⟨11, 0, [(0, (I t0)), (1, (Value.agg (c_api_Block t1).toArray))], [], ⟨0, []⟩⟩
  unfold M_block_Ptr at h
  refine awp_seq ?_
  refine awp_region ?_
  refine arun_do rfl rfl rfl (ex_box (vx := (Value.agg (c_api_Block t1).toArray)) (cs := (c_api_Block t1)) (k := 0) (L' := [(c_api_Block t1)]) (eV (v := (Value.agg (c_api_Block t1).toArray)) rfl) rfl rfl rfl) ?_
  refine arun_do rfl rfl rfl (ex_alloc (k := 1) (zs := (c_api_Ptr (G_api_Ptr.mk 0 0 (A4.mk 0 0 0 0)))) (L' := [(c_api_Block t1), (c_api_Ptr (G_api_Ptr.mk 0 0 (A4.mk 0 0 0 0)))]) z_32 rfl rfl rfl rfl) ?_
  refine arun_keepE [0, 3, 4] 2 0 (st' := ⟨11, 0, [(0, (I t0)), (3, (LP 0 0)), (4, (LP 1 0))], [(c_api_Block t1), (c_api_Ptr (G_api_Ptr.mk 0 0 (A4.mk 0 0 0 0)))], ⟨0, []⟩⟩) (by kernel_rfl) (by kernel_rfl) ?_
  show AWp _ _ _ _
  refine awp_seq ?_
  obtain ⟨x1, hx1, h⟩ := bindS h
  obtain ⟨x2, hx2, h⟩ := bindS h
  refine awp_kn [4] 2 0 (st' := ⟨11, 0, [(4, (LP 1 0))], [(c_api_Block t1), (c_api_Ptr x2)], ⟨0, []⟩⟩) (awp_draw (T := [(I t0), (Value.agg (c_api_Block t1).toArray), (S x1), (LP 0 1), (I t1.Birth), (Value.agg (c_api_Ptr x2).toArray), undef]) (LH := [([(c_api_Block t1), (c_api_Ptr (G_api_Ptr.mk 0 0 (A4.mk 0 0 0 0)))], ⟨0, []⟩), ([(c_api_Block t1), (c_api_Ptr x2)], ⟨0, []⟩)]) (D := [⟨[(0, none)], [], [0], false⟩, ⟨[(3, none)], [], [0], false⟩, ⟨[(6, some 1)], [1], [0], false⟩, ⟨[(3, none)], [], [0], false⟩, ⟨[(8, some 3)], [3], [0], false⟩, ⟨[(5, some 0), (7, some 2), (9, some 4)], [0, 1, 2, 3, 4], [0], false⟩, ⟨[(4, none), (10, some 5)], [0, 1, 2, 3, 4, 5], [0], true⟩]) (S := [6]) (plan := [0, 1, 2, 3, 4, 5, 6]) mo (by kernel_rfl) rfl rfl rfl (dcons (dstep1 (Tm := [(0, (I t0))]) (L := [(c_api_Block t1), (c_api_Ptr (G_api_Ptr.mk 0 0 (A4.mk 0 0 0 0)))]) (H := ⟨0, []⟩) rfl rfl rfl rfl rfl (astep_do rfl (ex_move (eV (v := (I t0)) rfl)))) (dcons (dstep1 (Tm := [(3, (LP 0 0))]) (L := [(c_api_Block t1), (c_api_Ptr (G_api_Ptr.mk 0 0 (A4.mk 0 0 0 0)))]) (H := ⟨0, []⟩) rfl rfl rfl rfl rfl (astep_do rfl (tx_ldLA (vs := (c_api_Block t1)) Try.underlying23 rfl s_23 (by decide) rfl rfl rfl rfl))) (dcons (dstep1 (Tm := [(6, (Value.agg (c_api_Block t1).toArray))]) (L := [(c_api_Block t1), (c_api_Ptr (G_api_Ptr.mk 0 0 (A4.mk 0 0 0 0)))]) (H := ⟨0, []⟩) rfl rfl rfl rfl rfl (astep_do rfl (ex_call0 (vs := [(Value.agg (c_api_Block t1).toArray)]) (v := (S x1)) rfl en_12 (cargs (evs rfl evs_nil)) rfl (ok_block_Put t1 x1 hx1) rfl))) (dcons (dstep1 (Tm := [(3, (LP 0 0))]) (L := [(c_api_Block t1), (c_api_Ptr (G_api_Ptr.mk 0 0 (A4.mk 0 0 0 0)))]) (H := ⟨0, []⟩) rfl rfl rfl rfl rfl (astep_do rfl (ex_fieldAddr (v := (LP 0 1)) Try.underlying23 rfl s_3 (by decide) rfl rfl))) (dcons (dstep1 (Tm := [(8, (LP 0 1))]) (L := [(c_api_Block t1), (c_api_Ptr (G_api_Ptr.mk 0 0 (A4.mk 0 0 0 0)))]) (H := ⟨0, []⟩) rfl rfl rfl rfl rfl (astep_do rfl (tx_ldL1 (v := (I t1.Birth)) Try.underlying3 rfl rfl rfl rfl))) (dcons (dstep1 (Tm := [(5, (I t0)), (7, (S x1)), (9, (I t1.Birth))]) (L := [(c_api_Block t1), (c_api_Ptr (G_api_Ptr.mk 0 0 (A4.mk 0 0 0 0)))]) (H := ⟨0, []⟩) rfl rfl rfl rfl rfl (astep_do rfl (ex_call0 (vs := [(I t0), (S x1), (I t1.Birth)]) (v := (Value.agg (c_api_Ptr x2).toArray)) rfl en_32 (cargs (evs rfl (evs rfl (evs rfl evs_nil)))) rfl (ok_ptr_To t0 x1 t1.Birth x2 hx2) rfl))) (dcons (dstep1 (Tm := [(4, (LP 1 0)), (10, (Value.agg (c_api_Ptr x2).toArray))]) (L := [(c_api_Block t1), (c_api_Ptr (G_api_Ptr.mk 0 0 (A4.mk 0 0 0 0)))]) (H := ⟨0, []⟩) rfl rfl rfl rfl rfl (astep_do rfl (ex_storeL (vy := (Value.agg (c_api_Ptr x2).toArray)) (cs := (c_api_Ptr (G_api_Ptr.mk 0 0 (A4.mk 0 0 0 0)))) (vs := (c_api_Ptr x2)) (L' := [(c_api_Block t1), (c_api_Ptr x2)]) rfl (eV (v := (Value.agg (c_api_Ptr x2).toArray)) rfl) rfl s_32 rfl (Nat.le_of_ble_eq_true rfl) (by kernel_rfl)))) dnil))))))) ⟨rfl, rfl⟩) (by kernel_rfl) (by kernel_rfl) ?_
  show AWp _ _ _ _
  refine awp_ret ?_
  cases h
  exact ares1 (rcellL rfl rfl rfl (partA Try.underlying32 rfl s_32 (by decide) (Nat.le_of_ble_eq_true rfl) rfl))

noncomputable def M_dev_has (t0 : G_api_Dev) (t1 : Int) : Option Bool :=
  some ((decide (t1 ≥ 0)) && (decide (t1 < (t0.Last.length : Int))))
theorem ok_dev_has (t0 : G_api_Dev) (t1 : Int) (r : Bool) (h : M_dev_has t0 t1 = some r) : FFn Try.prog 43 [(Value.agg (c_api_Dev t0).toArray), (I t1)] (Bo r) := by
  refine FFn.of_body (n := 14) Try.func43 rfl Try.ntmps43 rfl rfl rfl rfl ?_
  show AWp _ _ _ ⟨14, 0, [(0, (Value.agg (c_api_Dev t0).toArray)), (1, (I t1))], [], ⟨0, []⟩⟩
  unfold M_dev_has at h
  refine awp_seq ?_
  refine awp_region ?_
  refine arun_do rfl rfl rfl (ex_box (vx := (Value.agg (c_api_Dev t0).toArray)) (cs := (c_api_Dev t0)) (k := 0) (L' := [(c_api_Dev t0)]) (eV (v := (Value.agg (c_api_Dev t0).toArray)) rfl) rfl rfl rfl) ?_
  refine arun_do rfl rfl rfl (ex_assign (eV (v := (Bo false)) rfl)) ?_
  refine arun_keepE [1, 2] 1 0 (st' := ⟨14, 0, [(1, (I t1)), (2, (LP 0 0))], [(c_api_Dev t0)], ⟨0, []⟩⟩) (by kernel_rfl) (by kernel_rfl) ?_
  show AWp _ _ _ _
  refine awp_seq ?_
  refine awp_region ?_
  refine arun_do rfl rfl rfl (ex_move (eV (v := (I t1)) rfl)) ?_
  refine arun_do rfl rfl rfl (ex_bin (vx := (I t1)) (vy := (I 0)) rfl rfl geqI_ok) ?_
  refine arun_do rfl rfl rfl (ex_move (eV (v := (Bo (decide (t1 ≥ 0)))) rfl)) ?_
  refine arun_guard (v := (I t1)) ((decide (t1 ≥ 0)) == true) rfl rfl rfl (fun hc => ex_move (eV (v := (I t1)) rfl)) ?_
  refine arun_guard (v := (LP 0 0)) ((decide (t1 ≥ 0)) == true) rfl rfl rfl (fun hc => ex_fieldAddr (v := (LP 0 0)) Try.underlying40 rfl s_35 (by decide) rfl rfl) ?_
  refine arun_guard (v := (SL 1 cS t0.Last)) ((decide (t1 ≥ 0)) == true) rfl rfl rfl (fun hc => tx_ldL1 (v := (SL 1 cS t0.Last)) Try.underlying35 rfl (cond_of hc) rfl rfl) ?_
  refine arun_guard (v := (I (t0.Last.length : Int))) ((decide (t1 ≥ 0)) == true) rfl rfl rfl (fun hc => tx_lenD (xs := t0.Last) ceS Try.underlying35 (cond_of hc)) ?_
  refine arun_guard (v := (Bo (decide (t1 < (t0.Last.length : Int))))) ((decide (t1 ≥ 0)) == true) rfl rfl rfl (fun hc => ex_bin (vx := (I t1)) (vy := (I (t0.Last.length : Int))) (cond_of hc) (cond_of hc) lssI_ok) ?_
  refine arun_do rfl rfl rfl (ex_pick rfl pkAnd) ?_
  refine arun_do rfl rfl rfl (ex_assign (eV (v := (Bo ((decide (t1 ≥ 0)) && (decide (t1 < (t0.Last.length : Int)))))) rfl)) ?_
  refine arun_keepE [4] 0 0 (st' := ⟨14, 0, [(4, (Bo ((decide (t1 ≥ 0)) && (decide (t1 < (t0.Last.length : Int))))))], [], ⟨0, []⟩⟩) (by kernel_rfl) (by kernel_rfl) ?_
  show AWp _ _ _ _
  refine awp_ret ?_
  cases h
  exact ares1 (rtmp rfl (eV rfl))

noncomputable def M_ptr_Fits (t0 : G_api_Ptr) (t1 : Str) : Option Bool :=
  Option.bind (M_sum_Of ([t1] : List Str)) fun (x1 : (A4 UInt32)) => some (decide (t0.Sum = x1))
theorem ok_ptr_Fits (t0 : G_api_Ptr) (t1 : Str) (r : Bool) (h : M_ptr_Fits t0 t1 = some r) : FFn Try.prog 45 [(Value.agg (c_api_Ptr t0).toArray), (S t1)] (Bo r) := by
  refine FFn.of_body (n := 11) Try.func45 rfl Try.ntmps45 rfl rfl rfl rfl ?_
  show AWp _ _ _ ⟨11, 0, [(0, (Value.agg (c_api_Ptr t0).toArray)), (1, (S t1))], [], ⟨0, []⟩⟩
  unfold M_ptr_Fits at h
  refine awp_seq ?_
  refine awp_region ?_
  refine arun_do rfl rfl rfl (ex_box (vx := (Value.agg (c_api_Ptr t0).toArray)) (cs := (c_api_Ptr t0)) (k := 0) (L' := [(c_api_Ptr t0)]) (eV (v := (Value.agg (c_api_Ptr t0).toArray)) rfl) rfl rfl rfl) ?_
  refine arun_do rfl rfl rfl (ex_assign (eV (v := (Bo false)) rfl)) ?_
  refine arun_keepE [1, 2] 1 0 (st' := ⟨11, 0, [(1, (S t1)), (2, (LP 0 0))], [(c_api_Ptr t0)], ⟨0, []⟩⟩) (by kernel_rfl) (by kernel_rfl) ?_
  show AWp _ _ _ _
  refine awp_seq ?_
  obtain ⟨x1, hx1, h⟩ := bindS h
  refine awp_kn [4] 0 0 (st' := ⟨11, 0, [(4, (Bo (decide (t0.Sum = x1))))], [], ⟨0, []⟩⟩) (awp_draw (T := [(LP 0 2), (Value.agg ((cA4 c32) t0.Sum).toArray), (S t1), (SL 1 cS ([t1] : List Str)), (Value.agg ((cA4 c32) x1).toArray), (Bo (decide (t0.Sum = x1))), (Bo (decide (t0.Sum = x1)))]) (LH := [([(c_api_Ptr t0)], ⟨0, []⟩)]) (D := [⟨[(2, none)], [], [0], false⟩, ⟨[(5, some 0)], [0], [0], false⟩, ⟨[(1, none)], [], [0], false⟩, ⟨[(7, some 2)], [2], [0], false⟩, ⟨[(8, some 3)], [2, 3], [0], false⟩, ⟨[(6, some 1), (9, some 4)], [0, 1, 2, 3, 4], [0], false⟩, ⟨[(10, some 5)], [0, 1, 2, 3, 4, 5], [0], false⟩]) (S := []) (plan := [0, 1, 2, 3, 4, 5, 6]) mo (by kernel_rfl) rfl rfl rfl (dcons (dstep1 (Tm := [(2, (LP 0 0))]) (L := [(c_api_Ptr t0)]) (H := ⟨0, []⟩) rfl rfl rfl rfl rfl (astep_do rfl (ex_fieldAddr (v := (LP 0 2)) Try.underlying32 rfl s_30 (by decide) rfl rfl))) (dcons (dstep1 (Tm := [(5, (LP 0 2))]) (L := [(c_api_Ptr t0)]) (H := ⟨0, []⟩) rfl rfl rfl rfl rfl (astep_do rfl (tx_ldLA (vs := ((cA4 c32) t0.Sum)) Try.underlying30 rfl s_30 (by decide) rfl rfl rfl rfl))) (dcons (dstep1 (Tm := [(1, (S t1))]) (L := [(c_api_Ptr t0)]) (H := ⟨0, []⟩) rfl rfl rfl rfl rfl (astep_do rfl (ex_move (eV (v := (S t1)) rfl)))) (dcons (dstep1 (Tm := [(7, (S t1))]) (L := [(c_api_Ptr t0)]) (H := ⟨0, []⟩) rfl rfl rfl rfl rfl (astep_do rfl (ex_buildSliceD (qs := [(0, (S t1))]) (cells := (([t1] : List Str).flatMap cS)) Try.underlying35 s_9 (by decide) (evp rfl evp_nil) rfl (by kernel_rfl) (by kernel_rfl) (by kernel_rfl)))) (dcons (dstep1 (Tm := [(8, (SL 1 cS ([t1] : List Str)))]) (L := [(c_api_Ptr t0)]) (H := ⟨0, []⟩) rfl rfl rfl rfl rfl (astep_do rfl (ex_call0 (vs := [(SL 1 cS ([t1] : List Str))]) (v := (Value.agg ((cA4 c32) x1).toArray)) rfl en_41 (cargs (evs rfl evs_nil)) rfl (ok_sum_Of ([t1] : List Str) x1 hx1) rfl))) (dcons (dstep1 (Tm := [(6, (Value.agg ((cA4 c32) t0.Sum).toArray)), (9, (Value.agg ((cA4 c32) x1).toArray))]) (L := [(c_api_Ptr t0)]) (H := ⟨0, []⟩) rfl rfl rfl rfl rfl (astep_do rfl (ex_bin (vx := (Value.agg ((cA4 c32) t0.Sum).toArray)) (vy := (Value.agg ((cA4 c32) x1).toArray)) rfl rfl eql_30))) (dcons (dstep1 (Tm := [(10, (Bo (decide (t0.Sum = x1))))]) (L := [(c_api_Ptr t0)]) (H := ⟨0, []⟩) rfl rfl rfl rfl rfl (astep_do rfl (ex_assign (eV (v := (Bo (decide (t0.Sum = x1)))) rfl)))) dnil))))))) ⟨rfl, rfl⟩) (by kernel_rfl) (by kernel_rfl) ?_
  show AWp _ _ _ _
  refine awp_ret ?_
  cases h
  exact ares1 (rtmp rfl (eV rfl))

end Go.Proofs
