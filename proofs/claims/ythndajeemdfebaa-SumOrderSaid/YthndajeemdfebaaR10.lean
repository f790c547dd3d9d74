/- Pure models of functions of the program, and that its code does what they say: sum Of, palimplaw2 begun, palimpref1 Sum. Written by a program. -/
import Derived.Test.YthndajeemdfebaaR1B
import Derived.Test.YthndajeemdfebaaR1X
set_option maxRecDepth 20000
set_option maxHeartbeats 4000000
namespace Go.Proofs
open Go Go.Fhl
set_option linter.unusedVariables false
set_option linter.unusedSimpArgs false
noncomputable def M_sum_Of_l3 (c_1 : (Int → (A4 UInt32) → Option (A4 UInt32))) (c_2 : (UInt32 → Int → Option (A4 UInt32))) (x1 : Str) (v2 : Int) : Nat → UInt32 → Int → (A4 UInt32) → Option (A4 UInt32)
  | 0, _, _, _ => none
  | n3 + 1, v11, v12, v13 =>
  cond (decide (v12 < 4)) (Option.bind (inA 4 v12) fun (x15 : Unit) => Option.bind (A4.get v13 v12) fun (x16 : UInt32) => Option.bind (inA 4 v12) fun (x17 : Unit) => Option.bind (A4.set v13 v12 (x16 + v11)) fun (x18 : A4 UInt32) => Option.bind (inA 4 v12) fun (x19 : Unit) => Option.bind (A4.get x18 v12) fun (x20 : UInt32) => (M_sum_Of_l3 c_1 c_2 x1 v2 n3) x20 (w64 (v12 + 1)) x18) (c_1 (w64 (v2 + 4)) v13)
noncomputable def M_sum_Of_l2 (c_1 : (Int → (A4 UInt32) → Option (A4 UInt32))) (x1 : Str) (v2 : Int) (v3 : (A4 UInt32)) (x5 : Str) : Nat → UInt32 → Int → Option (A4 UInt32)
  | 0, _, _ => none
  | n2 + 1, v6, v7 =>
  cond (decide (v7 < (x5.length : Int))) (Option.bind (getI x5 v7) fun (x9 : UInt8) => Option.bind (shl32 x9.toUInt32 (w64 (8 * v7))) fun (x10 : UInt32) => (M_sum_Of_l2 c_1 x1 v2 v3 x5 n2) (v6 ||| x10) (w64 (v7 + 1))) (M_sum_Of_l3 c_1 (M_sum_Of_l2 c_1 x1 v2 v3 x5 n2) x1 v2 fuel v6 0 v3)
noncomputable def M_sum_Of_l1 (x1 : Str) : Nat → Int → (A4 UInt32) → Option (A4 UInt32)
  | 0, _, _ => none
  | n1 + 1, v2, v3 =>
  cond (decide (v2 < (x1.length : Int))) (Option.bind (slL x1 v2 (min (w64 (v2 + 4)) (x1.length : Int))) fun (x5 : Str) => M_sum_Of_l2 (M_sum_Of_l1 x1 n1) x1 v2 v3 x5 fuel 0 0) (some v3)
noncomputable def M_sum_Of (t0 : (List Str)) : Option (A4 UInt32) :=
  Option.bind (M_strings_Join t0 ([] : Str)) fun (x1 : Str) => M_sum_Of_l1 x1 fuel 0 (A4.mk 0 0 0 0)
theorem ok_sum_Of (t0 : (List Str)) (r : (A4 UInt32)) (h : M_sum_Of t0 = some r) : FFn Try.prog 10 [(SL 1 cS t0)] (Value.agg ((cA4 c32) r).toArray) := by
  refine FFn.of_body (n := 55) Try.func10 rfl Try.ntmps10 rfl rfl rfl rfl ?_
  show AWp _ _ _ ⟨55, 0, [(0, (SL 1 cS t0))], [], ⟨0, []⟩⟩
  unfold M_sum_Of at h
  refine awp_seq ?_
  refine awp_region ?_
  refine arun_do rfl rfl rfl (ex_alloc (k := 0) (zs := ((cA4 c32) (A4.mk 0 0 0 0))) (L' := [((cA4 c32) (A4.mk 0 0 0 0))]) z_25 rfl rfl rfl rfl) ?_
  refine arun_keepE [0, 2] 1 0 (st' := ⟨55, 0, [(0, (SL 1 cS t0)), (2, (LP 0 0))], [((cA4 c32) (A4.mk 0 0 0 0))], ⟨0, []⟩⟩) (by kernel_rfl) (by kernel_rfl) ?_
  show AWp _ _ _ _
  refine awp_seq ?_
  refine awp_region ?_
  refine arun_do rfl rfl rfl (ex_alloc (k := 1) (zs := ((cA4 c32) (A4.mk 0 0 0 0))) (L' := [((cA4 c32) (A4.mk 0 0 0 0)), ((cA4 c32) (A4.mk 0 0 0 0))]) z_25 rfl rfl rfl rfl) ?_
  refine arun_keepE [0, 2, 3] 2 0 (st' := ⟨55, 0, [(0, (SL 1 cS t0)), (2, (LP 0 0)), (3, (LP 1 0))], [((cA4 c32) (A4.mk 0 0 0 0)), ((cA4 c32) (A4.mk 0 0 0 0))], ⟨0, []⟩⟩) (by kernel_rfl) (by kernel_rfl) ?_
  show AWp _ _ _ _
  refine awp_seq ?_
  refine awp_region ?_
  refine arun_do rfl rfl rfl (ex_move (eV (v := (SL 1 cS t0)) rfl)) ?_
  obtain ⟨x1, hx1, h⟩ := bindS h
  refine arun_do rfl rfl rfl (ex_call0 (vs := [(SL 1 cS t0), (S [])]) (v := (S x1)) rfl en_13 (cargs (evs rfl (evs rfl evs_nil))) rfl (ok_strings_Join t0 ([] : Str) x1 hx1) rfl) ?_
  refine arun_do rfl rfl rfl (ex_assign (eV (v := (S x1)) rfl)) ?_
  refine arun_keepE [2, 3, 4] 2 0 (st' := ⟨55, 0, [(2, (LP 0 0)), (3, (LP 1 0)), (4, (S x1))], [((cA4 c32) (A4.mk 0 0 0 0)), ((cA4 c32) (A4.mk 0 0 0 0))], ⟨0, []⟩⟩) (by kernel_rfl) (by kernel_rfl) ?_
  show AWp _ _ _ _
  refine awp_seq ?_
  refine awp_seq ?_
  refine awp_region ?_
  refine arun_do rfl rfl rfl (ex_assign (eV (v := (I 0)) rfl)) ?_
  refine arun_keepE [2, 3, 4, 5] 2 0 (st' := ⟨55, 0, [(2, (LP 0 0)), (3, (LP 1 0)), (4, (S x1)), (5, (I 0))], [((cA4 c32) (A4.mk 0 0 0 0)), ((cA4 c32) (A4.mk 0 0 0 0))], ⟨0, []⟩⟩) (by kernel_rfl) (by kernel_rfl) ?_
  show AWp _ _ _ _
  refine awp_block ?_
  refine awp_loop (fun n s => ∃ (v2 : Int) (v3 : (A4 UInt32)), s = ⟨55, 0, [(2, (LP 0 0)), (3, (LP 1 0)), (4, (S x1)), (5, (I v2))], [((cA4 c32) (A4.mk 0 0 0 0)), ((cA4 c32) v3)], ⟨0, []⟩⟩ ∧ M_sum_Of_l1 x1 n v2 v3 = some r) fuel (Exists.intro 0 (Exists.intro (A4.mk 0 0 0 0) (And.intro rfl h))) ?_
  rintro n s ⟨v2, v3, rfl, h⟩ -
  cases n with
  | zero => cases h
  | succ n1 =>
    unfold M_sum_Of_l1 at h
    refine awp_seq ?_
    refine awp_seq ?_
    refine awp_region ?_
    refine arun_do rfl rfl rfl (ex_move (eV (v := (I v2)) rfl)) ?_
    refine arun_do rfl rfl rfl (ex_move (eV (v := (S x1)) rfl)) ?_
    refine arun_do rfl rfl rfl (tx_lenS Try.underlying9 rfl) ?_
    refine arun_do rfl rfl rfl (ex_bin (vx := (I v2)) (vy := (I (x1.length : Int))) rfl rfl lssI_ok) ?_
    refine arun_keepE [2, 3, 4, 5, 15] 2 0 (st' := ⟨55, 0, [(2, (LP 0 0)), (3, (LP 1 0)), (4, (S x1)), (5, (I v2)), (15, (Bo (decide (v2 < (x1.length : Int)))))], [((cA4 c32) (A4.mk 0 0 0 0)), ((cA4 c32) v3)], ⟨0, []⟩⟩) (by kernel_rfl) (by kernel_rfl) ?_
    show AWp _ _ _ _
    rcases Bool.eq_false_or_eq_true (decide (v2 < (x1.length : Int))) with hb4 | hb4
    · rw [condT hb4] at h
      refine awp_condT (boT hb4) ?_
      refine awp_skip ?_
      show AWp _ _ _ _
      refine awp_seq ?_
      refine awp_block ?_
      refine awp_seq ?_
      refine awp_region ?_
      refine arun_do rfl rfl rfl (ex_assign (eV (v := (U32 0)) rfl)) ?_
      refine arun_keepE [2, 3, 4, 5, 6] 2 0 (st' := ⟨55, 0, [(2, (LP 0 0)), (3, (LP 1 0)), (4, (S x1)), (5, (I v2)), (6, (U32 0))], [((cA4 c32) (A4.mk 0 0 0 0)), ((cA4 c32) v3)], ⟨0, []⟩⟩) (by kernel_rfl) (by kernel_rfl) ?_
      show AWp _ _ _ _
      refine awp_seq ?_
      refine awp_seq ?_
      refine awp_region ?_
      refine arun_do rfl rfl rfl (ex_move (eV (v := (S x1)) rfl)) ?_
      refine arun_do rfl rfl rfl (ex_move (eV (v := (I v2)) rfl)) ?_
      refine arun_do rfl rfl rfl (ex_move (eV (v := (I v2)) rfl)) ?_
      refine arun_do rfl rfl rfl (ex_bin (vx := (I v2)) (vy := (I 4)) rfl rfl addI_ok) ?_
      refine arun_do rfl rfl rfl (ex_move (eV (v := (S x1)) rfl)) ?_
      refine arun_do rfl rfl rfl (tx_lenS Try.underlying9 rfl) ?_
      refine arun_do rfl rfl rfl (ex_min (m := (w64 (v2 + 4))) (n := (x1.length : Int)) rfl rfl) ?_
      obtain ⟨x5, hx5, h⟩ := bindS h
      refine arun_do rfl rfl rfl (tx_slS (u := x1) Try.underlying9 rfl (loX (l := v2) rfl) (hiX (l := (min (w64 (v2 + 4)) (x1.length : Int))) rfl) hx5) ?_
      refine arun_do rfl rfl rfl (tx_sbD Try.underlying9 Try.underlying31 Try.underlying5 rfl) ?_
      refine arun_do rfl rfl rfl (tx_lenD (xs := x5) ce8 Try.underlying31 rfl) ?_
      refine arun_do rfl rfl rfl (ex_move (eV (v := (I 0)) rfl)) ?_
      refine arun_keepE [2, 3, 4, 5, 6, 26, 27, 28] 2 0 (st' := ⟨55, 0, [(2, (LP 0 0)), (3, (LP 1 0)), (4, (S x1)), (5, (I v2)), (6, (U32 0)), (26, (SL 1 c8 x5)), (27, (I (x5.length : Int))), (28, (I 0))], [((cA4 c32) (A4.mk 0 0 0 0)), ((cA4 c32) v3)], ⟨0, []⟩⟩) (by kernel_rfl) (by kernel_rfl) ?_
      show AWp _ _ _ _
      refine awp_block ?_
      refine awp_loop (fun n s => ∃ (v6 : UInt32) (v7 : Int), s = ⟨55, 0, [(2, (LP 0 0)), (3, (LP 1 0)), (4, (S x1)), (5, (I v2)), (6, (U32 v6)), (26, (SL 1 c8 x5)), (27, (I (x5.length : Int))), (28, (I v7))], [((cA4 c32) (A4.mk 0 0 0 0)), ((cA4 c32) v3)], ⟨0, []⟩⟩ ∧ M_sum_Of_l2 (M_sum_Of_l1 x1 n1) x1 v2 v3 x5 n v6 v7 = some r) fuel (Exists.intro 0 (Exists.intro 0 (And.intro rfl h))) ?_
      rintro n s ⟨v6, v7, rfl, h⟩ -
      cases n with
      | zero => cases h
      | succ n2 =>
        unfold M_sum_Of_l2 at h
        refine awp_seq ?_
        refine awp_region ?_
        refine arun_do rfl rfl rfl (ex_bin (vx := (I v7)) (vy := (I (x5.length : Int))) rfl rfl lssI_ok) ?_
        refine arun_keepE [2, 3, 4, 5, 6, 26, 27, 28, 29] 2 0 (st' := ⟨55, 0, [(2, (LP 0 0)), (3, (LP 1 0)), (4, (S x1)), (5, (I v2)), (6, (U32 v6)), (26, (SL 1 c8 x5)), (27, (I (x5.length : Int))), (28, (I v7)), (29, (Bo (decide (v7 < (x5.length : Int)))))], [((cA4 c32) (A4.mk 0 0 0 0)), ((cA4 c32) v3)], ⟨0, []⟩⟩) (by kernel_rfl) (by kernel_rfl) ?_
        show AWp _ _ _ _
        refine awp_seq ?_
        rcases Bool.eq_false_or_eq_true (decide (v7 < (x5.length : Int))) with hb8 | hb8
        · rw [condT hb8] at h
          refine awp_condT (boT hb8) ?_
          refine awp_skip ?_
          show AWp _ _ _ _
          refine awp_seq ?_
          refine awp_block ?_
          refine awp_seq ?_
          refine awp_region ?_
          refine arun_do rfl rfl rfl (ex_move (eV (v := (I v7)) rfl)) ?_
          obtain ⟨x9, hx9, h⟩ := bindS h
          refine arun_do rfl rfl rfl (tx_idxD (c := c8) (xs := x5) (i := v7) ce8 Try.underlying31 s_5 rfl rfl hx9) ?_
          refine arun_do rfl rfl rfl (tx_ldD1 (v := (U8 x9)) Try.underlying5 rfl rfl rfl) ?_
          refine arun_do rfl rfl rfl (ex_assign (eV (v := (I v7)) rfl)) ?_
          refine arun_do rfl rfl rfl (ex_assign (eV (v := (U8 x9)) rfl)) ?_
          refine arun_keepE [2, 3, 4, 5, 6, 7, 8, 26, 27, 28] 2 0 (st' := ⟨55, 0, [(2, (LP 0 0)), (3, (LP 1 0)), (4, (S x1)), (5, (I v2)), (6, (U32 v6)), (7, (I v7)), (8, (U8 x9)), (26, (SL 1 c8 x5)), (27, (I (x5.length : Int))), (28, (I v7))], [((cA4 c32) (A4.mk 0 0 0 0)), ((cA4 c32) v3)], ⟨0, []⟩⟩) (by kernel_rfl) (by kernel_rfl) ?_
          show AWp _ _ _ _
          refine awp_region ?_
          refine arun_do rfl rfl rfl (ex_move (eV (v := (U32 v6)) rfl)) ?_
          refine arun_do rfl rfl rfl (ex_move (eV (v := (U8 x9)) rfl)) ?_
          refine arun_do rfl rfl rfl (tx_8_32 Try.underlying5 Try.underlying23 rfl) ?_
          refine arun_do rfl rfl rfl (ex_move (eV (v := (I v7)) rfl)) ?_
          refine arun_do rfl rfl rfl (ex_bin (vx := (I 8)) (vy := (I v7)) rfl rfl mulI_ok) ?_
          obtain ⟨x10, hx10, h⟩ := bindS h
          refine arun_do rfl rfl rfl (ex_bin (vx := (U32 x9.toUInt32)) (vy := (I (w64 (8 * v7)))) rfl rfl (shl32_ok hx10)) ?_
          refine arun_do rfl rfl rfl (ex_bin (vx := (U32 v6)) (vy := (U32 x10)) rfl rfl or32_ok) ?_
          refine arun_do rfl rfl rfl (ex_assign (eV (v := (U32 (v6 ||| x10))) rfl)) ?_
          refine arun_keepE [2, 3, 4, 5, 6, 26, 27, 28] 2 0 (st' := ⟨55, 0, [(2, (LP 0 0)), (3, (LP 1 0)), (4, (S x1)), (5, (I v2)), (6, (U32 (v6 ||| x10))), (26, (SL 1 c8 x5)), (27, (I (x5.length : Int))), (28, (I v7))], [((cA4 c32) (A4.mk 0 0 0 0)), ((cA4 c32) v3)], ⟨0, []⟩⟩) (by kernel_rfl) (by kernel_rfl) ?_
          show AWp _ _ _ _
          refine awp_region ?_
          refine arun_do rfl rfl rfl (ex_bin (vx := (I v7)) (vy := (I 1)) rfl rfl addI_ok) ?_
          refine arun_do rfl rfl rfl (ex_move (eV (v := (I (w64 (v7 + 1)))) rfl)) ?_
          refine arun_keepE [2, 3, 4, 5, 6, 26, 27, 28] 2 0 (st' := ⟨55, 0, [(2, (LP 0 0)), (3, (LP 1 0)), (4, (S x1)), (5, (I v2)), (6, (U32 (v6 ||| x10))), (26, (SL 1 c8 x5)), (27, (I (x5.length : Int))), (28, (I (w64 (v7 + 1))))], [((cA4 c32) (A4.mk 0 0 0 0)), ((cA4 c32) v3)], ⟨0, []⟩⟩) (by kernel_rfl) (by kernel_rfl) ?_
          exact Exists.intro n2 (And.intro (Nat.lt_succ_self _) (Exists.intro (v6 ||| x10) (Exists.intro (w64 (v7 + 1)) (And.intro rfl h))))
        · rw [condF hb8] at h
          refine awp_condF (boF hb8) ?_
          refine awp_exit ?_
          show AWp _ _ _ _
          refine awp_seq ?_
          refine awp_region ?_
          refine arun_do rfl rfl rfl (ex_move (eV (v := (I 0)) rfl)) ?_
          refine arun_keepE [2, 3, 4, 5, 6, 41] 2 0 (st' := ⟨55, 0, [(2, (LP 0 0)), (3, (LP 1 0)), (4, (S x1)), (5, (I v2)), (6, (U32 v6)), (41, (I 0))], [((cA4 c32) (A4.mk 0 0 0 0)), ((cA4 c32) v3)], ⟨0, []⟩⟩) (by kernel_rfl) (by kernel_rfl) ?_
          show AWp _ _ _ _
          refine awp_block ?_
          refine awp_loop (fun n s => ∃ (v11 : UInt32) (v12 : Int) (v13 : (A4 UInt32)), s = ⟨55, 0, [(2, (LP 0 0)), (3, (LP 1 0)), (4, (S x1)), (5, (I v2)), (6, (U32 v11)), (41, (I v12))], [((cA4 c32) (A4.mk 0 0 0 0)), ((cA4 c32) v13)], ⟨0, []⟩⟩ ∧ M_sum_Of_l3 (M_sum_Of_l1 x1 n1) (M_sum_Of_l2 (M_sum_Of_l1 x1 n1) x1 v2 v3 x5 n2) x1 v2 n v11 v12 v13 = some r) fuel (Exists.intro v6 (Exists.intro 0 (Exists.intro v3 (And.intro rfl h)))) ?_
          rintro n s ⟨v11, v12, v13, rfl, h⟩ -
          cases n with
          | zero => cases h
          | succ n3 =>
            unfold M_sum_Of_l3 at h
            refine awp_seq ?_
            refine awp_region ?_
            refine arun_do rfl rfl rfl (ex_bin (vx := (I v12)) (vy := (I 4)) rfl rfl lssI_ok) ?_
            refine arun_keepE [2, 3, 4, 5, 6, 41, 42] 2 0 (st' := ⟨55, 0, [(2, (LP 0 0)), (3, (LP 1 0)), (4, (S x1)), (5, (I v2)), (6, (U32 v11)), (41, (I v12)), (42, (Bo (decide (v12 < 4))))], [((cA4 c32) (A4.mk 0 0 0 0)), ((cA4 c32) v13)], ⟨0, []⟩⟩) (by kernel_rfl) (by kernel_rfl) ?_
            show AWp _ _ _ _
            refine awp_seq ?_
            rcases Bool.eq_false_or_eq_true (decide (v12 < 4)) with hb14 | hb14
            · rw [condT hb14] at h
              refine awp_condT (boT hb14) ?_
              refine awp_skip ?_
              show AWp _ _ _ _
              refine awp_seq ?_
              refine awp_block ?_
              refine awp_seq ?_
              refine awp_region ?_
              refine arun_do rfl rfl rfl (ex_move (eV (v := (I v12)) rfl)) ?_
              refine arun_do rfl rfl rfl (ex_assign (eV (v := (I v12)) rfl)) ?_
              refine arun_keepE [2, 3, 4, 5, 6, 9, 41] 2 0 (st' := ⟨55, 0, [(2, (LP 0 0)), (3, (LP 1 0)), (4, (S x1)), (5, (I v2)), (6, (U32 v11)), (9, (I v12)), (41, (I v12))], [((cA4 c32) (A4.mk 0 0 0 0)), ((cA4 c32) v13)], ⟨0, []⟩⟩) (by kernel_rfl) (by kernel_rfl) ?_
              show AWp _ _ _ _
              refine awp_seq ?_
              refine awp_region ?_
              refine arun_do rfl rfl rfl (ex_move (eV (v := (I v12)) rfl)) ?_
              obtain ⟨x15, hx15, h⟩ := bindS h
              refine arun_do rfl rfl rfl (ex_indexAddrA (i := v12) (v := (LP 1 (0 + v12.toNat * 1))) Try.underlying25 s_23 rfl rfl (inA_ok hx15) rfl) ?_
              obtain ⟨x16, hx16, h⟩ := bindS h
              refine arun_do rfl rfl rfl (tx_ldL1 (v := (U32 x16)) Try.underlying23 rfl rfl rfl (by obtain ⟨hi, hz⟩ | ⟨hi, hz⟩ | ⟨hi, hz⟩ | ⟨hi, hz⟩ := A4.get_some hx16 <;> (subst hz; simp only [hi]; rfl))) ?_
              refine arun_do rfl rfl rfl (ex_move (eV (v := (U32 v11)) rfl)) ?_
              refine arun_do rfl rfl rfl (ex_bin (vx := (U32 x16)) (vy := (U32 v11)) rfl rfl add32_ok) ?_
              obtain ⟨x17, hx17, h⟩ := bindS h
              refine arun_do rfl rfl rfl (ex_indexAddrA (i := v12) (v := (LP 1 (0 + v12.toNat * 1))) Try.underlying25 s_23 rfl rfl (inA_ok hx17) rfl) ?_
              obtain ⟨x18, hx18, h⟩ := bindS h
              refine arun_do0 rfl rfl (ex_storeL (vy := (U32 (x16 + v11))) (cs := ((cA4 c32) v13)) (vs := [(U32 (x16 + v11))]) (L' := [((cA4 c32) (A4.mk 0 0 0 0)), ((cA4 c32) x18)]) rfl (eV (v := (U32 (x16 + v11))) rfl) rfl s_23 rfl (by obtain ⟨hi, hz⟩ | ⟨hi, hz⟩ | ⟨hi, hz⟩ | ⟨hi, hz⟩ := A4.set_some hx18 <;> (simp only [hi]; exact Nat.le_of_ble_eq_true rfl)) (by obtain ⟨hi, hz⟩ | ⟨hi, hz⟩ | ⟨hi, hz⟩ | ⟨hi, hz⟩ := A4.set_some hx18 <;> (subst hz; simp only [hi]; rfl))) ?_
              refine arun_keepE [2, 3, 4, 5, 9, 41] 2 0 (st' := ⟨55, 0, [(2, (LP 0 0)), (3, (LP 1 0)), (4, (S x1)), (5, (I v2)), (9, (I v12)), (41, (I v12))], [((cA4 c32) (A4.mk 0 0 0 0)), ((cA4 c32) x18)], ⟨0, []⟩⟩) (by kernel_rfl) (by kernel_rfl) ?_
              show AWp _ _ _ _
              refine awp_region ?_
              refine arun_do rfl rfl rfl (ex_move (eV (v := (I v12)) rfl)) ?_
              obtain ⟨x19, hx19, h⟩ := bindS h
              refine arun_do rfl rfl rfl (ex_indexAddrA (i := v12) (v := (LP 1 (0 + v12.toNat * 1))) Try.underlying25 s_23 rfl rfl (inA_ok hx19) rfl) ?_
              obtain ⟨x20, hx20, h⟩ := bindS h
              refine arun_do rfl rfl rfl (tx_ldL1 (v := (U32 x20)) Try.underlying23 rfl rfl rfl (by obtain ⟨hi, hz⟩ | ⟨hi, hz⟩ | ⟨hi, hz⟩ | ⟨hi, hz⟩ := A4.get_some hx20 <;> (subst hz; simp only [hi]; rfl))) ?_
              refine arun_do rfl rfl rfl (ex_assign (eV (v := (U32 x20)) rfl)) ?_
              refine arun_keepE [2, 3, 4, 5, 6, 41] 2 0 (st' := ⟨55, 0, [(2, (LP 0 0)), (3, (LP 1 0)), (4, (S x1)), (5, (I v2)), (6, (U32 x20)), (41, (I v12))], [((cA4 c32) (A4.mk 0 0 0 0)), ((cA4 c32) x18)], ⟨0, []⟩⟩) (by kernel_rfl) (by kernel_rfl) ?_
              show AWp _ _ _ _
              refine awp_region ?_
              refine arun_do rfl rfl rfl (ex_bin (vx := (I v12)) (vy := (I 1)) rfl rfl addI_ok) ?_
              refine arun_do rfl rfl rfl (ex_move (eV (v := (I (w64 (v12 + 1)))) rfl)) ?_
              refine arun_keepE [2, 3, 4, 5, 6, 41] 2 0 (st' := ⟨55, 0, [(2, (LP 0 0)), (3, (LP 1 0)), (4, (S x1)), (5, (I v2)), (6, (U32 x20)), (41, (I (w64 (v12 + 1))))], [((cA4 c32) (A4.mk 0 0 0 0)), ((cA4 c32) x18)], ⟨0, []⟩⟩) (by kernel_rfl) (by kernel_rfl) ?_
              exact Exists.intro n3 (And.intro (Nat.lt_succ_self _) (Exists.intro x20 (Exists.intro (w64 (v12 + 1)) (Exists.intro x18 (And.intro rfl h)))))
            · rw [condF hb14] at h
              refine awp_condF (boF hb14) ?_
              refine awp_exit ?_
              show AWp _ _ _ _
              refine awp_region ?_
              refine arun_do rfl rfl rfl (ex_move (eV (v := (I v2)) rfl)) ?_
              refine arun_do rfl rfl rfl (ex_bin (vx := (I v2)) (vy := (I 4)) rfl rfl addI_ok) ?_
              refine arun_do rfl rfl rfl (ex_assign (eV (v := (I (w64 (v2 + 4)))) rfl)) ?_
              refine arun_keepE [2, 3, 4, 5] 2 0 (st' := ⟨55, 0, [(2, (LP 0 0)), (3, (LP 1 0)), (4, (S x1)), (5, (I (w64 (v2 + 4))))], [((cA4 c32) (A4.mk 0 0 0 0)), ((cA4 c32) v13)], ⟨0, []⟩⟩) (by kernel_rfl) (by kernel_rfl) ?_
              exact Exists.intro n1 (And.intro (Nat.lt_succ_self _) (Exists.intro (w64 (v2 + 4)) (Exists.intro v13 (And.intro rfl h))))
    · rw [condF hb4] at h
      refine awp_condF (boF hb4) ?_
      refine awp_exit ?_
      show AWp _ _ _ _
      refine awp_seq ?_
      refine awp_region ?_
      refine arun_do rfl rfl rfl (tx_ldLA (vs := ((cA4 c32) v3)) Try.underlying25 rfl s_25 (by decide) rfl rfl rfl rfl) ?_
      refine arun_do0 rfl rfl (ex_storeL (vy := (Value.agg ((cA4 c32) v3).toArray)) (cs := ((cA4 c32) (A4.mk 0 0 0 0))) (vs := ((cA4 c32) v3)) (L' := [((cA4 c32) v3), ((cA4 c32) v3)]) rfl (eV (v := (Value.agg ((cA4 c32) v3).toArray)) rfl) rfl s_25 rfl (Nat.le_of_ble_eq_true rfl) (by kernel_rfl)) ?_
      refine arun_keepE [2] 1 0 (st' := ⟨55, 0, [(2, (LP 0 0))], [((cA4 c32) v3)], ⟨0, []⟩⟩) (by kernel_rfl) (by kernel_rfl) ?_
      show AWp _ _ _ _
      refine awp_ret ?_
      cases h
      exact ares1 (rcellL rfl rfl rfl (partA Try.underlying25 rfl s_25 (by decide) (Nat.le_of_ble_eq_true rfl) rfl))

noncomputable def M_law2_begun : Option Bool :=
  Option.bind (M_sum_Of ([([1] : Str)] : List Str)) fun (x1 : (A4 UInt32)) => Option.bind (gd ((decide (x1 = (A4.mk 1 1 1 1))) == true) (M_sum_Of ([] : (List Str)))) fun (x2 : (A4 UInt32)) => Option.bind (gd (((decide (x1 = (A4.mk 1 1 1 1))) && (decide (x2 = (A4.mk 0 0 0 0)))) == true) (M_sum_Of ([([1, 0, 0, 0, 2] : Str)] : List Str))) fun (x3 : (A4 UInt32)) => some (((decide (x1 = (A4.mk 1 1 1 1))) && (decide (x2 = (A4.mk 0 0 0 0)))) && (decide (x3 = (A4.mk 3 4 5 6))))
theorem ok_law2_begun (r : Bool) (h : M_law2_begun = some r) : FFn Try.prog 9 [] (Bo r) := by
  refine FFn.of_body (n := 16) Try.func9 rfl Try.ntmps9 rfl rfl rfl rfl ?_
  show AWp _ _ _ ⟨16, 0, [], [], ⟨0, []⟩⟩
  unfold M_law2_begun at h
  refine awp_seq ?_
  refine awp_region ?_
  refine arun_do rfl rfl rfl (ex_assign (eV (v := (Bo false)) rfl)) ?_
  refine arun_keepE [] 0 0 (st' := ⟨16, 0, [], [], ⟨0, []⟩⟩) (by kernel_rfl) (by kernel_rfl) ?_
  show AWp _ _ _ _
  refine awp_seq ?_
  refine awp_region ?_
  refine arun_do rfl rfl rfl (ex_buildSliceD (qs := [(0, (S ([1] : Str)))]) (cells := (([([1] : Str)] : List Str).flatMap cS)) Try.underlying28 s_9 (by decide) (evp rfl evp_nil) rfl (by kernel_rfl) (by kernel_rfl) (by kernel_rfl)) ?_
  obtain ⟨x1, hx1, h⟩ := bindS h
  refine arun_do rfl rfl rfl (ex_call0 (vs := [(SL 1 cS ([([1] : Str)] : List Str))]) (v := (Value.agg ((cA4 c32) x1).toArray)) rfl en_10 (cargs (evs rfl evs_nil)) rfl (ok_sum_Of ([([1] : Str)] : List Str) x1 hx1) rfl) ?_
  refine arun_do rfl rfl rfl (ex_build (qs := [(0, (U32 1)), (1, (U32 1)), (2, (U32 1)), (3, (U32 1))]) (v := (Value.agg ((cA4 c32) (A4.mk 1 1 1 1)).toArray)) (evp rfl (evp rfl (evp rfl (evp rfl evp_nil)))) (by kernel_rfl)) ?_
  refine arun_do rfl rfl rfl (ex_bin (vx := (Value.agg ((cA4 c32) x1).toArray)) (vy := (Value.agg ((cA4 c32) (A4.mk 1 1 1 1)).toArray)) rfl rfl eql_25) ?_
  refine arun_do rfl rfl rfl (ex_move (eV (v := (Bo (decide (x1 = (A4.mk 1 1 1 1))))) rfl)) ?_
  obtain ⟨x2, hx2, h⟩ := bindS h
  refine arun_guard (v := (Value.agg ((cA4 c32) x2).toArray)) ((decide (x1 = (A4.mk 1 1 1 1))) == true) rfl rfl rfl (fun hc => ex_call0 (vs := [(SL 1 cS [])]) (v := (Value.agg ((cA4 c32) x2).toArray)) rfl en_10 (cargs (evsN (s := 0) rfl evs_nil)) rfl (ok_sum_Of ([] : (List Str)) x2 (gd_of hc hx2)) rfl) ?_
  refine arun_guard (v := (Value.agg ((cA4 c32) (A4.mk 0 0 0 0)).toArray)) ((decide (x1 = (A4.mk 1 1 1 1))) == true) rfl rfl rfl (fun hc => ex_build (qs := []) (v := (Value.agg ((cA4 c32) (A4.mk 0 0 0 0)).toArray)) evp_nil (by kernel_rfl)) ?_
  refine arun_guard (v := (Bo (decide (x2 = (A4.mk 0 0 0 0))))) ((decide (x1 = (A4.mk 1 1 1 1))) == true) rfl rfl rfl (fun hc => ex_bin (vx := (Value.agg ((cA4 c32) x2).toArray)) (vy := (Value.agg ((cA4 c32) (A4.mk 0 0 0 0)).toArray)) (cond_of hc) (cond_of hc) eql_25) ?_
  refine arun_do rfl rfl rfl (ex_pick rfl pkAnd) ?_
  refine arun_do rfl rfl rfl (ex_move (eV (v := (Bo ((decide (x1 = (A4.mk 1 1 1 1))) && (decide (x2 = (A4.mk 0 0 0 0)))))) rfl)) ?_
  refine arun_guard (v := (SL 1 cS ([([1, 0, 0, 0, 2] : Str)] : List Str))) (((decide (x1 = (A4.mk 1 1 1 1))) && (decide (x2 = (A4.mk 0 0 0 0)))) == true) rfl rfl rfl (fun hc => ex_buildSliceD (qs := [(0, (S ([1, 0, 0, 0, 2] : Str)))]) (cells := (([([1, 0, 0, 0, 2] : Str)] : List Str).flatMap cS)) Try.underlying28 s_9 (by decide) (evp rfl evp_nil) rfl (by kernel_rfl) (by kernel_rfl) (by kernel_rfl)) ?_
  obtain ⟨x3, hx3, h⟩ := bindS h
  refine arun_guard (v := (Value.agg ((cA4 c32) x3).toArray)) (((decide (x1 = (A4.mk 1 1 1 1))) && (decide (x2 = (A4.mk 0 0 0 0)))) == true) rfl rfl rfl (fun hc => ex_call0 (vs := [(SL 1 cS ([([1, 0, 0, 0, 2] : Str)] : List Str))]) (v := (Value.agg ((cA4 c32) x3).toArray)) rfl en_10 (cargs (evs (cond_of hc) evs_nil)) rfl (ok_sum_Of ([([1, 0, 0, 0, 2] : Str)] : List Str) x3 (gd_of hc hx3)) rfl) ?_
  refine arun_guard (v := (Value.agg ((cA4 c32) (A4.mk 3 4 5 6)).toArray)) (((decide (x1 = (A4.mk 1 1 1 1))) && (decide (x2 = (A4.mk 0 0 0 0)))) == true) rfl rfl rfl (fun hc => ex_build (qs := [(0, (U32 3)), (1, (U32 4)), (2, (U32 5)), (3, (U32 6))]) (v := (Value.agg ((cA4 c32) (A4.mk 3 4 5 6)).toArray)) (evp rfl (evp rfl (evp rfl (evp rfl evp_nil)))) (by kernel_rfl)) ?_
  refine arun_guard (v := (Bo (decide (x3 = (A4.mk 3 4 5 6))))) (((decide (x1 = (A4.mk 1 1 1 1))) && (decide (x2 = (A4.mk 0 0 0 0)))) == true) rfl rfl rfl (fun hc => ex_bin (vx := (Value.agg ((cA4 c32) x3).toArray)) (vy := (Value.agg ((cA4 c32) (A4.mk 3 4 5 6)).toArray)) (cond_of hc) (cond_of hc) eql_25) ?_
  refine arun_do rfl rfl rfl (ex_pick rfl pkAnd) ?_
  refine arun_do rfl rfl rfl (ex_assign (eV (v := (Bo (((decide (x1 = (A4.mk 1 1 1 1))) && (decide (x2 = (A4.mk 0 0 0 0)))) && (decide (x3 = (A4.mk 3 4 5 6)))))) rfl)) ?_
  refine arun_keepE [0] 0 0 (st' := ⟨16, 0, [(0, (Bo (((decide (x1 = (A4.mk 1 1 1 1))) && (decide (x2 = (A4.mk 0 0 0 0)))) && (decide (x3 = (A4.mk 3 4 5 6))))))], [], ⟨0, []⟩⟩) (by kernel_rfl) (by kernel_rfl) ?_
  show AWp _ _ _ _
  refine awp_ret ?_
  cases h
  exact ares1 (rtmp rfl (eV rfl))

noncomputable def M_ref1_Sum_k1 (c_1 : (Str → Int → Option (A4 UInt32))) (c_2 : (Int → (A4 UInt32) → Option (A4 UInt32))) (c_3 : (UInt32 → Int → Option (A4 UInt32))) (v1 : Str) (v6 : Int) (v7 : (A4 UInt32)) (v10 : Int) (y12 : UInt32) : Option (A4 UInt32) :=
  c_3 y12 (w64 (v10 - 1))
noncomputable def M_ref1_Sum_l4 (c_1 : (Str → Int → Option (A4 UInt32))) (c_2 : (Int → (A4 UInt32) → Option (A4 UInt32))) (c_3 : (UInt32 → Int → Option (A4 UInt32))) (v1 : Str) (v6 : Int) : Nat → UInt32 → Int → (A4 UInt32) → Option (A4 UInt32)
  | 0, _, _, _ => none
  | n4 + 1, v15, v16, v17 =>
  cond (decide (v16 < 4)) (Option.bind (inA 4 v16) fun (x19 : Unit) => Option.bind (A4.get v17 v16) fun (x20 : UInt32) => Option.bind (inA 4 v16) fun (x21 : Unit) => Option.bind (A4.set v17 v16 (x20 + v15)) fun (x22 : A4 UInt32) => Option.bind (inA 4 v16) fun (x23 : Unit) => Option.bind (A4.get x22 v16) fun (x24 : UInt32) => (M_ref1_Sum_l4 c_1 c_2 c_3 v1 v6 n4) x24 (w64 (v16 + 1)) x22) (c_2 (w64 (v6 + 4)) v17)
noncomputable def M_ref1_Sum_l3 (c_1 : (Str → Int → Option (A4 UInt32))) (c_2 : (Int → (A4 UInt32) → Option (A4 UInt32))) (v1 : Str) (v6 : Int) (v7 : (A4 UInt32)) : Nat → UInt32 → Int → Option (A4 UInt32)
  | 0, _, _ => none
  | n3 + 1, v9, v10 =>
  cond (decide (v10 ≥ 0)) (cond (decide ((w64 (v6 + v10)) < (v1.length : Int))) (Option.bind (getI v1 (w64 (v6 + v10))) fun (x14 : UInt8) => M_ref1_Sum_k1 c_1 c_2 (M_ref1_Sum_l3 c_1 c_2 v1 v6 v7 n3) v1 v6 v7 v10 ((v9 * 256) + x14.toUInt32)) (M_ref1_Sum_k1 c_1 c_2 (M_ref1_Sum_l3 c_1 c_2 v1 v6 v7 n3) v1 v6 v7 v10 (v9 * 256))) (M_ref1_Sum_l4 c_1 c_2 (M_ref1_Sum_l3 c_1 c_2 v1 v6 v7 n3) v1 v6 fuel v9 0 v7)
noncomputable def M_ref1_Sum_l2 (c_1 : (Str → Int → Option (A4 UInt32))) (v1 : Str) : Nat → Int → (A4 UInt32) → Option (A4 UInt32)
  | 0, _, _ => none
  | n2 + 1, v6, v7 =>
  cond (decide (v6 < (v1.length : Int))) (M_ref1_Sum_l3 c_1 (M_ref1_Sum_l2 c_1 v1 n2) v1 v6 v7 fuel 0 3) (some v7)
noncomputable def M_ref1_Sum_l1 (t0 : (List Str)) : Nat → Str → Int → Option (A4 UInt32)
  | 0, _, _ => none
  | n1 + 1, v1, v2 =>
  cond (decide (v2 < (t0.length : Int))) (Option.bind (getI t0 v2) fun (x4 : Str) => Option.bind (addS v1 x4) fun (x5 : Str) => (M_ref1_Sum_l1 t0 n1) x5 (w64 (v2 + 1))) (M_ref1_Sum_l2 (M_ref1_Sum_l1 t0 n1) v1 fuel 0 (A4.mk 0 0 0 0))
noncomputable def M_ref1_Sum (t0 : (List Str)) : Option (A4 UInt32) :=
  M_ref1_Sum_l1 t0 fuel ([] : Str) 0
theorem ok_ref1_Sum (t0 : (List Str)) (r : (A4 UInt32)) (h : M_ref1_Sum t0 = some r) : FFn Try.prog 11 [(SL 1 cS t0)] (Value.agg ((cA4 c32) r).toArray) := by
  refine FFn.of_body (n := 63) Try.func11 rfl Try.ntmps11 rfl rfl rfl rfl ?_
  show AWp _ _ _ ⟨63, 0, [(0, (SL 1 cS t0))], [], ⟨0, []⟩⟩
  unfold M_ref1_Sum at h
  refine awp_seq ?_
  refine awp_region ?_
  refine arun_do rfl rfl rfl (ex_alloc (k := 0) (zs := ((cA4 c32) (A4.mk 0 0 0 0))) (L' := [((cA4 c32) (A4.mk 0 0 0 0))]) z_25 rfl rfl rfl rfl) ?_
  refine arun_keepE [0, 2] 1 0 (st' := ⟨63, 0, [(0, (SL 1 cS t0)), (2, (LP 0 0))], [((cA4 c32) (A4.mk 0 0 0 0))], ⟨0, []⟩⟩) (by kernel_rfl) (by kernel_rfl) ?_
  show AWp _ _ _ _
  refine awp_seq ?_
  refine awp_region ?_
  refine arun_do rfl rfl rfl (ex_assign (eV (v := (S [])) rfl)) ?_
  refine arun_keepE [0, 2, 3] 1 0 (st' := ⟨63, 0, [(0, (SL 1 cS t0)), (2, (LP 0 0)), (3, (S []))], [((cA4 c32) (A4.mk 0 0 0 0))], ⟨0, []⟩⟩) (by kernel_rfl) (by kernel_rfl) ?_
  show AWp _ _ _ _
  refine awp_seq ?_
  refine awp_seq ?_
  refine awp_region ?_
  refine arun_do rfl rfl rfl (ex_assign (eV (v := (I 0)) rfl)) ?_
  refine arun_keepE [0, 2, 3, 4] 1 0 (st' := ⟨63, 0, [(0, (SL 1 cS t0)), (2, (LP 0 0)), (3, (S [])), (4, (I 0))], [((cA4 c32) (A4.mk 0 0 0 0))], ⟨0, []⟩⟩) (by kernel_rfl) (by kernel_rfl) ?_
  show AWp _ _ _ _
  refine awp_block ?_
  refine awp_loop (fun n s => ∃ (v1 : Str) (v2 : Int), s = ⟨63, 0, [(0, (SL 1 cS t0)), (2, (LP 0 0)), (3, (S v1)), (4, (I v2))], [((cA4 c32) (A4.mk 0 0 0 0))], ⟨0, []⟩⟩ ∧ M_ref1_Sum_l1 t0 n v1 v2 = some r) fuel (Exists.intro ([] : Str) (Exists.intro 0 (And.intro rfl h))) ?_
  rintro n s ⟨v1, v2, rfl, h⟩ -
  cases n with
  | zero => cases h
  | succ n1 =>
    unfold M_ref1_Sum_l1 at h
    refine awp_seq ?_
    refine awp_seq ?_
    refine awp_region ?_
    refine arun_do rfl rfl rfl (ex_move (eV (v := (I v2)) rfl)) ?_
    refine arun_do rfl rfl rfl (ex_move (eV (v := (SL 1 cS t0)) rfl)) ?_
    refine arun_do rfl rfl rfl (tx_lenD (xs := t0) ceS Try.underlying28 rfl) ?_
    refine arun_do rfl rfl rfl (ex_bin (vx := (I v2)) (vy := (I (t0.length : Int))) rfl rfl lssI_ok) ?_
    refine arun_keepE [0, 2, 3, 4, 13] 1 0 (st' := ⟨63, 0, [(0, (SL 1 cS t0)), (2, (LP 0 0)), (3, (S v1)), (4, (I v2)), (13, (Bo (decide (v2 < (t0.length : Int)))))], [((cA4 c32) (A4.mk 0 0 0 0))], ⟨0, []⟩⟩) (by kernel_rfl) (by kernel_rfl) ?_
    show AWp _ _ _ _
    rcases Bool.eq_false_or_eq_true (decide (v2 < (t0.length : Int))) with hb3 | hb3
    · rw [condT hb3] at h
      refine awp_condT (boT hb3) ?_
      refine awp_skip ?_
      show AWp _ _ _ _
      refine awp_seq ?_
      refine awp_block ?_
      refine awp_region ?_
      refine arun_do rfl rfl rfl (ex_move (eV (v := (S v1)) rfl)) ?_
      refine arun_do rfl rfl rfl (ex_move (eV (v := (SL 1 cS t0)) rfl)) ?_
      refine arun_do rfl rfl rfl (ex_move (eV (v := (I v2)) rfl)) ?_
      obtain ⟨x4, hx4, h⟩ := bindS h
      refine arun_do rfl rfl rfl (tx_idxD (c := cS) (xs := t0) (i := v2) ceS Try.underlying28 s_9 rfl rfl hx4) ?_
      refine arun_do rfl rfl rfl (tx_ldD1 (v := (S x4)) Try.underlying9 rfl rfl rfl) ?_
      obtain ⟨x5, hx5, h⟩ := bindS h
      refine arun_do rfl rfl rfl (ex_bin (vx := (S v1)) (vy := (S x4)) rfl rfl (addS_ok hx5)) ?_
      refine arun_do rfl rfl rfl (ex_assign (eV (v := (S x5)) rfl)) ?_
      refine arun_keepE [0, 2, 3, 4] 1 0 (st' := ⟨63, 0, [(0, (SL 1 cS t0)), (2, (LP 0 0)), (3, (S x5)), (4, (I v2))], [((cA4 c32) (A4.mk 0 0 0 0))], ⟨0, []⟩⟩) (by kernel_rfl) (by kernel_rfl) ?_
      show AWp _ _ _ _
      refine awp_region ?_
      refine arun_do rfl rfl rfl (ex_move (eV (v := (I v2)) rfl)) ?_
      refine arun_do rfl rfl rfl (ex_bin (vx := (I v2)) (vy := (I 1)) rfl rfl addI_ok) ?_
      refine arun_do rfl rfl rfl (ex_assign (eV (v := (I (w64 (v2 + 1)))) rfl)) ?_
      refine arun_keepE [0, 2, 3, 4] 1 0 (st' := ⟨63, 0, [(0, (SL 1 cS t0)), (2, (LP 0 0)), (3, (S x5)), (4, (I (w64 (v2 + 1))))], [((cA4 c32) (A4.mk 0 0 0 0))], ⟨0, []⟩⟩) (by kernel_rfl) (by kernel_rfl) ?_
      exact Exists.intro n1 (And.intro (Nat.lt_succ_self _) (Exists.intro x5 (Exists.intro (w64 (v2 + 1)) (And.intro rfl h))))
    · rw [condF hb3] at h
      refine awp_condF (boF hb3) ?_
      refine awp_exit ?_
      show AWp _ _ _ _
      refine awp_seq ?_
      refine awp_region ?_
      refine arun_do rfl rfl rfl (ex_alloc (k := 1) (zs := ((cA4 c32) (A4.mk 0 0 0 0))) (L' := [((cA4 c32) (A4.mk 0 0 0 0)), ((cA4 c32) (A4.mk 0 0 0 0))]) z_25 rfl rfl rfl rfl) ?_
      refine arun_keepE [2, 3, 5] 2 0 (st' := ⟨63, 0, [(2, (LP 0 0)), (3, (S v1)), (5, (LP 1 0))], [((cA4 c32) (A4.mk 0 0 0 0)), ((cA4 c32) (A4.mk 0 0 0 0))], ⟨0, []⟩⟩) (by kernel_rfl) (by kernel_rfl) ?_
      show AWp _ _ _ _
      refine awp_seq ?_
      refine awp_seq ?_
      refine awp_region ?_
      refine arun_do rfl rfl rfl (ex_assign (eV (v := (I 0)) rfl)) ?_
      refine arun_keepE [2, 3, 5, 6] 2 0 (st' := ⟨63, 0, [(2, (LP 0 0)), (3, (S v1)), (5, (LP 1 0)), (6, (I 0))], [((cA4 c32) (A4.mk 0 0 0 0)), ((cA4 c32) (A4.mk 0 0 0 0))], ⟨0, []⟩⟩) (by kernel_rfl) (by kernel_rfl) ?_
      show AWp _ _ _ _
      refine awp_block ?_
      refine awp_loop (fun n s => ∃ (v6 : Int) (v7 : (A4 UInt32)), s = ⟨63, 0, [(2, (LP 0 0)), (3, (S v1)), (5, (LP 1 0)), (6, (I v6))], [((cA4 c32) (A4.mk 0 0 0 0)), ((cA4 c32) v7)], ⟨0, []⟩⟩ ∧ M_ref1_Sum_l2 (M_ref1_Sum_l1 t0 n1) v1 n v6 v7 = some r) fuel (Exists.intro 0 (Exists.intro (A4.mk 0 0 0 0) (And.intro rfl h))) ?_
      rintro n s ⟨v6, v7, rfl, h⟩ -
      cases n with
      | zero => cases h
      | succ n2 =>
        unfold M_ref1_Sum_l2 at h
        refine awp_seq ?_
        refine awp_seq ?_
        refine awp_region ?_
        refine arun_do rfl rfl rfl (ex_move (eV (v := (I v6)) rfl)) ?_
        refine arun_do rfl rfl rfl (ex_move (eV (v := (S v1)) rfl)) ?_
        refine arun_do rfl rfl rfl (tx_lenS Try.underlying9 rfl) ?_
        refine arun_do rfl rfl rfl (ex_bin (vx := (I v6)) (vy := (I (v1.length : Int))) rfl rfl lssI_ok) ?_
        refine arun_keepE [2, 3, 5, 6, 25] 2 0 (st' := ⟨63, 0, [(2, (LP 0 0)), (3, (S v1)), (5, (LP 1 0)), (6, (I v6)), (25, (Bo (decide (v6 < (v1.length : Int)))))], [((cA4 c32) (A4.mk 0 0 0 0)), ((cA4 c32) v7)], ⟨0, []⟩⟩) (by kernel_rfl) (by kernel_rfl) ?_
        show AWp _ _ _ _
        rcases Bool.eq_false_or_eq_true (decide (v6 < (v1.length : Int))) with hb8 | hb8
        · rw [condT hb8] at h
          refine awp_condT (boT hb8) ?_
          refine awp_skip ?_
          show AWp _ _ _ _
          refine awp_seq ?_
          refine awp_block ?_
          refine awp_seq ?_
          refine awp_region ?_
          refine arun_do rfl rfl rfl (ex_assign (eV (v := (U32 0)) rfl)) ?_
          refine arun_keepE [2, 3, 5, 6, 7] 2 0 (st' := ⟨63, 0, [(2, (LP 0 0)), (3, (S v1)), (5, (LP 1 0)), (6, (I v6)), (7, (U32 0))], [((cA4 c32) (A4.mk 0 0 0 0)), ((cA4 c32) v7)], ⟨0, []⟩⟩) (by kernel_rfl) (by kernel_rfl) ?_
          show AWp _ _ _ _
          refine awp_seq ?_
          refine awp_seq ?_
          refine awp_region ?_
          refine arun_do rfl rfl rfl (ex_assign (eV (v := (I 3)) rfl)) ?_
          refine arun_keepE [2, 3, 5, 6, 7, 8] 2 0 (st' := ⟨63, 0, [(2, (LP 0 0)), (3, (S v1)), (5, (LP 1 0)), (6, (I v6)), (7, (U32 0)), (8, (I 3))], [((cA4 c32) (A4.mk 0 0 0 0)), ((cA4 c32) v7)], ⟨0, []⟩⟩) (by kernel_rfl) (by kernel_rfl) ?_
          show AWp _ _ _ _
          refine awp_block ?_
          refine awp_loop (fun n s => ∃ (v9 : UInt32) (v10 : Int), s = ⟨63, 0, [(2, (LP 0 0)), (3, (S v1)), (5, (LP 1 0)), (6, (I v6)), (7, (U32 v9)), (8, (I v10))], [((cA4 c32) (A4.mk 0 0 0 0)), ((cA4 c32) v7)], ⟨0, []⟩⟩ ∧ M_ref1_Sum_l3 (M_ref1_Sum_l1 t0 n1) (M_ref1_Sum_l2 (M_ref1_Sum_l1 t0 n1) v1 n2) v1 v6 v7 n v9 v10 = some r) fuel (Exists.intro 0 (Exists.intro 3 (And.intro rfl h))) ?_
          rintro n s ⟨v9, v10, rfl, h⟩ -
          cases n with
          | zero => cases h
          | succ n3 =>
            unfold M_ref1_Sum_l3 at h
            refine awp_seq ?_
            refine awp_seq ?_
            refine awp_region ?_
            refine arun_do rfl rfl rfl (ex_move (eV (v := (I v10)) rfl)) ?_
            refine arun_do rfl rfl rfl (ex_bin (vx := (I v10)) (vy := (I 0)) rfl rfl geqI_ok) ?_
            refine arun_keepE [2, 3, 5, 6, 7, 8, 29] 2 0 (st' := ⟨63, 0, [(2, (LP 0 0)), (3, (S v1)), (5, (LP 1 0)), (6, (I v6)), (7, (U32 v9)), (8, (I v10)), (29, (Bo (decide (v10 ≥ 0))))], [((cA4 c32) (A4.mk 0 0 0 0)), ((cA4 c32) v7)], ⟨0, []⟩⟩) (by kernel_rfl) (by kernel_rfl) ?_
            show AWp _ _ _ _
            rcases Bool.eq_false_or_eq_true (decide (v10 ≥ 0)) with hb11 | hb11
            · rw [condT hb11] at h
              refine awp_condT (boT hb11) ?_
              refine awp_skip ?_
              show AWp _ _ _ _
              refine awp_seqJ (fun s => ∃ (y12 : UInt32), s = ⟨63, 0, [(2, (LP 0 0)), (3, (S v1)), (5, (LP 1 0)), (6, (I v6)), (7, (U32 y12)), (8, (I v10))], [((cA4 c32) (A4.mk 0 0 0 0)), ((cA4 c32) v7)], ⟨0, []⟩⟩ ∧ M_ref1_Sum_k1 (M_ref1_Sum_l1 t0 n1) (M_ref1_Sum_l2 (M_ref1_Sum_l1 t0 n1) v1 n2) (M_ref1_Sum_l3 (M_ref1_Sum_l1 t0 n1) (M_ref1_Sum_l2 (M_ref1_Sum_l1 t0 n1) v1 n2) v1 v6 v7 n3) v1 v6 v7 v10 y12 = some r) ?_ ?_
              · refine awp_block ?_
                refine awp_seq ?_
                refine awp_region ?_
                refine arun_do rfl rfl rfl (ex_move (eV (v := (U32 v9)) rfl)) ?_
                refine arun_do rfl rfl rfl (ex_bin (vx := (U32 v9)) (vy := (U32 256)) rfl rfl mul32_ok) ?_
                refine arun_do rfl rfl rfl (ex_assign (eV (v := (U32 (v9 * 256))) rfl)) ?_
                refine arun_keepE [2, 3, 5, 6, 7, 8] 2 0 (st' := ⟨63, 0, [(2, (LP 0 0)), (3, (S v1)), (5, (LP 1 0)), (6, (I v6)), (7, (U32 (v9 * 256))), (8, (I v10))], [((cA4 c32) (A4.mk 0 0 0 0)), ((cA4 c32) v7)], ⟨0, []⟩⟩) (by kernel_rfl) (by kernel_rfl) ?_
                show AWp _ _ _ _
                refine awp_seq ?_
                refine awp_region ?_
                refine arun_do rfl rfl rfl (ex_move (eV (v := (I v6)) rfl)) ?_
                refine arun_do rfl rfl rfl (ex_move (eV (v := (I v10)) rfl)) ?_
                refine arun_do rfl rfl rfl (ex_bin (vx := (I v6)) (vy := (I v10)) rfl rfl addI_ok) ?_
                refine arun_do rfl rfl rfl (ex_move (eV (v := (S v1)) rfl)) ?_
                refine arun_do rfl rfl rfl (tx_lenS Try.underlying9 rfl) ?_
                refine arun_do rfl rfl rfl (ex_bin (vx := (I (w64 (v6 + v10)))) (vy := (I (v1.length : Int))) rfl rfl lssI_ok) ?_
                refine arun_keepE [2, 3, 5, 6, 7, 8, 39] 2 0 (st' := ⟨63, 0, [(2, (LP 0 0)), (3, (S v1)), (5, (LP 1 0)), (6, (I v6)), (7, (U32 (v9 * 256))), (8, (I v10)), (39, (Bo (decide ((w64 (v6 + v10)) < (v1.length : Int)))))], [((cA4 c32) (A4.mk 0 0 0 0)), ((cA4 c32) v7)], ⟨0, []⟩⟩) (by kernel_rfl) (by kernel_rfl) ?_
                show AWp _ _ _ _
                rcases Bool.eq_false_or_eq_true (decide ((w64 (v6 + v10)) < (v1.length : Int))) with hb13 | hb13
                · rw [condT hb13] at h
                  refine awp_condT (boT hb13) ?_
                  refine awp_region ?_
                  refine arun_do rfl rfl rfl (ex_move (eV (v := (U32 (v9 * 256))) rfl)) ?_
                  refine arun_do rfl rfl rfl (ex_move (eV (v := (S v1)) rfl)) ?_
                  refine arun_do rfl rfl rfl (ex_move (eV (v := (I v6)) rfl)) ?_
                  refine arun_do rfl rfl rfl (ex_move (eV (v := (I v10)) rfl)) ?_
                  refine arun_do rfl rfl rfl (ex_bin (vx := (I v6)) (vy := (I v10)) rfl rfl addI_ok) ?_
                  obtain ⟨x14, hx14, h⟩ := bindS h
                  refine arun_do rfl rfl rfl (tx_idxS (u := v1) (i := (w64 (v6 + v10))) Try.underlying9 rfl rfl hx14) ?_
                  refine arun_do rfl rfl rfl (tx_8_32 Try.underlying5 Try.underlying23 rfl) ?_
                  refine arun_do rfl rfl rfl (ex_bin (vx := (U32 (v9 * 256))) (vy := (U32 x14.toUInt32)) rfl rfl add32_ok) ?_
                  refine arun_do rfl rfl rfl (ex_assign (eV (v := (U32 ((v9 * 256) + x14.toUInt32))) rfl)) ?_
                  refine arun_keepE [2, 3, 5, 6, 7, 8] 2 0 (st' := ⟨63, 0, [(2, (LP 0 0)), (3, (S v1)), (5, (LP 1 0)), (6, (I v6)), (7, (U32 ((v9 * 256) + x14.toUInt32))), (8, (I v10))], [((cA4 c32) (A4.mk 0 0 0 0)), ((cA4 c32) v7)], ⟨0, []⟩⟩) (by kernel_rfl) (by kernel_rfl) ?_
                  exact (Exists.intro ((v9 * 256) + x14.toUInt32) (And.intro rfl h))
                · rw [condF hb13] at h
                  refine awp_condF (boF hb13) ?_
                  refine awp_keepE [2, 3, 5, 6, 7, 8] 2 0 (st' := ⟨63, 0, [(2, (LP 0 0)), (3, (S v1)), (5, (LP 1 0)), (6, (I v6)), (7, (U32 (v9 * 256))), (8, (I v10))], [((cA4 c32) (A4.mk 0 0 0 0)), ((cA4 c32) v7)], ⟨0, []⟩⟩) (by kernel_rfl) (by kernel_rfl) ?_
                  refine awp_skip ?_
                  exact (Exists.intro (v9 * 256) (And.intro rfl h))
              · rintro s ⟨y12, rfl, h⟩
                unfold M_ref1_Sum_k1 at h
                refine awp_region ?_
                refine arun_do rfl rfl rfl (ex_move (eV (v := (I v10)) rfl)) ?_
                refine arun_do rfl rfl rfl (ex_bin (vx := (I v10)) (vy := (I 1)) rfl rfl subI_ok) ?_
                refine arun_do rfl rfl rfl (ex_assign (eV (v := (I (w64 (v10 - 1)))) rfl)) ?_
                refine arun_keepE [2, 3, 5, 6, 7, 8] 2 0 (st' := ⟨63, 0, [(2, (LP 0 0)), (3, (S v1)), (5, (LP 1 0)), (6, (I v6)), (7, (U32 y12)), (8, (I (w64 (v10 - 1))))], [((cA4 c32) (A4.mk 0 0 0 0)), ((cA4 c32) v7)], ⟨0, []⟩⟩) (by kernel_rfl) (by kernel_rfl) ?_
                exact Exists.intro n3 (And.intro (Nat.lt_succ_self _) (Exists.intro y12 (Exists.intro (w64 (v10 - 1)) (And.intro rfl h))))
            · rw [condF hb11] at h
              refine awp_condF (boF hb11) ?_
              refine awp_exit ?_
              show AWp _ _ _ _
              refine awp_seq ?_
              refine awp_region ?_
              refine arun_do rfl rfl rfl (ex_assign (eV (v := (I 0)) rfl)) ?_
              refine arun_keepE [2, 3, 5, 6, 7, 9] 2 0 (st' := ⟨63, 0, [(2, (LP 0 0)), (3, (S v1)), (5, (LP 1 0)), (6, (I v6)), (7, (U32 v9)), (9, (I 0))], [((cA4 c32) (A4.mk 0 0 0 0)), ((cA4 c32) v7)], ⟨0, []⟩⟩) (by kernel_rfl) (by kernel_rfl) ?_
              show AWp _ _ _ _
              refine awp_block ?_
              refine awp_loop (fun n s => ∃ (v15 : UInt32) (v16 : Int) (v17 : (A4 UInt32)), s = ⟨63, 0, [(2, (LP 0 0)), (3, (S v1)), (5, (LP 1 0)), (6, (I v6)), (7, (U32 v15)), (9, (I v16))], [((cA4 c32) (A4.mk 0 0 0 0)), ((cA4 c32) v17)], ⟨0, []⟩⟩ ∧ M_ref1_Sum_l4 (M_ref1_Sum_l1 t0 n1) (M_ref1_Sum_l2 (M_ref1_Sum_l1 t0 n1) v1 n2) (M_ref1_Sum_l3 (M_ref1_Sum_l1 t0 n1) (M_ref1_Sum_l2 (M_ref1_Sum_l1 t0 n1) v1 n2) v1 v6 v7 n3) v1 v6 n v15 v16 v17 = some r) fuel (Exists.intro v9 (Exists.intro 0 (Exists.intro v7 (And.intro rfl h)))) ?_
              rintro n s ⟨v15, v16, v17, rfl, h⟩ -
              cases n with
              | zero => cases h
              | succ n4 =>
                unfold M_ref1_Sum_l4 at h
                refine awp_seq ?_
                refine awp_seq ?_
                refine awp_region ?_
                refine arun_do rfl rfl rfl (ex_move (eV (v := (I v16)) rfl)) ?_
                refine arun_do rfl rfl rfl (ex_bin (vx := (I v16)) (vy := (I 4)) rfl rfl lssI_ok) ?_
                refine arun_keepE [2, 3, 5, 6, 7, 9, 49] 2 0 (st' := ⟨63, 0, [(2, (LP 0 0)), (3, (S v1)), (5, (LP 1 0)), (6, (I v6)), (7, (U32 v15)), (9, (I v16)), (49, (Bo (decide (v16 < 4))))], [((cA4 c32) (A4.mk 0 0 0 0)), ((cA4 c32) v17)], ⟨0, []⟩⟩) (by kernel_rfl) (by kernel_rfl) ?_
                show AWp _ _ _ _
                rcases Bool.eq_false_or_eq_true (decide (v16 < 4)) with hb18 | hb18
                · rw [condT hb18] at h
                  refine awp_condT (boT hb18) ?_
                  refine awp_skip ?_
                  show AWp _ _ _ _
                  refine awp_seq ?_
                  refine awp_block ?_
                  refine awp_seq ?_
                  refine awp_region ?_
                  refine arun_do rfl rfl rfl (ex_move (eV (v := (I v16)) rfl)) ?_
                  refine arun_do rfl rfl rfl (ex_move (eV (v := (I v16)) rfl)) ?_
                  obtain ⟨x19, hx19, h⟩ := bindS h
                  refine arun_do rfl rfl rfl (ex_indexAddrA (i := v16) (v := (LP 1 (0 + v16.toNat * 1))) Try.underlying25 s_23 rfl rfl (inA_ok hx19) rfl) ?_
                  obtain ⟨x20, hx20, h⟩ := bindS h
                  refine arun_do rfl rfl rfl (tx_ldL1 (v := (U32 x20)) Try.underlying23 rfl rfl rfl (by obtain ⟨hi, hz⟩ | ⟨hi, hz⟩ | ⟨hi, hz⟩ | ⟨hi, hz⟩ := A4.get_some hx20 <;> (subst hz; simp only [hi]; rfl))) ?_
                  refine arun_do rfl rfl rfl (ex_move (eV (v := (U32 v15)) rfl)) ?_
                  refine arun_do rfl rfl rfl (ex_bin (vx := (U32 x20)) (vy := (U32 v15)) rfl rfl add32_ok) ?_
                  obtain ⟨x21, hx21, h⟩ := bindS h
                  refine arun_do rfl rfl rfl (ex_indexAddrA (i := v16) (v := (LP 1 (0 + v16.toNat * 1))) Try.underlying25 s_23 rfl rfl (inA_ok hx21) rfl) ?_
                  obtain ⟨x22, hx22, h⟩ := bindS h
                  refine arun_do0 rfl rfl (ex_storeL (vy := (U32 (x20 + v15))) (cs := ((cA4 c32) v17)) (vs := [(U32 (x20 + v15))]) (L' := [((cA4 c32) (A4.mk 0 0 0 0)), ((cA4 c32) x22)]) rfl (eV (v := (U32 (x20 + v15))) rfl) rfl s_23 rfl (by obtain ⟨hi, hz⟩ | ⟨hi, hz⟩ | ⟨hi, hz⟩ | ⟨hi, hz⟩ := A4.set_some hx22 <;> (simp only [hi]; exact Nat.le_of_ble_eq_true rfl)) (by obtain ⟨hi, hz⟩ | ⟨hi, hz⟩ | ⟨hi, hz⟩ | ⟨hi, hz⟩ := A4.set_some hx22 <;> (subst hz; simp only [hi]; rfl))) ?_
                  refine arun_keepE [2, 3, 5, 6, 9] 2 0 (st' := ⟨63, 0, [(2, (LP 0 0)), (3, (S v1)), (5, (LP 1 0)), (6, (I v6)), (9, (I v16))], [((cA4 c32) (A4.mk 0 0 0 0)), ((cA4 c32) x22)], ⟨0, []⟩⟩) (by kernel_rfl) (by kernel_rfl) ?_
                  show AWp _ _ _ _
                  refine awp_region ?_
                  refine arun_do rfl rfl rfl (ex_move (eV (v := (I v16)) rfl)) ?_
                  obtain ⟨x23, hx23, h⟩ := bindS h
                  refine arun_do rfl rfl rfl (ex_indexAddrA (i := v16) (v := (LP 1 (0 + v16.toNat * 1))) Try.underlying25 s_23 rfl rfl (inA_ok hx23) rfl) ?_
                  obtain ⟨x24, hx24, h⟩ := bindS h
                  refine arun_do rfl rfl rfl (tx_ldL1 (v := (U32 x24)) Try.underlying23 rfl rfl rfl (by obtain ⟨hi, hz⟩ | ⟨hi, hz⟩ | ⟨hi, hz⟩ | ⟨hi, hz⟩ := A4.get_some hx24 <;> (subst hz; simp only [hi]; rfl))) ?_
                  refine arun_do rfl rfl rfl (ex_assign (eV (v := (U32 x24)) rfl)) ?_
                  refine arun_keepE [2, 3, 5, 6, 7, 9] 2 0 (st' := ⟨63, 0, [(2, (LP 0 0)), (3, (S v1)), (5, (LP 1 0)), (6, (I v6)), (7, (U32 x24)), (9, (I v16))], [((cA4 c32) (A4.mk 0 0 0 0)), ((cA4 c32) x22)], ⟨0, []⟩⟩) (by kernel_rfl) (by kernel_rfl) ?_
                  show AWp _ _ _ _
                  refine awp_region ?_
                  refine arun_do rfl rfl rfl (ex_move (eV (v := (I v16)) rfl)) ?_
                  refine arun_do rfl rfl rfl (ex_bin (vx := (I v16)) (vy := (I 1)) rfl rfl addI_ok) ?_
                  refine arun_do rfl rfl rfl (ex_assign (eV (v := (I (w64 (v16 + 1)))) rfl)) ?_
                  refine arun_keepE [2, 3, 5, 6, 7, 9] 2 0 (st' := ⟨63, 0, [(2, (LP 0 0)), (3, (S v1)), (5, (LP 1 0)), (6, (I v6)), (7, (U32 x24)), (9, (I (w64 (v16 + 1))))], [((cA4 c32) (A4.mk 0 0 0 0)), ((cA4 c32) x22)], ⟨0, []⟩⟩) (by kernel_rfl) (by kernel_rfl) ?_
                  exact Exists.intro n4 (And.intro (Nat.lt_succ_self _) (Exists.intro x24 (Exists.intro (w64 (v16 + 1)) (Exists.intro x22 (And.intro rfl h)))))
                · rw [condF hb18] at h
                  refine awp_condF (boF hb18) ?_
                  refine awp_exit ?_
                  show AWp _ _ _ _
                  refine awp_region ?_
                  refine arun_do rfl rfl rfl (ex_move (eV (v := (I v6)) rfl)) ?_
                  refine arun_do rfl rfl rfl (ex_bin (vx := (I v6)) (vy := (I 4)) rfl rfl addI_ok) ?_
                  refine arun_do rfl rfl rfl (ex_assign (eV (v := (I (w64 (v6 + 4)))) rfl)) ?_
                  refine arun_keepE [2, 3, 5, 6] 2 0 (st' := ⟨63, 0, [(2, (LP 0 0)), (3, (S v1)), (5, (LP 1 0)), (6, (I (w64 (v6 + 4))))], [((cA4 c32) (A4.mk 0 0 0 0)), ((cA4 c32) v17)], ⟨0, []⟩⟩) (by kernel_rfl) (by kernel_rfl) ?_
                  exact Exists.intro n2 (And.intro (Nat.lt_succ_self _) (Exists.intro (w64 (v6 + 4)) (Exists.intro v17 (And.intro rfl h))))
        · rw [condF hb8] at h
          refine awp_condF (boF hb8) ?_
          refine awp_exit ?_
          show AWp _ _ _ _
          refine awp_seq ?_
          refine awp_region ?_
          refine arun_do rfl rfl rfl (tx_ldLA (vs := ((cA4 c32) v7)) Try.underlying25 rfl s_25 (by decide) rfl rfl rfl rfl) ?_
          refine arun_do0 rfl rfl (ex_storeL (vy := (Value.agg ((cA4 c32) v7).toArray)) (cs := ((cA4 c32) (A4.mk 0 0 0 0))) (vs := ((cA4 c32) v7)) (L' := [((cA4 c32) v7), ((cA4 c32) v7)]) rfl (eV (v := (Value.agg ((cA4 c32) v7).toArray)) rfl) rfl s_25 rfl (Nat.le_of_ble_eq_true rfl) (by kernel_rfl)) ?_
          refine arun_keepE [2] 1 0 (st' := ⟨63, 0, [(2, (LP 0 0))], [((cA4 c32) v7)], ⟨0, []⟩⟩) (by kernel_rfl) (by kernel_rfl) ?_
          show AWp _ _ _ _
          refine awp_ret ?_
          cases h
          exact ares1 (rcellL rfl rfl rfl (partA Try.underlying25 rfl s_25 (by decide) (Nat.le_of_ble_eq_true rfl) rfl))

end Go.Proofs
