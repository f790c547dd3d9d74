/- Pure models of functions of the program, and that its code does what they say: palimpref1 Sum, palimpref1 Of, palimpref1 To, palimpref1 BlockPtr. Written by a program. -/
import Derived.Test.YtjpgcfniahaelaaR56
import Derived.Test.YtjpgcfniahaelaaR5B
set_option maxRecDepth 20000
set_option maxHeartbeats 4000000
namespace Go.Proofs
open Go Go.Fhl
set_option linter.unusedVariables false
set_option linter.unusedSimpArgs false
noncomputable def M_ref1_Sum_k1 (c_1 : (Str → Int → Option (A4 UInt32))) (c_2 : (Int → (A4 UInt32) → Option (A4 UInt32))) (c_3 : (UInt32 → Int → Option (A4 UInt32))) (v1 : Str) (v6 : Int) (v7 : (A4 UInt32)) (v10 : Int) (y12 : UInt32) : Option (A4 UInt32) :=
  c_3 y12 (w64 (v10 - 1))
noncomputable def M_ref1_Sum_l4 (c_1 : (Str → Int → Option (A4 UInt32))) (c_2 : (Int → (A4 UInt32) → Option (A4 UInt32))) (c_3 : (UInt32 → Int → Option (A4 UInt32))) (v1 : Str) (v6 : Int) : Nat → UInt32 → Int → (A4 UInt32) → Option (A4 UInt32)
  | 0, _, _, _ => none
  | n4 + 1, v15, v16, v17 =>
  cond (decide (v16 < 4)) (Option.bind (inA 4 v16) fun (x19 : Unit) => Option.bind (A4.get v17 v16) fun (x20 : UInt32) => Option.bind (inA 4 v16) fun (x21 : Unit) => Option.bind (A4.set v17 v16 (x20 + v15)) fun (x22 : A4 UInt32) => Option.bind (inA 4 v16) fun (x23 : Unit) => Option.bind (A4.get x22 v16) fun (x24 : UInt32) => (M_ref1_Sum_l4 c_1 c_2 c_3 v1 v6 n4) x24 (w64 (v16 + 1)) x22) (c_2 (w64 (v6 + 4)) v17)
noncomputable def M_ref1_Sum_l3 (c_1 : (Str → Int → Option (A4 UInt32))) (c_2 : (Int → (A4 UInt32) → Option (A4 UInt32))) (v1 : Str) (v6 : Int) (v7 : (A4 UInt32)) : Nat → UInt32 → Int → Option (A4 UInt32)
  | 0, _, _ => none
  | n3 + 1, v9, v10 =>
  cond (decide (v10 ≥ 0)) (cond (decide ((w64 (v6 + v10)) < (v1.length : Int))) (Option.bind (getI v1 (w64 (v6 + v10))) fun (x14 : UInt8) => M_ref1_Sum_k1 c_1 c_2 (M_ref1_Sum_l3 c_1 c_2 v1 v6 v7 n3) v1 v6 v7 v10 ((v9 * 256) + x14.toUInt32)) (M_ref1_Sum_k1 c_1 c_2 (M_ref1_Sum_l3 c_1 c_2 v1 v6 v7 n3) v1 v6 v7 v10 (v9 * 256))) (M_ref1_Sum_l4 c_1 c_2 (M_ref1_Sum_l3 c_1 c_2 v1 v6 v7 n3) v1 v6 fuel v9 0 v7)
noncomputable def M_ref1_Sum_l2 (c_1 : (Str → Int → Option (A4 UInt32))) (v1 : Str) : Nat → Int → (A4 UInt32) → Option (A4 UInt32)
  | 0, _, _ => none
  | n2 + 1, v6, v7 =>
  cond (decide (v6 < (v1.length : Int))) (M_ref1_Sum_l3 c_1 (M_ref1_Sum_l2 c_1 v1 n2) v1 v6 v7 fuel 0 3) (some v7)
noncomputable def M_ref1_Sum_l1 (t0 : (List Str)) : Nat → Str → Int → Option (A4 UInt32)
  | 0, _, _ => none
  | n1 + 1, v1, v2 =>
  cond (decide (v2 < (t0.length : Int))) (Option.bind (getI t0 v2) fun (x4 : Str) => Option.bind (addS v1 x4) fun (x5 : Str) => (M_ref1_Sum_l1 t0 n1) x5 (w64 (v2 + 1))) (M_ref1_Sum_l2 (M_ref1_Sum_l1 t0 n1) v1 fuel 0 (A4.mk 0 0 0 0))
noncomputable def M_ref1_Sum (t0 : (List Str)) : Option (A4 UInt32) :=
  M_ref1_Sum_l1 t0 fuel ([] : Str) 0
theorem ok_ref1_Sum (t0 : (List Str)) (r : (A4 UInt32)) (h : M_ref1_Sum t0 = some r) : FFn Try.prog 38 [(SL 1 cS t0)] (Value.agg ((cA4 c32) r).toArray) := by
  refine FFn.of_body (n := 63) Try.func38 rfl Try.ntmps38 rfl rfl rfl rfl ?_
  show AWp _ _ _ ⟨63, 0, [(0, (SL 1 cS t0))], [], ⟨0, []⟩⟩
  unfold M_ref1_Sum at h
  refine awp_seq ?_
  refine awp_region ?_
  refine arun_do rfl rfl rfl (ex_alloc (k := 0) (zs := ((cA4 c32) (A4.mk 0 0 0 0))) (L' := [((cA4 c32) (A4.mk 0 0 0 0))]) z_30 rfl rfl rfl rfl) ?_
  refine arun_keepE [0, 2] 1 0 (st' := ⟨63, 0, [(0, (SL 1 cS t0)), (2, (LP 0 0))], [((cA4 c32) (A4.mk 0 0 0 0))], ⟨0, []⟩⟩) (by kernel_rfl) (by kernel_rfl) ?_
  show AWp _ _ _ _
  refine awp_seq ?_
  refine awp_region ?_
  refine arun_do rfl rfl rfl (ex_assign (eV (v := (S [])) rfl)) ?_
  refine arun_keepE [0, 2, 3] 1 0 (st' := ⟨63, 0, [(0, (SL 1 cS t0)), (2, (LP 0 0)), (3, (S []))], [((cA4 c32) (A4.mk 0 0 0 0))], ⟨0, []⟩⟩) (by kernel_rfl) (by kernel_rfl) ?_
  show AWp _ _ _ _
  refine awp_seq ?_
  refine awp_seq ?_
  refine awp_region ?_
  refine arun_do rfl rfl rfl (ex_assign (eV (v := (I 0)) rfl)) ?_
  refine arun_keepE [0, 2, 3, 4] 1 0 (st' := ⟨63, 0, [(0, (SL 1 cS t0)), (2, (LP 0 0)), (3, (S [])), (4, (I 0))], [((cA4 c32) (A4.mk 0 0 0 0))], ⟨0, []⟩⟩) (by kernel_rfl) (by kernel_rfl) ?_
  show AWp _ _ _ _
  refine awp_block ?_
  refine awp_loop (fun n s => ∃ (v1 : Str) (v2 : Int), s = ⟨63, 0, [(0, (SL 1 cS t0)), (2, (LP 0 0)), (3, (S v1)), (4, (I v2))], [((cA4 c32) (A4.mk 0 0 0 0))], ⟨0, []⟩⟩ ∧ M_ref1_Sum_l1 t0 n v1 v2 = some r) fuel (Exists.intro ([] : Str) (Exists.intro 0 (And.intro rfl h))) ?_
  rintro n s ⟨v1, v2, rfl, h⟩ -
  cases n with
  | zero => cases h
  | succ n1 =>
    unfold M_ref1_Sum_l1 at h
    refine awp_seq ?_
    refine awp_seq ?_
    refine awp_region ?_
    refine arun_do rfl rfl rfl (ex_move (eV (v := (I v2)) rfl)) ?_
    refine arun_do rfl rfl rfl (ex_move (eV (v := (SL 1 cS t0)) rfl)) ?_
    refine arun_do rfl rfl rfl (tx_lenD (xs := t0) ceS Try.underlying35 rfl) ?_
    refine arun_do rfl rfl rfl (ex_bin (vx := (I v2)) (vy := (I (t0.length : Int))) rfl rfl lssI_ok) ?_
    refine arun_keepE [0, 2, 3, 4, 13] 1 0 (st' := ⟨63, 0, [(0, (SL 1 cS t0)), (2, (LP 0 0)), (3, (S v1)), (4, (I v2)), (13, (Bo (decide (v2 < (t0.length : Int)))))], [((cA4 c32) (A4.mk 0 0 0 0))], ⟨0, []⟩⟩) (by kernel_rfl) (by kernel_rfl) ?_
    show AWp _ _ _ _
    rcases Bool.eq_false_or_eq_true (decide (v2 < (t0.length : Int))) with hb3 | hb3
    · rw [condT hb3] at h
      refine awp_condT (boT hb3) ?_
      refine awp_skip ?_
      show AWp _ _ _ _
      refine awp_seq ?_
      refine awp_block ?_
      refine awp_region ?_
      refine arun_do rfl rfl rfl (ex_move (eV (v := (S v1)) rfl)) ?_
      refine arun_do rfl rfl rfl (ex_move (eV (v := (SL 1 cS t0)) rfl)) ?_
      refine arun_do rfl rfl rfl (ex_move (eV (v := (I v2)) rfl)) ?_
      obtain ⟨x4, hx4, h⟩ := bindS h
      refine arun_do rfl rfl rfl (tx_idxD (c := cS) (xs := t0) (i := v2) ceS Try.underlying35 s_9 rfl rfl hx4) ?_
      refine arun_do rfl rfl rfl (tx_ldD1 (v := (S x4)) Try.underlying9 rfl rfl rfl) ?_
      obtain ⟨x5, hx5, h⟩ := bindS h
      refine arun_do rfl rfl rfl (ex_bin (vx := (S v1)) (vy := (S x4)) rfl rfl (addS_ok hx5)) ?_
      refine arun_do rfl rfl rfl (ex_assign (eV (v := (S x5)) rfl)) ?_
      refine arun_keepE [0, 2, 3, 4] 1 0 (st' := ⟨63, 0, [(0, (SL 1 cS t0)), (2, (LP 0 0)), (3, (S x5)), (4, (I v2))], [((cA4 c32) (A4.mk 0 0 0 0))], ⟨0, []⟩⟩) (by kernel_rfl) (by kernel_rfl) ?_
      show AWp _ _ _ _
      refine awp_region ?_
      refine arun_do rfl rfl rfl (ex_move (eV (v := (I v2)) rfl)) ?_
      refine arun_do rfl rfl rfl (ex_bin (vx := (I v2)) (vy := (I 1)) rfl rfl addI_ok) ?_
      refine arun_do rfl rfl rfl (ex_assign (eV (v := (I (w64 (v2 + 1)))) rfl)) ?_
      refine arun_keepE [0, 2, 3, 4] 1 0 (st' := ⟨63, 0, [(0, (SL 1 cS t0)), (2, (LP 0 0)), (3, (S x5)), (4, (I (w64 (v2 + 1))))], [((cA4 c32) (A4.mk 0 0 0 0))], ⟨0, []⟩⟩) (by kernel_rfl) (by kernel_rfl) ?_
      exact Exists.intro n1 (And.intro (Nat.lt_succ_self _) (Exists.intro x5 (Exists.intro (w64 (v2 + 1)) (And.intro rfl h))))
    · rw [condF hb3] at h
      refine awp_condF (boF hb3) ?_
      refine awp_exit ?_
      show AWp _ _ _ _
      refine awp_seq ?_
      refine awp_region ?_
      refine arun_do rfl rfl rfl (ex_alloc (k := 1) (zs := ((cA4 c32) (A4.mk 0 0 0 0))) (L' := [((cA4 c32) (A4.mk 0 0 0 0)), ((cA4 c32) (A4.mk 0 0 0 0))]) z_30 rfl rfl rfl rfl) ?_
      refine arun_keepE [2, 3, 5] 2 0 (st' := ⟨63, 0, [(2, (LP 0 0)), (3, (S v1)), (5, (LP 1 0))], [((cA4 c32) (A4.mk 0 0 0 0)), ((cA4 c32) (A4.mk 0 0 0 0))], ⟨0, []⟩⟩) (by kernel_rfl) (by kernel_rfl) ?_
      show AWp _ _ _ _
      refine awp_seq ?_
      refine awp_seq ?_
      refine awp_region ?_
      refine arun_do rfl rfl rfl (ex_assign (eV (v := (I 0)) rfl)) ?_
      refine arun_keepE [2, 3, 5, 6] 2 0 (st' := ⟨63, 0, [(2, (LP 0 0)), (3, (S v1)), (5, (LP 1 0)), (6, (I 0))], [((cA4 c32) (A4.mk 0 0 0 0)), ((cA4 c32) (A4.mk 0 0 0 0))], ⟨0, []⟩⟩) (by kernel_rfl) (by kernel_rfl) ?_
      show AWp _ _ _ _
      refine awp_block ?_
      refine awp_loop (fun n s => ∃ (v6 : Int) (v7 : (A4 UInt32)), s = ⟨63, 0, [(2, (LP 0 0)), (3, (S v1)), (5, (LP 1 0)), (6, (I v6))], [((cA4 c32) (A4.mk 0 0 0 0)), ((cA4 c32) v7)], ⟨0, []⟩⟩ ∧ M_ref1_Sum_l2 (M_ref1_Sum_l1 t0 n1) v1 n v6 v7 = some r) fuel (Exists.intro 0 (Exists.intro (A4.mk 0 0 0 0) (And.intro rfl h))) ?_
      rintro n s ⟨v6, v7, rfl, h⟩ -
      cases n with
      | zero => cases h
      | succ n2 =>
        unfold M_ref1_Sum_l2 at h
        refine awp_seq ?_
        refine awp_seq ?_
        refine awp_region ?_
        refine arun_do rfl rfl rfl (ex_move (eV (v := (I v6)) rfl)) ?_
        refine arun_do rfl rfl rfl (ex_move (eV (v := (S v1)) rfl)) ?_
        refine arun_do rfl rfl rfl (tx_lenS Try.underlying9 rfl) ?_
        refine arun_do rfl rfl rfl (ex_bin (vx := (I v6)) (vy := (I (v1.length : Int))) rfl rfl lssI_ok) ?_
        refine arun_keepE [2, 3, 5, 6, 25] 2 0 (st' := ⟨63, 0, [(2, (LP 0 0)), (3, (S v1)), (5, (LP 1 0)), (6, (I v6)), (25, (Bo (decide (v6 < (v1.length : Int)))))], [((cA4 c32) (A4.mk 0 0 0 0)), ((cA4 c32) v7)], ⟨0, []⟩⟩) (by kernel_rfl) (by kernel_rfl) ?_
        show AWp _ _ _ _
        rcases Bool.eq_false_or_eq_true (decide (v6 < (v1.length : Int))) with hb8 | hb8
        · rw [condT hb8] at h
          refine awp_condT (boT hb8) ?_
          refine awp_skip ?_
          show AWp _ _ _ _
          refine awp_seq ?_
          refine awp_block ?_
          refine awp_seq ?_
          refine awp_region ?_
          refine arun_do rfl rfl rfl (ex_assign (eV (v := (U32 0)) rfl)) ?_
          refine arun_keepE [2, 3, 5, 6, 7] 2 0 (st' := ⟨63, 0, [(2, (LP 0 0)), (3, (S v1)), (5, (LP 1 0)), (6, (I v6)), (7, (U32 0))], [((cA4 c32) (A4.mk 0 0 0 0)), ((cA4 c32) v7)], ⟨0, []⟩⟩) (by kernel_rfl) (by kernel_rfl) ?_
          show AWp _ _ _ _
          refine awp_seq ?_
          refine awp_seq ?_
          refine awp_region ?_
          refine arun_do rfl rfl rfl (ex_assign (eV (v := (I 3)) rfl)) ?_
          refine arun_keepE [2, 3, 5, 6, 7, 8] 2 0 (st' := ⟨63, 0, [(2, (LP 0 0)), (3, (S v1)), (5, (LP 1 0)), (6, (I v6)), (7, (U32 0)), (8, (I 3))], [((cA4 c32) (A4.mk 0 0 0 0)), ((cA4 c32) v7)], ⟨0, []⟩⟩) (by kernel_rfl) (by kernel_rfl) ?_
          show AWp _ _ _ _
          refine awp_block ?_
          refine awp_loop (fun n s => ∃ (v9 : UInt32) (v10 : Int), s = ⟨63, 0, [(2, (LP 0 0)), (3, (S v1)), (5, (LP 1 0)), (6, (I v6)), (7, (U32 v9)), (8, (I v10))], [((cA4 c32) (A4.mk 0 0 0 0)), ((cA4 c32) v7)], ⟨0, []⟩⟩ ∧ M_ref1_Sum_l3 (M_ref1_Sum_l1 t0 n1) (M_ref1_Sum_l2 (M_ref1_Sum_l1 t0 n1) v1 n2) v1 v6 v7 n v9 v10 = some r) fuel (Exists.intro 0 (Exists.intro 3 (And.intro rfl h))) ?_
          rintro n s ⟨v9, v10, rfl, h⟩ -
          cases n with
          | zero => cases h
          | succ n3 =>
            unfold M_ref1_Sum_l3 at h
            refine awp_seq ?_
            refine awp_seq ?_
            refine awp_region ?_
            refine arun_do rfl rfl rfl (ex_move (eV (v := (I v10)) rfl)) ?_
            refine arun_do rfl rfl rfl (ex_bin (vx := (I v10)) (vy := (I 0)) rfl rfl geqI_ok) ?_
            refine arun_keepE [2, 3, 5, 6, 7, 8, 29] 2 0 (st' := ⟨63, 0, [(2, (LP 0 0)), (3, (S v1)), (5, (LP 1 0)), (6, (I v6)), (7, (U32 v9)), (8, (I v10)), (29, (Bo (decide (v10 ≥ 0))))], [((cA4 c32) (A4.mk 0 0 0 0)), ((cA4 c32) v7)], ⟨0, []⟩⟩) (by kernel_rfl) (by kernel_rfl) ?_
            show AWp _ _ _ _
            rcases Bool.eq_false_or_eq_true (decide (v10 ≥ 0)) with hb11 | hb11
            · rw [condT hb11] at h
              refine awp_condT (boT hb11) ?_
              refine awp_skip ?_
              show AWp _ _ _ _
              refine awp_seqJ (fun s => ∃ (y12 : UInt32), s = ⟨63, 0, [(2, (LP 0 0)), (3, (S v1)), (5, (LP 1 0)), (6, (I v6)), (7, (U32 y12)), (8, (I v10))], [((cA4 c32) (A4.mk 0 0 0 0)), ((cA4 c32) v7)], ⟨0, []⟩⟩ ∧ M_ref1_Sum_k1 (M_ref1_Sum_l1 t0 n1) (M_ref1_Sum_l2 (M_ref1_Sum_l1 t0 n1) v1 n2) (M_ref1_Sum_l3 (M_ref1_Sum_l1 t0 n1) (M_ref1_Sum_l2 (M_ref1_Sum_l1 t0 n1) v1 n2) v1 v6 v7 n3) v1 v6 v7 v10 y12 = some r) ?_ ?_
              · refine awp_block ?_
                refine awp_seq ?_
                refine awp_region ?_
                refine arun_do rfl rfl rfl (ex_move (eV (v := (U32 v9)) rfl)) ?_
                refine arun_do rfl rfl rfl (ex_bin (vx := (U32 v9)) (vy := (U32 256)) rfl rfl mul32_ok) ?_
                refine arun_do rfl rfl rfl (ex_assign (eV (v := (U32 (v9 * 256))) rfl)) ?_
                refine arun_keepE [2, 3, 5, 6, 7, 8] 2 0 (st' := ⟨63, 0, [(2, (LP 0 0)), (3, (S v1)), (5, (LP 1 0)), (6, (I v6)), (7, (U32 (v9 * 256))), (8, (I v10))], [((cA4 c32) (A4.mk 0 0 0 0)), ((cA4 c32) v7)], ⟨0, []⟩⟩) (by kernel_rfl) (by kernel_rfl) ?_
                show AWp _ _ _ _
                refine awp_seq ?_
                refine awp_region ?_
                refine arun_do rfl rfl rfl (ex_move (eV (v := (I v6)) rfl)) ?_
                refine arun_do rfl rfl rfl (ex_move (eV (v := (I v10)) rfl)) ?_
                refine arun_do rfl rfl rfl (ex_bin (vx := (I v6)) (vy := (I v10)) rfl rfl addI_ok) ?_
                refine arun_do rfl rfl rfl (ex_move (eV (v := (S v1)) rfl)) ?_
                refine arun_do rfl rfl rfl (tx_lenS Try.underlying9 rfl) ?_
                refine arun_do rfl rfl rfl (ex_bin (vx := (I (w64 (v6 + v10)))) (vy := (I (v1.length : Int))) rfl rfl lssI_ok) ?_
                refine arun_keepE [2, 3, 5, 6, 7, 8, 39] 2 0 (st' := ⟨63, 0, [(2, (LP 0 0)), (3, (S v1)), (5, (LP 1 0)), (6, (I v6)), (7, (U32 (v9 * 256))), (8, (I v10)), (39, (Bo (decide ((w64 (v6 + v10)) < (v1.length : Int)))))], [((cA4 c32) (A4.mk 0 0 0 0)), ((cA4 c32) v7)], ⟨0, []⟩⟩) (by kernel_rfl) (by kernel_rfl) ?_
                show AWp _ _ _ _
                rcases Bool.eq_false_or_eq_true (decide ((w64 (v6 + v10)) < (v1.length : Int))) with hb13 | hb13
                · rw [condT hb13] at h
                  refine awp_condT (boT hb13) ?_
                  refine awp_region ?_
                  refine arun_do rfl rfl rfl (ex_move (eV (v := (U32 (v9 * 256))) rfl)) ?_
                  refine arun_do rfl rfl rfl (ex_move (eV (v := (S v1)) rfl)) ?_
                  refine arun_do rfl rfl rfl (ex_move (eV (v := (I v6)) rfl)) ?_
                  refine arun_do rfl rfl rfl (ex_move (eV (v := (I v10)) rfl)) ?_
                  refine arun_do rfl rfl rfl (ex_bin (vx := (I v6)) (vy := (I v10)) rfl rfl addI_ok) ?_
                  obtain ⟨x14, hx14, h⟩ := bindS h
                  refine arun_do rfl rfl rfl (tx_idxS (u := v1) (i := (w64 (v6 + v10))) Try.underlying9 rfl rfl hx14) ?_
                  refine arun_do rfl rfl rfl (tx_8_32 Try.underlying5 Try.underlying28 rfl) ?_
                  refine arun_do rfl rfl rfl (ex_bin (vx := (U32 (v9 * 256))) (vy := (U32 x14.toUInt32)) rfl rfl add32_ok) ?_
                  refine arun_do rfl rfl rfl (ex_assign (eV (v := (U32 ((v9 * 256) + x14.toUInt32))) rfl)) ?_
                  refine arun_keepE [2, 3, 5, 6, 7, 8] 2 0 (st' := ⟨63, 0, [(2, (LP 0 0)), (3, (S v1)), (5, (LP 1 0)), (6, (I v6)), (7, (U32 ((v9 * 256) + x14.toUInt32))), (8, (I v10))], [((cA4 c32) (A4.mk 0 0 0 0)), ((cA4 c32) v7)], ⟨0, []⟩⟩) (by kernel_rfl) (by kernel_rfl) ?_
                  exact (Exists.intro ((v9 * 256) + x14.toUInt32) (And.intro rfl h))
                · rw [condF hb13] at h
                  refine awp_condF (boF hb13) ?_
                  refine awp_keepE [2, 3, 5, 6, 7, 8] 2 0 (st' := ⟨63, 0, [(2, (LP 0 0)), (3, (S v1)), (5, (LP 1 0)), (6, (I v6)), (7, (U32 (v9 * 256))), (8, (I v10))], [((cA4 c32) (A4.mk 0 0 0 0)), ((cA4 c32) v7)], ⟨0, []⟩⟩) (by kernel_rfl) (by kernel_rfl) ?_
                  refine awp_skip ?_
                  exact (Exists.intro (v9 * 256) (And.intro rfl h))
              · rintro s ⟨y12, rfl, h⟩
                unfold M_ref1_Sum_k1 at h
                refine awp_region ?_
                refine arun_do rfl rfl rfl (ex_move (eV (v := (I v10)) rfl)) ?_
                refine arun_do rfl rfl rfl (ex_bin (vx := (I v10)) (vy := (I 1)) rfl rfl subI_ok) ?_
                refine arun_do rfl rfl rfl (ex_assign (eV (v := (I (w64 (v10 - 1)))) rfl)) ?_
                refine arun_keepE [2, 3, 5, 6, 7, 8] 2 0 (st' := ⟨63, 0, [(2, (LP 0 0)), (3, (S v1)), (5, (LP 1 0)), (6, (I v6)), (7, (U32 y12)), (8, (I (w64 (v10 - 1))))], [((cA4 c32) (A4.mk 0 0 0 0)), ((cA4 c32) v7)], ⟨0, []⟩⟩) (by kernel_rfl) (by kernel_rfl) ?_
                exact Exists.intro n3 (And.intro (Nat.lt_succ_self _) (Exists.intro y12 (Exists.intro (w64 (v10 - 1)) (And.intro rfl h))))
            · rw [condF hb11] at h
              refine awp_condF (boF hb11) ?_
              refine awp_exit ?_
              show AWp _ _ _ _
              refine awp_seq ?_
              refine awp_region ?_
              refine arun_do rfl rfl rfl (ex_assign (eV (v := (I 0)) rfl)) ?_
              refine arun_keepE [2, 3, 5, 6, 7, 9] 2 0 (st' := ⟨63, 0, [(2, (LP 0 0)), (3, (S v1)), (5, (LP 1 0)), (6, (I v6)), (7, (U32 v9)), (9, (I 0))], [((cA4 c32) (A4.mk 0 0 0 0)), ((cA4 c32) v7)], ⟨0, []⟩⟩) (by kernel_rfl) (by kernel_rfl) ?_
              show AWp _ _ _ _
              refine awp_block ?_
              refine awp_loop (fun n s => ∃ (v15 : UInt32) (v16 : Int) (v17 : (A4 UInt32)), s = ⟨63, 0, [(2, (LP 0 0)), (3, (S v1)), (5, (LP 1 0)), (6, (I v6)), (7, (U32 v15)), (9, (I v16))], [((cA4 c32) (A4.mk 0 0 0 0)), ((cA4 c32) v17)], ⟨0, []⟩⟩ ∧ M_ref1_Sum_l4 (M_ref1_Sum_l1 t0 n1) (M_ref1_Sum_l2 (M_ref1_Sum_l1 t0 n1) v1 n2) (M_ref1_Sum_l3 (M_ref1_Sum_l1 t0 n1) (M_ref1_Sum_l2 (M_ref1_Sum_l1 t0 n1) v1 n2) v1 v6 v7 n3) v1 v6 n v15 v16 v17 = some r) fuel (Exists.intro v9 (Exists.intro 0 (Exists.intro v7 (And.intro rfl h)))) ?_
              rintro n s ⟨v15, v16, v17, rfl, h⟩ -
              cases n with
              | zero => cases h
              | succ n4 =>
                unfold M_ref1_Sum_l4 at h
                refine awp_seq ?_
                refine awp_seq ?_
                refine awp_region ?_
                refine arun_do rfl rfl rfl (ex_move (eV (v := (I v16)) rfl)) ?_
                refine arun_do rfl rfl rfl (ex_bin (vx := (I v16)) (vy := (I 4)) rfl rfl lssI_ok) ?_
                refine arun_keepE [2, 3, 5, 6, 7, 9, 49] 2 0 (st' := ⟨63, 0, [(2, (LP 0 0)), (3, (S v1)), (5, (LP 1 0)), (6, (I v6)), (7, (U32 v15)), (9, (I v16)), (49, (Bo (decide (v16 < 4))))], [((cA4 c32) (A4.mk 0 0 0 0)), ((cA4 c32) v17)], ⟨0, []⟩⟩) (by kernel_rfl) (by kernel_rfl) ?_
                show AWp _ _ _ _
                rcases Bool.eq_false_or_eq_true (decide (v16 < 4)) with hb18 | hb18
                · rw [condT hb18] at h
                  refine awp_condT (boT hb18) ?_
                  refine awp_skip ?_
                  show AWp _ _ _ _
                  refine awp_seq ?_
                  refine awp_block ?_
                  refine awp_seq ?_
                  refine awp_region ?_
                  refine arun_do rfl rfl rfl (ex_move (eV (v := (I v16)) rfl)) ?_
                  refine arun_do rfl rfl rfl (ex_move (eV (v := (I v16)) rfl)) ?_
                  obtain ⟨x19, hx19, h⟩ := bindS h
                  refine arun_do rfl rfl rfl (ex_indexAddrA (i := v16) (v := (LP 1 (0 + v16.toNat * 1))) Try.underlying30 s_28 rfl rfl (inA_ok hx19) rfl) ?_
                  obtain ⟨x20, hx20, h⟩ := bindS h
                  refine arun_do rfl rfl rfl (tx_ldL1 (v := (U32 x20)) Try.underlying28 rfl rfl rfl (by obtain ⟨hi, hz⟩ | ⟨hi, hz⟩ | ⟨hi, hz⟩ | ⟨hi, hz⟩ := A4.get_some hx20 <;> (subst hz; simp only [hi]; rfl))) ?_
                  refine arun_do rfl rfl rfl (ex_move (eV (v := (U32 v15)) rfl)) ?_
                  refine arun_do rfl rfl rfl (ex_bin (vx := (U32 x20)) (vy := (U32 v15)) rfl rfl add32_ok) ?_
                  obtain ⟨x21, hx21, h⟩ := bindS h
                  refine arun_do rfl rfl rfl (ex_indexAddrA (i := v16) (v := (LP 1 (0 + v16.toNat * 1))) Try.underlying30 s_28 rfl rfl (inA_ok hx21) rfl) ?_
                  obtain ⟨x22, hx22, h⟩ := bindS h
                  refine arun_do0 rfl rfl (ex_storeL (vy := (U32 (x20 + v15))) (cs := ((cA4 c32) v17)) (vs := [(U32 (x20 + v15))]) (L' := [((cA4 c32) (A4.mk 0 0 0 0)), ((cA4 c32) x22)]) rfl (eV (v := (U32 (x20 + v15))) rfl) rfl s_28 rfl (by obtain ⟨hi, hz⟩ | ⟨hi, hz⟩ | ⟨hi, hz⟩ | ⟨hi, hz⟩ := A4.set_some hx22 <;> (simp only [hi]; exact Nat.le_of_ble_eq_true rfl)) (by obtain ⟨hi, hz⟩ | ⟨hi, hz⟩ | ⟨hi, hz⟩ | ⟨hi, hz⟩ := A4.set_some hx22 <;> (subst hz; simp only [hi]; rfl))) ?_
                  refine arun_keepE [2, 3, 5, 6, 9] 2 0 (st' := ⟨63, 0, [(2, (LP 0 0)), (3, (S v1)), (5, (LP 1 0)), (6, (I v6)), (9, (I v16))], [((cA4 c32) (A4.mk 0 0 0 0)), ((cA4 c32) x22)], ⟨0, []⟩⟩) (by kernel_rfl) (by kernel_rfl) ?_
                  show AWp _ _ _ _
                  refine awp_region ?_
                  refine arun_do rfl rfl rfl (ex_move (eV (v := (I v16)) rfl)) ?_
                  obtain ⟨x23, hx23, h⟩ := bindS h
                  refine arun_do rfl rfl rfl (ex_indexAddrA (i := v16) (v := (LP 1 (0 + v16.toNat * 1))) Try.underlying30 s_28 rfl rfl (inA_ok hx23) rfl) ?_
                  obtain ⟨x24, hx24, h⟩ := bindS h
                  refine arun_do rfl rfl rfl (tx_ldL1 (v := (U32 x24)) Try.underlying28 rfl rfl rfl (by obtain ⟨hi, hz⟩ | ⟨hi, hz⟩ | ⟨hi, hz⟩ | ⟨hi, hz⟩ := A4.get_some hx24 <;> (subst hz; simp only [hi]; rfl))) ?_
                  refine arun_do rfl rfl rfl (ex_assign (eV (v := (U32 x24)) rfl)) ?_
                  refine arun_keepE [2, 3, 5, 6, 7, 9] 2 0 (st' := ⟨63, 0, [(2, (LP 0 0)), (3, (S v1)), (5, (LP 1 0)), (6, (I v6)), (7, (U32 x24)), (9, (I v16))], [((cA4 c32) (A4.mk 0 0 0 0)), ((cA4 c32) x22)], ⟨0, []⟩⟩) (by kernel_rfl) (by kernel_rfl) ?_
                  show AWp _ _ _ _
                  refine awp_region ?_
                  refine arun_do rfl rfl rfl (ex_move (eV (v := (I v16)) rfl)) ?_
                  refine arun_do rfl rfl rfl (ex_bin (vx := (I v16)) (vy := (I 1)) rfl rfl addI_ok) ?_
                  refine arun_do rfl rfl rfl (ex_assign (eV (v := (I (w64 (v16 + 1)))) rfl)) ?_
                  refine arun_keepE [2, 3, 5, 6, 7, 9] 2 0 (st' := ⟨63, 0, [(2, (LP 0 0)), (3, (S v1)), (5, (LP 1 0)), (6, (I v6)), (7, (U32 x24)), (9, (I (w64 (v16 + 1))))], [((cA4 c32) (A4.mk 0 0 0 0)), ((cA4 c32) x22)], ⟨0, []⟩⟩) (by kernel_rfl) (by kernel_rfl) ?_
                  exact Exists.intro n4 (And.intro (Nat.lt_succ_self _) (Exists.intro x24 (Exists.intro (w64 (v16 + 1)) (Exists.intro x22 (And.intro rfl h)))))
                · rw [condF hb18] at h
                  refine awp_condF (boF hb18) ?_
                  refine awp_exit ?_
                  show AWp _ _ _ _
                  refine awp_region ?_
                  refine arun_do rfl rfl rfl (ex_move (eV (v := (I v6)) rfl)) ?_
                  refine arun_do rfl rfl rfl (ex_bin (vx := (I v6)) (vy := (I 4)) rfl rfl addI_ok) ?_
                  refine arun_do rfl rfl rfl (ex_assign (eV (v := (I (w64 (v6 + 4)))) rfl)) ?_
                  refine arun_keepE [2, 3, 5, 6] 2 0 (st' := ⟨63, 0, [(2, (LP 0 0)), (3, (S v1)), (5, (LP 1 0)), (6, (I (w64 (v6 + 4))))], [((cA4 c32) (A4.mk 0 0 0 0)), ((cA4 c32) v17)], ⟨0, []⟩⟩) (by kernel_rfl) (by kernel_rfl) ?_
                  exact Exists.intro n2 (And.intro (Nat.lt_succ_self _) (Exists.intro (w64 (v6 + 4)) (Exists.intro v17 (And.intro rfl h))))
        · rw [condF hb8] at h
          refine awp_condF (boF hb8) ?_
          refine awp_exit ?_
          show AWp _ _ _ _
          refine awp_seq ?_
          refine awp_region ?_
          refine arun_do rfl rfl rfl (tx_ldLA (vs := ((cA4 c32) v7)) Try.underlying30 rfl s_30 (by decide) rfl rfl rfl rfl) ?_
          refine arun_do0 rfl rfl (ex_storeL (vy := (Value.agg ((cA4 c32) v7).toArray)) (cs := ((cA4 c32) (A4.mk 0 0 0 0))) (vs := ((cA4 c32) v7)) (L' := [((cA4 c32) v7), ((cA4 c32) v7)]) rfl (eV (v := (Value.agg ((cA4 c32) v7).toArray)) rfl) rfl s_30 rfl (Nat.le_of_ble_eq_true rfl) (by kernel_rfl)) ?_
          refine arun_keepE [2] 1 0 (st' := ⟨63, 0, [(2, (LP 0 0))], [((cA4 c32) v7)], ⟨0, []⟩⟩) (by kernel_rfl) (by kernel_rfl) ?_
          show AWp _ _ _ _
          refine awp_ret ?_
          cases h
          exact ares1 (rcellL rfl rfl rfl (partA Try.underlying30 rfl s_30 (by decide) (Nat.le_of_ble_eq_true rfl) rfl))

noncomputable def M_ref1_Of (t0 : Str) : Option (A4 UInt32) :=
  Option.bind (M_ref1_Sum ([t0] : List Str)) fun (x1 : (A4 UInt32)) => some x1
theorem ok_ref1_Of (t0 : Str) (r : (A4 UInt32)) (h : M_ref1_Of t0 = some r) : FFn Try.prog 26 [(S t0)] (Value.agg ((cA4 c32) r).toArray) := by
  refine FFn.of_body (n := 6) Try.func26 rfl Try.ntmps26 rfl rfl rfl rfl ?_
  show AWp _ _ _ ⟨6, 0, [(0, (S t0))], [], ⟨0, []⟩⟩
  unfold M_ref1_Of at h
  refine awp_seq ?_
  refine awp_region ?_
  refine arun_do rfl rfl rfl (ex_alloc (k := 0) (zs := ((cA4 c32) (A4.mk 0 0 0 0))) (L' := [((cA4 c32) (A4.mk 0 0 0 0))]) z_30 rfl rfl rfl rfl) ?_
  refine arun_keepE [0, 2] 1 0 (st' := ⟨6, 0, [(0, (S t0)), (2, (LP 0 0))], [((cA4 c32) (A4.mk 0 0 0 0))], ⟨0, []⟩⟩) (by kernel_rfl) (by kernel_rfl) ?_
  show AWp _ _ _ _
  refine awp_seq ?_
  refine awp_region ?_
  refine arun_do rfl rfl rfl (ex_move (eV (v := (S t0)) rfl)) ?_
  refine arun_do rfl rfl rfl (ex_buildSliceD (qs := [(0, (S t0))]) (cells := (([t0] : List Str).flatMap cS)) Try.underlying35 s_9 (by decide) (evp rfl evp_nil) rfl (by kernel_rfl) (by kernel_rfl) (by kernel_rfl)) ?_
  obtain ⟨x1, hx1, h⟩ := bindS h
  refine arun_do rfl rfl rfl (ex_call0 (vs := [(SL 1 cS ([t0] : List Str))]) (v := (Value.agg ((cA4 c32) x1).toArray)) rfl en_38 (cargs (evs rfl evs_nil)) rfl (ok_ref1_Sum ([t0] : List Str) x1 hx1) rfl) ?_
  refine arun_do0 rfl rfl (ex_storeL (vy := (Value.agg ((cA4 c32) x1).toArray)) (cs := ((cA4 c32) (A4.mk 0 0 0 0))) (vs := ((cA4 c32) x1)) (L' := [((cA4 c32) x1)]) rfl (eV (v := (Value.agg ((cA4 c32) x1).toArray)) rfl) rfl s_30 rfl (Nat.le_of_ble_eq_true rfl) (by kernel_rfl)) ?_
  refine arun_keepE [2] 1 0 (st' := ⟨6, 0, [(2, (LP 0 0))], [((cA4 c32) x1)], ⟨0, []⟩⟩) (by kernel_rfl) (by kernel_rfl) ?_
  show AWp _ _ _ _
  refine awp_ret ?_
  cases h
  exact ares1 (rcellL rfl rfl rfl (partA Try.underlying30 rfl s_30 (by decide) (Nat.le_of_ble_eq_true rfl) rfl))

noncomputable def M_ref1_To (t0 : Int) (t1 : Str) (t2 : Int) : Option G_api_Ptr :=
  Option.bind (M_ref1_Of t1) fun (x1 : (A4 UInt32)) => some (G_api_Ptr.mk t0 t2 x1)
theorem ok_ref1_To (t0 : Int) (t1 : Str) (t2 : Int) (r : G_api_Ptr) (h : M_ref1_To t0 t1 t2 = some r) : FFn Try.prog 20 [(I t0), (S t1), (I t2)] (Value.agg (c_api_Ptr r).toArray) := by
  refine FFn.of_body (n := 12) Try.func20 rfl Try.ntmps20 rfl rfl rfl rfl ?_
  show AWp _ _ _ ⟨12, 0, [(0, (I t0)), (1, (S t1)), (2, (I t2))], [], ⟨0, []⟩⟩
  unfold M_ref1_To at h
  refine awp_seq ?_
  refine awp_region ?_
  refine arun_do rfl rfl rfl (ex_alloc (k := 0) (zs := (c_api_Ptr (G_api_Ptr.mk 0 0 (A4.mk 0 0 0 0)))) (L' := [(c_api_Ptr (G_api_Ptr.mk 0 0 (A4.mk 0 0 0 0)))]) z_32 rfl rfl rfl rfl) ?_
  refine arun_keepE [0, 1, 2, 6] 1 0 (st' := ⟨12, 0, [(0, (I t0)), (1, (S t1)), (2, (I t2)), (6, (LP 0 0))], [(c_api_Ptr (G_api_Ptr.mk 0 0 (A4.mk 0 0 0 0)))], ⟨0, []⟩⟩) (by kernel_rfl) (by kernel_rfl) ?_
  show AWp _ _ _ _
  refine awp_seq ?_
  refine awp_region ?_
  refine arun_do rfl rfl rfl (ex_move (eV (v := (I t0)) rfl)) ?_
  refine arun_do rfl rfl rfl (ex_move (eV (v := (I t2)) rfl)) ?_
  refine arun_do rfl rfl rfl (ex_move (eV (v := (S t1)) rfl)) ?_
  obtain ⟨x1, hx1, h⟩ := bindS h
  refine arun_do rfl rfl rfl (ex_call0 (vs := [(S t1)]) (v := (Value.agg ((cA4 c32) x1).toArray)) rfl en_26 (cargs (evs rfl evs_nil)) rfl (ok_ref1_Of t1 x1 hx1) rfl) ?_
  refine arun_do rfl rfl rfl (ex_build (qs := [(0, (I t0)), (1, (I t2)), (2, (Value.agg ((cA4 c32) x1).toArray))]) (v := (Value.agg (c_api_Ptr (G_api_Ptr.mk t0 t2 x1)).toArray)) (evp rfl (evp rfl (evp rfl evp_nil))) (by kernel_rfl)) ?_
  refine arun_do0 rfl rfl (ex_storeL (vy := (Value.agg (c_api_Ptr (G_api_Ptr.mk t0 t2 x1)).toArray)) (cs := (c_api_Ptr (G_api_Ptr.mk 0 0 (A4.mk 0 0 0 0)))) (vs := (c_api_Ptr (G_api_Ptr.mk t0 t2 x1))) (L' := [(c_api_Ptr (G_api_Ptr.mk t0 t2 x1))]) rfl (eV (v := (Value.agg (c_api_Ptr (G_api_Ptr.mk t0 t2 x1)).toArray)) rfl) rfl s_32 rfl (Nat.le_of_ble_eq_true rfl) (by kernel_rfl)) ?_
  refine arun_keepE [6] 1 0 (st' := ⟨12, 0, [(6, (LP 0 0))], [(c_api_Ptr (G_api_Ptr.mk t0 t2 x1))], ⟨0, []⟩⟩) (by kernel_rfl) (by kernel_rfl) ?_
  show AWp _ _ _ _
  refine awp_ret ?_
  cases h
  exact ares1 (rcellL rfl rfl rfl (partA Try.underlying32 rfl s_32 (by decide) (Nat.le_of_ble_eq_true rfl) rfl))

noncomputable def M_ref1_BlockPtr (t0 : Int) (t1 : G_api_Block) : Option G_api_Ptr :=
  Option.bind (M_ref1_PutBlock t1) fun (x1 : Str) => Option.bind (M_ref1_To t0 x1 t1.Birth) fun (x2 : G_api_Ptr) => some x2
theorem ok_ref1_BlockPtr (t0 : Int) (t1 : G_api_Block) (r : G_api_Ptr) (h : M_ref1_BlockPtr t0 t1 = some r) : FFn Try.prog 15 [(I t0), (Value.agg (c_api_Block t1).toArray)] (Value.agg (c_api_Ptr r).toArray) := by
  refine FFn.of_body (n := 11) Try.func15 rfl Try.ntmps15 rfl rfl rfl rfl ?_
  show AWp _ _ _ ⟨11, 0, [(0, (I t0)), (1, (Value.agg (c_api_Block t1).toArray))], [], ⟨0, []⟩⟩
  unfold M_ref1_BlockPtr at h
  refine awp_seq ?_
  refine awp_region ?_
  refine arun_do rfl rfl rfl (ex_box (vx := (Value.agg (c_api_Block t1).toArray)) (cs := (c_api_Block t1)) (k := 0) (L' := [(c_api_Block t1)]) (eV (v := (Value.agg (c_api_Block t1).toArray)) rfl) rfl rfl rfl) ?_
  refine arun_do rfl rfl rfl (ex_alloc (k := 1) (zs := (c_api_Ptr (G_api_Ptr.mk 0 0 (A4.mk 0 0 0 0)))) (L' := [(c_api_Block t1), (c_api_Ptr (G_api_Ptr.mk 0 0 (A4.mk 0 0 0 0)))]) z_32 rfl rfl rfl rfl) ?_
  refine arun_keepE [0, 3, 4] 2 0 (st' := ⟨11, 0, [(0, (I t0)), (3, (LP 0 0)), (4, (LP 1 0))], [(c_api_Block t1), (c_api_Ptr (G_api_Ptr.mk 0 0 (A4.mk 0 0 0 0)))], ⟨0, []⟩⟩) (by kernel_rfl) (by kernel_rfl) ?_
  show AWp _ _ _ _
  refine awp_seq ?_
  obtain ⟨x1, hx1, h⟩ := bindS h
  obtain ⟨x2, hx2, h⟩ := bindS h
  refine awp_kn [4] 2 0 (st' := ⟨11, 0, [(4, (LP 1 0))], [(c_api_Block t1), (c_api_Ptr x2)], ⟨0, []⟩⟩) (awp_draw (T := [(I t0), (Value.agg (c_api_Block t1).toArray), (S x1), (LP 0 1), (I t1.Birth), (Value.agg (c_api_Ptr x2).toArray), undef]) (LH := [([(c_api_Block t1), (c_api_Ptr (G_api_Ptr.mk 0 0 (A4.mk 0 0 0 0)))], ⟨0, []⟩), ([(c_api_Block t1), (c_api_Ptr x2)], ⟨0, []⟩)]) (D := [⟨[(0, none)], [], [0], false⟩, ⟨[(3, none)], [], [0], false⟩, ⟨[(6, some 1)], [1], [0], false⟩, ⟨[(3, none)], [], [0], false⟩, ⟨[(8, some 3)], [3], [0], false⟩, ⟨[(5, some 0), (7, some 2), (9, some 4)], [0, 1, 2, 3, 4], [0], false⟩, ⟨[(4, none), (10, some 5)], [0, 1, 2, 3, 4, 5], [0], true⟩]) (S := [6]) (plan := [0, 1, 2, 3, 4, 5, 6]) mo (by kernel_rfl) rfl rfl rfl (dcons (dstep1 (Tm := [(0, (I t0))]) (L := [(c_api_Block t1), (c_api_Ptr (G_api_Ptr.mk 0 0 (A4.mk 0 0 0 0)))]) (H := ⟨0, []⟩) rfl rfl rfl rfl rfl (astep_do rfl (ex_move (eV (v := (I t0)) rfl)))) (dcons (dstep1 (Tm := [(3, (LP 0 0))]) (L := [(c_api_Block t1), (c_api_Ptr (G_api_Ptr.mk 0 0 (A4.mk 0 0 0 0)))]) (H := ⟨0, []⟩) rfl rfl rfl rfl rfl (astep_do rfl (tx_ldLA (vs := (c_api_Block t1)) Try.underlying23 rfl s_23 (by decide) rfl rfl rfl rfl))) (dcons (dstep1 (Tm := [(6, (Value.agg (c_api_Block t1).toArray))]) (L := [(c_api_Block t1), (c_api_Ptr (G_api_Ptr.mk 0 0 (A4.mk 0 0 0 0)))]) (H := ⟨0, []⟩) rfl rfl rfl rfl rfl (astep_do rfl (ex_call0 (vs := [(Value.agg (c_api_Block t1).toArray)]) (v := (S x1)) rfl en_13 (cargs (evs rfl evs_nil)) rfl (ok_ref1_PutBlock t1 x1 hx1) rfl))) (dcons (dstep1 (Tm := [(3, (LP 0 0))]) (L := [(c_api_Block t1), (c_api_Ptr (G_api_Ptr.mk 0 0 (A4.mk 0 0 0 0)))]) (H := ⟨0, []⟩) rfl rfl rfl rfl rfl (astep_do rfl (ex_fieldAddr (v := (LP 0 1)) Try.underlying23 rfl s_3 (by decide) rfl rfl))) (dcons (dstep1 (Tm := [(8, (LP 0 1))]) (L := [(c_api_Block t1), (c_api_Ptr (G_api_Ptr.mk 0 0 (A4.mk 0 0 0 0)))]) (H := ⟨0, []⟩) rfl rfl rfl rfl rfl (astep_do rfl (tx_ldL1 (v := (I t1.Birth)) Try.underlying3 rfl rfl rfl rfl))) (dcons (dstep1 (Tm := [(5, (I t0)), (7, (S x1)), (9, (I t1.Birth))]) (L := [(c_api_Block t1), (c_api_Ptr (G_api_Ptr.mk 0 0 (A4.mk 0 0 0 0)))]) (H := ⟨0, []⟩) rfl rfl rfl rfl rfl (astep_do rfl (ex_call0 (vs := [(I t0), (S x1), (I t1.Birth)]) (v := (Value.agg (c_api_Ptr x2).toArray)) rfl en_20 (cargs (evs rfl (evs rfl (evs rfl evs_nil)))) rfl (ok_ref1_To t0 x1 t1.Birth x2 hx2) rfl))) (dcons (dstep1 (Tm := [(4, (LP 1 0)), (10, (Value.agg (c_api_Ptr x2).toArray))]) (L := [(c_api_Block t1), (c_api_Ptr (G_api_Ptr.mk 0 0 (A4.mk 0 0 0 0)))]) (H := ⟨0, []⟩) rfl rfl rfl rfl rfl (astep_do rfl (ex_storeL (vy := (Value.agg (c_api_Ptr x2).toArray)) (cs := (c_api_Ptr (G_api_Ptr.mk 0 0 (A4.mk 0 0 0 0)))) (vs := (c_api_Ptr x2)) (L' := [(c_api_Block t1), (c_api_Ptr x2)]) rfl (eV (v := (Value.agg (c_api_Ptr x2).toArray)) rfl) rfl s_32 rfl (Nat.le_of_ble_eq_true rfl) (by kernel_rfl)))) dnil))))))) ⟨rfl, rfl⟩) (by kernel_rfl) (by kernel_rfl) ?_
  show AWp _ _ _ _
  refine awp_ret ?_
  cases h
  exact ares1 (rcellL rfl rfl rfl (partA Try.underlying32 rfl s_32 (by decide) (Nat.le_of_ble_eq_true rfl) rfl))

end Go.Proofs
