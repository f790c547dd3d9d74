/- Pure models of functions of the program, and that its code does what they say: palimpref1 Take, palimpref1 TakeBlock. Written by a program. -/
import Derived.Test.YtjpgcfniahaelaaR56
import Derived.Test.YtjpgcfniahaelaaR5B
set_option maxRecDepth 20000
set_option maxHeartbeats 4000000
namespace Go.Proofs
open Go Go.Fhl
set_option linter.unusedVariables false
set_option linter.unusedSimpArgs false
noncomputable def M_ref1_Take_l2 (c_1 : (Str → Int → List Int → Option ((List Int) × Str × Bool))) (t0 : Str) (v1 : Str) (v2 : Int) (v3 : List Int) (x5 : UInt8) : Nat → Int → Int → Option ((List Int) × Str × Bool)
  | 0, _, _ => none
  | n2 + 1, v7, v8 =>
  cond (decide (v8 < (w64 ((x5.toNat : Int) - 48)))) (Option.bind (getI v1 v8) fun (x10 : UInt8) => (M_ref1_Take_l2 c_1 t0 v1 v2 v3 x5 n2) (w64 ((w64 (v7 * 256)) + (x10.toNat : Int))) (w64 (v8 + 1))) (Option.bind (appL 8 v3 ([v7] : List Int)) fun (x11 : List Int) => Option.bind (slL v1 (w64 ((x5.toNat : Int) - 48)) (v1.length : Int)) fun (x12 : Str) => c_1 x12 (w64 (v2 + 1)) x11)
noncomputable def M_ref1_Take_l1 (t0 : Str) : Nat → Str → Int → List Int → Option ((List Int) × Str × Bool)
  | 0, _, _, _ => none
  | n1 + 1, v1, v2, v3 =>
  cond (decide (v2 < (t0.length : Int))) (Option.bind (getI t0 v2) fun (x5 : UInt8) => cond (((decide ((w64 ((x5.toNat : Int) - 48)) < 1)) || (decide ((w64 ((x5.toNat : Int) - 48)) > 4))) || (decide ((v1.length : Int) < (w64 ((x5.toNat : Int) - 48))))) (some ([], [], false)) (M_ref1_Take_l2 (M_ref1_Take_l1 t0 n1) t0 v1 v2 v3 x5 fuel 0 0)) (some (v3, v1, true))
noncomputable def M_ref1_Take (t0 : Str) (t1 : Str) : Option ((List Int) × Str × Bool) :=
  M_ref1_Take_l1 t0 fuel t1 0 ([] : List Int)
theorem ok_ref1_Take (t0 : Str) (t1 : Str) (r : ((List Int) × Str × Bool)) (h : M_ref1_Take t0 t1 = some r) : FFn Try.prog 34 [(S t0), (S t1)] (Value.tuple #[(SL 1 cI r.1), (S r.2.1), (Bo r.2.2)]) := by
  refine FFn.of_body (n := 56) Try.func34 rfl Try.ntmps34 rfl rfl rfl rfl ?_
  show AWp _ _ _ ⟨56, 0, [(0, (S t0)), (1, (S t1))], [], ⟨0, []⟩⟩
  unfold M_ref1_Take at h
  refine awp_seq ?_
  refine awp_region ?_
  refine arun_do rfl rfl rfl (ex_assign (eV (v := (Value.slice none 0 0)) rfl)) ?_
  refine arun_do rfl rfl rfl (ex_assign (eV (v := (S [])) rfl)) ?_
  refine arun_do rfl rfl rfl (ex_assign (eV (v := (Bo false)) rfl)) ?_
  refine arun_keepE [0, 1] 0 0 (st' := ⟨56, 0, [(0, (S t0)), (1, (S t1))], [], ⟨0, []⟩⟩) (by kernel_rfl) (by kernel_rfl) ?_
  show AWp _ _ _ _
  refine awp_seq ?_
  refine awp_region ?_
  refine arun_do rfl rfl rfl (ex_assign (eV (v := (Value.slice none 0 0)) rfl)) ?_
  refine arun_keepE [0, 1, 7] 0 0 (st' := ⟨56, 0, [(0, (S t0)), (1, (S t1)), (7, (Value.slice none 0 0))], [], ⟨0, []⟩⟩) (by kernel_rfl) (by kernel_rfl) ?_
  show AWp _ _ _ _
  refine awp_seq ?_
  refine awp_seq ?_
  refine awp_region ?_
  refine arun_do rfl rfl rfl (ex_assign (eV (v := (I 0)) rfl)) ?_
  refine arun_keepE [0, 1, 7, 8] 0 0 (st' := ⟨56, 0, [(0, (S t0)), (1, (S t1)), (7, (Value.slice none 0 0)), (8, (I 0))], [], ⟨0, []⟩⟩) (by kernel_rfl) (by kernel_rfl) ?_
  show AWp _ _ _ _
  refine awp_block ?_
  refine awp_nilGro 7 1 rfl (by decide) ?_
  refine awp_keepE [0, 1, 7, 8] 0 1 (st' := ⟨56, 0, [(0, (S t0)), (1, (S t1)), (7, (GV 0 0)), (8, (I 0))], [], ⟨1, [(0, ⟨1, (([] : List Int).flatMap cI), true⟩)]⟩⟩) (by kernel_rfl) (by kernel_rfl) ?_
  refine awp_loop (fun n s => ∃ (v1 : Str) (v2 : Int) (v3 : List Int), s = ⟨56, 0, [(0, (S t0)), (1, (S v1)), (7, (GV 0 v3.length)), (8, (I v2))], [], ⟨1, [(0, ⟨1, ((v3).flatMap cI), true⟩)]⟩⟩ ∧ M_ref1_Take_l1 t0 n v1 v2 v3 = some r) fuel (Exists.intro t1 (Exists.intro 0 (Exists.intro ([] : List Int) (And.intro rfl h)))) ?_
  rintro n s ⟨v1, v2, v3, rfl, h⟩ -
  cases n with
  | zero => cases h
  | succ n1 =>
    unfold M_ref1_Take_l1 at h
    refine awp_seq ?_
    refine awp_seq ?_
    refine awp_region ?_
    refine arun_do rfl rfl rfl (ex_move (eV (v := (I v2)) rfl)) ?_
    refine arun_do rfl rfl rfl (ex_move (eV (v := (S t0)) rfl)) ?_
    refine arun_do rfl rfl rfl (tx_lenS Try.underlying9 rfl) ?_
    refine arun_do rfl rfl rfl (ex_bin (vx := (I v2)) (vy := (I (t0.length : Int))) rfl rfl lssI_ok) ?_
    refine arun_keepE [0, 1, 7, 8, 15] 0 1 (st' := ⟨56, 0, [(0, (S t0)), (1, (S v1)), (7, (GV 0 v3.length)), (8, (I v2)), (15, (Bo (decide (v2 < (t0.length : Int)))))], [], ⟨1, [(0, ⟨1, ((v3).flatMap cI), true⟩)]⟩⟩) (by kernel_rfl) (by kernel_rfl) ?_
    show AWp _ _ _ _
    rcases Bool.eq_false_or_eq_true (decide (v2 < (t0.length : Int))) with hb4 | hb4
    · rw [condT hb4] at h
      refine awp_condT (boT hb4) ?_
      refine awp_skip ?_
      show AWp _ _ _ _
      refine awp_seq ?_
      refine awp_block ?_
      refine awp_seq ?_
      refine awp_region ?_
      refine arun_do rfl rfl rfl (ex_move (eV (v := (S t0)) rfl)) ?_
      refine arun_do rfl rfl rfl (ex_move (eV (v := (I v2)) rfl)) ?_
      obtain ⟨x5, hx5, h⟩ := bindS h
      refine arun_do rfl rfl rfl (tx_idxS (u := t0) (i := v2) Try.underlying9 rfl rfl hx5) ?_
      refine arun_do rfl rfl rfl (tx_8_64 Try.underlying5 Try.underlying3 rfl) ?_
      refine arun_do rfl rfl rfl (ex_bin (vx := (I (x5.toNat : Int))) (vy := (I 48)) rfl rfl subI_ok) ?_
      refine arun_do rfl rfl rfl (ex_assign (eV (v := (I (w64 ((x5.toNat : Int) - 48)))) rfl)) ?_
      refine arun_keepE [0, 1, 7, 8, 9] 0 1 (st' := ⟨56, 0, [(0, (S t0)), (1, (S v1)), (7, (GV 0 v3.length)), (8, (I v2)), (9, (I (w64 ((x5.toNat : Int) - 48))))], [], ⟨1, [(0, ⟨1, ((v3).flatMap cI), true⟩)]⟩⟩) (by kernel_rfl) (by kernel_rfl) ?_
      show AWp _ _ _ _
      refine awp_seq ?_
      refine awp_seq ?_
      refine awp_region ?_
      refine arun_do rfl rfl rfl (ex_move (eV (v := (I (w64 ((x5.toNat : Int) - 48)))) rfl)) ?_
      refine arun_do rfl rfl rfl (ex_bin (vx := (I (w64 ((x5.toNat : Int) - 48)))) (vy := (I 1)) rfl rfl lssI_ok) ?_
      refine arun_do rfl rfl rfl (ex_move (eV (v := (Bo (decide ((w64 ((x5.toNat : Int) - 48)) < 1)))) rfl)) ?_
      refine arun_guard (v := (I (w64 ((x5.toNat : Int) - 48)))) ((decide ((w64 ((x5.toNat : Int) - 48)) < 1)) == false) rfl rfl rfl (fun hc => ex_move (eV (v := (I (w64 ((x5.toNat : Int) - 48)))) rfl)) ?_
      refine arun_guard (v := (Bo (decide ((w64 ((x5.toNat : Int) - 48)) > 4)))) ((decide ((w64 ((x5.toNat : Int) - 48)) < 1)) == false) rfl rfl rfl (fun hc => ex_bin (vx := (I (w64 ((x5.toNat : Int) - 48)))) (vy := (I 4)) (cond_of hc) rfl gtrI_ok) ?_
      refine arun_do rfl rfl rfl (ex_pick rfl pkOr) ?_
      refine arun_do rfl rfl rfl (ex_move (eV (v := (Bo ((decide ((w64 ((x5.toNat : Int) - 48)) < 1)) || (decide ((w64 ((x5.toNat : Int) - 48)) > 4))))) rfl)) ?_
      refine arun_guard (v := (S v1)) (((decide ((w64 ((x5.toNat : Int) - 48)) < 1)) || (decide ((w64 ((x5.toNat : Int) - 48)) > 4))) == false) rfl rfl rfl (fun hc => ex_move (eV (v := (S v1)) rfl)) ?_
      refine arun_guard (v := (I (v1.length : Int))) (((decide ((w64 ((x5.toNat : Int) - 48)) < 1)) || (decide ((w64 ((x5.toNat : Int) - 48)) > 4))) == false) rfl rfl rfl (fun hc => tx_lenS Try.underlying9 (cond_of hc)) ?_
      refine arun_guard (v := (I (w64 ((x5.toNat : Int) - 48)))) (((decide ((w64 ((x5.toNat : Int) - 48)) < 1)) || (decide ((w64 ((x5.toNat : Int) - 48)) > 4))) == false) rfl rfl rfl (fun hc => ex_move (eV (v := (I (w64 ((x5.toNat : Int) - 48)))) rfl)) ?_
      refine arun_guard (v := (Bo (decide ((v1.length : Int) < (w64 ((x5.toNat : Int) - 48)))))) (((decide ((w64 ((x5.toNat : Int) - 48)) < 1)) || (decide ((w64 ((x5.toNat : Int) - 48)) > 4))) == false) rfl rfl rfl (fun hc => ex_bin (vx := (I (v1.length : Int))) (vy := (I (w64 ((x5.toNat : Int) - 48)))) (cond_of hc) (cond_of hc) lssI_ok) ?_
      refine arun_do rfl rfl rfl (ex_pick rfl pkOr) ?_
      refine arun_keepE [0, 1, 7, 8, 9, 34] 0 1 (st' := ⟨56, 0, [(0, (S t0)), (1, (S v1)), (7, (GV 0 v3.length)), (8, (I v2)), (9, (I (w64 ((x5.toNat : Int) - 48)))), (34, (Bo (((decide ((w64 ((x5.toNat : Int) - 48)) < 1)) || (decide ((w64 ((x5.toNat : Int) - 48)) > 4))) || (decide ((v1.length : Int) < (w64 ((x5.toNat : Int) - 48)))))))], [], ⟨1, [(0, ⟨1, ((v3).flatMap cI), true⟩)]⟩⟩) (by kernel_rfl) (by kernel_rfl) ?_
      show AWp _ _ _ _
      rcases Bool.eq_false_or_eq_true (((decide ((w64 ((x5.toNat : Int) - 48)) < 1)) || (decide ((w64 ((x5.toNat : Int) - 48)) > 4))) || (decide ((v1.length : Int) < (w64 ((x5.toNat : Int) - 48))))) with hb6 | hb6
      · rw [condT hb6] at h
        refine awp_condT (boT hb6) ?_
        refine awp_seq ?_
        refine awp_region ?_
        refine arun_do rfl rfl rfl (ex_assign (eV (v := (Value.slice none 0 0)) rfl)) ?_
        refine arun_do rfl rfl rfl (ex_assign (eV (v := (S [])) rfl)) ?_
        refine arun_do rfl rfl rfl (ex_assign (eV (v := (Bo false)) rfl)) ?_
        refine arun_keepE [4, 5, 6] 0 0 (st' := ⟨56, 0, [(4, (Value.slice none 0 0)), (5, (S [])), (6, (Bo false))], [], ⟨0, []⟩⟩) (by kernel_rfl) (by kernel_rfl) ?_
        show AWp _ _ _ _
        refine awp_ret ?_
        cases h
        exact aresN rfl (L2.cons (rtmp rfl (eN rfl)) (L2.cons (rtmp rfl (eV rfl)) (L2.cons (rtmp rfl (eV rfl)) L2.nil))) rfl
      · rw [condF hb6] at h
        refine awp_condF (boF hb6) ?_
        refine awp_skip ?_
        show AWp _ _ _ _
        refine awp_seq ?_
        refine awp_region ?_
        refine arun_do rfl rfl rfl (ex_assign (eV (v := (I 0)) rfl)) ?_
        refine arun_keepE [0, 1, 7, 8, 9, 10] 0 1 (st' := ⟨56, 0, [(0, (S t0)), (1, (S v1)), (7, (GV 0 v3.length)), (8, (I v2)), (9, (I (w64 ((x5.toNat : Int) - 48)))), (10, (I 0))], [], ⟨1, [(0, ⟨1, ((v3).flatMap cI), true⟩)]⟩⟩) (by kernel_rfl) (by kernel_rfl) ?_
        show AWp _ _ _ _
        refine awp_seq ?_
        refine awp_seq ?_
        refine awp_region ?_
        refine arun_do rfl rfl rfl (ex_assign (eV (v := (I 0)) rfl)) ?_
        refine arun_keepE [0, 1, 7, 8, 9, 10, 11] 0 1 (st' := ⟨56, 0, [(0, (S t0)), (1, (S v1)), (7, (GV 0 v3.length)), (8, (I v2)), (9, (I (w64 ((x5.toNat : Int) - 48)))), (10, (I 0)), (11, (I 0))], [], ⟨1, [(0, ⟨1, ((v3).flatMap cI), true⟩)]⟩⟩) (by kernel_rfl) (by kernel_rfl) ?_
        show AWp _ _ _ _
        refine awp_block ?_
        refine awp_loop (fun n s => ∃ (v7 : Int) (v8 : Int), s = ⟨56, 0, [(0, (S t0)), (1, (S v1)), (7, (GV 0 v3.length)), (8, (I v2)), (9, (I (w64 ((x5.toNat : Int) - 48)))), (10, (I v7)), (11, (I v8))], [], ⟨1, [(0, ⟨1, ((v3).flatMap cI), true⟩)]⟩⟩ ∧ M_ref1_Take_l2 (M_ref1_Take_l1 t0 n1) t0 v1 v2 v3 x5 n v7 v8 = some r) fuel (Exists.intro 0 (Exists.intro 0 (And.intro rfl h))) ?_
        rintro n s ⟨v7, v8, rfl, h⟩ -
        cases n with
        | zero => cases h
        | succ n2 =>
          unfold M_ref1_Take_l2 at h
          refine awp_seq ?_
          refine awp_seq ?_
          refine awp_region ?_
          refine arun_do rfl rfl rfl (ex_move (eV (v := (I v8)) rfl)) ?_
          refine arun_do rfl rfl rfl (ex_move (eV (v := (I (w64 ((x5.toNat : Int) - 48)))) rfl)) ?_
          refine arun_do rfl rfl rfl (ex_bin (vx := (I v8)) (vy := (I (w64 ((x5.toNat : Int) - 48)))) rfl rfl lssI_ok) ?_
          refine arun_keepE [0, 1, 7, 8, 9, 10, 11, 37] 0 1 (st' := ⟨56, 0, [(0, (S t0)), (1, (S v1)), (7, (GV 0 v3.length)), (8, (I v2)), (9, (I (w64 ((x5.toNat : Int) - 48)))), (10, (I v7)), (11, (I v8)), (37, (Bo (decide (v8 < (w64 ((x5.toNat : Int) - 48))))))], [], ⟨1, [(0, ⟨1, ((v3).flatMap cI), true⟩)]⟩⟩) (by kernel_rfl) (by kernel_rfl) ?_
          show AWp _ _ _ _
          rcases Bool.eq_false_or_eq_true (decide (v8 < (w64 ((x5.toNat : Int) - 48)))) with hb9 | hb9
          · rw [condT hb9] at h
            refine awp_condT (boT hb9) ?_
            refine awp_skip ?_
            show AWp _ _ _ _
            refine awp_seq ?_
            refine awp_block ?_
            refine awp_region ?_
            refine arun_do rfl rfl rfl (ex_move (eV (v := (I v7)) rfl)) ?_
            refine arun_do rfl rfl rfl (ex_bin (vx := (I v7)) (vy := (I 256)) rfl rfl mulI_ok) ?_
            refine arun_do rfl rfl rfl (ex_move (eV (v := (S v1)) rfl)) ?_
            refine arun_do rfl rfl rfl (ex_move (eV (v := (I v8)) rfl)) ?_
            obtain ⟨x10, hx10, h⟩ := bindS h
            refine arun_do rfl rfl rfl (tx_idxS (u := v1) (i := v8) Try.underlying9 rfl rfl hx10) ?_
            refine arun_do rfl rfl rfl (tx_8_64 Try.underlying5 Try.underlying3 rfl) ?_
            refine arun_do rfl rfl rfl (ex_bin (vx := (I (w64 (v7 * 256)))) (vy := (I (x10.toNat : Int))) rfl rfl addI_ok) ?_
            refine arun_do rfl rfl rfl (ex_assign (eV (v := (I (w64 ((w64 (v7 * 256)) + (x10.toNat : Int))))) rfl)) ?_
            refine arun_keepE [0, 1, 7, 8, 9, 10, 11] 0 1 (st' := ⟨56, 0, [(0, (S t0)), (1, (S v1)), (7, (GV 0 v3.length)), (8, (I v2)), (9, (I (w64 ((x5.toNat : Int) - 48)))), (10, (I (w64 ((w64 (v7 * 256)) + (x10.toNat : Int))))), (11, (I v8))], [], ⟨1, [(0, ⟨1, ((v3).flatMap cI), true⟩)]⟩⟩) (by kernel_rfl) (by kernel_rfl) ?_
            show AWp _ _ _ _
            refine awp_region ?_
            refine arun_do rfl rfl rfl (ex_move (eV (v := (I v8)) rfl)) ?_
            refine arun_do rfl rfl rfl (ex_bin (vx := (I v8)) (vy := (I 1)) rfl rfl addI_ok) ?_
            refine arun_do rfl rfl rfl (ex_assign (eV (v := (I (w64 (v8 + 1)))) rfl)) ?_
            refine arun_keepE [0, 1, 7, 8, 9, 10, 11] 0 1 (st' := ⟨56, 0, [(0, (S t0)), (1, (S v1)), (7, (GV 0 v3.length)), (8, (I v2)), (9, (I (w64 ((x5.toNat : Int) - 48)))), (10, (I (w64 ((w64 (v7 * 256)) + (x10.toNat : Int))))), (11, (I (w64 (v8 + 1))))], [], ⟨1, [(0, ⟨1, ((v3).flatMap cI), true⟩)]⟩⟩) (by kernel_rfl) (by kernel_rfl) ?_
            exact Exists.intro n2 (And.intro (Nat.lt_succ_self _) (Exists.intro (w64 ((w64 (v7 * 256)) + (x10.toNat : Int))) (Exists.intro (w64 (v8 + 1)) (And.intro rfl h))))
          · rw [condF hb9] at h
            refine awp_condF (boF hb9) ?_
            refine awp_exit ?_
            show AWp _ _ _ _
            obtain ⟨x11, hx11, h⟩ := bindS h
            obtain ⟨x12, hx12, h⟩ := bindS h
            refine awp_kn [0, 1, 7, 8] 0 1 (st' := ⟨56, 0, [(0, (S t0)), (1, (S x12)), (7, (GV 0 x11.length)), (8, (I v2))], [], ⟨1, [(0, ⟨1, ((x11).flatMap cI), true⟩)]⟩⟩) (awp_draw (T := [(GV 0 v3.length), (I v7), (SL 1 cI ([v7] : List Int)), (GV 0 x11.length), (S v1), (I (w64 ((x5.toNat : Int) - 48))), (S x12), (GV 0 x11.length), (S x12)]) (LH := [([], ⟨1, [(0, ⟨1, ((v3).flatMap cI), true⟩)]⟩), ([], ⟨1, [(0, ⟨1, ((x11).flatMap cI), true⟩)]⟩)]) (D := [⟨[(7, none)], [], [0], false⟩, ⟨[(10, none)], [], [0], false⟩, ⟨[(48, some 1)], [1], [0], false⟩, ⟨[(47, some 0), (49, some 2)], [0, 1, 2], [0], true⟩, ⟨[(1, none)], [], [0, 1], false⟩, ⟨[(9, none)], [], [0, 1], false⟩, ⟨[(51, some 4), (52, some 5)], [4, 5], [0, 1], false⟩, ⟨[(50, some 3)], [0, 1, 2, 3], [1], false⟩, ⟨[(53, some 6)], [0, 1, 2, 3, 4, 5, 6, 7], [1], false⟩]) (S := [3]) (plan := [0, 1, 2, 3, 4, 5, 6, 7, 8]) mo (by kernel_rfl) rfl rfl rfl (dcons (dstep1 (Tm := [(7, (GV 0 v3.length))]) (L := []) (H := ⟨1, [(0, ⟨1, ((v3).flatMap cI), true⟩)]⟩) rfl rfl rfl rfl rfl (astep_do rfl (ex_move (eV (v := (GV 0 v3.length)) rfl)))) (dcons (dstep1 (Tm := [(10, (I v7))]) (L := []) (H := ⟨1, [(0, ⟨1, ((v3).flatMap cI), true⟩)]⟩) rfl rfl rfl rfl rfl (astep_do rfl (ex_move (eV (v := (I v7)) rfl)))) (dcons (dstep1 (Tm := [(48, (I v7))]) (L := []) (H := ⟨1, [(0, ⟨1, ((v3).flatMap cI), true⟩)]⟩) rfl rfl rfl rfl rfl (astep_do rfl (ex_buildSliceD (qs := [(0, (I v7))]) (cells := (([v7] : List Int).flatMap cI)) Try.underlying48 s_3 (by decide) (evp rfl evp_nil) rfl (by kernel_rfl) (by kernel_rfl) (by kernel_rfl)))) (dcons (dstep1 (Tm := [(47, (GV 0 v3.length)), (49, (SL 1 cI ([v7] : List Int)))]) (L := []) (H := ⟨1, [(0, ⟨1, ((v3).flatMap cI), true⟩)]⟩) rfl rfl rfl rfl rfl (astep_do rfl (tx_appG (c := cI) (xs := v3) (H' := ⟨1, [(0, ⟨1, ((x11).flatMap cI), true⟩)]⟩) ceI e_3 rfl rfl rfl (tsrcD (ys := ([v7] : List Int)) ceI Try.underlying48 s_3 Try.underlying48 rfl) hx11 rfl))) (dcons (dstepN (by intro k hk; simp only [List.mem_cons, List.not_mem_nil, or_false] at hk; rcases hk with rfl | rfl <;> exact ⟨[(1, (S v1))], _, _, _, _, _, rfl, rfl, rfl, rfl, astep_do rfl (ex_move (eV (v := (S v1)) rfl))⟩)) (dcons (dstepN (by intro k hk; simp only [List.mem_cons, List.not_mem_nil, or_false] at hk; rcases hk with rfl | rfl <;> exact ⟨[(9, (I (w64 ((x5.toNat : Int) - 48))))], _, _, _, _, _, rfl, rfl, rfl, rfl, astep_do rfl (ex_move (eV (v := (I (w64 ((x5.toNat : Int) - 48)))) rfl))⟩)) (dcons (dstepN (by intro k hk; simp only [List.mem_cons, List.not_mem_nil, or_false] at hk; rcases hk with rfl | rfl <;> exact ⟨[(51, (S v1)), (52, (I (w64 ((x5.toNat : Int) - 48))))], _, _, _, _, _, rfl, rfl, rfl, rfl, astep_do rfl (tx_slS (u := v1) Try.underlying9 rfl (loX (l := (w64 ((x5.toNat : Int) - 48))) rfl) hiN hx12)⟩)) (dcons (dstep1 (Tm := [(50, (GV 0 x11.length))]) (L := []) (H := ⟨1, [(0, ⟨1, ((x11).flatMap cI), true⟩)]⟩) rfl rfl rfl rfl rfl (astep_do rfl (ex_assign (eV (v := (GV 0 x11.length)) rfl)))) (dcons (dstep1 (Tm := [(53, (S x12))]) (L := []) (H := ⟨1, [(0, ⟨1, ((x11).flatMap cI), true⟩)]⟩) rfl rfl rfl rfl rfl (astep_do rfl (ex_assign (eV (v := (S x12)) rfl)))) dnil))))))))) ⟨rfl, rfl⟩) (by kernel_rfl) (by kernel_rfl) ?_
            show AWp _ _ _ _
            refine awp_region ?_
            refine arun_do rfl rfl rfl (ex_move (eV (v := (I v2)) rfl)) ?_
            refine arun_do rfl rfl rfl (ex_bin (vx := (I v2)) (vy := (I 1)) rfl rfl addI_ok) ?_
            refine arun_do rfl rfl rfl (ex_assign (eV (v := (I (w64 (v2 + 1)))) rfl)) ?_
            refine arun_keepE [0, 1, 7, 8] 0 1 (st' := ⟨56, 0, [(0, (S t0)), (1, (S x12)), (7, (GV 0 x11.length)), (8, (I (w64 (v2 + 1))))], [], ⟨1, [(0, ⟨1, ((x11).flatMap cI), true⟩)]⟩⟩) (by kernel_rfl) (by kernel_rfl) ?_
            exact Exists.intro n1 (And.intro (Nat.lt_succ_self _) (Exists.intro x12 (Exists.intro (w64 (v2 + 1)) (Exists.intro x11 (And.intro rfl h)))))
    · rw [condF hb4] at h
      refine awp_condF (boF hb4) ?_
      refine awp_exit ?_
      show AWp _ _ _ _
      refine awp_seq ?_
      refine awp_region ?_
      refine arun_do rfl rfl rfl (ex_move (eV (v := (GV 0 v3.length)) rfl)) ?_
      refine arun_do rfl rfl rfl (ex_move (eV (v := (S v1)) rfl)) ?_
      refine arun_do rfl rfl rfl (ex_assign (eV (v := (GV 0 v3.length)) rfl)) ?_
      refine arun_do rfl rfl rfl (ex_assign (eV (v := (S v1)) rfl)) ?_
      refine arun_do rfl rfl rfl (ex_assign (eV (v := (Bo true)) rfl)) ?_
      refine arun_keepE [4, 5, 6] 0 1 (st' := ⟨56, 0, [(4, (GV 0 v3.length)), (5, (S v1)), (6, (Bo true))], [], ⟨1, [(0, ⟨1, ((v3).flatMap cI), true⟩)]⟩⟩) (by kernel_rfl) (by kernel_rfl) ?_
      show AWp _ _ _ _
      refine awp_freeze 0 (bk := ⟨1, ((v3).flatMap cI), true⟩) (T' := [(4, (SL 1 cI v3)), (5, (S v1)), (6, (Bo true))]) (L' := []) rfl (fzG ceI rfl rfl (FzT.keep (v := (S v1)) rfl (FzT.keep (v := (Bo true)) rfl FzT.nil))) (FzL.refl _) ?_
      show AWp _ _ _ ⟨56, 0, [(4, (SL 1 cI v3)), (5, (S v1)), (6, (Bo true))], [], ⟨1, []⟩⟩
      refine awp_ret ?_
      cases h
      exact aresN rfl (L2.cons (rtmp rfl (eV rfl)) (L2.cons (rtmp rfl (eV rfl)) (L2.cons (rtmp rfl (eV rfl)) L2.nil))) rfl

noncomputable def M_ref1_TakeBlock (t0 : Str) : Option (G_api_Block × Bool) :=
  Option.bind (M_ref1_Take ([49, 52, 50] : Str) t0) fun (x1 : ((List Int) × Str × Bool)) => Option.bind (gd ((!x1.2.2) == false) (getI x1.1 2)) fun (x2 : Int) => cond ((!x1.2.2) || (decide (x2 > (x1.2.1.length : Int)))) (some ((G_api_Block.mk 0 0 []), false)) (Option.bind (getI x1.1 0) fun (x4 : Int) => Option.bind (getI x1.1 1) fun (x5 : Int) => Option.bind (getI x1.1 2) fun (x6 : Int) => Option.bind (slL x1.2.1 0 x6) fun (x7 : Str) => Option.bind (gd (((t0.length : Int) != 256) == false) (M_ref1_PutBlock (G_api_Block.mk x4 x5 x7))) fun (x8 : Str) => cond (((t0.length : Int) != 256) || (x8 != t0)) (some ((G_api_Block.mk 0 0 []), false)) (some ((G_api_Block.mk x4 x5 x7), true)))
theorem ok_ref1_TakeBlock (t0 : Str) (r : (G_api_Block × Bool)) (h : M_ref1_TakeBlock t0 = some r) : FFn Try.prog 17 [(S t0)] (Value.tuple #[(Value.agg (c_api_Block r.1).toArray), (Bo r.2)]) := by
  refine FFn.of_body (n := 48) Try.func17 rfl Try.ntmps17 rfl rfl rfl rfl ?_
  show AWp _ _ _ ⟨48, 0, [(0, (S t0))], [], ⟨0, []⟩⟩
  unfold M_ref1_TakeBlock at h
  refine awp_seq ?_
  refine awp_region ?_
  refine arun_do rfl rfl rfl (ex_alloc (k := 0) (zs := (c_api_Block (G_api_Block.mk 0 0 []))) (L' := [(c_api_Block (G_api_Block.mk 0 0 []))]) z_23 rfl rfl rfl rfl) ?_
  refine arun_do rfl rfl rfl (ex_assign (eV (v := (Bo false)) rfl)) ?_
  refine arun_keepE [0, 2] 1 0 (st' := ⟨48, 0, [(0, (S t0)), (2, (LP 0 0))], [(c_api_Block (G_api_Block.mk 0 0 []))], ⟨0, []⟩⟩) (by kernel_rfl) (by kernel_rfl) ?_
  show AWp _ _ _ _
  refine awp_seq ?_
  refine awp_region ?_
  refine arun_do rfl rfl rfl (ex_move (eV (v := (S t0)) rfl)) ?_
  obtain ⟨x1, hx1, h⟩ := bindS h
  refine arun_do rfl rfl rfl (ex_call0 (vs := [(S ([49, 52, 50] : Str)), (S t0)]) (v := (Value.tuple #[(SL 1 cI x1.1), (S x1.2.1), (Bo x1.2.2)])) rfl en_34 (cargs (evs rfl (evs rfl evs_nil))) rfl (ok_ref1_Take ([49, 52, 50] : Str) t0 x1 hx1) rfl) ?_
  refine arun_do rfl rfl rfl (ex_move (eV (v := (Value.tuple #[(SL 1 cI x1.1), (S x1.2.1), (Bo x1.2.2)])) rfl)) ?_
  refine arun_do rfl rfl rfl (ex_extract (vx := (Value.tuple #[(SL 1 cI x1.1), (S x1.2.1), (Bo x1.2.2)])) (v := (SL 1 cI x1.1)) rfl rfl) ?_
  refine arun_do rfl rfl rfl (ex_extract (vx := (Value.tuple #[(SL 1 cI x1.1), (S x1.2.1), (Bo x1.2.2)])) (v := (S x1.2.1)) rfl rfl) ?_
  refine arun_do rfl rfl rfl (ex_extract (vx := (Value.tuple #[(SL 1 cI x1.1), (S x1.2.1), (Bo x1.2.2)])) (v := (Bo x1.2.2)) rfl rfl) ?_
  refine arun_do rfl rfl rfl (ex_assign (eV (v := (SL 1 cI x1.1)) rfl)) ?_
  refine arun_do rfl rfl rfl (ex_assign (eV (v := (S x1.2.1)) rfl)) ?_
  refine arun_do rfl rfl rfl (ex_assign (eV (v := (Bo x1.2.2)) rfl)) ?_
  refine arun_keepE [0, 2, 4, 5, 6] 1 0 (st' := ⟨48, 0, [(0, (S t0)), (2, (LP 0 0)), (4, (SL 1 cI x1.1)), (5, (S x1.2.1)), (6, (Bo x1.2.2))], [(c_api_Block (G_api_Block.mk 0 0 []))], ⟨0, []⟩⟩) (by kernel_rfl) (by kernel_rfl) ?_
  show AWp _ _ _ _
  refine awp_seq ?_
  refine awp_seq ?_
  refine awp_region ?_
  refine arun_do rfl rfl rfl (ex_move (eV (v := (Bo x1.2.2)) rfl)) ?_
  refine arun_do rfl rfl rfl (ex_un (vx := (Bo x1.2.2)) rfl notB_ok) ?_
  refine arun_do rfl rfl rfl (ex_move (eV (v := (Bo (!x1.2.2))) rfl)) ?_
  refine arun_guard (v := (SL 1 cI x1.1)) ((!x1.2.2) == false) rfl rfl rfl (fun hc => ex_move (eV (v := (SL 1 cI x1.1)) rfl)) ?_
  obtain ⟨x2, hx2, h⟩ := bindS h
  refine arun_guard (v := (DP (cI x2))) ((!x1.2.2) == false) rfl rfl rfl (fun hc => tx_idxD (c := cI) (xs := x1.1) (i := 2) ceI Try.underlying48 s_3 (cond_of hc) rfl (gd_of hc hx2)) ?_
  refine arun_guard (v := (I x2)) ((!x1.2.2) == false) rfl rfl rfl (fun hc => tx_ldD1 (v := (I x2)) Try.underlying3 rfl (cond_of hc) rfl) ?_
  refine arun_guard (v := (S x1.2.1)) ((!x1.2.2) == false) rfl rfl rfl (fun hc => ex_move (eV (v := (S x1.2.1)) rfl)) ?_
  refine arun_guard (v := (I (x1.2.1.length : Int))) ((!x1.2.2) == false) rfl rfl rfl (fun hc => tx_lenS Try.underlying9 (cond_of hc)) ?_
  refine arun_guard (v := (Bo (decide (x2 > (x1.2.1.length : Int))))) ((!x1.2.2) == false) rfl rfl rfl (fun hc => ex_bin (vx := (I x2)) (vy := (I (x1.2.1.length : Int))) (cond_of hc) (cond_of hc) gtrI_ok) ?_
  refine arun_do rfl rfl rfl (ex_pick rfl pkOr) ?_
  refine arun_keepE [0, 2, 4, 5, 23] 1 0 (st' := ⟨48, 0, [(0, (S t0)), (2, (LP 0 0)), (4, (SL 1 cI x1.1)), (5, (S x1.2.1)), (23, (Bo ((!x1.2.2) || (decide (x2 > (x1.2.1.length : Int))))))], [(c_api_Block (G_api_Block.mk 0 0 []))], ⟨0, []⟩⟩) (by kernel_rfl) (by kernel_rfl) ?_
  show AWp _ _ _ _
  rcases Bool.eq_false_or_eq_true ((!x1.2.2) || (decide (x2 > (x1.2.1.length : Int)))) with hb3 | hb3
  · rw [condT hb3] at h
    refine awp_condT (boT hb3) ?_
    refine awp_seq ?_
    refine awp_region ?_
    refine arun_do rfl rfl rfl (ex_build (qs := []) (v := (Value.agg (c_api_Block (G_api_Block.mk 0 0 [])).toArray)) evp_nil (by kernel_rfl)) ?_
    refine arun_do0 rfl rfl (ex_storeL (vy := (Value.agg (c_api_Block (G_api_Block.mk 0 0 [])).toArray)) (cs := (c_api_Block (G_api_Block.mk 0 0 []))) (vs := (c_api_Block (G_api_Block.mk 0 0 []))) (L' := [(c_api_Block (G_api_Block.mk 0 0 []))]) rfl (eV (v := (Value.agg (c_api_Block (G_api_Block.mk 0 0 [])).toArray)) rfl) rfl s_23 rfl (Nat.le_of_ble_eq_true rfl) (by kernel_rfl)) ?_
    refine arun_do rfl rfl rfl (ex_assign (eV (v := (Bo false)) rfl)) ?_
    refine arun_keepE [2, 3] 1 0 (st' := ⟨48, 0, [(2, (LP 0 0)), (3, (Bo false))], [(c_api_Block (G_api_Block.mk 0 0 []))], ⟨0, []⟩⟩) (by kernel_rfl) (by kernel_rfl) ?_
    show AWp _ _ _ _
    refine awp_ret ?_
    cases h
    exact aresN rfl (L2.cons (rcellL rfl rfl rfl (partA Try.underlying23 rfl s_23 (by decide) (Nat.le_of_ble_eq_true rfl) rfl)) (L2.cons (rtmp rfl (eV rfl)) L2.nil)) rfl
  · rw [condF hb3] at h
    refine awp_condF (boF hb3) ?_
    refine awp_skip ?_
    show AWp _ _ _ _
    refine awp_seq ?_
    obtain ⟨x4, hx4, h⟩ := bindS h
    obtain ⟨x5, hx5, h⟩ := bindS h
    obtain ⟨x6, hx6, h⟩ := bindS h
    obtain ⟨x7, hx7, h⟩ := bindS h
    refine awp_kn [0, 2, 7] 2 0 (st' := ⟨48, 0, [(0, (S t0)), (2, (LP 0 0)), (7, (LP 1 0))], [(c_api_Block (G_api_Block.mk 0 0 [])), (c_api_Block (G_api_Block.mk x4 x5 x7))], ⟨0, []⟩⟩) (awp_draw (T := [(SL 1 cI x1.1), (DP (cI x4)), (I x4), (SL 1 cI x1.1), (DP (cI x5)), (I x5), (S x1.2.1), (SL 1 cI x1.1), (DP (cI x6)), (I x6), (S x7), (Value.agg (c_api_Block (G_api_Block.mk x4 x5 x7)).toArray), (LP 1 0), undef]) (LH := [([(c_api_Block (G_api_Block.mk 0 0 []))], ⟨0, []⟩), ([(c_api_Block (G_api_Block.mk 0 0 [])), (c_api_Block (G_api_Block.mk 0 0 []))], ⟨0, []⟩), ([(c_api_Block (G_api_Block.mk 0 0 [])), (c_api_Block (G_api_Block.mk x4 x5 x7))], ⟨0, []⟩)]) (D := [⟨[(4, none)], [], [0, 1], false⟩, ⟨[(25, some 0)], [0], [0, 1], false⟩, ⟨[(26, some 1)], [0, 1], [0, 1], false⟩, ⟨[(4, none)], [], [0, 1], false⟩, ⟨[(28, some 3)], [3], [0, 1], false⟩, ⟨[(29, some 4)], [3, 4], [0, 1], false⟩, ⟨[(5, none)], [], [0, 1], false⟩, ⟨[(4, none)], [], [0, 1], false⟩, ⟨[(32, some 7)], [7], [0, 1], false⟩, ⟨[(33, some 8)], [7, 8], [0, 1], false⟩, ⟨[(31, some 6), (34, some 9)], [6, 7, 8, 9], [0, 1], false⟩, ⟨[(27, some 2), (30, some 5), (35, some 10)], [0, 1, 2, 3, 4, 5, 6, 7, 8, 9, 10], [0, 1], false⟩, ⟨[], [], [0], true⟩, ⟨[(7, some 12), (36, some 11)], [0, 1, 2, 3, 4, 5, 6, 7, 8, 9, 10, 11, 12], [1], true⟩]) (S := [12, 13]) (plan := [0, 1, 2, 3, 4, 5, 6, 7, 8, 9, 10, 11, 12, 13]) mo (by kernel_rfl) rfl rfl rfl (dcons (dstepN (by intro k hk; simp only [List.mem_cons, List.not_mem_nil, or_false] at hk; rcases hk with rfl | rfl <;> exact ⟨[(4, (SL 1 cI x1.1))], _, _, _, _, _, rfl, rfl, rfl, rfl, astep_do rfl (ex_move (eV (v := (SL 1 cI x1.1)) rfl))⟩)) (dcons (dstepN (by intro k hk; simp only [List.mem_cons, List.not_mem_nil, or_false] at hk; rcases hk with rfl | rfl <;> exact ⟨[(25, (SL 1 cI x1.1))], _, _, _, _, _, rfl, rfl, rfl, rfl, astep_do rfl (tx_idxD (c := cI) (xs := x1.1) (i := 0) ceI Try.underlying48 s_3 rfl rfl hx4)⟩)) (dcons (dstepN (by intro k hk; simp only [List.mem_cons, List.not_mem_nil, or_false] at hk; rcases hk with rfl | rfl <;> exact ⟨[(26, (DP (cI x4)))], _, _, _, _, _, rfl, rfl, rfl, rfl, astep_do rfl (tx_ldD1 (v := (I x4)) Try.underlying3 rfl rfl rfl)⟩)) (dcons (dstepN (by intro k hk; simp only [List.mem_cons, List.not_mem_nil, or_false] at hk; rcases hk with rfl | rfl <;> exact ⟨[(4, (SL 1 cI x1.1))], _, _, _, _, _, rfl, rfl, rfl, rfl, astep_do rfl (ex_move (eV (v := (SL 1 cI x1.1)) rfl))⟩)) (dcons (dstepN (by intro k hk; simp only [List.mem_cons, List.not_mem_nil, or_false] at hk; rcases hk with rfl | rfl <;> exact ⟨[(28, (SL 1 cI x1.1))], _, _, _, _, _, rfl, rfl, rfl, rfl, astep_do rfl (tx_idxD (c := cI) (xs := x1.1) (i := 1) ceI Try.underlying48 s_3 rfl rfl hx5)⟩)) (dcons (dstepN (by intro k hk; simp only [List.mem_cons, List.not_mem_nil, or_false] at hk; rcases hk with rfl | rfl <;> exact ⟨[(29, (DP (cI x5)))], _, _, _, _, _, rfl, rfl, rfl, rfl, astep_do rfl (tx_ldD1 (v := (I x5)) Try.underlying3 rfl rfl rfl)⟩)) (dcons (dstepN (by intro k hk; simp only [List.mem_cons, List.not_mem_nil, or_false] at hk; rcases hk with rfl | rfl <;> exact ⟨[(5, (S x1.2.1))], _, _, _, _, _, rfl, rfl, rfl, rfl, astep_do rfl (ex_move (eV (v := (S x1.2.1)) rfl))⟩)) (dcons (dstepN (by intro k hk; simp only [List.mem_cons, List.not_mem_nil, or_false] at hk; rcases hk with rfl | rfl <;> exact ⟨[(4, (SL 1 cI x1.1))], _, _, _, _, _, rfl, rfl, rfl, rfl, astep_do rfl (ex_move (eV (v := (SL 1 cI x1.1)) rfl))⟩)) (dcons (dstepN (by intro k hk; simp only [List.mem_cons, List.not_mem_nil, or_false] at hk; rcases hk with rfl | rfl <;> exact ⟨[(32, (SL 1 cI x1.1))], _, _, _, _, _, rfl, rfl, rfl, rfl, astep_do rfl (tx_idxD (c := cI) (xs := x1.1) (i := 2) ceI Try.underlying48 s_3 rfl rfl hx6)⟩)) (dcons (dstepN (by intro k hk; simp only [List.mem_cons, List.not_mem_nil, or_false] at hk; rcases hk with rfl | rfl <;> exact ⟨[(33, (DP (cI x6)))], _, _, _, _, _, rfl, rfl, rfl, rfl, astep_do rfl (tx_ldD1 (v := (I x6)) Try.underlying3 rfl rfl rfl)⟩)) (dcons (dstepN (by intro k hk; simp only [List.mem_cons, List.not_mem_nil, or_false] at hk; rcases hk with rfl | rfl <;> exact ⟨[(31, (S x1.2.1)), (34, (I x6))], _, _, _, _, _, rfl, rfl, rfl, rfl, astep_do rfl (tx_slS (u := x1.2.1) Try.underlying9 rfl lo0 (hiX (l := x6) rfl) hx7)⟩)) (dcons (dstepN (by intro k hk; simp only [List.mem_cons, List.not_mem_nil, or_false] at hk; rcases hk with rfl | rfl <;> exact ⟨[(27, (I x4)), (30, (I x5)), (35, (S x7))], _, _, _, _, _, rfl, rfl, rfl, rfl, astep_do rfl (ex_build (qs := [(0, (I x4)), (1, (I x5)), (2, (S x7))]) (v := (Value.agg (c_api_Block (G_api_Block.mk x4 x5 x7)).toArray)) (evp rfl (evp rfl (evp rfl evp_nil))) (by kernel_rfl))⟩)) (dcons (dstep1 (Tm := []) (L := [(c_api_Block (G_api_Block.mk 0 0 []))]) (H := ⟨0, []⟩) rfl rfl rfl rfl rfl (astep_do rfl (ex_alloc (k := 1) (zs := (c_api_Block (G_api_Block.mk 0 0 []))) (L' := [(c_api_Block (G_api_Block.mk 0 0 [])), (c_api_Block (G_api_Block.mk 0 0 []))]) z_23 rfl rfl rfl rfl))) (dcons (dstep1 (Tm := [(7, (LP 1 0)), (36, (Value.agg (c_api_Block (G_api_Block.mk x4 x5 x7)).toArray))]) (L := [(c_api_Block (G_api_Block.mk 0 0 [])), (c_api_Block (G_api_Block.mk 0 0 []))]) (H := ⟨0, []⟩) rfl rfl rfl rfl rfl (astep_do rfl (ex_storeL (vy := (Value.agg (c_api_Block (G_api_Block.mk x4 x5 x7)).toArray)) (cs := (c_api_Block (G_api_Block.mk 0 0 []))) (vs := (c_api_Block (G_api_Block.mk x4 x5 x7))) (L' := [(c_api_Block (G_api_Block.mk 0 0 [])), (c_api_Block (G_api_Block.mk x4 x5 x7))]) rfl (eV (v := (Value.agg (c_api_Block (G_api_Block.mk x4 x5 x7)).toArray)) rfl) rfl s_23 rfl (Nat.le_of_ble_eq_true rfl) (by kernel_rfl)))) dnil)))))))))))))) ⟨rfl, rfl⟩) (by kernel_rfl) (by kernel_rfl) ?_
    show AWp _ _ _ _
    refine awp_seq ?_
    refine awp_seq ?_
    refine awp_region ?_
    refine arun_do rfl rfl rfl (ex_move (eV (v := (S t0)) rfl)) ?_
    refine arun_do rfl rfl rfl (tx_lenS Try.underlying9 rfl) ?_
    refine arun_do rfl rfl rfl (ex_bin (vx := (I (t0.length : Int))) (vy := (I 256)) rfl rfl neqI_ok) ?_
    refine arun_do rfl rfl rfl (ex_move (eV (v := (Bo ((t0.length : Int) != 256))) rfl)) ?_
    refine arun_guard (v := (Value.agg (c_api_Block (G_api_Block.mk x4 x5 x7)).toArray)) (((t0.length : Int) != 256) == false) rfl rfl rfl (fun hc => tx_ldLA (vs := (c_api_Block (G_api_Block.mk x4 x5 x7))) Try.underlying23 rfl s_23 (by decide) rfl rfl rfl rfl) ?_
    obtain ⟨x8, hx8, h⟩ := bindS h
    refine arun_guard (v := (S x8)) (((t0.length : Int) != 256) == false) rfl rfl rfl (fun hc => ex_call0 (vs := [(Value.agg (c_api_Block (G_api_Block.mk x4 x5 x7)).toArray)]) (v := (S x8)) rfl en_13 (cargs (evs (cond_of hc) evs_nil)) rfl (ok_ref1_PutBlock (G_api_Block.mk x4 x5 x7) x8 (gd_of hc hx8)) rfl) ?_
    refine arun_guard (v := (S t0)) (((t0.length : Int) != 256) == false) rfl rfl rfl (fun hc => ex_move (eV (v := (S t0)) rfl)) ?_
    refine arun_guard (v := (Bo (x8 != t0))) (((t0.length : Int) != 256) == false) rfl rfl rfl (fun hc => ex_bin (vx := (S x8)) (vy := (S t0)) (cond_of hc) (cond_of hc) neqS_ok) ?_
    refine arun_do rfl rfl rfl (ex_pick rfl pkOr) ?_
    refine arun_keepE [2, 7, 45] 2 0 (st' := ⟨48, 0, [(2, (LP 0 0)), (7, (LP 1 0)), (45, (Bo (((t0.length : Int) != 256) || (x8 != t0))))], [(c_api_Block (G_api_Block.mk 0 0 [])), (c_api_Block (G_api_Block.mk x4 x5 x7))], ⟨0, []⟩⟩) (by kernel_rfl) (by kernel_rfl) ?_
    show AWp _ _ _ _
    rcases Bool.eq_false_or_eq_true (((t0.length : Int) != 256) || (x8 != t0)) with hb9 | hb9
    · rw [condT hb9] at h
      refine awp_condT (boT hb9) ?_
      refine awp_seq ?_
      refine awp_region ?_
      refine arun_do rfl rfl rfl (ex_build (qs := []) (v := (Value.agg (c_api_Block (G_api_Block.mk 0 0 [])).toArray)) evp_nil (by kernel_rfl)) ?_
      refine arun_do0 rfl rfl (ex_storeL (vy := (Value.agg (c_api_Block (G_api_Block.mk 0 0 [])).toArray)) (cs := (c_api_Block (G_api_Block.mk 0 0 []))) (vs := (c_api_Block (G_api_Block.mk 0 0 []))) (L' := [(c_api_Block (G_api_Block.mk 0 0 [])), (c_api_Block (G_api_Block.mk x4 x5 x7))]) rfl (eV (v := (Value.agg (c_api_Block (G_api_Block.mk 0 0 [])).toArray)) rfl) rfl s_23 rfl (Nat.le_of_ble_eq_true rfl) (by kernel_rfl)) ?_
      refine arun_do rfl rfl rfl (ex_assign (eV (v := (Bo false)) rfl)) ?_
      refine arun_keepE [2, 3] 1 0 (st' := ⟨48, 0, [(2, (LP 0 0)), (3, (Bo false))], [(c_api_Block (G_api_Block.mk 0 0 []))], ⟨0, []⟩⟩) (by kernel_rfl) (by kernel_rfl) ?_
      show AWp _ _ _ _
      refine awp_ret ?_
      cases h
      exact aresN rfl (L2.cons (rcellL rfl rfl rfl (partA Try.underlying23 rfl s_23 (by decide) (Nat.le_of_ble_eq_true rfl) rfl)) (L2.cons (rtmp rfl (eV rfl)) L2.nil)) rfl
    · rw [condF hb9] at h
      refine awp_condF (boF hb9) ?_
      refine awp_skip ?_
      show AWp _ _ _ _
      refine awp_seq ?_
      refine awp_region ?_
      refine arun_do rfl rfl rfl (tx_ldLA (vs := (c_api_Block (G_api_Block.mk x4 x5 x7))) Try.underlying23 rfl s_23 (by decide) rfl rfl rfl rfl) ?_
      refine arun_do0 rfl rfl (ex_storeL (vy := (Value.agg (c_api_Block (G_api_Block.mk x4 x5 x7)).toArray)) (cs := (c_api_Block (G_api_Block.mk 0 0 []))) (vs := (c_api_Block (G_api_Block.mk x4 x5 x7))) (L' := [(c_api_Block (G_api_Block.mk x4 x5 x7)), (c_api_Block (G_api_Block.mk x4 x5 x7))]) rfl (eV (v := (Value.agg (c_api_Block (G_api_Block.mk x4 x5 x7)).toArray)) rfl) rfl s_23 rfl (Nat.le_of_ble_eq_true rfl) (by kernel_rfl)) ?_
      refine arun_do rfl rfl rfl (ex_assign (eV (v := (Bo true)) rfl)) ?_
      refine arun_keepE [2, 3] 1 0 (st' := ⟨48, 0, [(2, (LP 0 0)), (3, (Bo true))], [(c_api_Block (G_api_Block.mk x4 x5 x7))], ⟨0, []⟩⟩) (by kernel_rfl) (by kernel_rfl) ?_
      show AWp _ _ _ _
      refine awp_ret ?_
      cases h
      exact aresN rfl (L2.cons (rcellL rfl rfl rfl (partA Try.underlying23 rfl s_23 (by decide) (Nat.le_of_ble_eq_true rfl) rfl)) (L2.cons (rtmp rfl (eV rfl)) L2.nil)) rfl

end Go.Proofs
