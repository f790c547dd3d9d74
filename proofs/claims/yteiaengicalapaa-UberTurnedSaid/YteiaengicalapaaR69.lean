/- Pure models of functions of the program, and that its code does what they say: palimpref1 TakePtrs, palimpref1 TakeUber. Written by a program. -/
import Derived.Test.YteiaengicalapaaR66
import Derived.Test.YteiaengicalapaaR68
import Derived.Test.YteiaengicalapaaR6B
set_option maxRecDepth 20000
set_option maxHeartbeats 4000000
namespace Go.Proofs
open Go Go.Fhl
set_option linter.unusedVariables false
set_option linter.unusedSimpArgs false
noncomputable def M_ref1_TakePtrs_l1 (t1 : Int) : Nat → Str → Int → List G_api_Ptr → Option ((List G_api_Ptr) × Str × Bool)
  | 0, _, _, _ => none
  | n1 + 1, v1, v2, v3 =>
  cond (decide (v2 < t1)) (Option.bind (M_ref1_Take ([50, 52, 52, 52, 52, 52] : Str) v1) fun (x5 : ((List Int) × Str × Bool)) => cond (!x5.2.2) (some ([], [], false)) (Option.bind (getI x5.1 0) fun (x7 : Int) => Option.bind (getI x5.1 1) fun (x8 : Int) => Option.bind (getI x5.1 2) fun (x9 : Int) => Option.bind (getI x5.1 3) fun (x10 : Int) => Option.bind (getI x5.1 4) fun (x11 : Int) => Option.bind (getI x5.1 5) fun (x12 : Int) => Option.bind (M_ref1_MayPtr (G_api_Ptr.mk x7 x8 (A4.mk (UInt32.ofInt x9) (UInt32.ofInt x10) (UInt32.ofInt x11) (UInt32.ofInt x12)))) fun (x13 : Bool) => cond (!x13) (some ([], [], false)) (Option.bind (appL 32 v3 ([(G_api_Ptr.mk x7 x8 (A4.mk (UInt32.ofInt x9) (UInt32.ofInt x10) (UInt32.ofInt x11) (UInt32.ofInt x12)))] : List G_api_Ptr)) fun (x15 : List G_api_Ptr) => (M_ref1_TakePtrs_l1 t1 n1) x5.2.1 (w64 (v2 + 1)) x15))) (some (v3, v1, true))
noncomputable def M_ref1_TakePtrs (t0 : Str) (t1 : Int) : Option ((List G_api_Ptr) × Str × Bool) :=
  M_ref1_TakePtrs_l1 t1 fuel t0 0 ([] : List G_api_Ptr)
theorem ok_ref1_TakePtrs (t0 : Str) (t1 : Int) (r : ((List G_api_Ptr) × Str × Bool)) (h : M_ref1_TakePtrs t0 t1 = some r) : FFn Try.prog 32 [(S t0), (I t1)] (Value.tuple #[(SL 6 c_api_Ptr r.1), (S r.2.1), (Bo r.2.2)]) := by
  refine FFn.of_body (n := 60) Try.func32 rfl Try.ntmps32 rfl rfl rfl rfl ?_
  show AWp _ _ _ ⟨60, 0, [(0, (S t0)), (1, (I t1))], [], ⟨0, []⟩⟩
  unfold M_ref1_TakePtrs at h
  refine awp_seq ?_
  refine awp_region ?_
  refine arun_do rfl rfl rfl (ex_assign (eV (v := (Value.slice none 0 0)) rfl)) ?_
  refine arun_do rfl rfl rfl (ex_assign (eV (v := (S [])) rfl)) ?_
  refine arun_do rfl rfl rfl (ex_assign (eV (v := (Bo false)) rfl)) ?_
  refine arun_keepE [0, 1] 0 0 (st' := ⟨60, 0, [(0, (S t0)), (1, (I t1))], [], ⟨0, []⟩⟩) (by kernel_rfl) (by kernel_rfl) ?_
  show AWp _ _ _ _
  refine awp_seq ?_
  refine awp_region ?_
  refine arun_do rfl rfl rfl (ex_assign (eV (v := (Value.slice none 0 0)) rfl)) ?_
  refine arun_keepE [0, 1, 7] 0 0 (st' := ⟨60, 0, [(0, (S t0)), (1, (I t1)), (7, (Value.slice none 0 0))], [], ⟨0, []⟩⟩) (by kernel_rfl) (by kernel_rfl) ?_
  show AWp _ _ _ _
  refine awp_seq ?_
  refine awp_seq ?_
  refine awp_region ?_
  refine arun_do rfl rfl rfl (ex_assign (eV (v := (I 0)) rfl)) ?_
  refine arun_keepE [0, 1, 7, 8] 0 0 (st' := ⟨60, 0, [(0, (S t0)), (1, (I t1)), (7, (Value.slice none 0 0)), (8, (I 0))], [], ⟨0, []⟩⟩) (by kernel_rfl) (by kernel_rfl) ?_
  show AWp _ _ _ _
  refine awp_block ?_
  refine awp_nilGro 7 6 rfl (by decide) ?_
  refine awp_keepE [0, 1, 7, 8] 0 1 (st' := ⟨60, 0, [(0, (S t0)), (1, (I t1)), (7, (GV 0 0)), (8, (I 0))], [], ⟨1, [(0, ⟨6, (([] : List G_api_Ptr).flatMap c_api_Ptr), true⟩)]⟩⟩) (by kernel_rfl) (by kernel_rfl) ?_
  refine awp_loop (fun n s => ∃ (v1 : Str) (v2 : Int) (v3 : List G_api_Ptr), s = ⟨60, 0, [(0, (S v1)), (1, (I t1)), (7, (GV 0 v3.length)), (8, (I v2))], [], ⟨1, [(0, ⟨6, ((v3).flatMap c_api_Ptr), true⟩)]⟩⟩ ∧ M_ref1_TakePtrs_l1 t1 n v1 v2 v3 = some r) fuel (Exists.intro t0 (Exists.intro 0 (Exists.intro ([] : List G_api_Ptr) (And.intro rfl h)))) ?_
  rintro n s ⟨v1, v2, v3, rfl, h⟩ -
  cases n with
  | zero => cases h
  | succ n1 =>
    unfold M_ref1_TakePtrs_l1 at h
    refine awp_seq ?_
    refine awp_seq ?_
    refine awp_region ?_
    refine arun_do rfl rfl rfl (ex_move (eV (v := (I v2)) rfl)) ?_
    refine arun_do rfl rfl rfl (ex_move (eV (v := (I t1)) rfl)) ?_
    refine arun_do rfl rfl rfl (ex_bin (vx := (I v2)) (vy := (I t1)) rfl rfl lssI_ok) ?_
    refine arun_keepE [0, 1, 7, 8, 15] 0 1 (st' := ⟨60, 0, [(0, (S v1)), (1, (I t1)), (7, (GV 0 v3.length)), (8, (I v2)), (15, (Bo (decide (v2 < t1))))], [], ⟨1, [(0, ⟨6, ((v3).flatMap c_api_Ptr), true⟩)]⟩⟩) (by kernel_rfl) (by kernel_rfl) ?_
    show AWp _ _ _ _
    rcases Bool.eq_false_or_eq_true (decide (v2 < t1)) with hb4 | hb4
    · rw [condT hb4] at h
      refine awp_condT (boT hb4) ?_
      refine awp_skip ?_
      show AWp _ _ _ _
      refine awp_seq ?_
      refine awp_block ?_
      refine awp_seq ?_
      refine awp_region ?_
      refine arun_do rfl rfl rfl (ex_move (eV (v := (S v1)) rfl)) ?_
      obtain ⟨x5, hx5, h⟩ := bindS h
      refine arun_do rfl rfl rfl (ex_call0 (vs := [(S ([50, 52, 52, 52, 52, 52] : Str)), (S v1)]) (v := (Value.tuple #[(SL 1 cI x5.1), (S x5.2.1), (Bo x5.2.2)])) rfl en_31 (cargs (evs rfl (evs rfl evs_nil))) rfl (ok_ref1_Take ([50, 52, 52, 52, 52, 52] : Str) v1 x5 hx5) rfl) ?_
      refine arun_do rfl rfl rfl (ex_move (eV (v := (Value.tuple #[(SL 1 cI x5.1), (S x5.2.1), (Bo x5.2.2)])) rfl)) ?_
      refine arun_do rfl rfl rfl (ex_extract (vx := (Value.tuple #[(SL 1 cI x5.1), (S x5.2.1), (Bo x5.2.2)])) (v := (SL 1 cI x5.1)) rfl rfl) ?_
      refine arun_do rfl rfl rfl (ex_extract (vx := (Value.tuple #[(SL 1 cI x5.1), (S x5.2.1), (Bo x5.2.2)])) (v := (S x5.2.1)) rfl rfl) ?_
      refine arun_do rfl rfl rfl (ex_extract (vx := (Value.tuple #[(SL 1 cI x5.1), (S x5.2.1), (Bo x5.2.2)])) (v := (Bo x5.2.2)) rfl rfl) ?_
      refine arun_do rfl rfl rfl (ex_assign (eV (v := (SL 1 cI x5.1)) rfl)) ?_
      refine arun_do rfl rfl rfl (ex_assign (eV (v := (S x5.2.1)) rfl)) ?_
      refine arun_do rfl rfl rfl (ex_assign (eV (v := (Bo x5.2.2)) rfl)) ?_
      refine arun_keepE [1, 7, 8, 9, 10, 11] 0 1 (st' := ⟨60, 0, [(1, (I t1)), (7, (GV 0 v3.length)), (8, (I v2)), (9, (SL 1 cI x5.1)), (10, (S x5.2.1)), (11, (Bo x5.2.2))], [], ⟨1, [(0, ⟨6, ((v3).flatMap c_api_Ptr), true⟩)]⟩⟩) (by kernel_rfl) (by kernel_rfl) ?_
      show AWp _ _ _ _
      refine awp_seq ?_
      refine awp_seq ?_
      refine awp_region ?_
      refine arun_do rfl rfl rfl (ex_move (eV (v := (Bo x5.2.2)) rfl)) ?_
      refine arun_do rfl rfl rfl (ex_un (vx := (Bo x5.2.2)) rfl notB_ok) ?_
      refine arun_keepE [1, 7, 8, 9, 10, 25] 0 1 (st' := ⟨60, 0, [(1, (I t1)), (7, (GV 0 v3.length)), (8, (I v2)), (9, (SL 1 cI x5.1)), (10, (S x5.2.1)), (25, (Bo (!x5.2.2)))], [], ⟨1, [(0, ⟨6, ((v3).flatMap c_api_Ptr), true⟩)]⟩⟩) (by kernel_rfl) (by kernel_rfl) ?_
      show AWp _ _ _ _
      rcases Bool.eq_false_or_eq_true (!x5.2.2) with hb6 | hb6
      · rw [condT hb6] at h
        refine awp_condT (boT hb6) ?_
        refine awp_seq ?_
        refine awp_region ?_
        refine arun_do rfl rfl rfl (ex_assign (eV (v := (Value.slice none 0 0)) rfl)) ?_
        refine arun_do rfl rfl rfl (ex_assign (eV (v := (S [])) rfl)) ?_
        refine arun_do rfl rfl rfl (ex_assign (eV (v := (Bo false)) rfl)) ?_
        refine arun_keepE [4, 5, 6] 0 0 (st' := ⟨60, 0, [(4, (Value.slice none 0 0)), (5, (S [])), (6, (Bo false))], [], ⟨0, []⟩⟩) (by kernel_rfl) (by kernel_rfl) ?_
        show AWp _ _ _ _
        refine awp_ret ?_
        cases h
        exact aresN rfl (L2.cons (rtmp rfl (eN rfl)) (L2.cons (rtmp rfl (eV rfl)) (L2.cons (rtmp rfl (eV rfl)) L2.nil))) rfl
      · rw [condF hb6] at h
        refine awp_condF (boF hb6) ?_
        refine awp_skip ?_
        show AWp _ _ _ _
        refine awp_seq ?_
        obtain ⟨x7, hx7, h⟩ := bindS h
        obtain ⟨x8, hx8, h⟩ := bindS h
        obtain ⟨x9, hx9, h⟩ := bindS h
        obtain ⟨x10, hx10, h⟩ := bindS h
        obtain ⟨x11, hx11, h⟩ := bindS h
        obtain ⟨x12, hx12, h⟩ := bindS h
        refine awp_kn [1, 7, 8, 10, 12] 1 1 (st' := ⟨60, 0, [(1, (I t1)), (7, (GV 0 v3.length)), (8, (I v2)), (10, (S x5.2.1)), (12, (LP 0 0))], [(c_api_Ptr (G_api_Ptr.mk x7 x8 (A4.mk (UInt32.ofInt x9) (UInt32.ofInt x10) (UInt32.ofInt x11) (UInt32.ofInt x12))))], ⟨1, [(0, ⟨6, ((v3).flatMap c_api_Ptr), true⟩)]⟩⟩) (awp_draw (T := [(SL 1 cI x5.1), (DP (cI x7)), (I x7), (SL 1 cI x5.1), (DP (cI x8)), (I x8), (SL 1 cI x5.1), (DP (cI x9)), (I x9), (U32 (UInt32.ofInt x9)), (SL 1 cI x5.1), (DP (cI x10)), (I x10), (U32 (UInt32.ofInt x10)), (SL 1 cI x5.1), (DP (cI x11)), (I x11), (U32 (UInt32.ofInt x11)), (SL 1 cI x5.1), (DP (cI x12)), (I x12), (U32 (UInt32.ofInt x12)), (Value.agg ((cA4 c32) (A4.mk (UInt32.ofInt x9) (UInt32.ofInt x10) (UInt32.ofInt x11) (UInt32.ofInt x12))).toArray), (Value.agg (c_api_Ptr (G_api_Ptr.mk x7 x8 (A4.mk (UInt32.ofInt x9) (UInt32.ofInt x10) (UInt32.ofInt x11) (UInt32.ofInt x12)))).toArray), (LP 0 0), undef]) (LH := [([], ⟨1, [(0, ⟨6, ((v3).flatMap c_api_Ptr), true⟩)]⟩), ([(c_api_Ptr (G_api_Ptr.mk 0 0 (A4.mk 0 0 0 0)))], ⟨1, [(0, ⟨6, ((v3).flatMap c_api_Ptr), true⟩)]⟩), ([(c_api_Ptr (G_api_Ptr.mk x7 x8 (A4.mk (UInt32.ofInt x9) (UInt32.ofInt x10) (UInt32.ofInt x11) (UInt32.ofInt x12))))], ⟨1, [(0, ⟨6, ((v3).flatMap c_api_Ptr), true⟩)]⟩)]) (D := [⟨[(9, none)], [], [0, 1], false⟩, ⟨[(26, some 0)], [0], [0, 1], false⟩, ⟨[(27, some 1)], [0, 1], [0, 1], false⟩, ⟨[(9, none)], [], [0, 1], false⟩, ⟨[(29, some 3)], [3], [0, 1], false⟩, ⟨[(30, some 4)], [3, 4], [0, 1], false⟩, ⟨[(9, none)], [], [0, 1], false⟩, ⟨[(32, some 6)], [6], [0, 1], false⟩, ⟨[(33, some 7)], [6, 7], [0, 1], false⟩, ⟨[(34, some 8)], [6, 7, 8], [0, 1], false⟩, ⟨[(9, none)], [], [0, 1], false⟩, ⟨[(36, some 10)], [10], [0, 1], false⟩, ⟨[(37, some 11)], [10, 11], [0, 1], false⟩, ⟨[(38, some 12)], [10, 11, 12], [0, 1], false⟩, ⟨[(9, none)], [], [0, 1], false⟩, ⟨[(40, some 14)], [14], [0, 1], false⟩, ⟨[(41, some 15)], [14, 15], [0, 1], false⟩, ⟨[(42, some 16)], [14, 15, 16], [0, 1], false⟩, ⟨[(9, none)], [], [0, 1], false⟩, ⟨[(44, some 18)], [18], [0, 1], false⟩, ⟨[(45, some 19)], [18, 19], [0, 1], false⟩, ⟨[(46, some 20)], [18, 19, 20], [0, 1], false⟩, ⟨[(35, some 9), (39, some 13), (43, some 17), (47, some 21)], [6, 7, 8, 9, 10, 11, 12, 13, 14, 15, 16, 17, 18, 19, 20, 21], [0, 1], false⟩, ⟨[(28, some 2), (31, some 5), (48, some 22)], [0, 1, 2, 3, 4, 5, 6, 7, 8, 9, 10, 11, 12, 13, 14, 15, 16, 17, 18, 19, 20, 21, 22], [0, 1], false⟩, ⟨[], [], [0], true⟩, ⟨[(12, some 24), (49, some 23)], [0, 1, 2, 3, 4, 5, 6, 7, 8, 9, 10, 11, 12, 13, 14, 15, 16, 17, 18, 19, 20, 21, 22, 23, 24], [1], true⟩]) (S := [24, 25]) (plan := [0, 1, 2, 3, 4, 5, 6, 7, 8, 9, 10, 11, 12, 13, 14, 15, 16, 17, 18, 19, 20, 21, 22, 23, 24, 25]) mo (by kernel_rfl) rfl rfl rfl (dcons (dstepN (by intro k hk; simp only [List.mem_cons, List.not_mem_nil, or_false] at hk; rcases hk with rfl | rfl <;> exact ⟨[(9, (SL 1 cI x5.1))], _, _, _, _, _, rfl, rfl, rfl, rfl, astep_do rfl (ex_move (eV (v := (SL 1 cI x5.1)) rfl))⟩)) (dcons (dstepN (by intro k hk; simp only [List.mem_cons, List.not_mem_nil, or_false] at hk; rcases hk with rfl | rfl <;> exact ⟨[(26, (SL 1 cI x5.1))], _, _, _, _, _, rfl, rfl, rfl, rfl, astep_do rfl (tx_idxD (c := cI) (xs := x5.1) (i := 0) ceI Try.underlying52 s_3 rfl rfl hx7)⟩)) (dcons (dstepN (by intro k hk; simp only [List.mem_cons, List.not_mem_nil, or_false] at hk; rcases hk with rfl | rfl <;> exact ⟨[(27, (DP (cI x7)))], _, _, _, _, _, rfl, rfl, rfl, rfl, astep_do rfl (tx_ldD1 (v := (I x7)) Try.underlying3 rfl rfl rfl)⟩)) (dcons (dstepN (by intro k hk; simp only [List.mem_cons, List.not_mem_nil, or_false] at hk; rcases hk with rfl | rfl <;> exact ⟨[(9, (SL 1 cI x5.1))], _, _, _, _, _, rfl, rfl, rfl, rfl, astep_do rfl (ex_move (eV (v := (SL 1 cI x5.1)) rfl))⟩)) (dcons (dstepN (by intro k hk; simp only [List.mem_cons, List.not_mem_nil, or_false] at hk; rcases hk with rfl | rfl <;> exact ⟨[(29, (SL 1 cI x5.1))], _, _, _, _, _, rfl, rfl, rfl, rfl, astep_do rfl (tx_idxD (c := cI) (xs := x5.1) (i := 1) ceI Try.underlying52 s_3 rfl rfl hx8)⟩)) (dcons (dstepN (by intro k hk; simp only [List.mem_cons, List.not_mem_nil, or_false] at hk; rcases hk with rfl | rfl <;> exact ⟨[(30, (DP (cI x8)))], _, _, _, _, _, rfl, rfl, rfl, rfl, astep_do rfl (tx_ldD1 (v := (I x8)) Try.underlying3 rfl rfl rfl)⟩)) (dcons (dstepN (by intro k hk; simp only [List.mem_cons, List.not_mem_nil, or_false] at hk; rcases hk with rfl | rfl <;> exact ⟨[(9, (SL 1 cI x5.1))], _, _, _, _, _, rfl, rfl, rfl, rfl, astep_do rfl (ex_move (eV (v := (SL 1 cI x5.1)) rfl))⟩)) (dcons (dstepN (by intro k hk; simp only [List.mem_cons, List.not_mem_nil, or_false] at hk; rcases hk with rfl | rfl <;> exact ⟨[(32, (SL 1 cI x5.1))], _, _, _, _, _, rfl, rfl, rfl, rfl, astep_do rfl (tx_idxD (c := cI) (xs := x5.1) (i := 2) ceI Try.underlying52 s_3 rfl rfl hx9)⟩)) (dcons (dstepN (by intro k hk; simp only [List.mem_cons, List.not_mem_nil, or_false] at hk; rcases hk with rfl | rfl <;> exact ⟨[(33, (DP (cI x9)))], _, _, _, _, _, rfl, rfl, rfl, rfl, astep_do rfl (tx_ldD1 (v := (I x9)) Try.underlying3 rfl rfl rfl)⟩)) (dcons (dstepN (by intro k hk; simp only [List.mem_cons, List.not_mem_nil, or_false] at hk; rcases hk with rfl | rfl <;> exact ⟨[(34, (I x9))], _, _, _, _, _, rfl, rfl, rfl, rfl, astep_do rfl (tx_64_32 Try.underlying3 Try.underlying22 rfl)⟩)) (dcons (dstepN (by intro k hk; simp only [List.mem_cons, List.not_mem_nil, or_false] at hk; rcases hk with rfl | rfl <;> exact ⟨[(9, (SL 1 cI x5.1))], _, _, _, _, _, rfl, rfl, rfl, rfl, astep_do rfl (ex_move (eV (v := (SL 1 cI x5.1)) rfl))⟩)) (dcons (dstepN (by intro k hk; simp only [List.mem_cons, List.not_mem_nil, or_false] at hk; rcases hk with rfl | rfl <;> exact ⟨[(36, (SL 1 cI x5.1))], _, _, _, _, _, rfl, rfl, rfl, rfl, astep_do rfl (tx_idxD (c := cI) (xs := x5.1) (i := 3) ceI Try.underlying52 s_3 rfl rfl hx10)⟩)) (dcons (dstepN (by intro k hk; simp only [List.mem_cons, List.not_mem_nil, or_false] at hk; rcases hk with rfl | rfl <;> exact ⟨[(37, (DP (cI x10)))], _, _, _, _, _, rfl, rfl, rfl, rfl, astep_do rfl (tx_ldD1 (v := (I x10)) Try.underlying3 rfl rfl rfl)⟩)) (dcons (dstepN (by intro k hk; simp only [List.mem_cons, List.not_mem_nil, or_false] at hk; rcases hk with rfl | rfl <;> exact ⟨[(38, (I x10))], _, _, _, _, _, rfl, rfl, rfl, rfl, astep_do rfl (tx_64_32 Try.underlying3 Try.underlying22 rfl)⟩)) (dcons (dstepN (by intro k hk; simp only [List.mem_cons, List.not_mem_nil, or_false] at hk; rcases hk with rfl | rfl <;> exact ⟨[(9, (SL 1 cI x5.1))], _, _, _, _, _, rfl, rfl, rfl, rfl, astep_do rfl (ex_move (eV (v := (SL 1 cI x5.1)) rfl))⟩)) (dcons (dstepN (by intro k hk; simp only [List.mem_cons, List.not_mem_nil, or_false] at hk; rcases hk with rfl | rfl <;> exact ⟨[(40, (SL 1 cI x5.1))], _, _, _, _, _, rfl, rfl, rfl, rfl, astep_do rfl (tx_idxD (c := cI) (xs := x5.1) (i := 4) ceI Try.underlying52 s_3 rfl rfl hx11)⟩)) (dcons (dstepN (by intro k hk; simp only [List.mem_cons, List.not_mem_nil, or_false] at hk; rcases hk with rfl | rfl <;> exact ⟨[(41, (DP (cI x11)))], _, _, _, _, _, rfl, rfl, rfl, rfl, astep_do rfl (tx_ldD1 (v := (I x11)) Try.underlying3 rfl rfl rfl)⟩)) (dcons (dstepN (by intro k hk; simp only [List.mem_cons, List.not_mem_nil, or_false] at hk; rcases hk with rfl | rfl <;> exact ⟨[(42, (I x11))], _, _, _, _, _, rfl, rfl, rfl, rfl, astep_do rfl (tx_64_32 Try.underlying3 Try.underlying22 rfl)⟩)) (dcons (dstepN (by intro k hk; simp only [List.mem_cons, List.not_mem_nil, or_false] at hk; rcases hk with rfl | rfl <;> exact ⟨[(9, (SL 1 cI x5.1))], _, _, _, _, _, rfl, rfl, rfl, rfl, astep_do rfl (ex_move (eV (v := (SL 1 cI x5.1)) rfl))⟩)) (dcons (dstepN (by intro k hk; simp only [List.mem_cons, List.not_mem_nil, or_false] at hk; rcases hk with rfl | rfl <;> exact ⟨[(44, (SL 1 cI x5.1))], _, _, _, _, _, rfl, rfl, rfl, rfl, astep_do rfl (tx_idxD (c := cI) (xs := x5.1) (i := 5) ceI Try.underlying52 s_3 rfl rfl hx12)⟩)) (dcons (dstepN (by intro k hk; simp only [List.mem_cons, List.not_mem_nil, or_false] at hk; rcases hk with rfl | rfl <;> exact ⟨[(45, (DP (cI x12)))], _, _, _, _, _, rfl, rfl, rfl, rfl, astep_do rfl (tx_ldD1 (v := (I x12)) Try.underlying3 rfl rfl rfl)⟩)) (dcons (dstepN (by intro k hk; simp only [List.mem_cons, List.not_mem_nil, or_false] at hk; rcases hk with rfl | rfl <;> exact ⟨[(46, (I x12))], _, _, _, _, _, rfl, rfl, rfl, rfl, astep_do rfl (tx_64_32 Try.underlying3 Try.underlying22 rfl)⟩)) (dcons (dstepN (by intro k hk; simp only [List.mem_cons, List.not_mem_nil, or_false] at hk; rcases hk with rfl | rfl <;> exact ⟨[(35, (U32 (UInt32.ofInt x9))), (39, (U32 (UInt32.ofInt x10))), (43, (U32 (UInt32.ofInt x11))), (47, (U32 (UInt32.ofInt x12)))], _, _, _, _, _, rfl, rfl, rfl, rfl, astep_do rfl (ex_build (qs := [(0, (U32 (UInt32.ofInt x9))), (1, (U32 (UInt32.ofInt x10))), (2, (U32 (UInt32.ofInt x11))), (3, (U32 (UInt32.ofInt x12)))]) (v := (Value.agg ((cA4 c32) (A4.mk (UInt32.ofInt x9) (UInt32.ofInt x10) (UInt32.ofInt x11) (UInt32.ofInt x12))).toArray)) (evp rfl (evp rfl (evp rfl (evp rfl evp_nil)))) (by kernel_rfl))⟩)) (dcons (dstepN (by intro k hk; simp only [List.mem_cons, List.not_mem_nil, or_false] at hk; rcases hk with rfl | rfl <;> exact ⟨[(28, (I x7)), (31, (I x8)), (48, (Value.agg ((cA4 c32) (A4.mk (UInt32.ofInt x9) (UInt32.ofInt x10) (UInt32.ofInt x11) (UInt32.ofInt x12))).toArray))], _, _, _, _, _, rfl, rfl, rfl, rfl, astep_do rfl (ex_build (qs := [(0, (I x7)), (1, (I x8)), (2, (Value.agg ((cA4 c32) (A4.mk (UInt32.ofInt x9) (UInt32.ofInt x10) (UInt32.ofInt x11) (UInt32.ofInt x12))).toArray))]) (v := (Value.agg (c_api_Ptr (G_api_Ptr.mk x7 x8 (A4.mk (UInt32.ofInt x9) (UInt32.ofInt x10) (UInt32.ofInt x11) (UInt32.ofInt x12)))).toArray)) (evp rfl (evp rfl (evp rfl evp_nil))) (by kernel_rfl))⟩)) (dcons (dstep1 (Tm := []) (L := []) (H := ⟨1, [(0, ⟨6, ((v3).flatMap c_api_Ptr), true⟩)]⟩) rfl rfl rfl rfl rfl (astep_do rfl (ex_alloc (k := 0) (zs := (c_api_Ptr (G_api_Ptr.mk 0 0 (A4.mk 0 0 0 0)))) (L' := [(c_api_Ptr (G_api_Ptr.mk 0 0 (A4.mk 0 0 0 0)))]) z_26 rfl rfl rfl rfl))) (dcons (dstep1 (Tm := [(12, (LP 0 0)), (49, (Value.agg (c_api_Ptr (G_api_Ptr.mk x7 x8 (A4.mk (UInt32.ofInt x9) (UInt32.ofInt x10) (UInt32.ofInt x11) (UInt32.ofInt x12)))).toArray))]) (L := [(c_api_Ptr (G_api_Ptr.mk 0 0 (A4.mk 0 0 0 0)))]) (H := ⟨1, [(0, ⟨6, ((v3).flatMap c_api_Ptr), true⟩)]⟩) rfl rfl rfl rfl rfl (astep_do rfl (ex_storeL (vy := (Value.agg (c_api_Ptr (G_api_Ptr.mk x7 x8 (A4.mk (UInt32.ofInt x9) (UInt32.ofInt x10) (UInt32.ofInt x11) (UInt32.ofInt x12)))).toArray)) (cs := (c_api_Ptr (G_api_Ptr.mk 0 0 (A4.mk 0 0 0 0)))) (vs := (c_api_Ptr (G_api_Ptr.mk x7 x8 (A4.mk (UInt32.ofInt x9) (UInt32.ofInt x10) (UInt32.ofInt x11) (UInt32.ofInt x12))))) (L' := [(c_api_Ptr (G_api_Ptr.mk x7 x8 (A4.mk (UInt32.ofInt x9) (UInt32.ofInt x10) (UInt32.ofInt x11) (UInt32.ofInt x12))))]) rfl (eV (v := (Value.agg (c_api_Ptr (G_api_Ptr.mk x7 x8 (A4.mk (UInt32.ofInt x9) (UInt32.ofInt x10) (UInt32.ofInt x11) (UInt32.ofInt x12)))).toArray)) rfl) rfl s_26 rfl (Nat.le_of_ble_eq_true rfl) (by kernel_rfl)))) dnil)))))))))))))))))))))))))) ⟨rfl, rfl⟩) (by kernel_rfl) (by kernel_rfl) ?_
        show AWp _ _ _ _
        refine awp_seq ?_
        refine awp_seq ?_
        refine awp_region ?_
        refine arun_do rfl rfl rfl (tx_ldLA (vs := (c_api_Ptr (G_api_Ptr.mk x7 x8 (A4.mk (UInt32.ofInt x9) (UInt32.ofInt x10) (UInt32.ofInt x11) (UInt32.ofInt x12))))) Try.underlying26 rfl s_26 (by decide) rfl rfl rfl rfl) ?_
        obtain ⟨x13, hx13, h⟩ := bindS h
        refine arun_do rfl rfl rfl (ex_call0 (vs := [(Value.agg (c_api_Ptr (G_api_Ptr.mk x7 x8 (A4.mk (UInt32.ofInt x9) (UInt32.ofInt x10) (UInt32.ofInt x11) (UInt32.ofInt x12)))).toArray)]) (v := (Bo x13)) rfl en_21 (cargs (evs rfl evs_nil)) rfl (ok_ref1_MayPtr (G_api_Ptr.mk x7 x8 (A4.mk (UInt32.ofInt x9) (UInt32.ofInt x10) (UInt32.ofInt x11) (UInt32.ofInt x12))) x13 hx13) rfl) ?_
        refine arun_do rfl rfl rfl (ex_un (vx := (Bo x13)) rfl notB_ok) ?_
        refine arun_keepE [1, 7, 8, 10, 12, 52] 1 1 (st' := ⟨60, 0, [(1, (I t1)), (7, (GV 0 v3.length)), (8, (I v2)), (10, (S x5.2.1)), (12, (LP 0 0)), (52, (Bo (!x13)))], [(c_api_Ptr (G_api_Ptr.mk x7 x8 (A4.mk (UInt32.ofInt x9) (UInt32.ofInt x10) (UInt32.ofInt x11) (UInt32.ofInt x12))))], ⟨1, [(0, ⟨6, ((v3).flatMap c_api_Ptr), true⟩)]⟩⟩) (by kernel_rfl) (by kernel_rfl) ?_
        show AWp _ _ _ _
        rcases Bool.eq_false_or_eq_true (!x13) with hb14 | hb14
        · rw [condT hb14] at h
          refine awp_condT (boT hb14) ?_
          refine awp_seq ?_
          refine awp_region ?_
          refine arun_do rfl rfl rfl (ex_assign (eV (v := (Value.slice none 0 0)) rfl)) ?_
          refine arun_do rfl rfl rfl (ex_assign (eV (v := (S [])) rfl)) ?_
          refine arun_do rfl rfl rfl (ex_assign (eV (v := (Bo false)) rfl)) ?_
          refine arun_keepE [4, 5, 6] 0 0 (st' := ⟨60, 0, [(4, (Value.slice none 0 0)), (5, (S [])), (6, (Bo false))], [], ⟨0, []⟩⟩) (by kernel_rfl) (by kernel_rfl) ?_
          show AWp _ _ _ _
          refine awp_ret ?_
          cases h
          exact aresN rfl (L2.cons (rtmp rfl (eN rfl)) (L2.cons (rtmp rfl (eV rfl)) (L2.cons (rtmp rfl (eV rfl)) L2.nil))) rfl
        · rw [condF hb14] at h
          refine awp_condF (boF hb14) ?_
          refine awp_skip ?_
          show AWp _ _ _ _
          refine awp_region ?_
          refine arun_do rfl rfl rfl (ex_move (eV (v := (GV 0 v3.length)) rfl)) ?_
          refine arun_do rfl rfl rfl (tx_ldLA (vs := (c_api_Ptr (G_api_Ptr.mk x7 x8 (A4.mk (UInt32.ofInt x9) (UInt32.ofInt x10) (UInt32.ofInt x11) (UInt32.ofInt x12))))) Try.underlying26 rfl s_26 (by decide) rfl rfl rfl rfl) ?_
          refine arun_do rfl rfl rfl (ex_buildSliceD (qs := [(0, (Value.agg (c_api_Ptr (G_api_Ptr.mk x7 x8 (A4.mk (UInt32.ofInt x9) (UInt32.ofInt x10) (UInt32.ofInt x11) (UInt32.ofInt x12)))).toArray))]) (cells := (([(G_api_Ptr.mk x7 x8 (A4.mk (UInt32.ofInt x9) (UInt32.ofInt x10) (UInt32.ofInt x11) (UInt32.ofInt x12)))] : List G_api_Ptr).flatMap c_api_Ptr)) Try.underlying54 s_26 (by decide) (evp rfl evp_nil) rfl (by kernel_rfl) (by kernel_rfl) (by kernel_rfl)) ?_
          obtain ⟨x15, hx15, h⟩ := bindS h
          refine arun_do rfl rfl rfl (tx_appG (c := c_api_Ptr) (xs := v3) (H' := ⟨1, [(0, ⟨6, ((x15).flatMap c_api_Ptr), true⟩)]⟩) ce_api_Ptr e_26 rfl rfl rfl (tsrcD (ys := ([(G_api_Ptr.mk x7 x8 (A4.mk (UInt32.ofInt x9) (UInt32.ofInt x10) (UInt32.ofInt x11) (UInt32.ofInt x12)))] : List G_api_Ptr)) ce_api_Ptr Try.underlying54 s_26 Try.underlying54 rfl) hx15 rfl) ?_
          refine arun_do rfl rfl rfl (ex_move (eV (v := (S x5.2.1)) rfl)) ?_
          refine arun_do rfl rfl rfl (ex_assign (eV (v := (GV 0 x15.length)) rfl)) ?_
          refine arun_do rfl rfl rfl (ex_assign (eV (v := (S x5.2.1)) rfl)) ?_
          refine arun_keepE [0, 1, 7, 8] 0 1 (st' := ⟨60, 0, [(0, (S x5.2.1)), (1, (I t1)), (7, (GV 0 x15.length)), (8, (I v2))], [], ⟨1, [(0, ⟨6, ((x15).flatMap c_api_Ptr), true⟩)]⟩⟩) (by kernel_rfl) (by kernel_rfl) ?_
          show AWp _ _ _ _
          refine awp_region ?_
          refine arun_do rfl rfl rfl (ex_move (eV (v := (I v2)) rfl)) ?_
          refine arun_do rfl rfl rfl (ex_bin (vx := (I v2)) (vy := (I 1)) rfl rfl addI_ok) ?_
          refine arun_do rfl rfl rfl (ex_assign (eV (v := (I (w64 (v2 + 1)))) rfl)) ?_
          refine arun_keepE [0, 1, 7, 8] 0 1 (st' := ⟨60, 0, [(0, (S x5.2.1)), (1, (I t1)), (7, (GV 0 x15.length)), (8, (I (w64 (v2 + 1))))], [], ⟨1, [(0, ⟨6, ((x15).flatMap c_api_Ptr), true⟩)]⟩⟩) (by kernel_rfl) (by kernel_rfl) ?_
          exact Exists.intro n1 (And.intro (Nat.lt_succ_self _) (Exists.intro x5.2.1 (Exists.intro (w64 (v2 + 1)) (Exists.intro x15 (And.intro rfl h)))))
    · rw [condF hb4] at h
      refine awp_condF (boF hb4) ?_
      refine awp_exit ?_
      show AWp _ _ _ _
      refine awp_seq ?_
      refine awp_region ?_
      refine arun_do rfl rfl rfl (ex_move (eV (v := (GV 0 v3.length)) rfl)) ?_
      refine arun_do rfl rfl rfl (ex_move (eV (v := (S v1)) rfl)) ?_
      refine arun_do rfl rfl rfl (ex_assign (eV (v := (GV 0 v3.length)) rfl)) ?_
      refine arun_do rfl rfl rfl (ex_assign (eV (v := (S v1)) rfl)) ?_
      refine arun_do rfl rfl rfl (ex_assign (eV (v := (Bo true)) rfl)) ?_
      refine arun_keepE [4, 5, 6] 0 1 (st' := ⟨60, 0, [(4, (GV 0 v3.length)), (5, (S v1)), (6, (Bo true))], [], ⟨1, [(0, ⟨6, ((v3).flatMap c_api_Ptr), true⟩)]⟩⟩) (by kernel_rfl) (by kernel_rfl) ?_
      show AWp _ _ _ _
      refine awp_freeze 0 (bk := ⟨6, ((v3).flatMap c_api_Ptr), true⟩) (T' := [(4, (SL 6 c_api_Ptr v3)), (5, (S v1)), (6, (Bo true))]) (L' := []) rfl (fzG ce_api_Ptr rfl rfl (FzT.keep (v := (S v1)) rfl (FzT.keep (v := (Bo true)) rfl FzT.nil))) (FzL.refl _) ?_
      show AWp _ _ _ ⟨60, 0, [(4, (SL 6 c_api_Ptr v3)), (5, (S v1)), (6, (Bo true))], [], ⟨1, []⟩⟩
      refine awp_ret ?_
      cases h
      exact aresN rfl (L2.cons (rtmp rfl (eV rfl)) (L2.cons (rtmp rfl (eV rfl)) (L2.cons (rtmp rfl (eV rfl)) L2.nil))) rfl

noncomputable def M_ref1_TakeUber (t0 : Str) : Option (G_api_Uber × Bool) :=
  Option.bind (M_ref1_Take ([49, 52, 52, 49] : Str) t0) fun (x1 : ((List Int) × Str × Bool)) => cond (!x1.2.2) (some ((G_api_Uber.mk 0 0 0 (G_api_Ptr.mk 0 0 (A4.mk 0 0 0 0))), false)) (Option.bind (M_ref1_TakePtrs x1.2.1 1) fun (x3 : ((List G_api_Ptr) × Str × Bool)) => cond (!x3.2.2) (some ((G_api_Uber.mk 0 0 0 (G_api_Ptr.mk 0 0 (A4.mk 0 0 0 0))), false)) (Option.bind (getI x1.1 1) fun (x5 : Int) => Option.bind (getI x1.1 2) fun (x6 : Int) => Option.bind (getI x1.1 3) fun (x7 : Int) => Option.bind (getI x3.1 0) fun (x8 : G_api_Ptr) => Option.bind (M_ref1_PutUber (G_api_Uber.mk x5 x6 x7 x8)) fun (x9 : Str) => cond (x9 != t0) (some ((G_api_Uber.mk 0 0 0 (G_api_Ptr.mk 0 0 (A4.mk 0 0 0 0))), false)) (some ((G_api_Uber.mk x5 x6 x7 x8), true))))
theorem ok_ref1_TakeUber (t0 : Str) (r : (G_api_Uber × Bool)) (h : M_ref1_TakeUber t0 = some r) : FFn Try.prog 16 [(S t0)] (Value.tuple #[(Value.agg (c_api_Uber r.1).toArray), (Bo r.2)]) := by
  refine FFn.of_body (n := 47) Try.func16 rfl Try.ntmps16 rfl rfl rfl rfl ?_
  show AWp _ _ _ ⟨47, 0, [(0, (S t0))], [], ⟨0, []⟩⟩
  unfold M_ref1_TakeUber at h
  refine awp_seq ?_
  refine awp_region ?_
  refine arun_do rfl rfl rfl (ex_alloc (k := 0) (zs := (c_api_Uber (G_api_Uber.mk 0 0 0 (G_api_Ptr.mk 0 0 (A4.mk 0 0 0 0))))) (L' := [(c_api_Uber (G_api_Uber.mk 0 0 0 (G_api_Ptr.mk 0 0 (A4.mk 0 0 0 0))))]) z_28 rfl rfl rfl rfl) ?_
  refine arun_do rfl rfl rfl (ex_assign (eV (v := (Bo false)) rfl)) ?_
  refine arun_keepE [0, 2] 1 0 (st' := ⟨47, 0, [(0, (S t0)), (2, (LP 0 0))], [(c_api_Uber (G_api_Uber.mk 0 0 0 (G_api_Ptr.mk 0 0 (A4.mk 0 0 0 0))))], ⟨0, []⟩⟩) (by kernel_rfl) (by kernel_rfl) ?_
  show AWp _ _ _ _
  refine awp_seq ?_
  refine awp_region ?_
  refine arun_do rfl rfl rfl (ex_move (eV (v := (S t0)) rfl)) ?_
  obtain ⟨x1, hx1, h⟩ := bindS h
  refine arun_do rfl rfl rfl (ex_call0 (vs := [(S ([49, 52, 52, 49] : Str)), (S t0)]) (v := (Value.tuple #[(SL 1 cI x1.1), (S x1.2.1), (Bo x1.2.2)])) rfl en_31 (cargs (evs rfl (evs rfl evs_nil))) rfl (ok_ref1_Take ([49, 52, 52, 49] : Str) t0 x1 hx1) rfl) ?_
  refine arun_do rfl rfl rfl (ex_move (eV (v := (Value.tuple #[(SL 1 cI x1.1), (S x1.2.1), (Bo x1.2.2)])) rfl)) ?_
  refine arun_do rfl rfl rfl (ex_extract (vx := (Value.tuple #[(SL 1 cI x1.1), (S x1.2.1), (Bo x1.2.2)])) (v := (SL 1 cI x1.1)) rfl rfl) ?_
  refine arun_do rfl rfl rfl (ex_extract (vx := (Value.tuple #[(SL 1 cI x1.1), (S x1.2.1), (Bo x1.2.2)])) (v := (S x1.2.1)) rfl rfl) ?_
  refine arun_do rfl rfl rfl (ex_extract (vx := (Value.tuple #[(SL 1 cI x1.1), (S x1.2.1), (Bo x1.2.2)])) (v := (Bo x1.2.2)) rfl rfl) ?_
  refine arun_do rfl rfl rfl (ex_assign (eV (v := (SL 1 cI x1.1)) rfl)) ?_
  refine arun_do rfl rfl rfl (ex_assign (eV (v := (S x1.2.1)) rfl)) ?_
  refine arun_do rfl rfl rfl (ex_assign (eV (v := (Bo x1.2.2)) rfl)) ?_
  refine arun_keepE [0, 2, 4, 5, 6] 1 0 (st' := ⟨47, 0, [(0, (S t0)), (2, (LP 0 0)), (4, (SL 1 cI x1.1)), (5, (S x1.2.1)), (6, (Bo x1.2.2))], [(c_api_Uber (G_api_Uber.mk 0 0 0 (G_api_Ptr.mk 0 0 (A4.mk 0 0 0 0))))], ⟨0, []⟩⟩) (by kernel_rfl) (by kernel_rfl) ?_
  show AWp _ _ _ _
  refine awp_seq ?_
  refine awp_seq ?_
  refine awp_region ?_
  refine arun_do rfl rfl rfl (ex_move (eV (v := (Bo x1.2.2)) rfl)) ?_
  refine arun_do rfl rfl rfl (ex_un (vx := (Bo x1.2.2)) rfl notB_ok) ?_
  refine arun_keepE [0, 2, 4, 5, 17] 1 0 (st' := ⟨47, 0, [(0, (S t0)), (2, (LP 0 0)), (4, (SL 1 cI x1.1)), (5, (S x1.2.1)), (17, (Bo (!x1.2.2)))], [(c_api_Uber (G_api_Uber.mk 0 0 0 (G_api_Ptr.mk 0 0 (A4.mk 0 0 0 0))))], ⟨0, []⟩⟩) (by kernel_rfl) (by kernel_rfl) ?_
  show AWp _ _ _ _
  rcases Bool.eq_false_or_eq_true (!x1.2.2) with hb2 | hb2
  · rw [condT hb2] at h
    refine awp_condT (boT hb2) ?_
    refine awp_seq ?_
    refine awp_region ?_
    refine arun_do rfl rfl rfl (ex_build (qs := []) (v := (Value.agg (c_api_Uber (G_api_Uber.mk 0 0 0 (G_api_Ptr.mk 0 0 (A4.mk 0 0 0 0)))).toArray)) evp_nil (by kernel_rfl)) ?_
    refine arun_do0 rfl rfl (ex_storeL (vy := (Value.agg (c_api_Uber (G_api_Uber.mk 0 0 0 (G_api_Ptr.mk 0 0 (A4.mk 0 0 0 0)))).toArray)) (cs := (c_api_Uber (G_api_Uber.mk 0 0 0 (G_api_Ptr.mk 0 0 (A4.mk 0 0 0 0))))) (vs := (c_api_Uber (G_api_Uber.mk 0 0 0 (G_api_Ptr.mk 0 0 (A4.mk 0 0 0 0))))) (L' := [(c_api_Uber (G_api_Uber.mk 0 0 0 (G_api_Ptr.mk 0 0 (A4.mk 0 0 0 0))))]) rfl (eV (v := (Value.agg (c_api_Uber (G_api_Uber.mk 0 0 0 (G_api_Ptr.mk 0 0 (A4.mk 0 0 0 0)))).toArray)) rfl) rfl s_28 rfl (Nat.le_of_ble_eq_true rfl) (by kernel_rfl)) ?_
    refine arun_do rfl rfl rfl (ex_assign (eV (v := (Bo false)) rfl)) ?_
    refine arun_keepE [2, 3] 1 0 (st' := ⟨47, 0, [(2, (LP 0 0)), (3, (Bo false))], [(c_api_Uber (G_api_Uber.mk 0 0 0 (G_api_Ptr.mk 0 0 (A4.mk 0 0 0 0))))], ⟨0, []⟩⟩) (by kernel_rfl) (by kernel_rfl) ?_
    show AWp _ _ _ _
    refine awp_ret ?_
    cases h
    exact aresN rfl (L2.cons (rcellL rfl rfl rfl (partA Try.underlying28 rfl s_28 (by decide) (Nat.le_of_ble_eq_true rfl) rfl)) (L2.cons (rtmp rfl (eV rfl)) L2.nil)) rfl
  · rw [condF hb2] at h
    refine awp_condF (boF hb2) ?_
    refine awp_skip ?_
    show AWp _ _ _ _
    refine awp_seq ?_
    refine awp_region ?_
    refine arun_do rfl rfl rfl (ex_move (eV (v := (S x1.2.1)) rfl)) ?_
    obtain ⟨x3, hx3, h⟩ := bindS h
    refine arun_do rfl rfl rfl (ex_call0 (vs := [(S x1.2.1), (I 1)]) (v := (Value.tuple #[(SL 6 c_api_Ptr x3.1), (S x3.2.1), (Bo x3.2.2)])) rfl en_32 (cargs (evs rfl (evs rfl evs_nil))) rfl (ok_ref1_TakePtrs x1.2.1 1 x3 hx3) rfl) ?_
    refine arun_do rfl rfl rfl (ex_move (eV (v := (Value.tuple #[(SL 6 c_api_Ptr x3.1), (S x3.2.1), (Bo x3.2.2)])) rfl)) ?_
    refine arun_do rfl rfl rfl (ex_extract (vx := (Value.tuple #[(SL 6 c_api_Ptr x3.1), (S x3.2.1), (Bo x3.2.2)])) (v := (SL 6 c_api_Ptr x3.1)) rfl rfl) ?_
    refine arun_do rfl rfl rfl (ex_extract (vx := (Value.tuple #[(SL 6 c_api_Ptr x3.1), (S x3.2.1), (Bo x3.2.2)])) (v := (S x3.2.1)) rfl rfl) ?_
    refine arun_do rfl rfl rfl (ex_extract (vx := (Value.tuple #[(SL 6 c_api_Ptr x3.1), (S x3.2.1), (Bo x3.2.2)])) (v := (Bo x3.2.2)) rfl rfl) ?_
    refine arun_do rfl rfl rfl (ex_assign (eV (v := (SL 6 c_api_Ptr x3.1)) rfl)) ?_
    refine arun_do rfl rfl rfl (ex_assign (eV (v := (S x3.2.1)) rfl)) ?_
    refine arun_do rfl rfl rfl (ex_assign (eV (v := (Bo x3.2.2)) rfl)) ?_
    refine arun_keepE [0, 2, 4, 6, 7] 1 0 (st' := ⟨47, 0, [(0, (S t0)), (2, (LP 0 0)), (4, (SL 1 cI x1.1)), (6, (Bo x3.2.2)), (7, (SL 6 c_api_Ptr x3.1))], [(c_api_Uber (G_api_Uber.mk 0 0 0 (G_api_Ptr.mk 0 0 (A4.mk 0 0 0 0))))], ⟨0, []⟩⟩) (by kernel_rfl) (by kernel_rfl) ?_
    show AWp _ _ _ _
    refine awp_seq ?_
    refine awp_seq ?_
    refine awp_region ?_
    refine arun_do rfl rfl rfl (ex_move (eV (v := (Bo x3.2.2)) rfl)) ?_
    refine arun_do rfl rfl rfl (ex_un (vx := (Bo x3.2.2)) rfl notB_ok) ?_
    refine arun_keepE [0, 2, 4, 7, 26] 1 0 (st' := ⟨47, 0, [(0, (S t0)), (2, (LP 0 0)), (4, (SL 1 cI x1.1)), (7, (SL 6 c_api_Ptr x3.1)), (26, (Bo (!x3.2.2)))], [(c_api_Uber (G_api_Uber.mk 0 0 0 (G_api_Ptr.mk 0 0 (A4.mk 0 0 0 0))))], ⟨0, []⟩⟩) (by kernel_rfl) (by kernel_rfl) ?_
    show AWp _ _ _ _
    rcases Bool.eq_false_or_eq_true (!x3.2.2) with hb4 | hb4
    · rw [condT hb4] at h
      refine awp_condT (boT hb4) ?_
      refine awp_seq ?_
      refine awp_region ?_
      refine arun_do rfl rfl rfl (ex_build (qs := []) (v := (Value.agg (c_api_Uber (G_api_Uber.mk 0 0 0 (G_api_Ptr.mk 0 0 (A4.mk 0 0 0 0)))).toArray)) evp_nil (by kernel_rfl)) ?_
      refine arun_do0 rfl rfl (ex_storeL (vy := (Value.agg (c_api_Uber (G_api_Uber.mk 0 0 0 (G_api_Ptr.mk 0 0 (A4.mk 0 0 0 0)))).toArray)) (cs := (c_api_Uber (G_api_Uber.mk 0 0 0 (G_api_Ptr.mk 0 0 (A4.mk 0 0 0 0))))) (vs := (c_api_Uber (G_api_Uber.mk 0 0 0 (G_api_Ptr.mk 0 0 (A4.mk 0 0 0 0))))) (L' := [(c_api_Uber (G_api_Uber.mk 0 0 0 (G_api_Ptr.mk 0 0 (A4.mk 0 0 0 0))))]) rfl (eV (v := (Value.agg (c_api_Uber (G_api_Uber.mk 0 0 0 (G_api_Ptr.mk 0 0 (A4.mk 0 0 0 0)))).toArray)) rfl) rfl s_28 rfl (Nat.le_of_ble_eq_true rfl) (by kernel_rfl)) ?_
      refine arun_do rfl rfl rfl (ex_assign (eV (v := (Bo false)) rfl)) ?_
      refine arun_keepE [2, 3] 1 0 (st' := ⟨47, 0, [(2, (LP 0 0)), (3, (Bo false))], [(c_api_Uber (G_api_Uber.mk 0 0 0 (G_api_Ptr.mk 0 0 (A4.mk 0 0 0 0))))], ⟨0, []⟩⟩) (by kernel_rfl) (by kernel_rfl) ?_
      show AWp _ _ _ _
      refine awp_ret ?_
      cases h
      exact aresN rfl (L2.cons (rcellL rfl rfl rfl (partA Try.underlying28 rfl s_28 (by decide) (Nat.le_of_ble_eq_true rfl) rfl)) (L2.cons (rtmp rfl (eV rfl)) L2.nil)) rfl
    · rw [condF hb4] at h
      refine awp_condF (boF hb4) ?_
      refine awp_skip ?_
      show AWp _ _ _ _
      refine awp_seq ?_
      obtain ⟨x5, hx5, h⟩ := bindS h
      obtain ⟨x6, hx6, h⟩ := bindS h
      obtain ⟨x7, hx7, h⟩ := bindS h
      obtain ⟨x8, hx8, h⟩ := bindS h
      refine awp_kn [0, 2, 9] 2 0 (st' := ⟨47, 0, [(0, (S t0)), (2, (LP 0 0)), (9, (LP 1 0))], [(c_api_Uber (G_api_Uber.mk 0 0 0 (G_api_Ptr.mk 0 0 (A4.mk 0 0 0 0)))), (c_api_Uber (G_api_Uber.mk x5 x6 x7 x8))], ⟨0, []⟩⟩) (awp_draw (T := [(SL 1 cI x1.1), (DP (cI x5)), (I x5), (SL 1 cI x1.1), (DP (cI x6)), (I x6), (SL 1 cI x1.1), (DP (cI x7)), (I x7), (SL 6 c_api_Ptr x3.1), (DP (c_api_Ptr x8)), (Value.agg (c_api_Ptr x8).toArray), (Value.agg (c_api_Uber (G_api_Uber.mk x5 x6 x7 x8)).toArray), (LP 1 0), undef]) (LH := [([(c_api_Uber (G_api_Uber.mk 0 0 0 (G_api_Ptr.mk 0 0 (A4.mk 0 0 0 0))))], ⟨0, []⟩), ([(c_api_Uber (G_api_Uber.mk 0 0 0 (G_api_Ptr.mk 0 0 (A4.mk 0 0 0 0)))), (c_api_Uber (G_api_Uber.mk 0 0 0 (G_api_Ptr.mk 0 0 (A4.mk 0 0 0 0))))], ⟨0, []⟩), ([(c_api_Uber (G_api_Uber.mk 0 0 0 (G_api_Ptr.mk 0 0 (A4.mk 0 0 0 0)))), (c_api_Uber (G_api_Uber.mk x5 x6 x7 x8))], ⟨0, []⟩)]) (D := [⟨[(4, none)], [], [0, 1], false⟩, ⟨[(28, some 0)], [0], [0, 1], false⟩, ⟨[(29, some 1)], [0, 1], [0, 1], false⟩, ⟨[(4, none)], [], [0, 1], false⟩, ⟨[(31, some 3)], [3], [0, 1], false⟩, ⟨[(32, some 4)], [3, 4], [0, 1], false⟩, ⟨[(4, none)], [], [0, 1], false⟩, ⟨[(34, some 6)], [6], [0, 1], false⟩, ⟨[(35, some 7)], [6, 7], [0, 1], false⟩, ⟨[(7, none)], [], [0, 1], false⟩, ⟨[(37, some 9)], [9], [0, 1], false⟩, ⟨[(38, some 10)], [9, 10], [0, 1], false⟩, ⟨[(30, some 2), (33, some 5), (36, some 8), (39, some 11)], [0, 1, 2, 3, 4, 5, 6, 7, 8, 9, 10, 11], [0, 1], false⟩, ⟨[], [], [0], true⟩, ⟨[(9, some 13), (40, some 12)], [0, 1, 2, 3, 4, 5, 6, 7, 8, 9, 10, 11, 12, 13], [1], true⟩]) (S := [13, 14]) (plan := [0, 1, 2, 3, 4, 5, 6, 7, 8, 9, 10, 11, 12, 13, 14]) mo (by kernel_rfl) rfl rfl rfl (dcons (dstepN (by intro k hk; simp only [List.mem_cons, List.not_mem_nil, or_false] at hk; rcases hk with rfl | rfl <;> exact ⟨[(4, (SL 1 cI x1.1))], _, _, _, _, _, rfl, rfl, rfl, rfl, astep_do rfl (ex_move (eV (v := (SL 1 cI x1.1)) rfl))⟩)) (dcons (dstepN (by intro k hk; simp only [List.mem_cons, List.not_mem_nil, or_false] at hk; rcases hk with rfl | rfl <;> exact ⟨[(28, (SL 1 cI x1.1))], _, _, _, _, _, rfl, rfl, rfl, rfl, astep_do rfl (tx_idxD (c := cI) (xs := x1.1) (i := 1) ceI Try.underlying52 s_3 rfl rfl hx5)⟩)) (dcons (dstepN (by intro k hk; simp only [List.mem_cons, List.not_mem_nil, or_false] at hk; rcases hk with rfl | rfl <;> exact ⟨[(29, (DP (cI x5)))], _, _, _, _, _, rfl, rfl, rfl, rfl, astep_do rfl (tx_ldD1 (v := (I x5)) Try.underlying3 rfl rfl rfl)⟩)) (dcons (dstepN (by intro k hk; simp only [List.mem_cons, List.not_mem_nil, or_false] at hk; rcases hk with rfl | rfl <;> exact ⟨[(4, (SL 1 cI x1.1))], _, _, _, _, _, rfl, rfl, rfl, rfl, astep_do rfl (ex_move (eV (v := (SL 1 cI x1.1)) rfl))⟩)) (dcons (dstepN (by intro k hk; simp only [List.mem_cons, List.not_mem_nil, or_false] at hk; rcases hk with rfl | rfl <;> exact ⟨[(31, (SL 1 cI x1.1))], _, _, _, _, _, rfl, rfl, rfl, rfl, astep_do rfl (tx_idxD (c := cI) (xs := x1.1) (i := 2) ceI Try.underlying52 s_3 rfl rfl hx6)⟩)) (dcons (dstepN (by intro k hk; simp only [List.mem_cons, List.not_mem_nil, or_false] at hk; rcases hk with rfl | rfl <;> exact ⟨[(32, (DP (cI x6)))], _, _, _, _, _, rfl, rfl, rfl, rfl, astep_do rfl (tx_ldD1 (v := (I x6)) Try.underlying3 rfl rfl rfl)⟩)) (dcons (dstepN (by intro k hk; simp only [List.mem_cons, List.not_mem_nil, or_false] at hk; rcases hk with rfl | rfl <;> exact ⟨[(4, (SL 1 cI x1.1))], _, _, _, _, _, rfl, rfl, rfl, rfl, astep_do rfl (ex_move (eV (v := (SL 1 cI x1.1)) rfl))⟩)) (dcons (dstepN (by intro k hk; simp only [List.mem_cons, List.not_mem_nil, or_false] at hk; rcases hk with rfl | rfl <;> exact ⟨[(34, (SL 1 cI x1.1))], _, _, _, _, _, rfl, rfl, rfl, rfl, astep_do rfl (tx_idxD (c := cI) (xs := x1.1) (i := 3) ceI Try.underlying52 s_3 rfl rfl hx7)⟩)) (dcons (dstepN (by intro k hk; simp only [List.mem_cons, List.not_mem_nil, or_false] at hk; rcases hk with rfl | rfl <;> exact ⟨[(35, (DP (cI x7)))], _, _, _, _, _, rfl, rfl, rfl, rfl, astep_do rfl (tx_ldD1 (v := (I x7)) Try.underlying3 rfl rfl rfl)⟩)) (dcons (dstepN (by intro k hk; simp only [List.mem_cons, List.not_mem_nil, or_false] at hk; rcases hk with rfl | rfl <;> exact ⟨[(7, (SL 6 c_api_Ptr x3.1))], _, _, _, _, _, rfl, rfl, rfl, rfl, astep_do rfl (ex_move (eV (v := (SL 6 c_api_Ptr x3.1)) rfl))⟩)) (dcons (dstepN (by intro k hk; simp only [List.mem_cons, List.not_mem_nil, or_false] at hk; rcases hk with rfl | rfl <;> exact ⟨[(37, (SL 6 c_api_Ptr x3.1))], _, _, _, _, _, rfl, rfl, rfl, rfl, astep_do rfl (tx_idxD (c := c_api_Ptr) (xs := x3.1) (i := 0) ce_api_Ptr Try.underlying54 s_26 rfl rfl hx8)⟩)) (dcons (dstepN (by intro k hk; simp only [List.mem_cons, List.not_mem_nil, or_false] at hk; rcases hk with rfl | rfl <;> exact ⟨[(38, (DP (c_api_Ptr x8)))], _, _, _, _, _, rfl, rfl, rfl, rfl, astep_do rfl (tx_ldDA (vs := (c_api_Ptr x8)) Try.underlying26 rfl s_26 (by decide) rfl (Nat.le_of_ble_eq_true rfl) rfl)⟩)) (dcons (dstepN (by intro k hk; simp only [List.mem_cons, List.not_mem_nil, or_false] at hk; rcases hk with rfl | rfl <;> exact ⟨[(30, (I x5)), (33, (I x6)), (36, (I x7)), (39, (Value.agg (c_api_Ptr x8).toArray))], _, _, _, _, _, rfl, rfl, rfl, rfl, astep_do rfl (ex_build (qs := [(0, (I x5)), (1, (I x6)), (2, (I x7)), (3, (Value.agg (c_api_Ptr x8).toArray))]) (v := (Value.agg (c_api_Uber (G_api_Uber.mk x5 x6 x7 x8)).toArray)) (evp rfl (evp rfl (evp rfl (evp rfl evp_nil)))) (by kernel_rfl))⟩)) (dcons (dstep1 (Tm := []) (L := [(c_api_Uber (G_api_Uber.mk 0 0 0 (G_api_Ptr.mk 0 0 (A4.mk 0 0 0 0))))]) (H := ⟨0, []⟩) rfl rfl rfl rfl rfl (astep_do rfl (ex_alloc (k := 1) (zs := (c_api_Uber (G_api_Uber.mk 0 0 0 (G_api_Ptr.mk 0 0 (A4.mk 0 0 0 0))))) (L' := [(c_api_Uber (G_api_Uber.mk 0 0 0 (G_api_Ptr.mk 0 0 (A4.mk 0 0 0 0)))), (c_api_Uber (G_api_Uber.mk 0 0 0 (G_api_Ptr.mk 0 0 (A4.mk 0 0 0 0))))]) z_28 rfl rfl rfl rfl))) (dcons (dstep1 (Tm := [(9, (LP 1 0)), (40, (Value.agg (c_api_Uber (G_api_Uber.mk x5 x6 x7 x8)).toArray))]) (L := [(c_api_Uber (G_api_Uber.mk 0 0 0 (G_api_Ptr.mk 0 0 (A4.mk 0 0 0 0)))), (c_api_Uber (G_api_Uber.mk 0 0 0 (G_api_Ptr.mk 0 0 (A4.mk 0 0 0 0))))]) (H := ⟨0, []⟩) rfl rfl rfl rfl rfl (astep_do rfl (ex_storeL (vy := (Value.agg (c_api_Uber (G_api_Uber.mk x5 x6 x7 x8)).toArray)) (cs := (c_api_Uber (G_api_Uber.mk 0 0 0 (G_api_Ptr.mk 0 0 (A4.mk 0 0 0 0))))) (vs := (c_api_Uber (G_api_Uber.mk x5 x6 x7 x8))) (L' := [(c_api_Uber (G_api_Uber.mk 0 0 0 (G_api_Ptr.mk 0 0 (A4.mk 0 0 0 0)))), (c_api_Uber (G_api_Uber.mk x5 x6 x7 x8))]) rfl (eV (v := (Value.agg (c_api_Uber (G_api_Uber.mk x5 x6 x7 x8)).toArray)) rfl) rfl s_28 rfl (Nat.le_of_ble_eq_true rfl) (by kernel_rfl)))) dnil))))))))))))))) ⟨rfl, rfl⟩) (by kernel_rfl) (by kernel_rfl) ?_
      show AWp _ _ _ _
      refine awp_seq ?_
      refine awp_seq ?_
      refine awp_region ?_
      refine arun_do rfl rfl rfl (tx_ldLA (vs := (c_api_Uber (G_api_Uber.mk x5 x6 x7 x8))) Try.underlying28 rfl s_28 (by decide) rfl rfl rfl rfl) ?_
      obtain ⟨x9, hx9, h⟩ := bindS h
      refine arun_do rfl rfl rfl (ex_call0 (vs := [(Value.agg (c_api_Uber (G_api_Uber.mk x5 x6 x7 x8)).toArray)]) (v := (S x9)) rfl en_12 (cargs (evs rfl evs_nil)) rfl (ok_ref1_PutUber (G_api_Uber.mk x5 x6 x7 x8) x9 hx9) rfl) ?_
      refine arun_do rfl rfl rfl (ex_move (eV (v := (S t0)) rfl)) ?_
      refine arun_do rfl rfl rfl (ex_bin (vx := (S x9)) (vy := (S t0)) rfl rfl neqS_ok) ?_
      refine arun_keepE [2, 9, 44] 2 0 (st' := ⟨47, 0, [(2, (LP 0 0)), (9, (LP 1 0)), (44, (Bo (x9 != t0)))], [(c_api_Uber (G_api_Uber.mk 0 0 0 (G_api_Ptr.mk 0 0 (A4.mk 0 0 0 0)))), (c_api_Uber (G_api_Uber.mk x5 x6 x7 x8))], ⟨0, []⟩⟩) (by kernel_rfl) (by kernel_rfl) ?_
      show AWp _ _ _ _
      rcases Bool.eq_false_or_eq_true (x9 != t0) with hb10 | hb10
      · rw [condT hb10] at h
        refine awp_condT (boT hb10) ?_
        refine awp_seq ?_
        refine awp_region ?_
        refine arun_do rfl rfl rfl (ex_build (qs := []) (v := (Value.agg (c_api_Uber (G_api_Uber.mk 0 0 0 (G_api_Ptr.mk 0 0 (A4.mk 0 0 0 0)))).toArray)) evp_nil (by kernel_rfl)) ?_
        refine arun_do0 rfl rfl (ex_storeL (vy := (Value.agg (c_api_Uber (G_api_Uber.mk 0 0 0 (G_api_Ptr.mk 0 0 (A4.mk 0 0 0 0)))).toArray)) (cs := (c_api_Uber (G_api_Uber.mk 0 0 0 (G_api_Ptr.mk 0 0 (A4.mk 0 0 0 0))))) (vs := (c_api_Uber (G_api_Uber.mk 0 0 0 (G_api_Ptr.mk 0 0 (A4.mk 0 0 0 0))))) (L' := [(c_api_Uber (G_api_Uber.mk 0 0 0 (G_api_Ptr.mk 0 0 (A4.mk 0 0 0 0)))), (c_api_Uber (G_api_Uber.mk x5 x6 x7 x8))]) rfl (eV (v := (Value.agg (c_api_Uber (G_api_Uber.mk 0 0 0 (G_api_Ptr.mk 0 0 (A4.mk 0 0 0 0)))).toArray)) rfl) rfl s_28 rfl (Nat.le_of_ble_eq_true rfl) (by kernel_rfl)) ?_
        refine arun_do rfl rfl rfl (ex_assign (eV (v := (Bo false)) rfl)) ?_
        refine arun_keepE [2, 3] 1 0 (st' := ⟨47, 0, [(2, (LP 0 0)), (3, (Bo false))], [(c_api_Uber (G_api_Uber.mk 0 0 0 (G_api_Ptr.mk 0 0 (A4.mk 0 0 0 0))))], ⟨0, []⟩⟩) (by kernel_rfl) (by kernel_rfl) ?_
        show AWp _ _ _ _
        refine awp_ret ?_
        cases h
        exact aresN rfl (L2.cons (rcellL rfl rfl rfl (partA Try.underlying28 rfl s_28 (by decide) (Nat.le_of_ble_eq_true rfl) rfl)) (L2.cons (rtmp rfl (eV rfl)) L2.nil)) rfl
      · rw [condF hb10] at h
        refine awp_condF (boF hb10) ?_
        refine awp_skip ?_
        show AWp _ _ _ _
        refine awp_seq ?_
        refine awp_region ?_
        refine arun_do rfl rfl rfl (tx_ldLA (vs := (c_api_Uber (G_api_Uber.mk x5 x6 x7 x8))) Try.underlying28 rfl s_28 (by decide) rfl rfl rfl rfl) ?_
        refine arun_do0 rfl rfl (ex_storeL (vy := (Value.agg (c_api_Uber (G_api_Uber.mk x5 x6 x7 x8)).toArray)) (cs := (c_api_Uber (G_api_Uber.mk 0 0 0 (G_api_Ptr.mk 0 0 (A4.mk 0 0 0 0))))) (vs := (c_api_Uber (G_api_Uber.mk x5 x6 x7 x8))) (L' := [(c_api_Uber (G_api_Uber.mk x5 x6 x7 x8)), (c_api_Uber (G_api_Uber.mk x5 x6 x7 x8))]) rfl (eV (v := (Value.agg (c_api_Uber (G_api_Uber.mk x5 x6 x7 x8)).toArray)) rfl) rfl s_28 rfl (Nat.le_of_ble_eq_true rfl) (by kernel_rfl)) ?_
        refine arun_do rfl rfl rfl (ex_assign (eV (v := (Bo true)) rfl)) ?_
        refine arun_keepE [2, 3] 1 0 (st' := ⟨47, 0, [(2, (LP 0 0)), (3, (Bo true))], [(c_api_Uber (G_api_Uber.mk x5 x6 x7 x8))], ⟨0, []⟩⟩) (by kernel_rfl) (by kernel_rfl) ?_
        show AWp _ _ _ _
        refine awp_ret ?_
        cases h
        exact aresN rfl (L2.cons (rcellL rfl rfl rfl (partA Try.underlying28 rfl s_28 (by decide) (Nat.le_of_ble_eq_true rfl) rfl)) (L2.cons (rtmp rfl (eV rfl)) L2.nil)) rfl

end Go.Proofs
