/- Pure models of functions of the program, and that its code does what they say: walk files up, name Join, slices Reverse[[]string,string] at a closure, walk Way. Written by a program. -/
import Derived.Test.YtmadpkhcdgpglaaGreatDoorR13Z3
import Derived.Test.YtmadpkhcdgpglaaGreatDoorR13ZB
import Derived.Test.YtmadpkhcdgpglaaGreatDoorR13ZX
set_option maxRecDepth 20000
set_option maxHeartbeats 4000000
namespace Go.Proofs
open Go Go.Fhl
set_option linter.unusedVariables false
set_option linter.unusedSimpArgs false
noncomputable def M_walk_files_up_k1 (y1 : List Int) : Option (List Int) :=
  some y1
noncomputable def M_walk_files_up_l1 (t0 : G_walk_files) : Nat → Int → List Int → Option (List Int)
  | 0, _, _ => none
  | n1 + 1, v2, v3 =>
  cond ((decide (v2 > 0)) && (decide (((v3.length : Nat) : Int) ≤ (t0.Set.length : Int)))) (Option.bind (M_walk_files_at t0 v2) fun (x5 : G_api_Node) => Option.bind (appL 8 v3 ([x5.Up] : List Int)) fun (x6 : List Int) => (M_walk_files_up_l1 t0 n1) x5.Up x6) (M_walk_files_up_k1 v3)
noncomputable def M_walk_files_up (t0 : G_walk_files) (t1 : Int) : Option (List Int) :=
  M_walk_files_up_l1 t0 fuel t1 ([t1] : List Int)
theorem ok_walk_files_up (t0 : G_walk_files) (t1 : Int) (r : (List Int)) (h : M_walk_files_up t0 t1 = some r) : FFn Tryz.prog 26 [(Value.agg (c_walk_files t0).toArray), (I t1)] (SL 1 cI r) := by
  refine FFn.of_body (n := 27) Tryz.func26 rfl Tryz.ntmps26 rfl rfl rfl rfl ?_
  show AWp _ _ _ ⟨27, 0, [(0, (Value.agg (c_walk_files t0).toArray)), (1, (I t1))], [], ⟨0, []⟩⟩
  unfold M_walk_files_up at h
  refine awp_seq ?_
  refine awp_region ?_
  refine arun_do rfl rfl rfl (ex_box (vx := (Value.agg (c_walk_files t0).toArray)) (cs := (c_walk_files t0)) (k := 0) (L' := [(c_walk_files t0)]) (eV (v := (Value.agg (c_walk_files t0).toArray)) rfl) rfl rfl rfl) ?_
  refine arun_do rfl rfl rfl (ex_assign (eV (v := (Value.slice none 0 0)) rfl)) ?_
  refine arun_keepE [1, 2] 1 0 (st' := ⟨27, 0, [(1, (I t1)), (2, (LP 0 0))], [(c_walk_files t0)], ⟨0, []⟩⟩) (by kernel_rfl) (by kernel_rfl) ?_
  show AWp _ _ _ _
  refine awp_seq ?_
  refine awp_region ?_
  refine arun_do rfl rfl rfl (ex_move (eV (v := (I t1)) rfl)) ?_
  refine arun_do rfl rfl rfl (ex_buildSliceG (k := 0) (qs := [(0, (I t1))]) (cells := (([t1] : List Int).flatMap cI)) (H' := ⟨1, [(0, ⟨1, (([t1] : List Int).flatMap cI), true⟩)]⟩) Tryz.underlying57 s_3 (by decide) (by decide) (evp rfl evp_nil) rfl (by kernel_rfl) (by kernel_rfl) (by kernel_rfl) rfl rfl) ?_
  refine arun_do rfl rfl rfl (ex_assign (eV (v := (GV 0 1)) rfl)) ?_
  refine arun_keepE [1, 2, 5] 1 1 (st' := ⟨27, 0, [(1, (I t1)), (2, (LP 0 0)), (5, (GV 0 1))], [(c_walk_files t0)], ⟨1, [(0, ⟨1, (([t1] : List Int).flatMap cI), true⟩)]⟩⟩) (by kernel_rfl) (by kernel_rfl) ?_
  show AWp _ _ _ _
  refine awp_seqJ (fun s => ∃ (y1 : List Int), s = ⟨27, 0, [(5, (GV 0 y1.length))], [], ⟨1, [(0, ⟨1, ((y1).flatMap cI), true⟩)]⟩⟩ ∧ M_walk_files_up_k1 y1 = some r) ?_ ?_
  · refine awp_block ?_
    refine awp_loop (fun n s => ∃ (v2 : Int) (v3 : List Int), s = ⟨27, 0, [(1, (I v2)), (2, (LP 0 0)), (5, (GV 0 v3.length))], [(c_walk_files t0)], ⟨1, [(0, ⟨1, ((v3).flatMap cI), true⟩)]⟩⟩ ∧ M_walk_files_up_l1 t0 n v2 v3 = some r) fuel (Exists.intro t1 (Exists.intro ([t1] : List Int) (And.intro rfl h))) ?_
    rintro n s ⟨v2, v3, rfl, h⟩ -
    cases n with
    | zero => cases h
    | succ n1 =>
      unfold M_walk_files_up_l1 at h
      refine awp_seq ?_
      refine awp_seq ?_
      refine awp_region ?_
      refine arun_do rfl rfl rfl (ex_move (eV (v := (I v2)) rfl)) ?_
      refine arun_do rfl rfl rfl (ex_bin (vx := (I v2)) (vy := (I 0)) rfl rfl gtrI_ok) ?_
      refine arun_do rfl rfl rfl (ex_move (eV (v := (Bo (decide (v2 > 0)))) rfl)) ?_
      refine arun_guard (v := (GV 0 v3.length)) ((decide (v2 > 0)) == true) rfl rfl rfl (fun hc => ex_move (eV (v := (GV 0 v3.length)) rfl)) ?_
      refine arun_guard (v := (I ((v3.length : Nat) : Int))) ((decide (v2 > 0)) == true) rfl rfl rfl (fun hc => ex_lenN (n := v3.length) Tryz.underlying57 (cond_of hc)) ?_
      refine arun_guard (v := (LP 0 0)) ((decide (v2 > 0)) == true) rfl rfl rfl (fun hc => ex_fieldAddr (v := (LP 0 0)) Tryz.underlying53 rfl s_25 (by decide) rfl rfl) ?_
      refine arun_guard (v := (SL 5 c_api_Node t0.Set)) ((decide (v2 > 0)) == true) rfl rfl rfl (fun hc => tx_ldL1 (v := (SL 5 c_api_Node t0.Set)) Tryz.underlying25 rfl (cond_of hc) rfl rfl) ?_
      refine arun_guard (v := (I (t0.Set.length : Int))) ((decide (v2 > 0)) == true) rfl rfl rfl (fun hc => tx_lenD (xs := t0.Set) ce_api_Node Tryz.underlying25 (cond_of hc)) ?_
      refine arun_guard (v := (Bo (decide (((v3.length : Nat) : Int) ≤ (t0.Set.length : Int))))) ((decide (v2 > 0)) == true) rfl rfl rfl (fun hc => ex_bin (vx := (I ((v3.length : Nat) : Int))) (vy := (I (t0.Set.length : Int))) (cond_of hc) (cond_of hc) leqI_ok) ?_
      refine arun_do rfl rfl rfl (ex_pick rfl pkAnd) ?_
      refine arun_keepE [1, 2, 5, 17] 1 1 (st' := ⟨27, 0, [(1, (I v2)), (2, (LP 0 0)), (5, (GV 0 v3.length)), (17, (Bo ((decide (v2 > 0)) && (decide (((v3.length : Nat) : Int) ≤ (t0.Set.length : Int))))))], [(c_walk_files t0)], ⟨1, [(0, ⟨1, ((v3).flatMap cI), true⟩)]⟩⟩) (by kernel_rfl) (by kernel_rfl) ?_
      show AWp _ _ _ _
      rcases Bool.eq_false_or_eq_true ((decide (v2 > 0)) && (decide (((v3.length : Nat) : Int) ≤ (t0.Set.length : Int)))) with hb4 | hb4
      · rw [condT hb4] at h
        refine awp_condT (boT hb4) ?_
        refine awp_skip ?_
        show AWp _ _ _ _
        refine awp_block ?_
        refine awp_seq ?_
        refine awp_region ?_
        refine arun_do rfl rfl rfl (tx_ldLA (vs := (c_walk_files t0)) Tryz.underlying53 rfl s_53 (by decide) rfl rfl rfl rfl) ?_
        refine arun_do rfl rfl rfl (ex_move (eV (v := (I v2)) rfl)) ?_
        obtain ⟨x5, hx5, h⟩ := bindS h
        refine arun_do rfl rfl rfl (ex_call0 (vs := [(Value.agg (c_walk_files t0).toArray), (I v2)]) (v := (Value.agg (c_api_Node x5).toArray)) rfl en_25 (cargs (evs rfl (evs rfl evs_nil))) rfl (ok_walk_files_at t0 v2 x5 hx5) rfl) ?_
        refine arun_do rfl rfl rfl (ex_field (vx := (Value.agg (c_api_Node x5).toArray)) (v := (I x5.Up)) rfl (by kernel_rfl)) ?_
        refine arun_do rfl rfl rfl (ex_assign (eV (v := (I x5.Up)) rfl)) ?_
        refine arun_keepE [1, 2, 5] 1 1 (st' := ⟨27, 0, [(1, (I x5.Up)), (2, (LP 0 0)), (5, (GV 0 v3.length))], [(c_walk_files t0)], ⟨1, [(0, ⟨1, ((v3).flatMap cI), true⟩)]⟩⟩) (by kernel_rfl) (by kernel_rfl) ?_
        show AWp _ _ _ _
        refine awp_region ?_
        refine arun_do rfl rfl rfl (ex_move (eV (v := (GV 0 v3.length)) rfl)) ?_
        refine arun_do rfl rfl rfl (ex_move (eV (v := (I x5.Up)) rfl)) ?_
        refine arun_do rfl rfl rfl (ex_buildSliceD (qs := [(0, (I x5.Up))]) (cells := (([x5.Up] : List Int).flatMap cI)) Tryz.underlying57 s_3 (by decide) (evp rfl evp_nil) rfl (by kernel_rfl) (by kernel_rfl) (by kernel_rfl)) ?_
        obtain ⟨x6, hx6, h⟩ := bindS h
        refine arun_do rfl rfl rfl (tx_appG (c := cI) (xs := v3) (H' := ⟨1, [(0, ⟨1, ((x6).flatMap cI), true⟩)]⟩) ceI e_3 rfl rfl rfl (tsrcD (ys := ([x5.Up] : List Int)) ceI Tryz.underlying57 s_3 Tryz.underlying57 rfl) hx6 rfl) ?_
        refine arun_do rfl rfl rfl (ex_assign (eV (v := (GV 0 x6.length)) rfl)) ?_
        refine arun_keepE [1, 2, 5] 1 1 (st' := ⟨27, 0, [(1, (I x5.Up)), (2, (LP 0 0)), (5, (GV 0 x6.length))], [(c_walk_files t0)], ⟨1, [(0, ⟨1, ((x6).flatMap cI), true⟩)]⟩⟩) (by kernel_rfl) (by kernel_rfl) ?_
        exact Exists.intro n1 (And.intro (Nat.lt_succ_self _) (Exists.intro x5.Up (Exists.intro x6 (And.intro rfl h))))
      · rw [condF hb4] at h
        refine awp_condF (boF hb4) ?_
        refine awp_keepE [5] 0 1 (st' := ⟨27, 0, [(5, (GV 0 v3.length))], [], ⟨1, [(0, ⟨1, ((v3).flatMap cI), true⟩)]⟩⟩) (by kernel_rfl) (by kernel_rfl) ?_
        refine awp_exit ?_
        exact (Exists.intro v3 (And.intro rfl h))
  · rintro s ⟨y1, rfl, h⟩
    unfold M_walk_files_up_k1 at h
    refine awp_seq ?_
    refine awp_region ?_
    refine arun_do rfl rfl rfl (ex_move (eV (v := (GV 0 y1.length)) rfl)) ?_
    refine arun_do rfl rfl rfl (ex_assign (eV (v := (GV 0 y1.length)) rfl)) ?_
    refine arun_keepE [4] 0 1 (st' := ⟨27, 0, [(4, (GV 0 y1.length))], [], ⟨1, [(0, ⟨1, ((y1).flatMap cI), true⟩)]⟩⟩) (by kernel_rfl) (by kernel_rfl) ?_
    show AWp _ _ _ _
    refine awp_freeze 0 (bk := ⟨1, ((y1).flatMap cI), true⟩) (T' := [(4, (SL 1 cI y1))]) (L' := []) rfl (fzG ceI rfl rfl FzT.nil) (FzL.refl _) ?_
    show AWp _ _ _ ⟨27, 0, [(4, (SL 1 cI y1))], [], ⟨1, []⟩⟩
    refine awp_ret ?_
    cases h
    exact ares1 (rtmp rfl (eV rfl))

noncomputable def M_name_Join (t0 : (List Str)) : Option Str :=
  Option.bind (M_strings_Join t0 ([47] : Str)) fun (x1 : Str) => some x1
theorem ok_name_Join (t0 : (List Str)) (r : Str) (h : M_name_Join t0 = some r) : FFn Tryz.prog 28 [(SL 1 cS t0)] (S r) := by
  refine FFn.of_body (n := 5) Tryz.func28 rfl Tryz.ntmps28 rfl rfl rfl rfl ?_
  show AWp _ _ _ ⟨5, 0, [(0, (SL 1 cS t0))], [], ⟨0, []⟩⟩
  unfold M_name_Join at h
  refine awp_seq ?_
  refine awp_region ?_
  refine arun_do rfl rfl rfl (ex_assign (eV (v := (S [])) rfl)) ?_
  refine arun_keepE [0] 0 0 (st' := ⟨5, 0, [(0, (SL 1 cS t0))], [], ⟨0, []⟩⟩) (by kernel_rfl) (by kernel_rfl) ?_
  show AWp _ _ _ _
  refine awp_seq ?_
  refine awp_region ?_
  refine arun_do rfl rfl rfl (ex_move (eV (v := (SL 1 cS t0)) rfl)) ?_
  obtain ⟨x1, hx1, h⟩ := bindS h
  refine arun_do rfl rfl rfl (ex_call0 (vs := [(SL 1 cS t0), (S ([47] : Str))]) (v := (S x1)) rfl en_44 (cargs (evs rfl (evs rfl evs_nil))) rfl (ok_strings_Join t0 ([47] : Str) x1 hx1) rfl) ?_
  refine arun_do rfl rfl rfl (ex_assign (eV (v := (S x1)) rfl)) ?_
  refine arun_keepE [2] 0 0 (st' := ⟨5, 0, [(2, (S x1))], [], ⟨0, []⟩⟩) (by kernel_rfl) (by kernel_rfl) ?_
  show AWp _ _ _ _
  refine awp_ret ?_
  cases h
  exact ares1 (rtmp rfl (eV rfl))

noncomputable def M_slices_Reverse_string_string_l1 : Nat → Int → Int → List Str → Option (Unit × List Str)
  | 0, _, _, _ => none
  | n1 + 1, v1, v2, v3 =>
  cond (decide (v1 < v2)) (Option.bind (getI v3 v2) fun (x5 : Str) => Option.bind (getI v3 v1) fun (x6 : Str) => Option.bind (getI v3 v1) fun (x7 : Str) => Option.bind (setI v3 v1 x5) fun (x8 : List Str) => Option.bind (getI x8 v2) fun (x9 : Str) => Option.bind (setI x8 v2 x6) fun (x10 : List Str) => (M_slices_Reverse_string_string_l1 n1) (w64 (v1 + 1)) (w64 (v2 - 1)) x10) (some ((), v3))
noncomputable def M_slices_Reverse_string_string (t0 : List Str) : Option (Unit × List Str) :=
  M_slices_Reverse_string_string_l1 fuel 0 (w64 (((t0.length : Nat) : Int) - 1)) t0
theorem ok_slices_Reverse_string_string (t0 : List Str) (r : (Unit × List Str)) (h : M_slices_Reverse_string_string t0 = some r) : F1n Tryz.prog 27 [(GV 0 t0.length)] ⟨1, (t0).flatMap cS, true⟩ (Value.tuple #[]) ⟨1, (r.2).flatMap cS, true⟩ := by
  refine F1n.of_body (n := 28) Tryz.func27 rfl Tryz.ntmps27 rfl rfl rfl rfl ?_
  show AWp _ _ _ ⟨28, 1, [(0, (GV 0 t0.length))], [], ⟨1, [(0, ⟨1, ((t0).flatMap cS), true⟩)]⟩⟩
  unfold M_slices_Reverse_string_string at h
  refine awp_seq ?_
  refine awp_region ?_
  refine arun_do rfl rfl rfl (ex_move (eV (v := (GV 0 t0.length)) rfl)) ?_
  refine arun_do rfl rfl rfl (ex_lenN (n := t0.length) Tryz.underlying30 rfl) ?_
  refine arun_do rfl rfl rfl (ex_bin (vx := (I ((t0.length : Nat) : Int))) (vy := (I 1)) rfl rfl subI_ok) ?_
  refine arun_do rfl rfl rfl (ex_assign (eV (v := (I 0)) rfl)) ?_
  refine arun_do rfl rfl rfl (ex_assign (eV (v := (I (w64 (((t0.length : Nat) : Int) - 1)))) rfl)) ?_
  refine arun_keepE [0, 2, 3] 0 1 (st' := ⟨28, 1, [(0, (GV 0 t0.length)), (2, (I 0)), (3, (I (w64 (((t0.length : Nat) : Int) - 1))))], [], ⟨1, [(0, ⟨1, ((t0).flatMap cS), true⟩)]⟩⟩) (by kernel_rfl) (by kernel_rfl) ?_
  show AWp _ _ _ _
  refine awp_block ?_
  refine awp_loop (fun n s => ∃ (v1 : Int) (v2 : Int) (v3 : List Str), s = ⟨28, 1, [(0, (GV 0 v3.length)), (2, (I v1)), (3, (I v2))], [], ⟨1, [(0, ⟨1, ((v3).flatMap cS), true⟩)]⟩⟩ ∧ M_slices_Reverse_string_string_l1 n v1 v2 v3 = some r) fuel (Exists.intro 0 (Exists.intro (w64 (((t0.length : Nat) : Int) - 1)) (Exists.intro t0 (And.intro rfl h)))) ?_
  rintro n s ⟨v1, v2, v3, rfl, h⟩ -
  cases n with
  | zero => cases h
  | succ n1 =>
    unfold M_slices_Reverse_string_string_l1 at h
    refine awp_seq ?_
    refine awp_seq ?_
    refine awp_region ?_
    refine arun_do rfl rfl rfl (ex_move (eV (v := (I v1)) rfl)) ?_
    refine arun_do rfl rfl rfl (ex_move (eV (v := (I v2)) rfl)) ?_
    refine arun_do rfl rfl rfl (ex_bin (vx := (I v1)) (vy := (I v2)) rfl rfl lssI_ok) ?_
    refine arun_keepE [0, 2, 3, 9] 0 1 (st' := ⟨28, 1, [(0, (GV 0 v3.length)), (2, (I v1)), (3, (I v2)), (9, (Bo (decide (v1 < v2))))], [], ⟨1, [(0, ⟨1, ((v3).flatMap cS), true⟩)]⟩⟩) (by kernel_rfl) (by kernel_rfl) ?_
    show AWp _ _ _ _
    rcases Bool.eq_false_or_eq_true (decide (v1 < v2)) with hb4 | hb4
    · rw [condT hb4] at h
      refine awp_condT (boT hb4) ?_
      refine awp_skip ?_
      show AWp _ _ _ _
      refine awp_seq ?_
      refine awp_block ?_
      obtain ⟨x5, hx5, h⟩ := bindS h
      obtain ⟨x6, hx6, h⟩ := bindS h
      obtain ⟨x7, hx7, h⟩ := bindS h
      obtain ⟨x8, hx8, h⟩ := bindS h
      obtain ⟨x9, hx9, h⟩ := bindS h
      obtain ⟨x10, hx10, h⟩ := bindS h
      refine awp_knR [0, 2, 3] 0 1 [(0, (GV 0 x10.length)), (2, (I v1)), (3, (I v2))] (st' := ⟨28, 1, [(0, (GV 0 v3.length)), (2, (I v1)), (3, (I v2))], [], ⟨1, [(0, ⟨1, ((x10).flatMap cS), true⟩)]⟩⟩) (awp_draw (T := [(GV 0 v3.length), (I v1), (GV 0 v3.length), (I v2), (GV 0 v3.length), (I v2), (GP 0 (v2.toNat * 1) (List.flatMap cS v3).length), (S x5), (GV 0 v3.length), (I v1), (GP 0 (v1.toNat * 1) (List.flatMap cS v3).length), (S x6), (GP 0 (v1.toNat * 1) (List.flatMap cS v3).length), undef, (GP 0 (v2.toNat * 1) (List.flatMap cS x8).length), undef]) (LH := [([], ⟨1, [(0, ⟨1, ((v3).flatMap cS), true⟩)]⟩), ([], ⟨1, [(0, ⟨1, ((x8).flatMap cS), true⟩)]⟩), ([], ⟨1, [(0, ⟨1, ((x10).flatMap cS), true⟩)]⟩)]) (D := [⟨[(0, none)], [], [0], false⟩, ⟨[(2, none)], [], [0], false⟩, ⟨[(0, none)], [], [0, 1], false⟩, ⟨[(3, none)], [], [0, 1], false⟩, ⟨[(0, none)], [], [0], false⟩, ⟨[(3, none)], [], [0], false⟩, ⟨[(18, some 4), (19, some 5)], [4, 5], [0], false⟩, ⟨[(20, some 6)], [4, 5, 6], [0], false⟩, ⟨[(0, none)], [], [0], false⟩, ⟨[(2, none)], [], [0], false⟩, ⟨[(22, some 8), (23, some 9)], [8, 9], [0], false⟩, ⟨[(24, some 10)], [8, 9, 10], [0], false⟩, ⟨[(14, some 0), (15, some 1)], [0, 1, 4, 5, 6, 7, 8, 9, 10, 11], [0], false⟩, ⟨[(26, some 12), (21, some 7)], [0, 1, 4, 5, 6, 7, 8, 9, 10, 11, 12], [0], true⟩, ⟨[(16, some 2), (17, some 3)], [0, 1, 2, 3, 4, 5, 6, 7, 8, 9, 10, 11, 12, 13], [1], false⟩, ⟨[(27, some 14), (25, some 11)], [0, 1, 2, 3, 4, 5, 6, 7, 8, 9, 10, 11, 12, 13, 14], [1], true⟩]) (S := [13, 15]) (plan := [0, 1, 2, 3, 4, 5, 6, 7, 8, 9, 10, 11, 12, 13, 14, 15]) mo (by kernel_rfl) rfl rfl rfl (dcons (dstep1 (Tm := [(0, (GV 0 v3.length))]) (L := []) (H := ⟨1, [(0, ⟨1, ((v3).flatMap cS), true⟩)]⟩) rfl rfl rfl rfl rfl (astep_do rfl (ex_move (eV (v := (GV 0 v3.length)) rfl)))) (dcons (dstep1 (Tm := [(2, (I v1))]) (L := []) (H := ⟨1, [(0, ⟨1, ((v3).flatMap cS), true⟩)]⟩) rfl rfl rfl rfl rfl (astep_do rfl (ex_move (eV (v := (I v1)) rfl)))) (dcons (dstepN (by intro k hk; simp only [List.mem_cons, List.not_mem_nil, or_false] at hk; rcases hk with rfl | rfl <;> exact ⟨[(0, (GV 0 v3.length))], _, _, _, _, _, rfl, rfl, rfl, rfl, astep_do rfl (ex_move (eV (v := (GV 0 v3.length)) rfl))⟩)) (dcons (dstepN (by intro k hk; simp only [List.mem_cons, List.not_mem_nil, or_false] at hk; rcases hk with rfl | rfl <;> exact ⟨[(3, (I v2))], _, _, _, _, _, rfl, rfl, rfl, rfl, astep_do rfl (ex_move (eV (v := (I v2)) rfl))⟩)) (dcons (dstep1 (Tm := [(0, (GV 0 v3.length))]) (L := []) (H := ⟨1, [(0, ⟨1, ((v3).flatMap cS), true⟩)]⟩) rfl rfl rfl rfl rfl (astep_do rfl (ex_move (eV (v := (GV 0 v3.length)) rfl)))) (dcons (dstep1 (Tm := [(3, (I v2))]) (L := []) (H := ⟨1, [(0, ⟨1, ((v3).flatMap cS), true⟩)]⟩) rfl rfl rfl rfl rfl (astep_do rfl (ex_move (eV (v := (I v2)) rfl)))) (dcons (dstep1 (Tm := [(18, (GV 0 v3.length)), (19, (I v2))]) (L := []) (H := ⟨1, [(0, ⟨1, ((v3).flatMap cS), true⟩)]⟩) rfl rfl rfl rfl rfl (astep_do rfl (tx_idxG (c := cS) (xs := v3) (i := v2) ceS Tryz.underlying30 s_9 rfl rfl rfl rfl hx5))) (dcons (dstep1 (Tm := [(20, (GP 0 (v2.toNat * 1) (List.flatMap cS v3).length))]) (L := []) (H := ⟨1, [(0, ⟨1, ((v3).flatMap cS), true⟩)]⟩) rfl rfl rfl rfl rfl (astep_do rfl (tx_ldG (v := (S x5)) (s := 1) rfl rfl (part_elem (off := 0) (v := (S x5)) ceS hx5 Tryz.underlying9 rfl (by decide) rfl)))) (dcons (dstep1 (Tm := [(0, (GV 0 v3.length))]) (L := []) (H := ⟨1, [(0, ⟨1, ((v3).flatMap cS), true⟩)]⟩) rfl rfl rfl rfl rfl (astep_do rfl (ex_move (eV (v := (GV 0 v3.length)) rfl)))) (dcons (dstep1 (Tm := [(2, (I v1))]) (L := []) (H := ⟨1, [(0, ⟨1, ((v3).flatMap cS), true⟩)]⟩) rfl rfl rfl rfl rfl (astep_do rfl (ex_move (eV (v := (I v1)) rfl)))) (dcons (dstep1 (Tm := [(22, (GV 0 v3.length)), (23, (I v1))]) (L := []) (H := ⟨1, [(0, ⟨1, ((v3).flatMap cS), true⟩)]⟩) rfl rfl rfl rfl rfl (astep_do rfl (tx_idxG (c := cS) (xs := v3) (i := v1) ceS Tryz.underlying30 s_9 rfl rfl rfl rfl hx6))) (dcons (dstep1 (Tm := [(24, (GP 0 (v1.toNat * 1) (List.flatMap cS v3).length))]) (L := []) (H := ⟨1, [(0, ⟨1, ((v3).flatMap cS), true⟩)]⟩) rfl rfl rfl rfl rfl (astep_do rfl (tx_ldG (v := (S x6)) (s := 1) rfl rfl (part_elem (off := 0) (v := (S x6)) ceS hx6 Tryz.underlying9 rfl (by decide) rfl)))) (dcons (dstep1 (Tm := [(14, (GV 0 v3.length)), (15, (I v1))]) (L := []) (H := ⟨1, [(0, ⟨1, ((v3).flatMap cS), true⟩)]⟩) rfl rfl rfl rfl rfl (astep_do rfl (tx_idxG (c := cS) (xs := v3) (i := v1) ceS Tryz.underlying30 s_9 rfl rfl rfl rfl hx7))) (dcons (dstep1 (Tm := [(26, (GP 0 (v1.toNat * 1) (List.flatMap cS v3).length)), (21, (S x5))]) (L := []) (H := ⟨1, [(0, ⟨1, ((v3).flatMap cS), true⟩)]⟩) rfl rfl rfl rfl rfl (astep_do rfl (tx_stG (c := cS) (xs := v3) (e := x5) (H' := ⟨1, [(0, ⟨1, ((x8).flatMap cS), true⟩)]⟩) ceS s_9 rfl (eV (v := (S x5)) rfl) rfl rfl hx8 rfl))) (dcons (dstep1 (Tm := [(16, (GV 0 v3.length)), (17, (I v2))]) (L := []) (H := ⟨1, [(0, ⟨1, ((x8).flatMap cS), true⟩)]⟩) rfl rfl rfl rfl rfl (astep_do rfl (tx_idxG (c := cS) (xs := x8) (i := v2) ceS Tryz.underlying30 s_9 rfl rfl rfl (setI_len hx8) hx9))) (dcons (dstep1 (Tm := [(27, (GP 0 (v2.toNat * 1) (List.flatMap cS x8).length)), (25, (S x6))]) (L := []) (H := ⟨1, [(0, ⟨1, ((x8).flatMap cS), true⟩)]⟩) rfl rfl rfl rfl rfl (astep_do rfl (tx_stG (c := cS) (xs := x8) (e := x6) (H' := ⟨1, [(0, ⟨1, ((x10).flatMap cS), true⟩)]⟩) ceS s_9 rfl (eV (v := (S x6)) rfl) rfl rfl hx10 rfl))) dnil)))))))))))))))) ⟨rfl, rfl⟩) (by kernel_rfl) (by kernel_rfl) (ReT.gv rfl (Eq.trans (setI_len hx8) (setI_len hx10)) (ReT.keep (v := (I v1)) rfl (ReT.keep (v := (I v2)) rfl ReT.nil))) ?_
      show AWp _ _ _ _
      refine awp_region ?_
      refine arun_do rfl rfl rfl (ex_move (eV (v := (I v1)) rfl)) ?_
      refine arun_do rfl rfl rfl (ex_bin (vx := (I v1)) (vy := (I 1)) rfl rfl addI_ok) ?_
      refine arun_do rfl rfl rfl (ex_move (eV (v := (I v2)) rfl)) ?_
      refine arun_do rfl rfl rfl (ex_bin (vx := (I v2)) (vy := (I 1)) rfl rfl subI_ok) ?_
      refine arun_do rfl rfl rfl (ex_assign (eV (v := (I (w64 (v1 + 1)))) rfl)) ?_
      refine arun_do rfl rfl rfl (ex_assign (eV (v := (I (w64 (v2 - 1)))) rfl)) ?_
      refine arun_keepE [0, 2, 3] 0 1 (st' := ⟨28, 1, [(0, (GV 0 x10.length)), (2, (I (w64 (v1 + 1)))), (3, (I (w64 (v2 - 1))))], [], ⟨1, [(0, ⟨1, ((x10).flatMap cS), true⟩)]⟩⟩) (by kernel_rfl) (by kernel_rfl) ?_
      exact Exists.intro n1 (And.intro (Nat.lt_succ_self _) (Exists.intro (w64 (v1 + 1)) (Exists.intro (w64 (v2 - 1)) (Exists.intro x10 (And.intro rfl h)))))
    · rw [condF hb4] at h
      refine awp_condF (boF hb4) ?_
      refine awp_exit ?_
      cases h
      exact And.intro (aresN rfl L2.nil rfl) rfl

noncomputable def M_walk_Way_k1 (c_1 : (Int → List Str → Option (Str × Bool))) (t0 : (List G_api_Node)) (x3 : (List Int)) (v4 : Int) (y7 : List Str) : Option (Str × Bool) :=
  c_1 (w64 (v4 + 1)) y7
noncomputable def M_walk_Way_l1 (t0 : (List G_api_Node)) (x3 : (List Int)) : Nat → Int → List Str → Option (Str × Bool)
  | 0, _, _ => none
  | n1 + 1, v4, v5 =>
  cond (decide (v4 < (x3.length : Int))) (Option.bind (getI x3 v4) fun (x8 : Int) => cond (decide (x8 > 0)) (Option.bind (M_walk_files_at (G_walk_files.mk t0) x8) fun (x10 : G_api_Node) => Option.bind (appL 16 v5 ([x10.Name] : List Str)) fun (x11 : List Str) => M_walk_Way_k1 (M_walk_Way_l1 t0 x3 n1) t0 x3 v4 x11) (M_walk_Way_k1 (M_walk_Way_l1 t0 x3 n1) t0 x3 v4 v5)) (Option.bind (withLen v5 (M_slices_Reverse_string_string v5)) fun (x12 : (Unit × List Str)) => Option.bind (M_name_Join x12.2) fun (x13 : Str) => some (x13, true))
noncomputable def M_walk_Way (t0 : (List G_api_Node)) (t1 : Int) : Option (Str × Bool) :=
  Option.bind (M_walk_files_at (G_walk_files.mk t0) t1) fun (x1 : G_api_Node) => cond (x1.Kind == 0) (some ([], false)) (Option.bind (M_walk_files_up (G_walk_files.mk t0) t1) fun (x3 : (List Int)) => M_walk_Way_l1 t0 x3 fuel 0 ([] : List Str))
theorem ok_walk_Way (t0 : (List G_api_Node)) (t1 : Int) (r : (Str × Bool)) (h : M_walk_Way t0 t1 = some r) : FFn Tryz.prog 13 [(SL 5 c_api_Node t0), (I t1)] (Value.tuple #[(S r.1), (Bo r.2)]) := by
  refine FFn.of_body (n := 39) Tryz.func13 rfl Tryz.ntmps13 rfl rfl rfl rfl ?_
  show AWp _ _ _ ⟨39, 0, [(0, (SL 5 c_api_Node t0)), (1, (I t1))], [], ⟨0, []⟩⟩
  unfold M_walk_Way at h
  refine awp_seq ?_
  refine awp_region ?_
  refine arun_do rfl rfl rfl (ex_assign (eV (v := (S [])) rfl)) ?_
  refine arun_do rfl rfl rfl (ex_assign (eV (v := (Bo false)) rfl)) ?_
  refine arun_keepE [0, 1] 0 0 (st' := ⟨39, 0, [(0, (SL 5 c_api_Node t0)), (1, (I t1))], [], ⟨0, []⟩⟩) (by kernel_rfl) (by kernel_rfl) ?_
  show AWp _ _ _ _
  refine awp_seq ?_
  refine awp_region ?_
  refine arun_do rfl rfl rfl (ex_move (eV (v := (SL 5 c_api_Node t0)) rfl)) ?_
  refine arun_do rfl rfl rfl (ex_build (qs := [(0, (SL 5 c_api_Node t0))]) (v := (Value.agg (c_walk_files (G_walk_files.mk t0)).toArray)) (evp rfl evp_nil) (by kernel_rfl)) ?_
  refine arun_do rfl rfl rfl (ex_allocW (k := 0) (zs := (c_walk_files (G_walk_files.mk []))) (L' := [(c_walk_files (G_walk_files.mk []))]) z_53 rfl (by repeat (first | exact trivial | refine ⟨.inl rfl, ?_⟩ | refine ⟨.inr ⟨rfl, _, rfl⟩, ?_⟩)) rfl rfl) ?_
  refine arun_do0 rfl rfl (ex_storeL (vy := (Value.agg (c_walk_files (G_walk_files.mk t0)).toArray)) (cs := (c_walk_files (G_walk_files.mk []))) (vs := (c_walk_files (G_walk_files.mk t0))) (L' := [(c_walk_files (G_walk_files.mk t0))]) rfl (eV (v := (Value.agg (c_walk_files (G_walk_files.mk t0)).toArray)) rfl) rfl s_53 rfl (Nat.le_of_ble_eq_true rfl) (by kernel_rfl)) ?_
  refine arun_keepE [1, 6] 1 0 (st' := ⟨39, 0, [(1, (I t1)), (6, (LP 0 0))], [(c_walk_files (G_walk_files.mk t0))], ⟨0, []⟩⟩) (by kernel_rfl) (by kernel_rfl) ?_
  show AWp _ _ _ _
  refine awp_seq ?_
  refine awp_seq ?_
  refine awp_region ?_
  refine arun_do rfl rfl rfl (tx_ldLA (vs := (c_walk_files (G_walk_files.mk t0))) Tryz.underlying53 rfl s_53 (by decide) rfl rfl rfl rfl) ?_
  refine arun_do rfl rfl rfl (ex_move (eV (v := (I t1)) rfl)) ?_
  obtain ⟨x1, hx1, h⟩ := bindS h
  refine arun_do rfl rfl rfl (ex_call0 (vs := [(Value.agg (c_walk_files (G_walk_files.mk t0)).toArray), (I t1)]) (v := (Value.agg (c_api_Node x1).toArray)) rfl en_25 (cargs (evs rfl (evs rfl evs_nil))) rfl (ok_walk_files_at (G_walk_files.mk t0) t1 x1 hx1) rfl) ?_
  refine arun_do rfl rfl rfl (ex_field (vx := (Value.agg (c_api_Node x1).toArray)) (v := (I x1.Kind)) rfl (by kernel_rfl)) ?_
  refine arun_do rfl rfl rfl (ex_bin (vx := (I x1.Kind)) (vy := (I 0)) rfl rfl eqlI_ok) ?_
  refine arun_keepE [1, 6, 16] 1 0 (st' := ⟨39, 0, [(1, (I t1)), (6, (LP 0 0)), (16, (Bo (x1.Kind == 0)))], [(c_walk_files (G_walk_files.mk t0))], ⟨0, []⟩⟩) (by kernel_rfl) (by kernel_rfl) ?_
  show AWp _ _ _ _
  rcases Bool.eq_false_or_eq_true (x1.Kind == 0) with hb2 | hb2
  · rw [condT hb2] at h
    refine awp_condT (boT hb2) ?_
    refine awp_seq ?_
    refine awp_region ?_
    refine arun_do rfl rfl rfl (ex_assign (eV (v := (S [])) rfl)) ?_
    refine arun_do rfl rfl rfl (ex_assign (eV (v := (Bo false)) rfl)) ?_
    refine arun_keepE [4, 5] 0 0 (st' := ⟨39, 0, [(4, (S [])), (5, (Bo false))], [], ⟨0, []⟩⟩) (by kernel_rfl) (by kernel_rfl) ?_
    show AWp _ _ _ _
    refine awp_ret ?_
    cases h
    exact aresN rfl (L2.cons (rtmp rfl (eV rfl)) (L2.cons (rtmp rfl (eV rfl)) L2.nil)) rfl
  · rw [condF hb2] at h
    refine awp_condF (boF hb2) ?_
    refine awp_skip ?_
    show AWp _ _ _ _
    refine awp_seq ?_
    refine awp_region ?_
    refine arun_do rfl rfl rfl (ex_assign (eV (v := (Value.slice none 0 0)) rfl)) ?_
    refine arun_keepE [1, 6, 7] 1 0 (st' := ⟨39, 0, [(1, (I t1)), (6, (LP 0 0)), (7, (Value.slice none 0 0))], [(c_walk_files (G_walk_files.mk t0))], ⟨0, []⟩⟩) (by kernel_rfl) (by kernel_rfl) ?_
    show AWp _ _ _ _
    refine awp_seq ?_
    refine awp_seq ?_
    refine awp_region ?_
    refine arun_do rfl rfl rfl (tx_ldLA (vs := (c_walk_files (G_walk_files.mk t0))) Tryz.underlying53 rfl s_53 (by decide) rfl rfl rfl rfl) ?_
    refine arun_do rfl rfl rfl (ex_move (eV (v := (I t1)) rfl)) ?_
    obtain ⟨x3, hx3, h⟩ := bindS h
    refine arun_do rfl rfl rfl (ex_call0 (vs := [(Value.agg (c_walk_files (G_walk_files.mk t0)).toArray), (I t1)]) (v := (SL 1 cI x3)) rfl en_26 (cargs (evs rfl (evs rfl evs_nil))) rfl (ok_walk_files_up (G_walk_files.mk t0) t1 x3 hx3) rfl) ?_
    refine arun_do rfl rfl rfl (tx_lenD (xs := x3) ceI Tryz.underlying57 rfl) ?_
    refine arun_do rfl rfl rfl (ex_move (eV (v := (I 0)) rfl)) ?_
    refine arun_keepE [6, 7, 19, 20, 21] 1 0 (st' := ⟨39, 0, [(6, (LP 0 0)), (7, (Value.slice none 0 0)), (19, (SL 1 cI x3)), (20, (I (x3.length : Int))), (21, (I 0))], [(c_walk_files (G_walk_files.mk t0))], ⟨0, []⟩⟩) (by kernel_rfl) (by kernel_rfl) ?_
    show AWp _ _ _ _
    refine awp_block ?_
    refine awp_nilGro 7 1 rfl (by decide) ?_
    refine awp_keepE [6, 7, 19, 20, 21] 1 1 (st' := ⟨39, 0, [(6, (LP 0 0)), (7, (GV 0 0)), (19, (SL 1 cI x3)), (20, (I (x3.length : Int))), (21, (I 0))], [(c_walk_files (G_walk_files.mk t0))], ⟨1, [(0, ⟨1, (([] : List Str).flatMap cS), true⟩)]⟩⟩) (by kernel_rfl) (by kernel_rfl) ?_
    refine awp_loop (fun n s => ∃ (v4 : Int) (v5 : List Str), s = ⟨39, 0, [(6, (LP 0 0)), (7, (GV 0 v5.length)), (19, (SL 1 cI x3)), (20, (I (x3.length : Int))), (21, (I v4))], [(c_walk_files (G_walk_files.mk t0))], ⟨1, [(0, ⟨1, ((v5).flatMap cS), true⟩)]⟩⟩ ∧ M_walk_Way_l1 t0 x3 n v4 v5 = some r) fuel (Exists.intro 0 (Exists.intro ([] : List Str) (And.intro rfl h))) ?_
    rintro n s ⟨v4, v5, rfl, h⟩ -
    cases n with
    | zero => cases h
    | succ n1 =>
      unfold M_walk_Way_l1 at h
      refine awp_seq ?_
      refine awp_region ?_
      refine arun_do rfl rfl rfl (ex_bin (vx := (I v4)) (vy := (I (x3.length : Int))) rfl rfl lssI_ok) ?_
      refine arun_keepE [6, 7, 19, 20, 21, 22] 1 1 (st' := ⟨39, 0, [(6, (LP 0 0)), (7, (GV 0 v5.length)), (19, (SL 1 cI x3)), (20, (I (x3.length : Int))), (21, (I v4)), (22, (Bo (decide (v4 < (x3.length : Int)))))], [(c_walk_files (G_walk_files.mk t0))], ⟨1, [(0, ⟨1, ((v5).flatMap cS), true⟩)]⟩⟩) (by kernel_rfl) (by kernel_rfl) ?_
      show AWp _ _ _ _
      refine awp_seq ?_
      rcases Bool.eq_false_or_eq_true (decide (v4 < (x3.length : Int))) with hb6 | hb6
      · rw [condT hb6] at h
        refine awp_condT (boT hb6) ?_
        refine awp_skip ?_
        show AWp _ _ _ _
        refine awp_seqJ (fun s => ∃ (y7 : List Str), s = ⟨39, 0, [(6, (LP 0 0)), (7, (GV 0 y7.length)), (19, (SL 1 cI x3)), (20, (I (x3.length : Int))), (21, (I v4))], [(c_walk_files (G_walk_files.mk t0))], ⟨1, [(0, ⟨1, ((y7).flatMap cS), true⟩)]⟩⟩ ∧ M_walk_Way_k1 (M_walk_Way_l1 t0 x3 n1) t0 x3 v4 y7 = some r) ?_ ?_
        · refine awp_block ?_
          refine awp_seq ?_
          refine awp_region ?_
          obtain ⟨x8, hx8, h⟩ := bindS h
          refine arun_do rfl rfl rfl (tx_idxD (c := cI) (xs := x3) (i := v4) ceI Tryz.underlying57 s_3 rfl rfl hx8) ?_
          refine arun_do rfl rfl rfl (tx_ldD1 (v := (I x8)) Tryz.underlying3 rfl rfl rfl) ?_
          refine arun_do rfl rfl rfl (ex_assign (eV (v := (I x8)) rfl)) ?_
          refine arun_keepE [6, 7, 9, 19, 20, 21] 1 1 (st' := ⟨39, 0, [(6, (LP 0 0)), (7, (GV 0 v5.length)), (9, (I x8)), (19, (SL 1 cI x3)), (20, (I (x3.length : Int))), (21, (I v4))], [(c_walk_files (G_walk_files.mk t0))], ⟨1, [(0, ⟨1, ((v5).flatMap cS), true⟩)]⟩⟩) (by kernel_rfl) (by kernel_rfl) ?_
          show AWp _ _ _ _
          refine awp_seq ?_
          refine awp_region ?_
          refine arun_do rfl rfl rfl (ex_move (eV (v := (I x8)) rfl)) ?_
          refine arun_do rfl rfl rfl (ex_bin (vx := (I x8)) (vy := (I 0)) rfl rfl gtrI_ok) ?_
          refine arun_keepE [6, 7, 9, 19, 20, 21, 26] 1 1 (st' := ⟨39, 0, [(6, (LP 0 0)), (7, (GV 0 v5.length)), (9, (I x8)), (19, (SL 1 cI x3)), (20, (I (x3.length : Int))), (21, (I v4)), (26, (Bo (decide (x8 > 0))))], [(c_walk_files (G_walk_files.mk t0))], ⟨1, [(0, ⟨1, ((v5).flatMap cS), true⟩)]⟩⟩) (by kernel_rfl) (by kernel_rfl) ?_
          show AWp _ _ _ _
          rcases Bool.eq_false_or_eq_true (decide (x8 > 0)) with hb9 | hb9
          · rw [condT hb9] at h
            refine awp_condT (boT hb9) ?_
            refine awp_region ?_
            refine arun_do rfl rfl rfl (ex_move (eV (v := (GV 0 v5.length)) rfl)) ?_
            refine arun_do rfl rfl rfl (tx_ldLA (vs := (c_walk_files (G_walk_files.mk t0))) Tryz.underlying53 rfl s_53 (by decide) rfl rfl rfl rfl) ?_
            refine arun_do rfl rfl rfl (ex_move (eV (v := (I x8)) rfl)) ?_
            obtain ⟨x10, hx10, h⟩ := bindS h
            refine arun_do rfl rfl rfl (ex_call0 (vs := [(Value.agg (c_walk_files (G_walk_files.mk t0)).toArray), (I x8)]) (v := (Value.agg (c_api_Node x10).toArray)) rfl en_25 (cargs (evs rfl (evs rfl evs_nil))) rfl (ok_walk_files_at (G_walk_files.mk t0) x8 x10 hx10) rfl) ?_
            refine arun_do rfl rfl rfl (ex_field (vx := (Value.agg (c_api_Node x10).toArray)) (v := (S x10.Name)) rfl (by kernel_rfl)) ?_
            refine arun_do rfl rfl rfl (ex_buildSliceD (qs := [(0, (S x10.Name))]) (cells := (([x10.Name] : List Str).flatMap cS)) Tryz.underlying30 s_9 (by decide) (evp rfl evp_nil) rfl (by kernel_rfl) (by kernel_rfl) (by kernel_rfl)) ?_
            obtain ⟨x11, hx11, h⟩ := bindS h
            refine arun_do rfl rfl rfl (tx_appG (c := cS) (xs := v5) (H' := ⟨1, [(0, ⟨1, ((x11).flatMap cS), true⟩)]⟩) ceS e_9 rfl rfl rfl (tsrcD (ys := ([x10.Name] : List Str)) ceS Tryz.underlying30 s_9 Tryz.underlying30 rfl) hx11 rfl) ?_
            refine arun_do rfl rfl rfl (ex_assign (eV (v := (GV 0 x11.length)) rfl)) ?_
            refine arun_keepE [6, 7, 19, 20, 21] 1 1 (st' := ⟨39, 0, [(6, (LP 0 0)), (7, (GV 0 x11.length)), (19, (SL 1 cI x3)), (20, (I (x3.length : Int))), (21, (I v4))], [(c_walk_files (G_walk_files.mk t0))], ⟨1, [(0, ⟨1, ((x11).flatMap cS), true⟩)]⟩⟩) (by kernel_rfl) (by kernel_rfl) ?_
            exact (Exists.intro x11 (And.intro rfl h))
          · rw [condF hb9] at h
            refine awp_condF (boF hb9) ?_
            refine awp_keepE [6, 7, 19, 20, 21] 1 1 (st' := ⟨39, 0, [(6, (LP 0 0)), (7, (GV 0 v5.length)), (19, (SL 1 cI x3)), (20, (I (x3.length : Int))), (21, (I v4))], [(c_walk_files (G_walk_files.mk t0))], ⟨1, [(0, ⟨1, ((v5).flatMap cS), true⟩)]⟩⟩) (by kernel_rfl) (by kernel_rfl) ?_
            refine awp_skip ?_
            exact (Exists.intro v5 (And.intro rfl h))
        · rintro s ⟨y7, rfl, h⟩
          unfold M_walk_Way_k1 at h
          refine awp_region ?_
          refine arun_do rfl rfl rfl (ex_bin (vx := (I v4)) (vy := (I 1)) rfl rfl addI_ok) ?_
          refine arun_do rfl rfl rfl (ex_move (eV (v := (I (w64 (v4 + 1)))) rfl)) ?_
          refine arun_keepE [6, 7, 19, 20, 21] 1 1 (st' := ⟨39, 0, [(6, (LP 0 0)), (7, (GV 0 y7.length)), (19, (SL 1 cI x3)), (20, (I (x3.length : Int))), (21, (I (w64 (v4 + 1))))], [(c_walk_files (G_walk_files.mk t0))], ⟨1, [(0, ⟨1, ((y7).flatMap cS), true⟩)]⟩⟩) (by kernel_rfl) (by kernel_rfl) ?_
          exact Exists.intro n1 (And.intro (Nat.lt_succ_self _) (Exists.intro (w64 (v4 + 1)) (Exists.intro y7 (And.intro rfl h))))
      · rw [condF hb6] at h
        refine awp_condF (boF hb6) ?_
        refine awp_exit ?_
        show AWp _ _ _ _
        refine awp_seq ?_
        refine awp_region ?_
        refine arun_do rfl rfl rfl (ex_move (eV (v := (GV 0 v5.length)) rfl)) ?_
        obtain ⟨x12, hx12, h⟩ := bindS h
        refine arun_do rfl rfl rfl (ex_callM (vs := [(GV 0 v5.length)]) (vs' := [(GV 0 v5.length)]) (v := (Value.tuple #[])) (n := 0) (b := ⟨1, ((v5).flatMap cS), true⟩) (b' := ⟨1, ((x12.2).flatMap cS), true⟩) (H' := ⟨1, [(0, ⟨1, ((x12.2).flatMap cS), true⟩)]⟩) rfl en_27 (cargs (evs rfl evs_nil)) rfl (.cons (.inr (.inr (.inl ⟨_, rfl, rfl⟩))) .nil) (ok_slices_Reverse_string_string v5 x12 (withLen_of hx12)) rfl rfl) ?_
        refine arun_keepE [7] 0 1 (st' := ⟨39, 0, [(7, (GV 0 v5.length))], [], ⟨1, [(0, ⟨1, ((x12.2).flatMap cS), true⟩)]⟩⟩) (by kernel_rfl) (by kernel_rfl) ?_
        show AWp _ _ _ _
        refine awp_seq ?_
        refine awp_region ?_
        refine arun_do rfl rfl rfl (ex_move (eV (v := (GV 0 v5.length)) rfl)) ?_
        refine arun_freeze 0 (bk := ⟨1, ((x12.2).flatMap cS), true⟩) (T' := [(7, (SL 1 cS x12.2)), (37, (SL 1 cS x12.2))]) (L' := []) rfl (fzG ceS rfl (withLen_len hx12) (fzG ceS rfl (withLen_len hx12) FzT.nil)) (FzL.refl _) ?_
        show ARun _ _ _ _ _ ⟨39, 0, [(7, (SL 1 cS x12.2)), (37, (SL 1 cS x12.2))], [], ⟨1, []⟩⟩
        obtain ⟨x13, hx13, h⟩ := bindS h
        refine arun_do rfl rfl rfl (ex_call0 (vs := [(SL 1 cS x12.2)]) (v := (S x13)) rfl en_28 (cargs (evs rfl evs_nil)) rfl (ok_name_Join x12.2 x13 hx13) rfl) ?_
        refine arun_do rfl rfl rfl (ex_assign (eV (v := (S x13)) rfl)) ?_
        refine arun_do rfl rfl rfl (ex_assign (eV (v := (Bo true)) rfl)) ?_
        refine arun_keepE [4, 5] 0 0 (st' := ⟨39, 0, [(4, (S x13)), (5, (Bo true))], [], ⟨0, []⟩⟩) (by kernel_rfl) (by kernel_rfl) ?_
        show AWp _ _ _ _
        refine awp_ret ?_
        cases h
        exact aresN rfl (L2.cons (rtmp rfl (eV rfl)) (L2.cons (rtmp rfl (eV rfl)) L2.nil)) rfl

end Go.Proofs
