/- Pure models of functions of the program, and that its code does what they say: block taken, block Take, palimpref1 noughts, palimpref1 New. Written by a program. -/
import Derived.Test.YtjpgcfniahaelaaR50
import Derived.Test.YtjpgcfniahaelaaR51
import Derived.Test.YtjpgcfniahaelaaR5B
set_option maxRecDepth 20000
set_option maxHeartbeats 4000000
namespace Go.Proofs
open Go Go.Fhl
set_option linter.unusedVariables false
set_option linter.unusedSimpArgs false
noncomputable def M_block_taken (t0 : Str) : Option G_block_read :=
  Option.bind (M_pack_Take ([49, 52, 50] : Str) t0) fun (x1 : ((List Int) × Str × Bool)) => Option.bind (gd ((!x1.2.2) == false) (getI x1.1 2)) fun (x2 : Int) => cond ((!x1.2.2) || (decide (x2 > (x1.2.1.length : Int)))) (some (G_block_read.mk (G_block_sector.mk (G_api_Block.mk 0 0 [])) false)) (Option.bind (getI x1.1 0) fun (x4 : Int) => Option.bind (getI x1.1 1) fun (x5 : Int) => Option.bind (getI x1.1 2) fun (x6 : Int) => Option.bind (slL x1.2.1 0 x6) fun (x7 : Str) => Option.bind (M_block_sector_may (G_block_sector.mk (G_api_Block.mk x4 x5 x7))) fun (x8 : Bool) => Option.bind (gd ((!x8) == false) (M_block_sector_bytes (G_block_sector.mk (G_api_Block.mk x4 x5 x7)))) fun (x9 : Str) => cond ((!x8) || (x9 != t0)) (some (G_block_read.mk (G_block_sector.mk (G_api_Block.mk 0 0 [])) false)) (some (G_block_read.mk (G_block_sector.mk (G_api_Block.mk x4 x5 x7)) true)))
theorem ok_block_taken (t0 : Str) (r : G_block_read) (h : M_block_taken t0 = some r) : FFn Try.prog 33 [(S t0)] (Value.agg (c_block_read r).toArray) := by
  refine FFn.of_body (n := 49) Try.func33 rfl Try.ntmps33 rfl rfl rfl rfl ?_
  show AWp _ _ _ ⟨49, 0, [(0, (S t0))], [], ⟨0, []⟩⟩
  unfold M_block_taken at h
  refine awp_seq ?_
  refine awp_region ?_
  refine arun_do rfl rfl rfl (ex_alloc (k := 0) (zs := (c_block_read (G_block_read.mk (G_block_sector.mk (G_api_Block.mk 0 0 [])) false))) (L' := [(c_block_read (G_block_read.mk (G_block_sector.mk (G_api_Block.mk 0 0 [])) false))]) z_67 rfl rfl rfl rfl) ?_
  refine arun_keepE [0, 2] 1 0 (st' := ⟨49, 0, [(0, (S t0)), (2, (LP 0 0))], [(c_block_read (G_block_read.mk (G_block_sector.mk (G_api_Block.mk 0 0 [])) false))], ⟨0, []⟩⟩) (by kernel_rfl) (by kernel_rfl) ?_
  show AWp _ _ _ _
  refine awp_seq ?_
  refine awp_region ?_
  refine arun_do rfl rfl rfl (ex_move (eV (v := (S t0)) rfl)) ?_
  obtain ⟨x1, hx1, h⟩ := bindS h
  refine arun_do rfl rfl rfl (ex_call0 (vs := [(S ([49, 52, 50] : Str)), (S t0)]) (v := (Value.tuple #[(SL 1 cI x1.1), (S x1.2.1), (Bo x1.2.2)])) rfl en_42 (cargs (evs rfl (evs rfl evs_nil))) rfl (ok_pack_Take ([49, 52, 50] : Str) t0 x1 hx1) rfl) ?_
  refine arun_do rfl rfl rfl (ex_move (eV (v := (Value.tuple #[(SL 1 cI x1.1), (S x1.2.1), (Bo x1.2.2)])) rfl)) ?_
  refine arun_do rfl rfl rfl (ex_extract (vx := (Value.tuple #[(SL 1 cI x1.1), (S x1.2.1), (Bo x1.2.2)])) (v := (SL 1 cI x1.1)) rfl rfl) ?_
  refine arun_do rfl rfl rfl (ex_extract (vx := (Value.tuple #[(SL 1 cI x1.1), (S x1.2.1), (Bo x1.2.2)])) (v := (S x1.2.1)) rfl rfl) ?_
  refine arun_do rfl rfl rfl (ex_extract (vx := (Value.tuple #[(SL 1 cI x1.1), (S x1.2.1), (Bo x1.2.2)])) (v := (Bo x1.2.2)) rfl rfl) ?_
  refine arun_do rfl rfl rfl (ex_assign (eV (v := (SL 1 cI x1.1)) rfl)) ?_
  refine arun_do rfl rfl rfl (ex_assign (eV (v := (S x1.2.1)) rfl)) ?_
  refine arun_do rfl rfl rfl (ex_assign (eV (v := (Bo x1.2.2)) rfl)) ?_
  refine arun_keepE [0, 2, 3, 4, 5] 1 0 (st' := ⟨49, 0, [(0, (S t0)), (2, (LP 0 0)), (3, (SL 1 cI x1.1)), (4, (S x1.2.1)), (5, (Bo x1.2.2))], [(c_block_read (G_block_read.mk (G_block_sector.mk (G_api_Block.mk 0 0 [])) false))], ⟨0, []⟩⟩) (by kernel_rfl) (by kernel_rfl) ?_
  show AWp _ _ _ _
  refine awp_seq ?_
  refine awp_seq ?_
  refine awp_region ?_
  refine arun_do rfl rfl rfl (ex_move (eV (v := (Bo x1.2.2)) rfl)) ?_
  refine arun_do rfl rfl rfl (ex_un (vx := (Bo x1.2.2)) rfl notB_ok) ?_
  refine arun_do rfl rfl rfl (ex_move (eV (v := (Bo (!x1.2.2))) rfl)) ?_
  refine arun_guard (v := (SL 1 cI x1.1)) ((!x1.2.2) == false) rfl rfl rfl (fun hc => ex_move (eV (v := (SL 1 cI x1.1)) rfl)) ?_
  obtain ⟨x2, hx2, h⟩ := bindS h
  refine arun_guard (v := (DP (cI x2))) ((!x1.2.2) == false) rfl rfl rfl (fun hc => tx_idxD (c := cI) (xs := x1.1) (i := 2) ceI Try.underlying48 s_3 (cond_of hc) rfl (gd_of hc hx2)) ?_
  refine arun_guard (v := (I x2)) ((!x1.2.2) == false) rfl rfl rfl (fun hc => tx_ldD1 (v := (I x2)) Try.underlying3 rfl (cond_of hc) rfl) ?_
  refine arun_guard (v := (S x1.2.1)) ((!x1.2.2) == false) rfl rfl rfl (fun hc => ex_move (eV (v := (S x1.2.1)) rfl)) ?_
  refine arun_guard (v := (I (x1.2.1.length : Int))) ((!x1.2.2) == false) rfl rfl rfl (fun hc => tx_lenS Try.underlying9 (cond_of hc)) ?_
  refine arun_guard (v := (Bo (decide (x2 > (x1.2.1.length : Int))))) ((!x1.2.2) == false) rfl rfl rfl (fun hc => ex_bin (vx := (I x2)) (vy := (I (x1.2.1.length : Int))) (cond_of hc) (cond_of hc) gtrI_ok) ?_
  refine arun_do rfl rfl rfl (ex_pick rfl pkOr) ?_
  refine arun_keepE [0, 2, 3, 4, 22] 1 0 (st' := ⟨49, 0, [(0, (S t0)), (2, (LP 0 0)), (3, (SL 1 cI x1.1)), (4, (S x1.2.1)), (22, (Bo ((!x1.2.2) || (decide (x2 > (x1.2.1.length : Int))))))], [(c_block_read (G_block_read.mk (G_block_sector.mk (G_api_Block.mk 0 0 [])) false))], ⟨0, []⟩⟩) (by kernel_rfl) (by kernel_rfl) ?_
  show AWp _ _ _ _
  rcases Bool.eq_false_or_eq_true ((!x1.2.2) || (decide (x2 > (x1.2.1.length : Int)))) with hb3 | hb3
  · rw [condT hb3] at h
    refine awp_condT (boT hb3) ?_
    refine awp_seq ?_
    refine awp_region ?_
    refine arun_do rfl rfl rfl (ex_build (qs := []) (v := (Value.agg (c_block_read (G_block_read.mk (G_block_sector.mk (G_api_Block.mk 0 0 [])) false)).toArray)) evp_nil (by kernel_rfl)) ?_
    refine arun_do0 rfl rfl (ex_storeL (vy := (Value.agg (c_block_read (G_block_read.mk (G_block_sector.mk (G_api_Block.mk 0 0 [])) false)).toArray)) (cs := (c_block_read (G_block_read.mk (G_block_sector.mk (G_api_Block.mk 0 0 [])) false))) (vs := (c_block_read (G_block_read.mk (G_block_sector.mk (G_api_Block.mk 0 0 [])) false))) (L' := [(c_block_read (G_block_read.mk (G_block_sector.mk (G_api_Block.mk 0 0 [])) false))]) rfl (eV (v := (Value.agg (c_block_read (G_block_read.mk (G_block_sector.mk (G_api_Block.mk 0 0 [])) false)).toArray)) rfl) rfl s_67 rfl (Nat.le_of_ble_eq_true rfl) (by kernel_rfl)) ?_
    refine arun_keepE [2] 1 0 (st' := ⟨49, 0, [(2, (LP 0 0))], [(c_block_read (G_block_read.mk (G_block_sector.mk (G_api_Block.mk 0 0 [])) false))], ⟨0, []⟩⟩) (by kernel_rfl) (by kernel_rfl) ?_
    show AWp _ _ _ _
    refine awp_ret ?_
    cases h
    exact ares1 (rcellL rfl rfl rfl (partA Try.underlying67 rfl s_67 (by decide) (Nat.le_of_ble_eq_true rfl) rfl))
  · rw [condF hb3] at h
    refine awp_condF (boF hb3) ?_
    refine awp_skip ?_
    show AWp _ _ _ _
    refine awp_seq ?_
    obtain ⟨x4, hx4, h⟩ := bindS h
    obtain ⟨x5, hx5, h⟩ := bindS h
    obtain ⟨x6, hx6, h⟩ := bindS h
    obtain ⟨x7, hx7, h⟩ := bindS h
    refine awp_kn [0, 2, 6] 2 0 (st' := ⟨49, 0, [(0, (S t0)), (2, (LP 0 0)), (6, (LP 1 0))], [(c_block_read (G_block_read.mk (G_block_sector.mk (G_api_Block.mk 0 0 [])) false)), (c_block_sector (G_block_sector.mk (G_api_Block.mk x4 x5 x7)))], ⟨0, []⟩⟩) (awp_draw (T := [(SL 1 cI x1.1), (DP (cI x4)), (I x4), (SL 1 cI x1.1), (DP (cI x5)), (I x5), (S x1.2.1), (SL 1 cI x1.1), (DP (cI x6)), (I x6), (S x7), (Value.agg (c_api_Block (G_api_Block.mk x4 x5 x7)).toArray), (Value.agg (c_block_sector (G_block_sector.mk (G_api_Block.mk x4 x5 x7))).toArray), (LP 1 0), undef]) (LH := [([(c_block_read (G_block_read.mk (G_block_sector.mk (G_api_Block.mk 0 0 [])) false))], ⟨0, []⟩), ([(c_block_read (G_block_read.mk (G_block_sector.mk (G_api_Block.mk 0 0 [])) false)), (c_block_sector (G_block_sector.mk (G_api_Block.mk 0 0 [])))], ⟨0, []⟩), ([(c_block_read (G_block_read.mk (G_block_sector.mk (G_api_Block.mk 0 0 [])) false)), (c_block_sector (G_block_sector.mk (G_api_Block.mk x4 x5 x7)))], ⟨0, []⟩)]) (D := [⟨[(3, none)], [], [0, 1], false⟩, ⟨[(24, some 0)], [0], [0, 1], false⟩, ⟨[(25, some 1)], [0, 1], [0, 1], false⟩, ⟨[(3, none)], [], [0, 1], false⟩, ⟨[(27, some 3)], [3], [0, 1], false⟩, ⟨[(28, some 4)], [3, 4], [0, 1], false⟩, ⟨[(4, none)], [], [0, 1], false⟩, ⟨[(3, none)], [], [0, 1], false⟩, ⟨[(31, some 7)], [7], [0, 1], false⟩, ⟨[(32, some 8)], [7, 8], [0, 1], false⟩, ⟨[(30, some 6), (33, some 9)], [6, 7, 8, 9], [0, 1], false⟩, ⟨[(26, some 2), (29, some 5), (34, some 10)], [0, 1, 2, 3, 4, 5, 6, 7, 8, 9, 10], [0, 1], false⟩, ⟨[(35, some 11)], [0, 1, 2, 3, 4, 5, 6, 7, 8, 9, 10, 11], [0, 1], false⟩, ⟨[], [], [0], true⟩, ⟨[(6, some 13), (36, some 12)], [0, 1, 2, 3, 4, 5, 6, 7, 8, 9, 10, 11, 12, 13], [1], true⟩]) (S := [13, 14]) (plan := [0, 1, 2, 3, 4, 5, 6, 7, 8, 9, 10, 11, 12, 13, 14]) mo (by kernel_rfl) rfl rfl rfl (dcons (dstepN (by intro k hk; simp only [List.mem_cons, List.not_mem_nil, or_false] at hk; rcases hk with rfl | rfl <;> exact ⟨[(3, (SL 1 cI x1.1))], _, _, _, _, _, rfl, rfl, rfl, rfl, astep_do rfl (ex_move (eV (v := (SL 1 cI x1.1)) rfl))⟩)) (dcons (dstepN (by intro k hk; simp only [List.mem_cons, List.not_mem_nil, or_false] at hk; rcases hk with rfl | rfl <;> exact ⟨[(24, (SL 1 cI x1.1))], _, _, _, _, _, rfl, rfl, rfl, rfl, astep_do rfl (tx_idxD (c := cI) (xs := x1.1) (i := 0) ceI Try.underlying48 s_3 rfl rfl hx4)⟩)) (dcons (dstepN (by intro k hk; simp only [List.mem_cons, List.not_mem_nil, or_false] at hk; rcases hk with rfl | rfl <;> exact ⟨[(25, (DP (cI x4)))], _, _, _, _, _, rfl, rfl, rfl, rfl, astep_do rfl (tx_ldD1 (v := (I x4)) Try.underlying3 rfl rfl rfl)⟩)) (dcons (dstepN (by intro k hk; simp only [List.mem_cons, List.not_mem_nil, or_false] at hk; rcases hk with rfl | rfl <;> exact ⟨[(3, (SL 1 cI x1.1))], _, _, _, _, _, rfl, rfl, rfl, rfl, astep_do rfl (ex_move (eV (v := (SL 1 cI x1.1)) rfl))⟩)) (dcons (dstepN (by intro k hk; simp only [List.mem_cons, List.not_mem_nil, or_false] at hk; rcases hk with rfl | rfl <;> exact ⟨[(27, (SL 1 cI x1.1))], _, _, _, _, _, rfl, rfl, rfl, rfl, astep_do rfl (tx_idxD (c := cI) (xs := x1.1) (i := 1) ceI Try.underlying48 s_3 rfl rfl hx5)⟩)) (dcons (dstepN (by intro k hk; simp only [List.mem_cons, List.not_mem_nil, or_false] at hk; rcases hk with rfl | rfl <;> exact ⟨[(28, (DP (cI x5)))], _, _, _, _, _, rfl, rfl, rfl, rfl, astep_do rfl (tx_ldD1 (v := (I x5)) Try.underlying3 rfl rfl rfl)⟩)) (dcons (dstepN (by intro k hk; simp only [List.mem_cons, List.not_mem_nil, or_false] at hk; rcases hk with rfl | rfl <;> exact ⟨[(4, (S x1.2.1))], _, _, _, _, _, rfl, rfl, rfl, rfl, astep_do rfl (ex_move (eV (v := (S x1.2.1)) rfl))⟩)) (dcons (dstepN (by intro k hk; simp only [List.mem_cons, List.not_mem_nil, or_false] at hk; rcases hk with rfl | rfl <;> exact ⟨[(3, (SL 1 cI x1.1))], _, _, _, _, _, rfl, rfl, rfl, rfl, astep_do rfl (ex_move (eV (v := (SL 1 cI x1.1)) rfl))⟩)) (dcons (dstepN (by intro k hk; simp only [List.mem_cons, List.not_mem_nil, or_false] at hk; rcases hk with rfl | rfl <;> exact ⟨[(31, (SL 1 cI x1.1))], _, _, _, _, _, rfl, rfl, rfl, rfl, astep_do rfl (tx_idxD (c := cI) (xs := x1.1) (i := 2) ceI Try.underlying48 s_3 rfl rfl hx6)⟩)) (dcons (dstepN (by intro k hk; simp only [List.mem_cons, List.not_mem_nil, or_false] at hk; rcases hk with rfl | rfl <;> exact ⟨[(32, (DP (cI x6)))], _, _, _, _, _, rfl, rfl, rfl, rfl, astep_do rfl (tx_ldD1 (v := (I x6)) Try.underlying3 rfl rfl rfl)⟩)) (dcons (dstepN (by intro k hk; simp only [List.mem_cons, List.not_mem_nil, or_false] at hk; rcases hk with rfl | rfl <;> exact ⟨[(30, (S x1.2.1)), (33, (I x6))], _, _, _, _, _, rfl, rfl, rfl, rfl, astep_do rfl (tx_slS (u := x1.2.1) Try.underlying9 rfl lo0 (hiX (l := x6) rfl) hx7)⟩)) (dcons (dstepN (by intro k hk; simp only [List.mem_cons, List.not_mem_nil, or_false] at hk; rcases hk with rfl | rfl <;> exact ⟨[(26, (I x4)), (29, (I x5)), (34, (S x7))], _, _, _, _, _, rfl, rfl, rfl, rfl, astep_do rfl (ex_build (qs := [(0, (I x4)), (1, (I x5)), (2, (S x7))]) (v := (Value.agg (c_api_Block (G_api_Block.mk x4 x5 x7)).toArray)) (evp rfl (evp rfl (evp rfl evp_nil))) (by kernel_rfl))⟩)) (dcons (dstepN (by intro k hk; simp only [List.mem_cons, List.not_mem_nil, or_false] at hk; rcases hk with rfl | rfl <;> exact ⟨[(35, (Value.agg (c_api_Block (G_api_Block.mk x4 x5 x7)).toArray))], _, _, _, _, _, rfl, rfl, rfl, rfl, astep_do rfl (ex_build (qs := [(0, (Value.agg (c_api_Block (G_api_Block.mk x4 x5 x7)).toArray))]) (v := (Value.agg (c_block_sector (G_block_sector.mk (G_api_Block.mk x4 x5 x7))).toArray)) (evp rfl evp_nil) (by kernel_rfl))⟩)) (dcons (dstep1 (Tm := []) (L := [(c_block_read (G_block_read.mk (G_block_sector.mk (G_api_Block.mk 0 0 [])) false))]) (H := ⟨0, []⟩) rfl rfl rfl rfl rfl (astep_do rfl (ex_alloc (k := 1) (zs := (c_block_sector (G_block_sector.mk (G_api_Block.mk 0 0 [])))) (L' := [(c_block_read (G_block_read.mk (G_block_sector.mk (G_api_Block.mk 0 0 [])) false)), (c_block_sector (G_block_sector.mk (G_api_Block.mk 0 0 [])))]) z_61 rfl rfl rfl rfl))) (dcons (dstep1 (Tm := [(6, (LP 1 0)), (36, (Value.agg (c_block_sector (G_block_sector.mk (G_api_Block.mk x4 x5 x7))).toArray))]) (L := [(c_block_read (G_block_read.mk (G_block_sector.mk (G_api_Block.mk 0 0 [])) false)), (c_block_sector (G_block_sector.mk (G_api_Block.mk 0 0 [])))]) (H := ⟨0, []⟩) rfl rfl rfl rfl rfl (astep_do rfl (ex_storeL (vy := (Value.agg (c_block_sector (G_block_sector.mk (G_api_Block.mk x4 x5 x7))).toArray)) (cs := (c_block_sector (G_block_sector.mk (G_api_Block.mk 0 0 [])))) (vs := (c_block_sector (G_block_sector.mk (G_api_Block.mk x4 x5 x7)))) (L' := [(c_block_read (G_block_read.mk (G_block_sector.mk (G_api_Block.mk 0 0 [])) false)), (c_block_sector (G_block_sector.mk (G_api_Block.mk x4 x5 x7)))]) rfl (eV (v := (Value.agg (c_block_sector (G_block_sector.mk (G_api_Block.mk x4 x5 x7))).toArray)) rfl) rfl s_61 rfl (Nat.le_of_ble_eq_true rfl) (by kernel_rfl)))) dnil))))))))))))))) ⟨rfl, rfl⟩) (by kernel_rfl) (by kernel_rfl) ?_
    show AWp _ _ _ _
    refine awp_seq ?_
    refine awp_seq ?_
    refine awp_region ?_
    refine arun_do rfl rfl rfl (tx_ldLA (vs := (c_block_sector (G_block_sector.mk (G_api_Block.mk x4 x5 x7)))) Try.underlying61 rfl s_61 (by decide) rfl rfl rfl rfl) ?_
    obtain ⟨x8, hx8, h⟩ := bindS h
    refine arun_do rfl rfl rfl (ex_call0 (vs := [(Value.agg (c_block_sector (G_block_sector.mk (G_api_Block.mk x4 x5 x7))).toArray)]) (v := (Bo x8)) rfl en_27 (cargs (evs rfl evs_nil)) rfl (ok_block_sector_may (G_block_sector.mk (G_api_Block.mk x4 x5 x7)) x8 hx8) rfl) ?_
    refine arun_do rfl rfl rfl (ex_un (vx := (Bo x8)) rfl notB_ok) ?_
    refine arun_do rfl rfl rfl (ex_move (eV (v := (Bo (!x8))) rfl)) ?_
    refine arun_guard (v := (Value.agg (c_block_sector (G_block_sector.mk (G_api_Block.mk x4 x5 x7))).toArray)) ((!x8) == false) rfl rfl rfl (fun hc => tx_ldLA (vs := (c_block_sector (G_block_sector.mk (G_api_Block.mk x4 x5 x7)))) Try.underlying61 rfl s_61 (by decide) rfl rfl rfl rfl) ?_
    obtain ⟨x9, hx9, h⟩ := bindS h
    refine arun_guard (v := (S x9)) ((!x8) == false) rfl rfl rfl (fun hc => ex_call0 (vs := [(Value.agg (c_block_sector (G_block_sector.mk (G_api_Block.mk x4 x5 x7))).toArray)]) (v := (S x9)) rfl en_29 (cargs (evs (cond_of hc) evs_nil)) rfl (ok_block_sector_bytes (G_block_sector.mk (G_api_Block.mk x4 x5 x7)) x9 (gd_of hc hx9)) rfl) ?_
    refine arun_guard (v := (S t0)) ((!x8) == false) rfl rfl rfl (fun hc => ex_move (eV (v := (S t0)) rfl)) ?_
    refine arun_guard (v := (Bo (x9 != t0))) ((!x8) == false) rfl rfl rfl (fun hc => ex_bin (vx := (S x9)) (vy := (S t0)) (cond_of hc) (cond_of hc) neqS_ok) ?_
    refine arun_do rfl rfl rfl (ex_pick rfl pkOr) ?_
    refine arun_keepE [2, 6, 45] 2 0 (st' := ⟨49, 0, [(2, (LP 0 0)), (6, (LP 1 0)), (45, (Bo ((!x8) || (x9 != t0))))], [(c_block_read (G_block_read.mk (G_block_sector.mk (G_api_Block.mk 0 0 [])) false)), (c_block_sector (G_block_sector.mk (G_api_Block.mk x4 x5 x7)))], ⟨0, []⟩⟩) (by kernel_rfl) (by kernel_rfl) ?_
    show AWp _ _ _ _
    rcases Bool.eq_false_or_eq_true ((!x8) || (x9 != t0)) with hb10 | hb10
    · rw [condT hb10] at h
      refine awp_condT (boT hb10) ?_
      refine awp_seq ?_
      refine awp_region ?_
      refine arun_do rfl rfl rfl (ex_build (qs := []) (v := (Value.agg (c_block_read (G_block_read.mk (G_block_sector.mk (G_api_Block.mk 0 0 [])) false)).toArray)) evp_nil (by kernel_rfl)) ?_
      refine arun_do0 rfl rfl (ex_storeL (vy := (Value.agg (c_block_read (G_block_read.mk (G_block_sector.mk (G_api_Block.mk 0 0 [])) false)).toArray)) (cs := (c_block_read (G_block_read.mk (G_block_sector.mk (G_api_Block.mk 0 0 [])) false))) (vs := (c_block_read (G_block_read.mk (G_block_sector.mk (G_api_Block.mk 0 0 [])) false))) (L' := [(c_block_read (G_block_read.mk (G_block_sector.mk (G_api_Block.mk 0 0 [])) false)), (c_block_sector (G_block_sector.mk (G_api_Block.mk x4 x5 x7)))]) rfl (eV (v := (Value.agg (c_block_read (G_block_read.mk (G_block_sector.mk (G_api_Block.mk 0 0 [])) false)).toArray)) rfl) rfl s_67 rfl (Nat.le_of_ble_eq_true rfl) (by kernel_rfl)) ?_
      refine arun_keepE [2] 1 0 (st' := ⟨49, 0, [(2, (LP 0 0))], [(c_block_read (G_block_read.mk (G_block_sector.mk (G_api_Block.mk 0 0 [])) false))], ⟨0, []⟩⟩) (by kernel_rfl) (by kernel_rfl) ?_
      show AWp _ _ _ _
      refine awp_ret ?_
      cases h
      exact ares1 (rcellL rfl rfl rfl (partA Try.underlying67 rfl s_67 (by decide) (Nat.le_of_ble_eq_true rfl) rfl))
    · rw [condF hb10] at h
      refine awp_condF (boF hb10) ?_
      refine awp_skip ?_
      show AWp _ _ _ _
      refine awp_seq ?_
      refine awp_region ?_
      refine arun_do rfl rfl rfl (tx_ldLA (vs := (c_block_sector (G_block_sector.mk (G_api_Block.mk x4 x5 x7)))) Try.underlying61 rfl s_61 (by decide) rfl rfl rfl rfl) ?_
      refine arun_do rfl rfl rfl (ex_build (qs := [(0, (Value.agg (c_block_sector (G_block_sector.mk (G_api_Block.mk x4 x5 x7))).toArray)), (1, (Bo true))]) (v := (Value.agg (c_block_read (G_block_read.mk (G_block_sector.mk (G_api_Block.mk x4 x5 x7)) true)).toArray)) (evp rfl (evp rfl evp_nil)) (by kernel_rfl)) ?_
      refine arun_do0 rfl rfl (ex_storeL (vy := (Value.agg (c_block_read (G_block_read.mk (G_block_sector.mk (G_api_Block.mk x4 x5 x7)) true)).toArray)) (cs := (c_block_read (G_block_read.mk (G_block_sector.mk (G_api_Block.mk 0 0 [])) false))) (vs := (c_block_read (G_block_read.mk (G_block_sector.mk (G_api_Block.mk x4 x5 x7)) true))) (L' := [(c_block_read (G_block_read.mk (G_block_sector.mk (G_api_Block.mk x4 x5 x7)) true)), (c_block_sector (G_block_sector.mk (G_api_Block.mk x4 x5 x7)))]) rfl (eV (v := (Value.agg (c_block_read (G_block_read.mk (G_block_sector.mk (G_api_Block.mk x4 x5 x7)) true)).toArray)) rfl) rfl s_67 rfl (Nat.le_of_ble_eq_true rfl) (by kernel_rfl)) ?_
      refine arun_keepE [2] 1 0 (st' := ⟨49, 0, [(2, (LP 0 0))], [(c_block_read (G_block_read.mk (G_block_sector.mk (G_api_Block.mk x4 x5 x7)) true))], ⟨0, []⟩⟩) (by kernel_rfl) (by kernel_rfl) ?_
      show AWp _ _ _ _
      refine awp_ret ?_
      cases h
      exact ares1 (rcellL rfl rfl rfl (partA Try.underlying67 rfl s_67 (by decide) (Nat.le_of_ble_eq_true rfl) rfl))

noncomputable def M_block_Take (t0 : Str) : Option (G_api_Block × Bool) :=
  Option.bind (M_block_taken t0) fun (x1 : G_block_read) => some (x1.sector.Block, x1.ok)
theorem ok_block_Take (t0 : Str) (r : (G_api_Block × Bool)) (h : M_block_Take t0 = some r) : FFn Try.prog 16 [(S t0)] (Value.tuple #[(Value.agg (c_api_Block r.1).toArray), (Bo r.2)]) := by
  refine FFn.of_body (n := 12) Try.func16 rfl Try.ntmps16 rfl rfl rfl rfl ?_
  show AWp _ _ _ ⟨12, 0, [(0, (S t0))], [], ⟨0, []⟩⟩
  unfold M_block_Take at h
  refine awp_seq ?_
  refine awp_region ?_
  refine arun_do rfl rfl rfl (ex_alloc (k := 0) (zs := (c_api_Block (G_api_Block.mk 0 0 []))) (L' := [(c_api_Block (G_api_Block.mk 0 0 []))]) z_23 rfl rfl rfl rfl) ?_
  refine arun_do rfl rfl rfl (ex_assign (eV (v := (Bo false)) rfl)) ?_
  refine arun_keepE [0, 2] 1 0 (st' := ⟨12, 0, [(0, (S t0)), (2, (LP 0 0))], [(c_api_Block (G_api_Block.mk 0 0 []))], ⟨0, []⟩⟩) (by kernel_rfl) (by kernel_rfl) ?_
  show AWp _ _ _ _
  refine awp_seq ?_
  refine awp_region ?_
  refine arun_do rfl rfl rfl (ex_move (eV (v := (S t0)) rfl)) ?_
  obtain ⟨x1, hx1, h⟩ := bindS h
  refine arun_do rfl rfl rfl (ex_call0 (vs := [(S t0)]) (v := (Value.agg (c_block_read x1).toArray)) rfl en_33 (cargs (evs rfl evs_nil)) rfl (ok_block_taken t0 x1 hx1) rfl) ?_
  refine arun_do rfl rfl rfl (ex_alloc (k := 1) (zs := (c_block_read (G_block_read.mk (G_block_sector.mk (G_api_Block.mk 0 0 [])) false))) (L' := [(c_api_Block (G_api_Block.mk 0 0 [])), (c_block_read (G_block_read.mk (G_block_sector.mk (G_api_Block.mk 0 0 [])) false))]) z_67 rfl rfl rfl rfl) ?_
  refine arun_do0 rfl rfl (ex_storeL (vy := (Value.agg (c_block_read x1).toArray)) (cs := (c_block_read (G_block_read.mk (G_block_sector.mk (G_api_Block.mk 0 0 [])) false))) (vs := (c_block_read x1)) (L' := [(c_api_Block (G_api_Block.mk 0 0 [])), (c_block_read x1)]) rfl (eV (v := (Value.agg (c_block_read x1).toArray)) rfl) rfl s_67 rfl (Nat.le_of_ble_eq_true rfl) (by kernel_rfl)) ?_
  refine arun_keepE [2, 4] 2 0 (st' := ⟨12, 0, [(2, (LP 0 0)), (4, (LP 1 0))], [(c_api_Block (G_api_Block.mk 0 0 [])), (c_block_read x1)], ⟨0, []⟩⟩) (by kernel_rfl) (by kernel_rfl) ?_
  show AWp _ _ _ _
  refine awp_seq ?_
  refine awp_kn [2, 3] 1 0 (st' := ⟨12, 0, [(2, (LP 0 0)), (3, (Bo x1.ok))], [(c_api_Block x1.sector.Block)], ⟨0, []⟩⟩) (awp_draw (T := [(LP 1 0), (LP 1 0), (Value.agg (c_api_Block x1.sector.Block).toArray), (LP 1 3), (Bo x1.ok), undef, (Bo x1.ok)]) (LH := [([(c_api_Block (G_api_Block.mk 0 0 [])), (c_block_read x1)], ⟨0, []⟩), ([(c_api_Block x1.sector.Block), (c_block_read x1)], ⟨0, []⟩)]) (D := [⟨[(4, none)], [], [0], false⟩, ⟨[(7, some 0)], [0], [0], false⟩, ⟨[(8, some 1)], [0, 1], [0], false⟩, ⟨[(4, none)], [], [0, 1], false⟩, ⟨[(10, some 3)], [3], [0, 1], false⟩, ⟨[(2, none), (9, some 2)], [0, 1, 2], [0], true⟩, ⟨[(11, some 4)], [0, 1, 2, 3, 4, 5], [1], false⟩]) (S := [5]) (plan := [0, 1, 2, 3, 4, 5, 6]) mo (by kernel_rfl) rfl rfl rfl (dcons (dstep1 (Tm := [(4, (LP 1 0))]) (L := [(c_api_Block (G_api_Block.mk 0 0 [])), (c_block_read x1)]) (H := ⟨0, []⟩) rfl rfl rfl rfl rfl (astep_do rfl (ex_fieldAddr (v := (LP 1 0)) Try.underlying67 rfl s_61 (by decide) rfl rfl))) (dcons (dstep1 (Tm := [(7, (LP 1 0))]) (L := [(c_api_Block (G_api_Block.mk 0 0 [])), (c_block_read x1)]) (H := ⟨0, []⟩) rfl rfl rfl rfl rfl (astep_do rfl (ex_fieldAddr (v := (LP 1 0)) Try.underlying61 rfl s_23 (by decide) rfl rfl))) (dcons (dstep1 (Tm := [(8, (LP 1 0))]) (L := [(c_api_Block (G_api_Block.mk 0 0 [])), (c_block_read x1)]) (H := ⟨0, []⟩) rfl rfl rfl rfl rfl (astep_do rfl (tx_ldLA (vs := (c_api_Block x1.sector.Block)) Try.underlying23 rfl s_23 (by decide) rfl rfl rfl rfl))) (dcons (dstepN (by intro k hk; simp only [List.mem_cons, List.not_mem_nil, or_false] at hk; rcases hk with rfl | rfl <;> exact ⟨[(4, (LP 1 0))], _, _, _, _, _, rfl, rfl, rfl, rfl, astep_do rfl (ex_fieldAddr (v := (LP 1 3)) Try.underlying67 rfl s_4 (by decide) rfl rfl)⟩)) (dcons (dstepN (by intro k hk; simp only [List.mem_cons, List.not_mem_nil, or_false] at hk; rcases hk with rfl | rfl <;> exact ⟨[(10, (LP 1 3))], _, _, _, _, _, rfl, rfl, rfl, rfl, astep_do rfl (tx_ldL1 (v := (Bo x1.ok)) Try.underlying4 rfl rfl rfl rfl)⟩)) (dcons (dstep1 (Tm := [(2, (LP 0 0)), (9, (Value.agg (c_api_Block x1.sector.Block).toArray))]) (L := [(c_api_Block (G_api_Block.mk 0 0 [])), (c_block_read x1)]) (H := ⟨0, []⟩) rfl rfl rfl rfl rfl (astep_do rfl (ex_storeL (vy := (Value.agg (c_api_Block x1.sector.Block).toArray)) (cs := (c_api_Block (G_api_Block.mk 0 0 []))) (vs := (c_api_Block x1.sector.Block)) (L' := [(c_api_Block x1.sector.Block), (c_block_read x1)]) rfl (eV (v := (Value.agg (c_api_Block x1.sector.Block).toArray)) rfl) rfl s_23 rfl (Nat.le_of_ble_eq_true rfl) (by kernel_rfl)))) (dcons (dstep1 (Tm := [(11, (Bo x1.ok))]) (L := [(c_api_Block x1.sector.Block), (c_block_read x1)]) (H := ⟨0, []⟩) rfl rfl rfl rfl rfl (astep_do rfl (ex_assign (eV (v := (Bo x1.ok)) rfl)))) dnil))))))) ⟨rfl, rfl⟩) (by kernel_rfl) (by kernel_rfl) ?_
  show AWp _ _ _ _
  refine awp_ret ?_
  cases h
  exact aresN rfl (L2.cons (rcellL rfl rfl rfl (partA Try.underlying23 rfl s_23 (by decide) (Nat.le_of_ble_eq_true rfl) rfl)) (L2.cons (rtmp rfl (eV rfl)) L2.nil)) rfl

noncomputable def M_ref1_noughts (t0 : Int) : Option Str :=
  Option.bind (makeL 1 (max t0 0) 0) fun (x1 : List UInt8) => some x1
theorem ok_ref1_noughts (t0 : Int) (r : Str) (h : M_ref1_noughts t0 = some r) : FFn Try.prog 31 [(I t0)] (S r) := by
  refine FFn.of_body (n := 7) Try.func31 rfl Try.ntmps31 rfl rfl rfl rfl ?_
  show AWp _ _ _ ⟨7, 0, [(0, (I t0))], [], ⟨0, []⟩⟩
  unfold M_ref1_noughts at h
  refine awp_seq ?_
  refine awp_region ?_
  refine arun_do rfl rfl rfl (ex_assign (eV (v := (S [])) rfl)) ?_
  refine arun_keepE [0] 0 0 (st' := ⟨7, 0, [(0, (I t0))], [], ⟨0, []⟩⟩) (by kernel_rfl) (by kernel_rfl) ?_
  show AWp _ _ _ _
  refine awp_seq ?_
  refine awp_region ?_
  refine arun_do rfl rfl rfl (ex_move (eV (v := (I t0)) rfl)) ?_
  refine arun_do rfl rfl rfl (ex_max (m := t0) (n := 0) rfl rfl) ?_
  obtain ⟨x1, hx1, h⟩ := bindS h
  refine arun_do rfl rfl rfl (tx_makeD (c := c8) (e := 0) ce8 Try.underlying34 s_5 b_5 z_5 rfl rfl rfl rfl hx1) ?_
  refine arun_do rfl rfl rfl (tx_bsD (bs := x1) Try.underlying34 Try.underlying9 Try.underlying5 rfl) ?_
  refine arun_do rfl rfl rfl (ex_assign (eV (v := (S x1)) rfl)) ?_
  refine arun_keepE [2] 0 0 (st' := ⟨7, 0, [(2, (S x1))], [], ⟨0, []⟩⟩) (by kernel_rfl) (by kernel_rfl) ?_
  show AWp _ _ _ _
  refine awp_ret ?_
  cases h
  exact ares1 (rtmp rfl (eV rfl))

noncomputable def M_ref1_New_l1 (t0 : Int) : Nat → Int → List Str → Option G_api_Dev
  | 0, _, _ => none
  | n1 + 1, v1, v2 =>
  cond ((decide (v1 < t0)) && (decide (t0 ≤ 268))) (Option.bind (M_ref1_noughts 256) fun (x4 : Str) => Option.bind (appL 16 v2 ([x4] : List Str)) fun (x5 : List Str) => (M_ref1_New_l1 t0 n1) (w64 (v1 + 1)) x5) (some (G_api_Dev.mk v2 [] 0 0 false))
noncomputable def M_ref1_New (t0 : Int) : Option G_api_Dev :=
  M_ref1_New_l1 t0 fuel 0 ([] : List Str)
theorem ok_ref1_New (t0 : Int) (r : G_api_Dev) (h : M_ref1_New t0 = some r) : FFn Try.prog 18 [(I t0)] (Value.agg (c_api_Dev r).toArray) := by
  refine FFn.of_body (n := 22) Try.func18 rfl Try.ntmps18 rfl rfl rfl rfl ?_
  show AWp _ _ _ ⟨22, 0, [(0, (I t0))], [], ⟨0, []⟩⟩
  unfold M_ref1_New at h
  refine awp_seq ?_
  refine awp_region ?_
  refine arun_do rfl rfl rfl (ex_allocW (k := 0) (zs := (c_api_Dev (G_api_Dev.mk [] [] 0 0 false))) (L' := [(c_api_Dev (G_api_Dev.mk [] [] 0 0 false))]) z_40 rfl (by repeat (first | exact trivial | refine ⟨.inl rfl, ?_⟩ | refine ⟨.inr ⟨rfl, _, rfl⟩, ?_⟩)) rfl rfl) ?_
  refine arun_keepE [0, 2] 1 0 (st' := ⟨22, 0, [(0, (I t0)), (2, (LP 0 0))], [(c_api_Dev (G_api_Dev.mk [] [] 0 0 false))], ⟨0, []⟩⟩) (by kernel_rfl) (by kernel_rfl) ?_
  show AWp _ _ _ _
  refine awp_seq ?_
  refine awp_region ?_
  refine arun_do rfl rfl rfl (ex_build (qs := []) (v := (Value.agg ([(Value.slice none 0 0)] ++ ([(Value.slice none 0 0)] ++ ([(I 0)] ++ ([(I 0)] ++ ([(Bo false)]))))).toArray)) evp_nil (by kernel_rfl)) ?_
  refine arun_do rfl rfl rfl (ex_alloc (k := 1) (zs := ([(Value.slice none 0 0)] ++ ([(Value.slice none 0 0)] ++ ([(I 0)] ++ ([(I 0)] ++ ([(Bo false)])))))) (L' := [(c_api_Dev (G_api_Dev.mk [] [] 0 0 false)), ([(Value.slice none 0 0)] ++ ([(Value.slice none 0 0)] ++ ([(I 0)] ++ ([(I 0)] ++ ([(Bo false)])))))]) z_40 rfl rfl rfl rfl) ?_
  refine arun_do0 rfl rfl (ex_storeL (vy := (Value.agg ([(Value.slice none 0 0)] ++ ([(Value.slice none 0 0)] ++ ([(I 0)] ++ ([(I 0)] ++ ([(Bo false)]))))).toArray)) (cs := ([(Value.slice none 0 0)] ++ ([(Value.slice none 0 0)] ++ ([(I 0)] ++ ([(I 0)] ++ ([(Bo false)])))))) (vs := ([(Value.slice none 0 0)] ++ ([(Value.slice none 0 0)] ++ ([(I 0)] ++ ([(I 0)] ++ ([(Bo false)])))))) (L' := [(c_api_Dev (G_api_Dev.mk [] [] 0 0 false)), ([(Value.slice none 0 0)] ++ ([(Value.slice none 0 0)] ++ ([(I 0)] ++ ([(I 0)] ++ ([(Bo false)])))))]) rfl (eV (v := (Value.agg ([(Value.slice none 0 0)] ++ ([(Value.slice none 0 0)] ++ ([(I 0)] ++ ([(I 0)] ++ ([(Bo false)]))))).toArray)) rfl) rfl s_40 rfl (Nat.le_of_ble_eq_true rfl) (by kernel_rfl)) ?_
  refine arun_keepE [0, 2, 3] 2 0 (st' := ⟨22, 0, [(0, (I t0)), (2, (LP 0 0)), (3, (LP 1 0))], [(c_api_Dev (G_api_Dev.mk [] [] 0 0 false)), ([(Value.slice none 0 0)] ++ ([(Value.slice none 0 0)] ++ ([(I 0)] ++ ([(I 0)] ++ ([(Bo false)])))))], ⟨0, []⟩⟩) (by kernel_rfl) (by kernel_rfl) ?_
  show AWp _ _ _ _
  refine awp_seq ?_
  refine awp_seq ?_
  refine awp_region ?_
  refine arun_do rfl rfl rfl (ex_assign (eV (v := (I 0)) rfl)) ?_
  refine arun_keepE [0, 2, 3, 4] 2 0 (st' := ⟨22, 0, [(0, (I t0)), (2, (LP 0 0)), (3, (LP 1 0)), (4, (I 0))], [(c_api_Dev (G_api_Dev.mk [] [] 0 0 false)), ([(Value.slice none 0 0)] ++ ([(Value.slice none 0 0)] ++ ([(I 0)] ++ ([(I 0)] ++ ([(Bo false)])))))], ⟨0, []⟩⟩) (by kernel_rfl) (by kernel_rfl) ?_
  show AWp _ _ _ _
  refine awp_block ?_
  refine awp_nilGroL 1 0 1 rfl rfl (by decide) (L' := [(c_api_Dev (G_api_Dev.mk [] [] 0 0 false)), ([(GV 0 0)] ++ ([(Value.slice none 0 0)] ++ ([(I 0)] ++ ([(I 0)] ++ ([(Bo false)])))))]) rfl ?_
  refine awp_keepE [0, 2, 3, 4] 2 1 (st' := ⟨22, 0, [(0, (I t0)), (2, (LP 0 0)), (3, (LP 1 0)), (4, (I 0))], [(c_api_Dev (G_api_Dev.mk [] [] 0 0 false)), ([(GV 0 0)] ++ ([(Value.slice none 0 0)] ++ ([(I 0)] ++ ([(I 0)] ++ ([(Bo false)])))))], ⟨1, [(0, ⟨1, (([] : List Str).flatMap cS), true⟩)]⟩⟩) (by kernel_rfl) (by kernel_rfl) ?_
  refine awp_loop (fun n s => ∃ (v1 : Int) (v2 : List Str), s = ⟨22, 0, [(0, (I t0)), (2, (LP 0 0)), (3, (LP 1 0)), (4, (I v1))], [(c_api_Dev (G_api_Dev.mk [] [] 0 0 false)), ([(GV 0 v2.length)] ++ ([(Value.slice none 0 0)] ++ ([(I 0)] ++ ([(I 0)] ++ ([(Bo false)])))))], ⟨1, [(0, ⟨1, ((v2).flatMap cS), true⟩)]⟩⟩ ∧ M_ref1_New_l1 t0 n v1 v2 = some r) fuel (Exists.intro 0 (Exists.intro ([] : List Str) (And.intro rfl h))) ?_
  rintro n s ⟨v1, v2, rfl, h⟩ -
  cases n with
  | zero => cases h
  | succ n1 =>
    unfold M_ref1_New_l1 at h
    refine awp_seq ?_
    refine awp_seq ?_
    refine awp_region ?_
    refine arun_do rfl rfl rfl (ex_move (eV (v := (I v1)) rfl)) ?_
    refine arun_do rfl rfl rfl (ex_move (eV (v := (I t0)) rfl)) ?_
    refine arun_do rfl rfl rfl (ex_bin (vx := (I v1)) (vy := (I t0)) rfl rfl lssI_ok) ?_
    refine arun_do rfl rfl rfl (ex_move (eV (v := (Bo (decide (v1 < t0)))) rfl)) ?_
    refine arun_guard (v := (I t0)) ((decide (v1 < t0)) == true) rfl rfl rfl (fun hc => ex_move (eV (v := (I t0)) rfl)) ?_
    refine arun_guard (v := (Bo (decide (t0 ≤ 268)))) ((decide (v1 < t0)) == true) rfl rfl rfl (fun hc => ex_bin (vx := (I t0)) (vy := (I 268)) (cond_of hc) rfl leqI_ok) ?_
    refine arun_do rfl rfl rfl (ex_pick rfl pkAnd) ?_
    refine arun_keepE [0, 2, 3, 4, 12] 2 1 (st' := ⟨22, 0, [(0, (I t0)), (2, (LP 0 0)), (3, (LP 1 0)), (4, (I v1)), (12, (Bo ((decide (v1 < t0)) && (decide (t0 ≤ 268)))))], [(c_api_Dev (G_api_Dev.mk [] [] 0 0 false)), ([(GV 0 v2.length)] ++ ([(Value.slice none 0 0)] ++ ([(I 0)] ++ ([(I 0)] ++ ([(Bo false)])))))], ⟨1, [(0, ⟨1, ((v2).flatMap cS), true⟩)]⟩⟩) (by kernel_rfl) (by kernel_rfl) ?_
    show AWp _ _ _ _
    rcases Bool.eq_false_or_eq_true ((decide (v1 < t0)) && (decide (t0 ≤ 268))) with hb3 | hb3
    · rw [condT hb3] at h
      refine awp_condT (boT hb3) ?_
      refine awp_skip ?_
      show AWp _ _ _ _
      refine awp_seq ?_
      refine awp_block ?_
      obtain ⟨x4, hx4, h⟩ := bindS h
      obtain ⟨x5, hx5, h⟩ := bindS h
      refine awp_kn [0, 2, 3, 4] 2 1 (st' := ⟨22, 0, [(0, (I t0)), (2, (LP 0 0)), (3, (LP 1 0)), (4, (I v1))], [(c_api_Dev (G_api_Dev.mk [] [] 0 0 false)), ([(GV 0 x5.length)] ++ ([(Value.slice none 0 0)] ++ ([(I 0)] ++ ([(I 0)] ++ ([(Bo false)])))))], ⟨1, [(0, ⟨1, ((x5).flatMap cS), true⟩)]⟩⟩) (awp_draw (T := [(LP 1 0), (GV 0 v2.length), (S x4), (SL 1 cS ([x4] : List Str)), (GV 0 x5.length), (LP 1 0), undef]) (LH := [([(c_api_Dev (G_api_Dev.mk [] [] 0 0 false)), ([(GV 0 v2.length)] ++ ([(Value.slice none 0 0)] ++ ([(I 0)] ++ ([(I 0)] ++ ([(Bo false)])))))], ⟨1, [(0, ⟨1, ((v2).flatMap cS), true⟩)]⟩), ([(c_api_Dev (G_api_Dev.mk [] [] 0 0 false)), ([(GV 0 v2.length)] ++ ([(Value.slice none 0 0)] ++ ([(I 0)] ++ ([(I 0)] ++ ([(Bo false)])))))], ⟨1, [(0, ⟨1, ((x5).flatMap cS), true⟩)]⟩), ([(c_api_Dev (G_api_Dev.mk [] [] 0 0 false)), ([(GV 0 x5.length)] ++ ([(Value.slice none 0 0)] ++ ([(I 0)] ++ ([(I 0)] ++ ([(Bo false)])))))], ⟨1, [(0, ⟨1, ((x5).flatMap cS), true⟩)]⟩)]) (D := [⟨[(3, none)], [], [0], false⟩, ⟨[(15, some 0)], [0], [0], false⟩, ⟨[], [], [0], false⟩, ⟨[(17, some 2)], [2], [0], false⟩, ⟨[(16, some 1), (18, some 3)], [0, 1, 2, 3], [0], true⟩, ⟨[(3, none)], [0, 1, 2, 3, 4], [1], false⟩, ⟨[(20, some 5), (19, some 4)], [0, 1, 2, 3, 4, 5], [1], true⟩]) (S := [4, 6]) (plan := [0, 1, 2, 3, 4, 5, 6]) mo (by kernel_rfl) rfl rfl rfl (dcons (dstep1 (Tm := [(3, (LP 1 0))]) (L := [(c_api_Dev (G_api_Dev.mk [] [] 0 0 false)), ([(GV 0 v2.length)] ++ ([(Value.slice none 0 0)] ++ ([(I 0)] ++ ([(I 0)] ++ ([(Bo false)])))))]) (H := ⟨1, [(0, ⟨1, ((v2).flatMap cS), true⟩)]⟩) rfl rfl rfl rfl rfl (astep_do rfl (ex_fieldAddr (v := (LP 1 0)) Try.underlying40 rfl s_35 (by decide) rfl rfl))) (dcons (dstep1 (Tm := [(15, (LP 1 0))]) (L := [(c_api_Dev (G_api_Dev.mk [] [] 0 0 false)), ([(GV 0 v2.length)] ++ ([(Value.slice none 0 0)] ++ ([(I 0)] ++ ([(I 0)] ++ ([(Bo false)])))))]) (H := ⟨1, [(0, ⟨1, ((v2).flatMap cS), true⟩)]⟩) rfl rfl rfl rfl rfl (astep_do rfl (tx_ldL1 (v := (GV 0 v2.length)) Try.underlying35 rfl rfl rfl rfl))) (dcons (dstep1 (Tm := []) (L := [(c_api_Dev (G_api_Dev.mk [] [] 0 0 false)), ([(GV 0 v2.length)] ++ ([(Value.slice none 0 0)] ++ ([(I 0)] ++ ([(I 0)] ++ ([(Bo false)])))))]) (H := ⟨1, [(0, ⟨1, ((v2).flatMap cS), true⟩)]⟩) rfl rfl rfl rfl rfl (astep_do rfl (ex_call0 (vs := [(I 256)]) (v := (S x4)) rfl en_31 (cargs (evs rfl evs_nil)) rfl (ok_ref1_noughts 256 x4 hx4) rfl))) (dcons (dstep1 (Tm := [(17, (S x4))]) (L := [(c_api_Dev (G_api_Dev.mk [] [] 0 0 false)), ([(GV 0 v2.length)] ++ ([(Value.slice none 0 0)] ++ ([(I 0)] ++ ([(I 0)] ++ ([(Bo false)])))))]) (H := ⟨1, [(0, ⟨1, ((v2).flatMap cS), true⟩)]⟩) rfl rfl rfl rfl rfl (astep_do rfl (ex_buildSliceD (qs := [(0, (S x4))]) (cells := (([x4] : List Str).flatMap cS)) Try.underlying35 s_9 (by decide) (evp rfl evp_nil) rfl (by kernel_rfl) (by kernel_rfl) (by kernel_rfl)))) (dcons (dstep1 (Tm := [(16, (GV 0 v2.length)), (18, (SL 1 cS ([x4] : List Str)))]) (L := [(c_api_Dev (G_api_Dev.mk [] [] 0 0 false)), ([(GV 0 v2.length)] ++ ([(Value.slice none 0 0)] ++ ([(I 0)] ++ ([(I 0)] ++ ([(Bo false)])))))]) (H := ⟨1, [(0, ⟨1, ((v2).flatMap cS), true⟩)]⟩) rfl rfl rfl rfl rfl (astep_do rfl (tx_appG (c := cS) (xs := v2) (H' := ⟨1, [(0, ⟨1, ((x5).flatMap cS), true⟩)]⟩) ceS e_9 rfl rfl rfl (tsrcD (ys := ([x4] : List Str)) ceS Try.underlying35 s_9 Try.underlying35 rfl) hx5 rfl))) (dcons (dstep1 (Tm := [(3, (LP 1 0))]) (L := [(c_api_Dev (G_api_Dev.mk [] [] 0 0 false)), ([(GV 0 v2.length)] ++ ([(Value.slice none 0 0)] ++ ([(I 0)] ++ ([(I 0)] ++ ([(Bo false)])))))]) (H := ⟨1, [(0, ⟨1, ((x5).flatMap cS), true⟩)]⟩) rfl rfl rfl rfl rfl (astep_do rfl (ex_fieldAddr (v := (LP 1 0)) Try.underlying40 rfl s_35 (by decide) rfl rfl))) (dcons (dstep1 (Tm := [(20, (LP 1 0)), (19, (GV 0 x5.length))]) (L := [(c_api_Dev (G_api_Dev.mk [] [] 0 0 false)), ([(GV 0 v2.length)] ++ ([(Value.slice none 0 0)] ++ ([(I 0)] ++ ([(I 0)] ++ ([(Bo false)])))))]) (H := ⟨1, [(0, ⟨1, ((x5).flatMap cS), true⟩)]⟩) rfl rfl rfl rfl rfl (astep_do rfl (ex_storeL (vy := (GV 0 x5.length)) (cs := ([(GV 0 v2.length)] ++ ([(Value.slice none 0 0)] ++ ([(I 0)] ++ ([(I 0)] ++ ([(Bo false)])))))) (vs := [(GV 0 x5.length)]) (L' := [(c_api_Dev (G_api_Dev.mk [] [] 0 0 false)), ([(GV 0 x5.length)] ++ ([(Value.slice none 0 0)] ++ ([(I 0)] ++ ([(I 0)] ++ ([(Bo false)])))))]) rfl (eV (v := (GV 0 x5.length)) rfl) rfl s_35 rfl (Nat.le_of_ble_eq_true rfl) (by kernel_rfl)))) dnil))))))) ⟨rfl, rfl⟩) (by kernel_rfl) (by kernel_rfl) ?_
      show AWp _ _ _ _
      refine awp_region ?_
      refine arun_do rfl rfl rfl (ex_move (eV (v := (I v1)) rfl)) ?_
      refine arun_do rfl rfl rfl (ex_bin (vx := (I v1)) (vy := (I 1)) rfl rfl addI_ok) ?_
      refine arun_do rfl rfl rfl (ex_assign (eV (v := (I (w64 (v1 + 1)))) rfl)) ?_
      refine arun_keepE [0, 2, 3, 4] 2 1 (st' := ⟨22, 0, [(0, (I t0)), (2, (LP 0 0)), (3, (LP 1 0)), (4, (I (w64 (v1 + 1))))], [(c_api_Dev (G_api_Dev.mk [] [] 0 0 false)), ([(GV 0 x5.length)] ++ ([(Value.slice none 0 0)] ++ ([(I 0)] ++ ([(I 0)] ++ ([(Bo false)])))))], ⟨1, [(0, ⟨1, ((x5).flatMap cS), true⟩)]⟩⟩) (by kernel_rfl) (by kernel_rfl) ?_
      exact Exists.intro n1 (And.intro (Nat.lt_succ_self _) (Exists.intro (w64 (v1 + 1)) (Exists.intro x5 (And.intro rfl h))))
    · rw [condF hb3] at h
      refine awp_condF (boF hb3) ?_
      refine awp_exit ?_
      show AWp _ _ _ _
      refine awp_seq ?_
      refine awp_region ?_
      refine arun_freeze 0 (bk := ⟨1, ((v2).flatMap cS), true⟩) (T' := [(0, (I t0)), (2, (LP 0 0)), (3, (LP 1 0)), (4, (I v1)), (12, (Bo ((decide (v1 < t0)) && (decide (t0 ≤ 268)))))]) (L' := [(c_api_Dev (G_api_Dev.mk [] [] 0 0 false)), ([(SL 1 cS v2)] ++ ([(Value.slice none 0 0)] ++ ([(I 0)] ++ ([(I 0)] ++ ([(Bo false)])))))]) rfl (FzT.keep (v := (I t0)) rfl (FzT.keep (v := (LP 0 0)) rfl (FzT.keep (v := (LP 1 0)) rfl (FzT.keep (v := (I v1)) rfl (FzT.keep (v := (Bo ((decide (v1 < t0)) && (decide (t0 ≤ 268))))) rfl FzT.nil))))) (fzlS (fzlK (fzcG ceS rfl (fzcK (fzcK (fzcK (fzcK fzcN))))) fzlN)) ?_
      show ARun _ _ _ _ _ ⟨22, 0, [(0, (I t0)), (2, (LP 0 0)), (3, (LP 1 0)), (4, (I v1)), (12, (Bo ((decide (v1 < t0)) && (decide (t0 ≤ 268)))))], [(c_api_Dev (G_api_Dev.mk [] [] 0 0 false)), ([(SL 1 cS v2)] ++ ([(Value.slice none 0 0)] ++ ([(I 0)] ++ ([(I 0)] ++ ([(Bo false)])))))], ⟨1, []⟩⟩
      refine arun_do rfl rfl rfl (tx_ldLA (vs := ([(SL 1 cS v2)] ++ ([(Value.slice none 0 0)] ++ ([(I 0)] ++ ([(I 0)] ++ ([(Bo false)])))))) Try.underlying40 rfl s_40 (by decide) rfl rfl rfl rfl) ?_
      refine arun_do0 rfl rfl (ex_storeL (vy := (Value.agg (c_api_Dev (G_api_Dev.mk v2 [] 0 0 false)).toArray)) (cs := (c_api_Dev (G_api_Dev.mk [] [] 0 0 false))) (vs := (c_api_Dev (G_api_Dev.mk v2 [] 0 0 false))) (L' := [(c_api_Dev (G_api_Dev.mk v2 [] 0 0 false)), ([(SL 1 cS v2)] ++ ([(Value.slice none 0 0)] ++ ([(I 0)] ++ ([(I 0)] ++ ([(Bo false)])))))]) rfl (eW (vs := ([(SL 1 cS v2)] ++ ([(Value.slice none 0 0)] ++ ([(I 0)] ++ ([(I 0)] ++ ([(Bo false)]))))).toArray) (ws := (c_api_Dev (G_api_Dev.mk v2 [] 0 0 false))) rfl (by repeat (first | exact trivial | refine ⟨.inl rfl, ?_⟩ | refine ⟨.inr ⟨rfl, _, rfl⟩, ?_⟩))) rfl s_40 rfl (Nat.le_of_ble_eq_true rfl) (by kernel_rfl)) ?_
      refine arun_keepE [2] 1 0 (st' := ⟨22, 0, [(2, (LP 0 0))], [(c_api_Dev (G_api_Dev.mk v2 [] 0 0 false))], ⟨0, []⟩⟩) (by kernel_rfl) (by kernel_rfl) ?_
      show AWp _ _ _ _
      refine awp_ret ?_
      cases h
      exact ares1 (rcellL rfl rfl rfl (partA Try.underlying40 rfl s_40 (by decide) (Nat.le_of_ble_eq_true rfl) rfl))

end Go.Proofs
