/- Pure models of functions of the program, and that its code does what they say: block read is, block Read, block May, palimplaw5 begun. Written by a program. -/
import Derived.Test.YtjpgcfniahaelaaR50
import Derived.Test.YtjpgcfniahaelaaR51
import Derived.Test.YtjpgcfniahaelaaR52
import Derived.Test.YtjpgcfniahaelaaR53
import Derived.Test.YtjpgcfniahaelaaR54
import Derived.Test.YtjpgcfniahaelaaR5B
import Derived.Test.YtjpgcfniahaelaaR5RdC
set_option maxRecDepth 20000
set_option maxHeartbeats 4000000
namespace Go.Proofs
open Go Go.Fhl
set_option linter.unusedVariables false
set_option linter.unusedSimpArgs false
noncomputable def M_block_read_is (t0 : G_block_read) (t1 : G_api_Ptr) (t2 : Int) : Option Bool :=
  Option.bind (gd (t0.ok == true) (M_block_sector_bytes t0.sector)) fun (x1 : Str) => Option.bind (gd (t0.ok == true) (M_ptr_Fits t1 x1)) fun (x2 : Bool) => some (((t0.ok && x2) && (t0.sector.Block.Birth == t1.Birth)) && (t0.sector.Block.Kind == t2))
theorem ok_block_read_is (t0 : G_block_read) (t1 : G_api_Ptr) (t2 : Int) (r : Bool) (h : M_block_read_is t0 t1 t2 = some r) : FFn Try.prog 36 [(Value.agg (c_block_read t0).toArray), (Value.agg (c_api_Ptr t1).toArray), (I t2)] (Bo r) := by
  refine FFn.of_body (n := 33) Try.func36 rfl Try.ntmps36 rfl rfl rfl rfl ?_
  show AWp _ _ _ ⟨33, 0, [(0, (Value.agg (c_block_read t0).toArray)), (1, (Value.agg (c_api_Ptr t1).toArray)), (2, (I t2))], [], ⟨0, []⟩⟩
  unfold M_block_read_is at h
  refine awp_seq ?_
  refine awp_region ?_
  refine arun_do rfl rfl rfl (ex_box (vx := (Value.agg (c_block_read t0).toArray)) (cs := (c_block_read t0)) (k := 0) (L' := [(c_block_read t0)]) (eV (v := (Value.agg (c_block_read t0).toArray)) rfl) rfl rfl rfl) ?_
  refine arun_do rfl rfl rfl (ex_box (vx := (Value.agg (c_api_Ptr t1).toArray)) (cs := (c_api_Ptr t1)) (k := 1) (L' := [(c_block_read t0), (c_api_Ptr t1)]) (eV (v := (Value.agg (c_api_Ptr t1).toArray)) rfl) rfl rfl rfl) ?_
  refine arun_do rfl rfl rfl (ex_assign (eV (v := (Bo false)) rfl)) ?_
  refine arun_keepE [2, 3, 4] 2 0 (st' := ⟨33, 0, [(2, (I t2)), (3, (LP 0 0)), (4, (LP 1 0))], [(c_block_read t0), (c_api_Ptr t1)], ⟨0, []⟩⟩) (by kernel_rfl) (by kernel_rfl) ?_
  show AWp _ _ _ _
  refine awp_seq ?_
  obtain ⟨x1, hx1, h⟩ := bindS h
  obtain ⟨x2, hx2, h⟩ := bindS h
  refine awp_kn [6] 0 0 (st' := ⟨33, 0, [(6, (Bo (((t0.ok && x2) && (t0.sector.Block.Birth == t1.Birth)) && (t0.sector.Block.Kind == t2))))], [], ⟨0, []⟩⟩) (awp_draw (T := [(LP 0 3), (Bo t0.ok), (Bo t0.ok), (cond (t0.ok == true) (Value.agg (c_api_Ptr t1).toArray) skipV), (cond (t0.ok == true) (LP 0 0) skipV), (cond (t0.ok == true) (Value.agg (c_block_sector t0.sector).toArray) skipV), (cond (t0.ok == true) (S x1) skipV), (cond (t0.ok == true) (Bo x2) skipV), (Bo (t0.ok && x2)), (Bo (t0.ok && x2)), (cond ((t0.ok && x2) == true) (LP 0 0) skipV), (cond ((t0.ok && x2) == true) (LP 0 0) skipV), (cond ((t0.ok && x2) == true) (LP 0 1) skipV), (cond ((t0.ok && x2) == true) (I t0.sector.Block.Birth) skipV), (cond ((t0.ok && x2) == true) (LP 1 1) skipV), (cond ((t0.ok && x2) == true) (I t1.Birth) skipV), (cond ((t0.ok && x2) == true) (Bo (t0.sector.Block.Birth == t1.Birth)) skipV), (Bo ((t0.ok && x2) && (t0.sector.Block.Birth == t1.Birth))), (Bo ((t0.ok && x2) && (t0.sector.Block.Birth == t1.Birth))), (cond (((t0.ok && x2) && (t0.sector.Block.Birth == t1.Birth)) == true) (LP 0 0) skipV), (cond (((t0.ok && x2) && (t0.sector.Block.Birth == t1.Birth)) == true) (LP 0 0) skipV), (cond (((t0.ok && x2) && (t0.sector.Block.Birth == t1.Birth)) == true) (LP 0 0) skipV), (cond (((t0.ok && x2) && (t0.sector.Block.Birth == t1.Birth)) == true) (I t0.sector.Block.Kind) skipV), (cond (((t0.ok && x2) && (t0.sector.Block.Birth == t1.Birth)) == true) (I t2) skipV), (cond (((t0.ok && x2) && (t0.sector.Block.Birth == t1.Birth)) == true) (Bo (t0.sector.Block.Kind == t2)) skipV), (Bo (((t0.ok && x2) && (t0.sector.Block.Birth == t1.Birth)) && (t0.sector.Block.Kind == t2))), (Bo (((t0.ok && x2) && (t0.sector.Block.Birth == t1.Birth)) && (t0.sector.Block.Kind == t2)))]) (LH := [([(c_block_read t0), (c_api_Ptr t1)], ⟨0, []⟩)]) (D := [⟨[(3, none)], [], [0], false⟩, ⟨[(7, some 0)], [0], [0], false⟩, ⟨[(8, some 1)], [0, 1], [0], false⟩, ⟨[(4, none), (9, some 2)], [0, 1, 2], [0], false⟩, ⟨[(3, none), (9, some 2)], [0, 1, 2], [0], false⟩, ⟨[(11, some 4), (9, some 2)], [0, 1, 2, 4], [0], false⟩, ⟨[(12, some 5), (9, some 2)], [0, 1, 2, 4, 5], [0], false⟩, ⟨[(10, some 3), (13, some 6), (9, some 2)], [0, 1, 2, 3, 4, 5, 6], [0], false⟩, ⟨[(9, some 2), (14, some 7)], [0, 1, 2, 3, 4, 5, 6, 7], [0], false⟩, ⟨[(15, some 8)], [0, 1, 2, 3, 4, 5, 6, 7, 8], [0], false⟩, ⟨[(3, none), (16, some 9)], [0, 1, 2, 3, 4, 5, 6, 7, 8, 9], [0], false⟩, ⟨[(17, some 10), (16, some 9)], [0, 1, 2, 3, 4, 5, 6, 7, 8, 9, 10], [0], false⟩, ⟨[(18, some 11), (16, some 9)], [0, 1, 2, 3, 4, 5, 6, 7, 8, 9, 10, 11], [0], false⟩, ⟨[(19, some 12), (16, some 9)], [0, 1, 2, 3, 4, 5, 6, 7, 8, 9, 10, 11, 12], [0], false⟩, ⟨[(4, none), (16, some 9)], [0, 1, 2, 3, 4, 5, 6, 7, 8, 9], [0], false⟩, ⟨[(21, some 14), (16, some 9)], [0, 1, 2, 3, 4, 5, 6, 7, 8, 9, 14], [0], false⟩, ⟨[(20, some 13), (22, some 15), (16, some 9)], [0, 1, 2, 3, 4, 5, 6, 7, 8, 9, 10, 11, 12, 13, 14, 15], [0], false⟩, ⟨[(16, some 9), (23, some 16)], [0, 1, 2, 3, 4, 5, 6, 7, 8, 9, 10, 11, 12, 13, 14, 15, 16], [0], false⟩, ⟨[(24, some 17)], [0, 1, 2, 3, 4, 5, 6, 7, 8, 9, 10, 11, 12, 13, 14, 15, 16, 17], [0], false⟩, ⟨[(3, none), (25, some 18)], [0, 1, 2, 3, 4, 5, 6, 7, 8, 9, 10, 11, 12, 13, 14, 15, 16, 17, 18], [0], false⟩, ⟨[(26, some 19), (25, some 18)], [0, 1, 2, 3, 4, 5, 6, 7, 8, 9, 10, 11, 12, 13, 14, 15, 16, 17, 18, 19], [0], false⟩, ⟨[(27, some 20), (25, some 18)], [0, 1, 2, 3, 4, 5, 6, 7, 8, 9, 10, 11, 12, 13, 14, 15, 16, 17, 18, 19, 20], [0], false⟩, ⟨[(28, some 21), (25, some 18)], [0, 1, 2, 3, 4, 5, 6, 7, 8, 9, 10, 11, 12, 13, 14, 15, 16, 17, 18, 19, 20, 21], [0], false⟩, ⟨[(2, none), (25, some 18)], [0, 1, 2, 3, 4, 5, 6, 7, 8, 9, 10, 11, 12, 13, 14, 15, 16, 17, 18], [0], false⟩, ⟨[(29, some 22), (30, some 23), (25, some 18)], [0, 1, 2, 3, 4, 5, 6, 7, 8, 9, 10, 11, 12, 13, 14, 15, 16, 17, 18, 19, 20, 21, 22, 23], [0], false⟩, ⟨[(25, some 18), (31, some 24)], [0, 1, 2, 3, 4, 5, 6, 7, 8, 9, 10, 11, 12, 13, 14, 15, 16, 17, 18, 19, 20, 21, 22, 23, 24], [0], false⟩, ⟨[(32, some 25)], [0, 1, 2, 3, 4, 5, 6, 7, 8, 9, 10, 11, 12, 13, 14, 15, 16, 17, 18, 19, 20, 21, 22, 23, 24, 25], [0], false⟩]) (S := []) (plan := [0, 1, 2, 3, 4, 5, 6, 7, 8, 9, 10, 11, 12, 13, 14, 15, 16, 17, 18, 19, 20, 21, 22, 23, 24, 25, 26]) mo (by kernel_rfl) rfl rfl rfl (dcons (dstep1 (Tm := [(3, (LP 0 0))]) (L := [(c_block_read t0), (c_api_Ptr t1)]) (H := ⟨0, []⟩) rfl rfl rfl rfl rfl (astep_do rfl (ex_fieldAddr (v := (LP 0 3)) Try.underlying67 rfl s_4 (by decide) rfl rfl))) (dcons (dstep1 (Tm := [(7, (LP 0 3))]) (L := [(c_block_read t0), (c_api_Ptr t1)]) (H := ⟨0, []⟩) rfl rfl rfl rfl rfl (astep_do rfl (tx_ldL1 (v := (Bo t0.ok)) Try.underlying4 rfl rfl rfl rfl))) (dcons (dstep1 (Tm := [(8, (Bo t0.ok))]) (L := [(c_block_read t0), (c_api_Ptr t1)]) (H := ⟨0, []⟩) rfl rfl rfl rfl rfl (astep_do rfl (ex_move (eV (v := (Bo t0.ok)) rfl)))) (dcons (dstep1 (Tm := [(4, (LP 1 0)), (9, (Bo t0.ok))]) (L := [(c_block_read t0), (c_api_Ptr t1)]) (H := ⟨0, []⟩) rfl rfl rfl rfl rfl (astep_guard (v := (Value.agg (c_api_Ptr t1).toArray)) (t0.ok == true) rfl (fun hc => tx_ldLA (vs := (c_api_Ptr t1)) Try.underlying32 rfl s_32 (by decide) rfl rfl rfl rfl))) (dcons (dstep1 (Tm := [(3, (LP 0 0)), (9, (Bo t0.ok))]) (L := [(c_block_read t0), (c_api_Ptr t1)]) (H := ⟨0, []⟩) rfl rfl rfl rfl rfl (astep_guard (v := (LP 0 0)) (t0.ok == true) rfl (fun hc => ex_fieldAddr (v := (LP 0 0)) Try.underlying67 rfl s_61 (by decide) rfl rfl))) (dcons (dstep1 (Tm := [(11, (cond (t0.ok == true) (LP 0 0) skipV)), (9, (Bo t0.ok))]) (L := [(c_block_read t0), (c_api_Ptr t1)]) (H := ⟨0, []⟩) rfl rfl rfl rfl rfl (astep_guard (v := (Value.agg (c_block_sector t0.sector).toArray)) (t0.ok == true) rfl (fun hc => tx_ldLA (vs := (c_block_sector t0.sector)) Try.underlying61 rfl s_61 (by decide) (cond_of hc) rfl rfl rfl))) (dcons (dstep1 (Tm := [(12, (cond (t0.ok == true) (Value.agg (c_block_sector t0.sector).toArray) skipV)), (9, (Bo t0.ok))]) (L := [(c_block_read t0), (c_api_Ptr t1)]) (H := ⟨0, []⟩) rfl rfl rfl rfl rfl (astep_guard (v := (S x1)) (t0.ok == true) rfl (fun hc => ex_call0 (vs := [(Value.agg (c_block_sector t0.sector).toArray)]) (v := (S x1)) rfl en_29 (cargs (evs (cond_of hc) evs_nil)) rfl (ok_block_sector_bytes t0.sector x1 (gd_of hc hx1)) rfl))) (dcons (dstep1 (Tm := [(10, (cond (t0.ok == true) (Value.agg (c_api_Ptr t1).toArray) skipV)), (13, (cond (t0.ok == true) (S x1) skipV)), (9, (Bo t0.ok))]) (L := [(c_block_read t0), (c_api_Ptr t1)]) (H := ⟨0, []⟩) rfl rfl rfl rfl rfl (astep_guard (v := (Bo x2)) (t0.ok == true) rfl (fun hc => ex_call0 (vs := [(Value.agg (c_api_Ptr t1).toArray), (S x1)]) (v := (Bo x2)) rfl en_45 (cargs (evs (cond_of hc) (evs (cond_of hc) evs_nil))) rfl (ok_ptr_Fits t1 x1 x2 (gd_of hc hx2)) rfl))) (dcons (dstep1 (Tm := [(9, (Bo t0.ok)), (14, (cond (t0.ok == true) (Bo x2) skipV))]) (L := [(c_block_read t0), (c_api_Ptr t1)]) (H := ⟨0, []⟩) rfl rfl rfl rfl rfl (astep_do rfl (ex_pick rfl pkAnd))) (dcons (dstep1 (Tm := [(15, (Bo (t0.ok && x2)))]) (L := [(c_block_read t0), (c_api_Ptr t1)]) (H := ⟨0, []⟩) rfl rfl rfl rfl rfl (astep_do rfl (ex_move (eV (v := (Bo (t0.ok && x2))) rfl)))) (dcons (dstep1 (Tm := [(3, (LP 0 0)), (16, (Bo (t0.ok && x2)))]) (L := [(c_block_read t0), (c_api_Ptr t1)]) (H := ⟨0, []⟩) rfl rfl rfl rfl rfl (astep_guard (v := (LP 0 0)) ((t0.ok && x2) == true) rfl (fun hc => ex_fieldAddr (v := (LP 0 0)) Try.underlying67 rfl s_61 (by decide) rfl rfl))) (dcons (dstep1 (Tm := [(17, (cond ((t0.ok && x2) == true) (LP 0 0) skipV)), (16, (Bo (t0.ok && x2)))]) (L := [(c_block_read t0), (c_api_Ptr t1)]) (H := ⟨0, []⟩) rfl rfl rfl rfl rfl (astep_guard (v := (LP 0 0)) ((t0.ok && x2) == true) rfl (fun hc => ex_fieldAddr (v := (LP 0 0)) Try.underlying61 rfl s_23 (by decide) (cond_of hc) rfl))) (dcons (dstep1 (Tm := [(18, (cond ((t0.ok && x2) == true) (LP 0 0) skipV)), (16, (Bo (t0.ok && x2)))]) (L := [(c_block_read t0), (c_api_Ptr t1)]) (H := ⟨0, []⟩) rfl rfl rfl rfl rfl (astep_guard (v := (LP 0 1)) ((t0.ok && x2) == true) rfl (fun hc => ex_fieldAddr (v := (LP 0 1)) Try.underlying23 rfl s_3 (by decide) (cond_of hc) rfl))) (dcons (dstep1 (Tm := [(19, (cond ((t0.ok && x2) == true) (LP 0 1) skipV)), (16, (Bo (t0.ok && x2)))]) (L := [(c_block_read t0), (c_api_Ptr t1)]) (H := ⟨0, []⟩) rfl rfl rfl rfl rfl (astep_guard (v := (I t0.sector.Block.Birth)) ((t0.ok && x2) == true) rfl (fun hc => tx_ldL1 (v := (I t0.sector.Block.Birth)) Try.underlying3 rfl (cond_of hc) rfl rfl))) (dcons (dstep1 (Tm := [(4, (LP 1 0)), (16, (Bo (t0.ok && x2)))]) (L := [(c_block_read t0), (c_api_Ptr t1)]) (H := ⟨0, []⟩) rfl rfl rfl rfl rfl (astep_guard (v := (LP 1 1)) ((t0.ok && x2) == true) rfl (fun hc => ex_fieldAddr (v := (LP 1 1)) Try.underlying32 rfl s_3 (by decide) rfl rfl))) (dcons (dstep1 (Tm := [(21, (cond ((t0.ok && x2) == true) (LP 1 1) skipV)), (16, (Bo (t0.ok && x2)))]) (L := [(c_block_read t0), (c_api_Ptr t1)]) (H := ⟨0, []⟩) rfl rfl rfl rfl rfl (astep_guard (v := (I t1.Birth)) ((t0.ok && x2) == true) rfl (fun hc => tx_ldL1 (v := (I t1.Birth)) Try.underlying3 rfl (cond_of hc) rfl rfl))) (dcons (dstep1 (Tm := [(20, (cond ((t0.ok && x2) == true) (I t0.sector.Block.Birth) skipV)), (22, (cond ((t0.ok && x2) == true) (I t1.Birth) skipV)), (16, (Bo (t0.ok && x2)))]) (L := [(c_block_read t0), (c_api_Ptr t1)]) (H := ⟨0, []⟩) rfl rfl rfl rfl rfl (astep_guard (v := (Bo (t0.sector.Block.Birth == t1.Birth))) ((t0.ok && x2) == true) rfl (fun hc => ex_bin (vx := (I t0.sector.Block.Birth)) (vy := (I t1.Birth)) (cond_of hc) (cond_of hc) eqlI_ok))) (dcons (dstep1 (Tm := [(16, (Bo (t0.ok && x2))), (23, (cond ((t0.ok && x2) == true) (Bo (t0.sector.Block.Birth == t1.Birth)) skipV))]) (L := [(c_block_read t0), (c_api_Ptr t1)]) (H := ⟨0, []⟩) rfl rfl rfl rfl rfl (astep_do rfl (ex_pick rfl pkAnd))) (dcons (dstep1 (Tm := [(24, (Bo ((t0.ok && x2) && (t0.sector.Block.Birth == t1.Birth))))]) (L := [(c_block_read t0), (c_api_Ptr t1)]) (H := ⟨0, []⟩) rfl rfl rfl rfl rfl (astep_do rfl (ex_move (eV (v := (Bo ((t0.ok && x2) && (t0.sector.Block.Birth == t1.Birth)))) rfl)))) (dcons (dstep1 (Tm := [(3, (LP 0 0)), (25, (Bo ((t0.ok && x2) && (t0.sector.Block.Birth == t1.Birth))))]) (L := [(c_block_read t0), (c_api_Ptr t1)]) (H := ⟨0, []⟩) rfl rfl rfl rfl rfl (astep_guard (v := (LP 0 0)) (((t0.ok && x2) && (t0.sector.Block.Birth == t1.Birth)) == true) rfl (fun hc => ex_fieldAddr (v := (LP 0 0)) Try.underlying67 rfl s_61 (by decide) rfl rfl))) (dcons (dstep1 (Tm := [(26, (cond (((t0.ok && x2) && (t0.sector.Block.Birth == t1.Birth)) == true) (LP 0 0) skipV)), (25, (Bo ((t0.ok && x2) && (t0.sector.Block.Birth == t1.Birth))))]) (L := [(c_block_read t0), (c_api_Ptr t1)]) (H := ⟨0, []⟩) rfl rfl rfl rfl rfl (astep_guard (v := (LP 0 0)) (((t0.ok && x2) && (t0.sector.Block.Birth == t1.Birth)) == true) rfl (fun hc => ex_fieldAddr (v := (LP 0 0)) Try.underlying61 rfl s_23 (by decide) (cond_of hc) rfl))) (dcons (dstep1 (Tm := [(27, (cond (((t0.ok && x2) && (t0.sector.Block.Birth == t1.Birth)) == true) (LP 0 0) skipV)), (25, (Bo ((t0.ok && x2) && (t0.sector.Block.Birth == t1.Birth))))]) (L := [(c_block_read t0), (c_api_Ptr t1)]) (H := ⟨0, []⟩) rfl rfl rfl rfl rfl (astep_guard (v := (LP 0 0)) (((t0.ok && x2) && (t0.sector.Block.Birth == t1.Birth)) == true) rfl (fun hc => ex_fieldAddr (v := (LP 0 0)) Try.underlying23 rfl s_3 (by decide) (cond_of hc) rfl))) (dcons (dstep1 (Tm := [(28, (cond (((t0.ok && x2) && (t0.sector.Block.Birth == t1.Birth)) == true) (LP 0 0) skipV)), (25, (Bo ((t0.ok && x2) && (t0.sector.Block.Birth == t1.Birth))))]) (L := [(c_block_read t0), (c_api_Ptr t1)]) (H := ⟨0, []⟩) rfl rfl rfl rfl rfl (astep_guard (v := (I t0.sector.Block.Kind)) (((t0.ok && x2) && (t0.sector.Block.Birth == t1.Birth)) == true) rfl (fun hc => tx_ldL1 (v := (I t0.sector.Block.Kind)) Try.underlying3 rfl (cond_of hc) rfl rfl))) (dcons (dstep1 (Tm := [(2, (I t2)), (25, (Bo ((t0.ok && x2) && (t0.sector.Block.Birth == t1.Birth))))]) (L := [(c_block_read t0), (c_api_Ptr t1)]) (H := ⟨0, []⟩) rfl rfl rfl rfl rfl (astep_guard (v := (I t2)) (((t0.ok && x2) && (t0.sector.Block.Birth == t1.Birth)) == true) rfl (fun hc => ex_move (eV (v := (I t2)) rfl)))) (dcons (dstep1 (Tm := [(29, (cond (((t0.ok && x2) && (t0.sector.Block.Birth == t1.Birth)) == true) (I t0.sector.Block.Kind) skipV)), (30, (cond (((t0.ok && x2) && (t0.sector.Block.Birth == t1.Birth)) == true) (I t2) skipV)), (25, (Bo ((t0.ok && x2) && (t0.sector.Block.Birth == t1.Birth))))]) (L := [(c_block_read t0), (c_api_Ptr t1)]) (H := ⟨0, []⟩) rfl rfl rfl rfl rfl (astep_guard (v := (Bo (t0.sector.Block.Kind == t2))) (((t0.ok && x2) && (t0.sector.Block.Birth == t1.Birth)) == true) rfl (fun hc => ex_bin (vx := (I t0.sector.Block.Kind)) (vy := (I t2)) (cond_of hc) (cond_of hc) eqlI_ok))) (dcons (dstep1 (Tm := [(25, (Bo ((t0.ok && x2) && (t0.sector.Block.Birth == t1.Birth)))), (31, (cond (((t0.ok && x2) && (t0.sector.Block.Birth == t1.Birth)) == true) (Bo (t0.sector.Block.Kind == t2)) skipV))]) (L := [(c_block_read t0), (c_api_Ptr t1)]) (H := ⟨0, []⟩) rfl rfl rfl rfl rfl (astep_do rfl (ex_pick rfl pkAnd))) (dcons (dstep1 (Tm := [(32, (Bo (((t0.ok && x2) && (t0.sector.Block.Birth == t1.Birth)) && (t0.sector.Block.Kind == t2))))]) (L := [(c_block_read t0), (c_api_Ptr t1)]) (H := ⟨0, []⟩) rfl rfl rfl rfl rfl (astep_do rfl (ex_assign (eV (v := (Bo (((t0.ok && x2) && (t0.sector.Block.Birth == t1.Birth)) && (t0.sector.Block.Kind == t2)))) rfl)))) dnil))))))))))))))))))))))))))) ⟨rfl, rfl⟩) (by kernel_rfl) (by kernel_rfl) ?_
  show AWp _ _ _ _
  refine awp_ret ?_
  cases h
  exact ares1 (rtmp rfl (eV rfl))

noncomputable def M_block_Read (t0 : G_api_Dev) (t1 : G_api_Ptr) (t2 : Int) : Option (Str × Bool) :=
  cond (decide (t1.Addr < 14)) (some ([], false)) (Option.bind (M_dev_Read t0 t1.Addr) fun (x2 : (Str × Bool)) => Option.bind (M_block_taken x2.1) fun (x3 : G_block_read) => Option.bind (gd (x2.2 == true) (M_block_read_is x3 t1 t2)) fun (x4 : Bool) => cond (x2.2 && x4) (some (x3.sector.Block.Load, true)) (some ([], false)))
theorem ok_block_Read (t0 : G_api_Dev) (t1 : G_api_Ptr) (t2 : Int) (r : (Str × Bool)) (h : M_block_Read t0 t1 t2 = some r) : FFn Try.prog 21 [(Value.agg (c_api_Dev t0).toArray), (Value.agg (c_api_Ptr t1).toArray), (I t2)] (Value.tuple #[(S r.1), (Bo r.2)]) := by
  refine FFn.of_body (n := 34) Try.func21 rfl Try.ntmps21 rfl rfl rfl rfl ?_
  show AWp _ _ _ ⟨34, 0, [(0, (Value.agg (c_api_Dev t0).toArray)), (1, (Value.agg (c_api_Ptr t1).toArray)), (2, (I t2))], [], ⟨0, []⟩⟩
  unfold M_block_Read at h
  refine awp_seq ?_
  refine awp_region ?_
  refine arun_do rfl rfl rfl (ex_box (vx := (Value.agg (c_api_Dev t0).toArray)) (cs := (c_api_Dev t0)) (k := 0) (L' := [(c_api_Dev t0)]) (eV (v := (Value.agg (c_api_Dev t0).toArray)) rfl) rfl rfl rfl) ?_
  refine arun_do rfl rfl rfl (ex_box (vx := (Value.agg (c_api_Ptr t1).toArray)) (cs := (c_api_Ptr t1)) (k := 1) (L' := [(c_api_Dev t0), (c_api_Ptr t1)]) (eV (v := (Value.agg (c_api_Ptr t1).toArray)) rfl) rfl rfl rfl) ?_
  refine arun_do rfl rfl rfl (ex_assign (eV (v := (S [])) rfl)) ?_
  refine arun_do rfl rfl rfl (ex_assign (eV (v := (Bo false)) rfl)) ?_
  refine arun_keepE [2, 3, 4] 2 0 (st' := ⟨34, 0, [(2, (I t2)), (3, (LP 0 0)), (4, (LP 1 0))], [(c_api_Dev t0), (c_api_Ptr t1)], ⟨0, []⟩⟩) (by kernel_rfl) (by kernel_rfl) ?_
  show AWp _ _ _ _
  refine awp_seq ?_
  refine awp_seq ?_
  refine awp_region ?_
  refine arun_do rfl rfl rfl (ex_fieldAddr (v := (LP 1 0)) Try.underlying32 rfl s_3 (by decide) rfl rfl) ?_
  refine arun_do rfl rfl rfl (tx_ldL1 (v := (I t1.Addr)) Try.underlying3 rfl rfl rfl rfl) ?_
  refine arun_do rfl rfl rfl (ex_bin (vx := (I t1.Addr)) (vy := (I 14)) rfl rfl lssI_ok) ?_
  refine arun_keepE [2, 3, 4, 13] 2 0 (st' := ⟨34, 0, [(2, (I t2)), (3, (LP 0 0)), (4, (LP 1 0)), (13, (Bo (decide (t1.Addr < 14))))], [(c_api_Dev t0), (c_api_Ptr t1)], ⟨0, []⟩⟩) (by kernel_rfl) (by kernel_rfl) ?_
  show AWp _ _ _ _
  rcases Bool.eq_false_or_eq_true (decide (t1.Addr < 14)) with hb1 | hb1
  · rw [condT hb1] at h
    refine awp_condT (boT hb1) ?_
    refine awp_seq ?_
    refine awp_region ?_
    refine arun_do rfl rfl rfl (ex_assign (eV (v := (S [])) rfl)) ?_
    refine arun_do rfl rfl rfl (ex_assign (eV (v := (Bo false)) rfl)) ?_
    refine arun_keepE [6, 7] 0 0 (st' := ⟨34, 0, [(6, (S [])), (7, (Bo false))], [], ⟨0, []⟩⟩) (by kernel_rfl) (by kernel_rfl) ?_
    show AWp _ _ _ _
    refine awp_ret ?_
    cases h
    exact aresN rfl (L2.cons (rtmp rfl (eV rfl)) (L2.cons (rtmp rfl (eV rfl)) L2.nil)) rfl
  · rw [condF hb1] at h
    refine awp_condF (boF hb1) ?_
    refine awp_skip ?_
    show AWp _ _ _ _
    refine awp_seq ?_
    refine awp_region ?_
    refine arun_do rfl rfl rfl (tx_ldLA (vs := (c_api_Dev t0)) Try.underlying40 rfl s_40 (by decide) rfl rfl rfl rfl) ?_
    refine arun_do rfl rfl rfl (ex_fieldAddr (v := (LP 1 0)) Try.underlying32 rfl s_3 (by decide) rfl rfl) ?_
    refine arun_do rfl rfl rfl (tx_ldL1 (v := (I t1.Addr)) Try.underlying3 rfl rfl rfl rfl) ?_
    obtain ⟨x2, hx2, h⟩ := bindS h
    refine arun_do rfl rfl rfl (ex_call0 (vs := [(Value.agg (c_api_Dev t0).toArray), (I t1.Addr)]) (v := (Value.tuple #[(S x2.1), (Bo x2.2)])) rfl en_35 (cargs (evs rfl (evs rfl evs_nil))) rfl (ok_dev_Read t0 t1.Addr x2 hx2) rfl) ?_
    refine arun_do rfl rfl rfl (ex_move (eV (v := (Value.tuple #[(S x2.1), (Bo x2.2)])) rfl)) ?_
    refine arun_do rfl rfl rfl (ex_extract (vx := (Value.tuple #[(S x2.1), (Bo x2.2)])) (v := (S x2.1)) rfl rfl) ?_
    refine arun_do rfl rfl rfl (ex_extract (vx := (Value.tuple #[(S x2.1), (Bo x2.2)])) (v := (Bo x2.2)) rfl rfl) ?_
    refine arun_do rfl rfl rfl (ex_assign (eV (v := (S x2.1)) rfl)) ?_
    refine arun_do rfl rfl rfl (ex_assign (eV (v := (Bo x2.2)) rfl)) ?_
    refine arun_keepE [2, 4, 8, 9] 2 0 (st' := ⟨34, 0, [(2, (I t2)), (4, (LP 1 0)), (8, (S x2.1)), (9, (Bo x2.2))], [(c_api_Dev t0), (c_api_Ptr t1)], ⟨0, []⟩⟩) (by kernel_rfl) (by kernel_rfl) ?_
    show AWp _ _ _ _
    refine awp_seq ?_
    refine awp_seq ?_
    refine awp_region ?_
    refine arun_do rfl rfl rfl (ex_move (eV (v := (S x2.1)) rfl)) ?_
    obtain ⟨x3, hx3, h⟩ := bindS h
    refine arun_do rfl rfl rfl (ex_call0 (vs := [(S x2.1)]) (v := (Value.agg (c_block_read x3).toArray)) rfl en_33 (cargs (evs rfl evs_nil)) rfl (ok_block_taken x2.1 x3 hx3) rfl) ?_
    refine arun_do rfl rfl rfl (ex_alloc (k := 2) (zs := (c_block_read (G_block_read.mk (G_block_sector.mk (G_api_Block.mk 0 0 [])) false))) (L' := [(c_api_Dev t0), (c_api_Ptr t1), (c_block_read (G_block_read.mk (G_block_sector.mk (G_api_Block.mk 0 0 [])) false))]) z_67 rfl rfl rfl rfl) ?_
    refine arun_do0 rfl rfl (ex_storeL (vy := (Value.agg (c_block_read x3).toArray)) (cs := (c_block_read (G_block_read.mk (G_block_sector.mk (G_api_Block.mk 0 0 [])) false))) (vs := (c_block_read x3)) (L' := [(c_api_Dev t0), (c_api_Ptr t1), (c_block_read x3)]) rfl (eV (v := (Value.agg (c_block_read x3).toArray)) rfl) rfl s_67 rfl (Nat.le_of_ble_eq_true rfl) (by kernel_rfl)) ?_
    refine arun_keepE [2, 4, 9, 10] 3 0 (st' := ⟨34, 0, [(2, (I t2)), (4, (LP 1 0)), (9, (Bo x2.2)), (10, (LP 2 0))], [(c_api_Dev t0), (c_api_Ptr t1), (c_block_read x3)], ⟨0, []⟩⟩) (by kernel_rfl) (by kernel_rfl) ?_
    show AWp _ _ _ _
    refine awp_seq ?_
    refine awp_region ?_
    refine arun_do rfl rfl rfl (ex_move (eV (v := (Bo x2.2)) rfl)) ?_
    refine arun_do rfl rfl rfl (ex_move (eV (v := (Bo x2.2)) rfl)) ?_
    refine arun_guard (v := (Value.agg (c_block_read x3).toArray)) (x2.2 == true) rfl rfl rfl (fun hc => tx_ldLA (vs := (c_block_read x3)) Try.underlying67 rfl s_67 (by decide) rfl rfl rfl rfl) ?_
    refine arun_guard (v := (Value.agg (c_api_Ptr t1).toArray)) (x2.2 == true) rfl rfl rfl (fun hc => tx_ldLA (vs := (c_api_Ptr t1)) Try.underlying32 rfl s_32 (by decide) rfl rfl rfl rfl) ?_
    refine arun_guard (v := (I t2)) (x2.2 == true) rfl rfl rfl (fun hc => ex_move (eV (v := (I t2)) rfl)) ?_
    obtain ⟨x4, hx4, h⟩ := bindS h
    refine arun_guard (v := (Bo x4)) (x2.2 == true) rfl rfl rfl (fun hc => ex_call0 (vs := [(Value.agg (c_block_read x3).toArray), (Value.agg (c_api_Ptr t1).toArray), (I t2)]) (v := (Bo x4)) rfl en_36 (cargs (evs (cond_of hc) (evs (cond_of hc) (evs (cond_of hc) evs_nil)))) rfl (ok_block_read_is x3 t1 t2 x4 (gd_of hc hx4)) rfl) ?_
    refine arun_do rfl rfl rfl (ex_pick rfl pkAnd) ?_
    refine arun_keepE [10, 29] 3 0 (st' := ⟨34, 0, [(10, (LP 2 0)), (29, (Bo (x2.2 && x4)))], [(c_api_Dev t0), (c_api_Ptr t1), (c_block_read x3)], ⟨0, []⟩⟩) (by kernel_rfl) (by kernel_rfl) ?_
    show AWp _ _ _ _
    rcases Bool.eq_false_or_eq_true (x2.2 && x4) with hb5 | hb5
    · rw [condT hb5] at h
      refine awp_condT (boT hb5) ?_
      refine awp_seq ?_
      refine awp_region ?_
      refine arun_do rfl rfl rfl (ex_fieldAddr (v := (LP 2 0)) Try.underlying67 rfl s_61 (by decide) rfl rfl) ?_
      refine arun_do rfl rfl rfl (ex_fieldAddr (v := (LP 2 0)) Try.underlying61 rfl s_23 (by decide) rfl rfl) ?_
      refine arun_do rfl rfl rfl (ex_fieldAddr (v := (LP 2 2)) Try.underlying23 rfl s_9 (by decide) rfl rfl) ?_
      refine arun_do rfl rfl rfl (tx_ldL1 (v := (S x3.sector.Block.Load)) Try.underlying9 rfl rfl rfl rfl) ?_
      refine arun_do rfl rfl rfl (ex_assign (eV (v := (S x3.sector.Block.Load)) rfl)) ?_
      refine arun_do rfl rfl rfl (ex_assign (eV (v := (Bo true)) rfl)) ?_
      refine arun_keepE [6, 7] 0 0 (st' := ⟨34, 0, [(6, (S x3.sector.Block.Load)), (7, (Bo true))], [], ⟨0, []⟩⟩) (by kernel_rfl) (by kernel_rfl) ?_
      show AWp _ _ _ _
      refine awp_ret ?_
      cases h
      exact aresN rfl (L2.cons (rtmp rfl (eV rfl)) (L2.cons (rtmp rfl (eV rfl)) L2.nil)) rfl
    · rw [condF hb5] at h
      refine awp_condF (boF hb5) ?_
      refine awp_skip ?_
      show AWp _ _ _ _
      refine awp_seq ?_
      refine awp_region ?_
      refine arun_do rfl rfl rfl (ex_assign (eV (v := (S [])) rfl)) ?_
      refine arun_do rfl rfl rfl (ex_assign (eV (v := (Bo false)) rfl)) ?_
      refine arun_keepE [6, 7] 0 0 (st' := ⟨34, 0, [(6, (S [])), (7, (Bo false))], [], ⟨0, []⟩⟩) (by kernel_rfl) (by kernel_rfl) ?_
      show AWp _ _ _ _
      refine awp_ret ?_
      cases h
      exact aresN rfl (L2.cons (rtmp rfl (eV rfl)) (L2.cons (rtmp rfl (eV rfl)) L2.nil)) rfl

noncomputable def M_block_May (t0 : G_api_Block) : Option Bool :=
  Option.bind (M_block_sector_may (G_block_sector.mk t0)) fun (x1 : Bool) => some x1
theorem ok_block_May (t0 : G_api_Block) (r : Bool) (h : M_block_May t0 = some r) : FFn Try.prog 10 [(Value.agg (c_api_Block t0).toArray)] (Bo r) := by
  refine FFn.of_body (n := 6) Try.func10 rfl Try.ntmps10 rfl rfl rfl rfl ?_
  show AWp _ _ _ ⟨6, 0, [(0, (Value.agg (c_api_Block t0).toArray))], [], ⟨0, []⟩⟩
  unfold M_block_May at h
  refine awp_seq ?_
  refine awp_region ?_
  refine arun_do rfl rfl rfl (ex_box (vx := (Value.agg (c_api_Block t0).toArray)) (cs := (c_api_Block t0)) (k := 0) (L' := [(c_api_Block t0)]) (eV (v := (Value.agg (c_api_Block t0).toArray)) rfl) rfl rfl rfl) ?_
  refine arun_do rfl rfl rfl (ex_assign (eV (v := (Bo false)) rfl)) ?_
  refine arun_keepE [1] 1 0 (st' := ⟨6, 0, [(1, (LP 0 0))], [(c_api_Block t0)], ⟨0, []⟩⟩) (by kernel_rfl) (by kernel_rfl) ?_
  show AWp _ _ _ _
  refine awp_seq ?_
  refine awp_region ?_
  refine arun_do rfl rfl rfl (tx_ldLA (vs := (c_api_Block t0)) Try.underlying23 rfl s_23 (by decide) rfl rfl rfl rfl) ?_
  refine arun_do rfl rfl rfl (ex_build (qs := [(0, (Value.agg (c_api_Block t0).toArray))]) (v := (Value.agg (c_block_sector (G_block_sector.mk t0)).toArray)) (evp rfl evp_nil) (by kernel_rfl)) ?_
  obtain ⟨x1, hx1, h⟩ := bindS h
  refine arun_do rfl rfl rfl (ex_call0 (vs := [(Value.agg (c_block_sector (G_block_sector.mk t0)).toArray)]) (v := (Bo x1)) rfl en_27 (cargs (evs rfl evs_nil)) rfl (ok_block_sector_may (G_block_sector.mk t0) x1 hx1) rfl) ?_
  refine arun_do rfl rfl rfl (ex_assign (eV (v := (Bo x1)) rfl)) ?_
  refine arun_keepE [2] 0 0 (st' := ⟨6, 0, [(2, (Bo x1))], [], ⟨0, []⟩⟩) (by kernel_rfl) (by kernel_rfl) ?_
  show AWp _ _ _ _
  refine awp_ret ?_
  cases h
  exact ares1 (rtmp rfl (eV rfl))

noncomputable def M_law5_begun : Option Bool :=
  Option.bind (M_block_Put (G_api_Block.mk 1 3 ([97, 98] : Str))) fun (x1 : Str) => Option.bind (M_block_Take x1) fun (x2 : (G_api_Block × Bool)) => Option.bind (M_ref1_New 40) fun (x3 : G_api_Dev) => Option.bind (M_ref1_Write x3 ([(G_api_Put.mk 20 x1)] : List G_api_Put)) fun (x4 : (G_api_Dev × Bool)) => Option.bind (M_block_Ptr 20 (G_api_Block.mk 1 3 ([97, 98] : Str))) fun (x5 : G_api_Ptr) => Option.bind (M_block_Read x4.1 x5 1) fun (x6 : (Str × Bool)) => Option.bind (M_block_Ptr 20 (G_api_Block.mk 1 3 ([97, 98] : Str))) fun (x7 : G_api_Ptr) => Option.bind (M_block_Read x4.1 x7 2) fun (x8 : (Str × Bool)) => Option.bind (gd ((((((((x1.length : Int) == 256) && x2.2) && (decide (x2.1 = (G_api_Block.mk 1 3 ([97, 98] : Str))))) && x6.2) && (x6.1 == ([97, 98] : Str))) && (!x8.2)) == true) (M_block_May (G_api_Block.mk 1 3 ([97, 98] : Str)))) fun (x9 : Bool) => Option.bind (gd (((((((((x1.length : Int) == 256) && x2.2) && (decide (x2.1 = (G_api_Block.mk 1 3 ([97, 98] : Str))))) && x6.2) && (x6.1 == ([97, 98] : Str))) && (!x8.2)) && x9) == true) (M_block_May (G_api_Block.mk 0 0 []))) fun (x10 : Bool) => some (((((((((x1.length : Int) == 256) && x2.2) && (decide (x2.1 = (G_api_Block.mk 1 3 ([97, 98] : Str))))) && x6.2) && (x6.1 == ([97, 98] : Str))) && (!x8.2)) && x9) && (!x10))
theorem ok_law5_begun (r : Bool) (h : M_law5_begun = some r) : FFn Try.prog 8 [] (Bo r) := by
  refine FFn.of_body (n := 72) Try.func8 rfl Try.ntmps8 rfl rfl rfl rfl ?_
  show AWp _ _ _ ⟨72, 0, [], [], ⟨0, []⟩⟩
  unfold M_law5_begun at h
  refine awp_seq ?_
  refine awp_region ?_
  refine arun_do rfl rfl rfl (ex_assign (eV (v := (Bo false)) rfl)) ?_
  refine arun_keepE [] 0 0 (st' := ⟨72, 0, [], [], ⟨0, []⟩⟩) (by kernel_rfl) (by kernel_rfl) ?_
  show AWp _ _ _ _
  refine awp_seq ?_
  refine awp_region ?_
  refine arun_do rfl rfl rfl (ex_build (qs := [(0, (I 1)), (1, (I 3)), (2, (S ([97, 98] : Str)))]) (v := (Value.agg (c_api_Block (G_api_Block.mk 1 3 ([97, 98] : Str))).toArray)) (evp rfl (evp rfl (evp rfl evp_nil))) (by kernel_rfl)) ?_
  refine arun_do rfl rfl rfl (ex_alloc (k := 0) (zs := (c_api_Block (G_api_Block.mk 0 0 []))) (L' := [(c_api_Block (G_api_Block.mk 0 0 []))]) z_23 rfl rfl rfl rfl) ?_
  refine arun_do0 rfl rfl (ex_storeL (vy := (Value.agg (c_api_Block (G_api_Block.mk 1 3 ([97, 98] : Str))).toArray)) (cs := (c_api_Block (G_api_Block.mk 0 0 []))) (vs := (c_api_Block (G_api_Block.mk 1 3 ([97, 98] : Str)))) (L' := [(c_api_Block (G_api_Block.mk 1 3 ([97, 98] : Str)))]) rfl (eV (v := (Value.agg (c_api_Block (G_api_Block.mk 1 3 ([97, 98] : Str))).toArray)) rfl) rfl s_23 rfl (Nat.le_of_ble_eq_true rfl) (by kernel_rfl)) ?_
  refine arun_keepE [1] 1 0 (st' := ⟨72, 0, [(1, (LP 0 0))], [(c_api_Block (G_api_Block.mk 1 3 ([97, 98] : Str)))], ⟨0, []⟩⟩) (by kernel_rfl) (by kernel_rfl) ?_
  show AWp _ _ _ _
  refine awp_seq ?_
  refine awp_region ?_
  refine arun_do rfl rfl rfl (tx_ldLA (vs := (c_api_Block (G_api_Block.mk 1 3 ([97, 98] : Str)))) Try.underlying23 rfl s_23 (by decide) rfl rfl rfl rfl) ?_
  obtain ⟨x1, hx1, h⟩ := bindS h
  refine arun_do rfl rfl rfl (ex_call0 (vs := [(Value.agg (c_api_Block (G_api_Block.mk 1 3 ([97, 98] : Str))).toArray)]) (v := (S x1)) rfl en_12 (cargs (evs rfl evs_nil)) rfl (ok_block_Put (G_api_Block.mk 1 3 ([97, 98] : Str)) x1 hx1) rfl) ?_
  refine arun_do rfl rfl rfl (ex_assign (eV (v := (S x1)) rfl)) ?_
  refine arun_keepE [1, 2] 1 0 (st' := ⟨72, 0, [(1, (LP 0 0)), (2, (S x1))], [(c_api_Block (G_api_Block.mk 1 3 ([97, 98] : Str)))], ⟨0, []⟩⟩) (by kernel_rfl) (by kernel_rfl) ?_
  show AWp _ _ _ _
  refine awp_seq ?_
  refine awp_region ?_
  refine arun_do rfl rfl rfl (ex_move (eV (v := (S x1)) rfl)) ?_
  obtain ⟨x2, hx2, h⟩ := bindS h
  refine arun_do rfl rfl rfl (ex_call0 (vs := [(S x1)]) (v := (Value.tuple #[(Value.agg (c_api_Block x2.1).toArray), (Bo x2.2)])) rfl en_16 (cargs (evs rfl evs_nil)) rfl (ok_block_Take x1 x2 hx2) rfl) ?_
  refine arun_do rfl rfl rfl (ex_move (eV (v := (Value.tuple #[(Value.agg (c_api_Block x2.1).toArray), (Bo x2.2)])) rfl)) ?_
  refine arun_do rfl rfl rfl (ex_extract (vx := (Value.tuple #[(Value.agg (c_api_Block x2.1).toArray), (Bo x2.2)])) (v := (Value.agg (c_api_Block x2.1).toArray)) rfl rfl) ?_
  refine arun_do rfl rfl rfl (ex_extract (vx := (Value.tuple #[(Value.agg (c_api_Block x2.1).toArray), (Bo x2.2)])) (v := (Bo x2.2)) rfl rfl) ?_
  refine arun_do rfl rfl rfl (ex_alloc (k := 1) (zs := (c_api_Block (G_api_Block.mk 0 0 []))) (L' := [(c_api_Block (G_api_Block.mk 1 3 ([97, 98] : Str))), (c_api_Block (G_api_Block.mk 0 0 []))]) z_23 rfl rfl rfl rfl) ?_
  refine arun_do0 rfl rfl (ex_storeL (vy := (Value.agg (c_api_Block x2.1).toArray)) (cs := (c_api_Block (G_api_Block.mk 0 0 []))) (vs := (c_api_Block x2.1)) (L' := [(c_api_Block (G_api_Block.mk 1 3 ([97, 98] : Str))), (c_api_Block x2.1)]) rfl (eV (v := (Value.agg (c_api_Block x2.1).toArray)) rfl) rfl s_23 rfl (Nat.le_of_ble_eq_true rfl) (by kernel_rfl)) ?_
  refine arun_do rfl rfl rfl (ex_assign (eV (v := (Bo x2.2)) rfl)) ?_
  refine arun_keepE [1, 2, 3, 4] 2 0 (st' := ⟨72, 0, [(1, (LP 0 0)), (2, (S x1)), (3, (LP 1 0)), (4, (Bo x2.2))], [(c_api_Block (G_api_Block.mk 1 3 ([97, 98] : Str))), (c_api_Block x2.1)], ⟨0, []⟩⟩) (by kernel_rfl) (by kernel_rfl) ?_
  show AWp _ _ _ _
  refine awp_seq ?_
  refine awp_region ?_
  obtain ⟨x3, hx3, h⟩ := bindS h
  refine arun_do rfl rfl rfl (ex_call0 (vs := [(I 40)]) (v := (Value.agg (c_api_Dev x3).toArray)) rfl en_18 (cargs (evs rfl evs_nil)) rfl (ok_ref1_New 40 x3 hx3) rfl) ?_
  refine arun_do rfl rfl rfl (ex_move (eV (v := (S x1)) rfl)) ?_
  refine arun_do rfl rfl rfl (ex_build (qs := [(0, (I 20)), (1, (S x1))]) (v := (Value.agg (c_api_Put (G_api_Put.mk 20 x1)).toArray)) (evp rfl (evp rfl evp_nil)) (by kernel_rfl)) ?_
  refine arun_do rfl rfl rfl (ex_buildSliceD (qs := [(0, (Value.agg (c_api_Put (G_api_Put.mk 20 x1)).toArray))]) (cells := (([(G_api_Put.mk 20 x1)] : List G_api_Put).flatMap c_api_Put)) Try.underlying38 s_45 (by decide) (evp rfl evp_nil) rfl (by kernel_rfl) (by kernel_rfl) (by kernel_rfl)) ?_
  obtain ⟨x4, hx4, h⟩ := bindS h
  refine arun_do rfl rfl rfl (ex_call0 (vs := [(Value.agg (c_api_Dev x3).toArray), (SL 2 c_api_Put ([(G_api_Put.mk 20 x1)] : List G_api_Put))]) (v := (Value.tuple #[(Value.agg (c_api_Dev x4.1).toArray), (Bo x4.2)])) rfl en_19 (cargs (evs rfl (evs rfl evs_nil))) rfl (ok_ref1_Write x3 ([(G_api_Put.mk 20 x1)] : List G_api_Put) x4 hx4) rfl) ?_
  refine arun_do rfl rfl rfl (ex_move (eV (v := (Value.tuple #[(Value.agg (c_api_Dev x4.1).toArray), (Bo x4.2)])) rfl)) ?_
  refine arun_do rfl rfl rfl (ex_extract (vx := (Value.tuple #[(Value.agg (c_api_Dev x4.1).toArray), (Bo x4.2)])) (v := (Value.agg (c_api_Dev x4.1).toArray)) rfl rfl) ?_
  refine arun_do rfl rfl rfl (ex_extract (vx := (Value.tuple #[(Value.agg (c_api_Dev x4.1).toArray), (Bo x4.2)])) (v := (Bo x4.2)) rfl rfl) ?_
  refine arun_do rfl rfl rfl (ex_allocW (k := 2) (zs := (c_api_Dev (G_api_Dev.mk [] [] 0 0 false))) (L' := [(c_api_Block (G_api_Block.mk 1 3 ([97, 98] : Str))), (c_api_Block x2.1), (c_api_Dev (G_api_Dev.mk [] [] 0 0 false))]) z_40 rfl (by repeat (first | exact trivial | refine ⟨.inl rfl, ?_⟩ | refine ⟨.inr ⟨rfl, _, rfl⟩, ?_⟩)) rfl rfl) ?_
  refine arun_do0 rfl rfl (ex_storeL (vy := (Value.agg (c_api_Dev x4.1).toArray)) (cs := (c_api_Dev (G_api_Dev.mk [] [] 0 0 false))) (vs := (c_api_Dev x4.1)) (L' := [(c_api_Block (G_api_Block.mk 1 3 ([97, 98] : Str))), (c_api_Block x2.1), (c_api_Dev x4.1)]) rfl (eV (v := (Value.agg (c_api_Dev x4.1).toArray)) rfl) rfl s_40 rfl (Nat.le_of_ble_eq_true rfl) (by kernel_rfl)) ?_
  refine arun_do rfl rfl rfl (ex_assign (eV (v := (Bo x4.2)) rfl)) ?_
  refine arun_keepE [1, 2, 3, 4, 5] 3 0 (st' := ⟨72, 0, [(1, (LP 0 0)), (2, (S x1)), (3, (LP 1 0)), (4, (Bo x2.2)), (5, (LP 2 0))], [(c_api_Block (G_api_Block.mk 1 3 ([97, 98] : Str))), (c_api_Block x2.1), (c_api_Dev x4.1)], ⟨0, []⟩⟩) (by kernel_rfl) (by kernel_rfl) ?_
  show AWp _ _ _ _
  refine awp_seq ?_
  obtain ⟨x5, hx5, h⟩ := bindS h
  obtain ⟨x6, hx6, h⟩ := bindS h
  refine awp_kn [1, 2, 3, 4, 5, 7, 8] 3 0 (st' := ⟨72, 0, [(1, (LP 0 0)), (2, (S x1)), (3, (LP 1 0)), (4, (Bo x2.2)), (5, (LP 2 0)), (7, (S x6.1)), (8, (Bo x6.2))], [(c_api_Block (G_api_Block.mk 1 3 ([97, 98] : Str))), (c_api_Block x2.1), (c_api_Dev x4.1)], ⟨0, []⟩⟩) (awp_draw (T := [(Value.agg (c_api_Dev x4.1).toArray), (Value.agg (c_api_Block (G_api_Block.mk 1 3 ([97, 98] : Str))).toArray), (Value.agg (c_api_Ptr x5).toArray), (Value.tuple #[(S x6.1), (Bo x6.2)]), (Value.tuple #[(S x6.1), (Bo x6.2)]), (S x6.1), (Bo x6.2), (S x6.1), (Bo x6.2)]) (LH := [([(c_api_Block (G_api_Block.mk 1 3 ([97, 98] : Str))), (c_api_Block x2.1), (c_api_Dev x4.1)], ⟨0, []⟩)]) (D := [⟨[(5, none)], [], [0], false⟩, ⟨[(1, none)], [], [0], false⟩, ⟨[(29, some 1)], [1], [0], false⟩, ⟨[(28, some 0), (30, some 2)], [0, 1, 2], [0], false⟩, ⟨[(31, some 3)], [0, 1, 2, 3], [0], false⟩, ⟨[(27, some 4)], [0, 1, 2, 3, 4], [0], false⟩, ⟨[(27, some 4)], [0, 1, 2, 3, 4], [0], false⟩, ⟨[(32, some 5)], [0, 1, 2, 3, 4, 5], [0], false⟩, ⟨[(33, some 6)], [0, 1, 2, 3, 4, 5, 6, 7], [0], false⟩]) (S := []) (plan := [0, 1, 2, 3, 4, 5, 6, 7, 8]) mo (by kernel_rfl) rfl rfl rfl (dcons (dstep1 (Tm := [(5, (LP 2 0))]) (L := [(c_api_Block (G_api_Block.mk 1 3 ([97, 98] : Str))), (c_api_Block x2.1), (c_api_Dev x4.1)]) (H := ⟨0, []⟩) rfl rfl rfl rfl rfl (astep_do rfl (tx_ldLA (vs := (c_api_Dev x4.1)) Try.underlying40 rfl s_40 (by decide) rfl rfl rfl rfl))) (dcons (dstep1 (Tm := [(1, (LP 0 0))]) (L := [(c_api_Block (G_api_Block.mk 1 3 ([97, 98] : Str))), (c_api_Block x2.1), (c_api_Dev x4.1)]) (H := ⟨0, []⟩) rfl rfl rfl rfl rfl (astep_do rfl (tx_ldLA (vs := (c_api_Block (G_api_Block.mk 1 3 ([97, 98] : Str)))) Try.underlying23 rfl s_23 (by decide) rfl rfl rfl rfl))) (dcons (dstep1 (Tm := [(29, (Value.agg (c_api_Block (G_api_Block.mk 1 3 ([97, 98] : Str))).toArray))]) (L := [(c_api_Block (G_api_Block.mk 1 3 ([97, 98] : Str))), (c_api_Block x2.1), (c_api_Dev x4.1)]) (H := ⟨0, []⟩) rfl rfl rfl rfl rfl (astep_do rfl (ex_call0 (vs := [(I 20), (Value.agg (c_api_Block (G_api_Block.mk 1 3 ([97, 98] : Str))).toArray)]) (v := (Value.agg (c_api_Ptr x5).toArray)) rfl en_14 (cargs (evs rfl (evs rfl evs_nil))) rfl (ok_block_Ptr 20 (G_api_Block.mk 1 3 ([97, 98] : Str)) x5 hx5) rfl))) (dcons (dstep1 (Tm := [(28, (Value.agg (c_api_Dev x4.1).toArray)), (30, (Value.agg (c_api_Ptr x5).toArray))]) (L := [(c_api_Block (G_api_Block.mk 1 3 ([97, 98] : Str))), (c_api_Block x2.1), (c_api_Dev x4.1)]) (H := ⟨0, []⟩) rfl rfl rfl rfl rfl (astep_do rfl (ex_call0 (vs := [(Value.agg (c_api_Dev x4.1).toArray), (Value.agg (c_api_Ptr x5).toArray), (I 1)]) (v := (Value.tuple #[(S x6.1), (Bo x6.2)])) rfl en_21 (cargs (evs rfl (evs rfl (evs rfl evs_nil)))) rfl (ok_block_Read x4.1 x5 1 x6 hx6) rfl))) (dcons (dstep1 (Tm := [(31, (Value.tuple #[(S x6.1), (Bo x6.2)]))]) (L := [(c_api_Block (G_api_Block.mk 1 3 ([97, 98] : Str))), (c_api_Block x2.1), (c_api_Dev x4.1)]) (H := ⟨0, []⟩) rfl rfl rfl rfl rfl (astep_do rfl (ex_move (eV (v := (Value.tuple #[(S x6.1), (Bo x6.2)])) rfl)))) (dcons (dstep1 (Tm := [(27, (Value.tuple #[(S x6.1), (Bo x6.2)]))]) (L := [(c_api_Block (G_api_Block.mk 1 3 ([97, 98] : Str))), (c_api_Block x2.1), (c_api_Dev x4.1)]) (H := ⟨0, []⟩) rfl rfl rfl rfl rfl (astep_do rfl (ex_extract (vx := (Value.tuple #[(S x6.1), (Bo x6.2)])) (v := (S x6.1)) rfl rfl))) (dcons (dstep1 (Tm := [(27, (Value.tuple #[(S x6.1), (Bo x6.2)]))]) (L := [(c_api_Block (G_api_Block.mk 1 3 ([97, 98] : Str))), (c_api_Block x2.1), (c_api_Dev x4.1)]) (H := ⟨0, []⟩) rfl rfl rfl rfl rfl (astep_do rfl (ex_extract (vx := (Value.tuple #[(S x6.1), (Bo x6.2)])) (v := (Bo x6.2)) rfl rfl))) (dcons (dstep1 (Tm := [(32, (S x6.1))]) (L := [(c_api_Block (G_api_Block.mk 1 3 ([97, 98] : Str))), (c_api_Block x2.1), (c_api_Dev x4.1)]) (H := ⟨0, []⟩) rfl rfl rfl rfl rfl (astep_do rfl (ex_assign (eV (v := (S x6.1)) rfl)))) (dcons (dstep1 (Tm := [(33, (Bo x6.2))]) (L := [(c_api_Block (G_api_Block.mk 1 3 ([97, 98] : Str))), (c_api_Block x2.1), (c_api_Dev x4.1)]) (H := ⟨0, []⟩) rfl rfl rfl rfl rfl (astep_do rfl (ex_assign (eV (v := (Bo x6.2)) rfl)))) dnil))))))))) ⟨rfl, rfl⟩) (by kernel_rfl) (by kernel_rfl) ?_
  show AWp _ _ _ _
  refine awp_seq ?_
  obtain ⟨x7, hx7, h⟩ := bindS h
  obtain ⟨x8, hx8, h⟩ := bindS h
  refine awp_kn [1, 2, 3, 4, 7, 8, 10] 2 0 (st' := ⟨72, 0, [(1, (LP 0 0)), (2, (S x1)), (3, (LP 1 0)), (4, (Bo x2.2)), (7, (S x6.1)), (8, (Bo x6.2)), (10, (Bo x8.2))], [(c_api_Block (G_api_Block.mk 1 3 ([97, 98] : Str))), (c_api_Block x2.1)], ⟨0, []⟩⟩) (awp_draw (T := [(Value.agg (c_api_Dev x4.1).toArray), (Value.agg (c_api_Block (G_api_Block.mk 1 3 ([97, 98] : Str))).toArray), (Value.agg (c_api_Ptr x7).toArray), (Value.tuple #[(S x8.1), (Bo x8.2)]), (Value.tuple #[(S x8.1), (Bo x8.2)]), (S x8.1), (Bo x8.2), (S x8.1), (Bo x8.2)]) (LH := [([(c_api_Block (G_api_Block.mk 1 3 ([97, 98] : Str))), (c_api_Block x2.1), (c_api_Dev x4.1)], ⟨0, []⟩)]) (D := [⟨[(5, none)], [], [0], false⟩, ⟨[(1, none)], [], [0], false⟩, ⟨[(36, some 1)], [1], [0], false⟩, ⟨[(35, some 0), (37, some 2)], [0, 1, 2], [0], false⟩, ⟨[(38, some 3)], [0, 1, 2, 3], [0], false⟩, ⟨[(34, some 4)], [0, 1, 2, 3, 4], [0], false⟩, ⟨[(34, some 4)], [0, 1, 2, 3, 4], [0], false⟩, ⟨[(39, some 5)], [0, 1, 2, 3, 4, 5], [0], false⟩, ⟨[(40, some 6)], [0, 1, 2, 3, 4, 5, 6, 7], [0], false⟩]) (S := []) (plan := [0, 1, 2, 3, 4, 5, 6, 7, 8]) mo (by kernel_rfl) rfl rfl rfl (dcons (dstep1 (Tm := [(5, (LP 2 0))]) (L := [(c_api_Block (G_api_Block.mk 1 3 ([97, 98] : Str))), (c_api_Block x2.1), (c_api_Dev x4.1)]) (H := ⟨0, []⟩) rfl rfl rfl rfl rfl (astep_do rfl (tx_ldLA (vs := (c_api_Dev x4.1)) Try.underlying40 rfl s_40 (by decide) rfl rfl rfl rfl))) (dcons (dstep1 (Tm := [(1, (LP 0 0))]) (L := [(c_api_Block (G_api_Block.mk 1 3 ([97, 98] : Str))), (c_api_Block x2.1), (c_api_Dev x4.1)]) (H := ⟨0, []⟩) rfl rfl rfl rfl rfl (astep_do rfl (tx_ldLA (vs := (c_api_Block (G_api_Block.mk 1 3 ([97, 98] : Str)))) Try.underlying23 rfl s_23 (by decide) rfl rfl rfl rfl))) (dcons (dstep1 (Tm := [(36, (Value.agg (c_api_Block (G_api_Block.mk 1 3 ([97, 98] : Str))).toArray))]) (L := [(c_api_Block (G_api_Block.mk 1 3 ([97, 98] : Str))), (c_api_Block x2.1), (c_api_Dev x4.1)]) (H := ⟨0, []⟩) rfl rfl rfl rfl rfl (astep_do rfl (ex_call0 (vs := [(I 20), (Value.agg (c_api_Block (G_api_Block.mk 1 3 ([97, 98] : Str))).toArray)]) (v := (Value.agg (c_api_Ptr x7).toArray)) rfl en_14 (cargs (evs rfl (evs rfl evs_nil))) rfl (ok_block_Ptr 20 (G_api_Block.mk 1 3 ([97, 98] : Str)) x7 hx7) rfl))) (dcons (dstep1 (Tm := [(35, (Value.agg (c_api_Dev x4.1).toArray)), (37, (Value.agg (c_api_Ptr x7).toArray))]) (L := [(c_api_Block (G_api_Block.mk 1 3 ([97, 98] : Str))), (c_api_Block x2.1), (c_api_Dev x4.1)]) (H := ⟨0, []⟩) rfl rfl rfl rfl rfl (astep_do rfl (ex_call0 (vs := [(Value.agg (c_api_Dev x4.1).toArray), (Value.agg (c_api_Ptr x7).toArray), (I 2)]) (v := (Value.tuple #[(S x8.1), (Bo x8.2)])) rfl en_21 (cargs (evs rfl (evs rfl (evs rfl evs_nil)))) rfl (ok_block_Read x4.1 x7 2 x8 hx8) rfl))) (dcons (dstep1 (Tm := [(38, (Value.tuple #[(S x8.1), (Bo x8.2)]))]) (L := [(c_api_Block (G_api_Block.mk 1 3 ([97, 98] : Str))), (c_api_Block x2.1), (c_api_Dev x4.1)]) (H := ⟨0, []⟩) rfl rfl rfl rfl rfl (astep_do rfl (ex_move (eV (v := (Value.tuple #[(S x8.1), (Bo x8.2)])) rfl)))) (dcons (dstep1 (Tm := [(34, (Value.tuple #[(S x8.1), (Bo x8.2)]))]) (L := [(c_api_Block (G_api_Block.mk 1 3 ([97, 98] : Str))), (c_api_Block x2.1), (c_api_Dev x4.1)]) (H := ⟨0, []⟩) rfl rfl rfl rfl rfl (astep_do rfl (ex_extract (vx := (Value.tuple #[(S x8.1), (Bo x8.2)])) (v := (S x8.1)) rfl rfl))) (dcons (dstep1 (Tm := [(34, (Value.tuple #[(S x8.1), (Bo x8.2)]))]) (L := [(c_api_Block (G_api_Block.mk 1 3 ([97, 98] : Str))), (c_api_Block x2.1), (c_api_Dev x4.1)]) (H := ⟨0, []⟩) rfl rfl rfl rfl rfl (astep_do rfl (ex_extract (vx := (Value.tuple #[(S x8.1), (Bo x8.2)])) (v := (Bo x8.2)) rfl rfl))) (dcons (dstep1 (Tm := [(39, (S x8.1))]) (L := [(c_api_Block (G_api_Block.mk 1 3 ([97, 98] : Str))), (c_api_Block x2.1), (c_api_Dev x4.1)]) (H := ⟨0, []⟩) rfl rfl rfl rfl rfl (astep_do rfl (ex_assign (eV (v := (S x8.1)) rfl)))) (dcons (dstep1 (Tm := [(40, (Bo x8.2))]) (L := [(c_api_Block (G_api_Block.mk 1 3 ([97, 98] : Str))), (c_api_Block x2.1), (c_api_Dev x4.1)]) (H := ⟨0, []⟩) rfl rfl rfl rfl rfl (astep_do rfl (ex_assign (eV (v := (Bo x8.2)) rfl)))) dnil))))))))) ⟨rfl, rfl⟩) (by kernel_rfl) (by kernel_rfl) ?_
  show AWp _ _ _ _
  refine awp_seq ?_
  refine awp_region ?_
  refine arun_do rfl rfl rfl (ex_move (eV (v := (S x1)) rfl)) ?_
  refine arun_do rfl rfl rfl (tx_lenS Try.underlying9 rfl) ?_
  refine arun_do rfl rfl rfl (ex_bin (vx := (I (x1.length : Int))) (vy := (I 256)) rfl rfl eqlI_ok) ?_
  refine arun_do rfl rfl rfl (ex_move (eV (v := (Bo ((x1.length : Int) == 256))) rfl)) ?_
  refine arun_guard (v := (Bo x2.2)) (((x1.length : Int) == 256) == true) rfl rfl rfl (fun hc => ex_move (eV (v := (Bo x2.2)) rfl)) ?_
  refine arun_do rfl rfl rfl (ex_pick rfl pkAnd) ?_
  refine arun_do rfl rfl rfl (ex_move (eV (v := (Bo (((x1.length : Int) == 256) && x2.2))) rfl)) ?_
  refine arun_guard (v := (Value.agg (c_api_Block x2.1).toArray)) ((((x1.length : Int) == 256) && x2.2) == true) rfl rfl rfl (fun hc => tx_ldLA (vs := (c_api_Block x2.1)) Try.underlying23 rfl s_23 (by decide) rfl rfl rfl rfl) ?_
  refine arun_guard (v := (Value.agg (c_api_Block (G_api_Block.mk 1 3 ([97, 98] : Str))).toArray)) ((((x1.length : Int) == 256) && x2.2) == true) rfl rfl rfl (fun hc => tx_ldLA (vs := (c_api_Block (G_api_Block.mk 1 3 ([97, 98] : Str)))) Try.underlying23 rfl s_23 (by decide) rfl rfl rfl rfl) ?_
  refine arun_guard (v := (Bo (decide (x2.1 = (G_api_Block.mk 1 3 ([97, 98] : Str)))))) ((((x1.length : Int) == 256) && x2.2) == true) rfl rfl rfl (fun hc => ex_bin (vx := (Value.agg (c_api_Block x2.1).toArray)) (vy := (Value.agg (c_api_Block (G_api_Block.mk 1 3 ([97, 98] : Str))).toArray)) (cond_of hc) (cond_of hc) eql_23) ?_
  refine arun_do rfl rfl rfl (ex_pick rfl pkAnd) ?_
  refine arun_do rfl rfl rfl (ex_move (eV (v := (Bo ((((x1.length : Int) == 256) && x2.2) && (decide (x2.1 = (G_api_Block.mk 1 3 ([97, 98] : Str))))))) rfl)) ?_
  refine arun_guard (v := (Bo x6.2)) (((((x1.length : Int) == 256) && x2.2) && (decide (x2.1 = (G_api_Block.mk 1 3 ([97, 98] : Str))))) == true) rfl rfl rfl (fun hc => ex_move (eV (v := (Bo x6.2)) rfl)) ?_
  refine arun_do rfl rfl rfl (ex_pick rfl pkAnd) ?_
  refine arun_do rfl rfl rfl (ex_move (eV (v := (Bo (((((x1.length : Int) == 256) && x2.2) && (decide (x2.1 = (G_api_Block.mk 1 3 ([97, 98] : Str))))) && x6.2))) rfl)) ?_
  refine arun_guard (v := (S x6.1)) ((((((x1.length : Int) == 256) && x2.2) && (decide (x2.1 = (G_api_Block.mk 1 3 ([97, 98] : Str))))) && x6.2) == true) rfl rfl rfl (fun hc => ex_move (eV (v := (S x6.1)) rfl)) ?_
  refine arun_guard (v := (Bo (x6.1 == ([97, 98] : Str)))) ((((((x1.length : Int) == 256) && x2.2) && (decide (x2.1 = (G_api_Block.mk 1 3 ([97, 98] : Str))))) && x6.2) == true) rfl rfl rfl (fun hc => ex_bin (vx := (S x6.1)) (vy := (S ([97, 98] : Str))) (cond_of hc) rfl eqlS_ok) ?_
  refine arun_do rfl rfl rfl (ex_pick rfl pkAnd) ?_
  refine arun_do rfl rfl rfl (ex_move (eV (v := (Bo ((((((x1.length : Int) == 256) && x2.2) && (decide (x2.1 = (G_api_Block.mk 1 3 ([97, 98] : Str))))) && x6.2) && (x6.1 == ([97, 98] : Str))))) rfl)) ?_
  refine arun_guard (v := (Bo x8.2)) (((((((x1.length : Int) == 256) && x2.2) && (decide (x2.1 = (G_api_Block.mk 1 3 ([97, 98] : Str))))) && x6.2) && (x6.1 == ([97, 98] : Str))) == true) rfl rfl rfl (fun hc => ex_move (eV (v := (Bo x8.2)) rfl)) ?_
  refine arun_guard (v := (Bo (!x8.2))) (((((((x1.length : Int) == 256) && x2.2) && (decide (x2.1 = (G_api_Block.mk 1 3 ([97, 98] : Str))))) && x6.2) && (x6.1 == ([97, 98] : Str))) == true) rfl rfl rfl (fun hc => ex_un (vx := (Bo x8.2)) (cond_of hc) notB_ok) ?_
  refine arun_do rfl rfl rfl (ex_pick rfl pkAnd) ?_
  refine arun_do rfl rfl rfl (ex_move (eV (v := (Bo (((((((x1.length : Int) == 256) && x2.2) && (decide (x2.1 = (G_api_Block.mk 1 3 ([97, 98] : Str))))) && x6.2) && (x6.1 == ([97, 98] : Str))) && (!x8.2)))) rfl)) ?_
  refine arun_guard (v := (Value.agg (c_api_Block (G_api_Block.mk 1 3 ([97, 98] : Str))).toArray)) ((((((((x1.length : Int) == 256) && x2.2) && (decide (x2.1 = (G_api_Block.mk 1 3 ([97, 98] : Str))))) && x6.2) && (x6.1 == ([97, 98] : Str))) && (!x8.2)) == true) rfl rfl rfl (fun hc => tx_ldLA (vs := (c_api_Block (G_api_Block.mk 1 3 ([97, 98] : Str)))) Try.underlying23 rfl s_23 (by decide) rfl rfl rfl rfl) ?_
  obtain ⟨x9, hx9, h⟩ := bindS h
  refine arun_guard (v := (Bo x9)) ((((((((x1.length : Int) == 256) && x2.2) && (decide (x2.1 = (G_api_Block.mk 1 3 ([97, 98] : Str))))) && x6.2) && (x6.1 == ([97, 98] : Str))) && (!x8.2)) == true) rfl rfl rfl (fun hc => ex_call0 (vs := [(Value.agg (c_api_Block (G_api_Block.mk 1 3 ([97, 98] : Str))).toArray)]) (v := (Bo x9)) rfl en_10 (cargs (evs (cond_of hc) evs_nil)) rfl (ok_block_May (G_api_Block.mk 1 3 ([97, 98] : Str)) x9 (gd_of hc hx9)) rfl) ?_
  refine arun_do rfl rfl rfl (ex_pick rfl pkAnd) ?_
  refine arun_do rfl rfl rfl (ex_move (eV (v := (Bo ((((((((x1.length : Int) == 256) && x2.2) && (decide (x2.1 = (G_api_Block.mk 1 3 ([97, 98] : Str))))) && x6.2) && (x6.1 == ([97, 98] : Str))) && (!x8.2)) && x9))) rfl)) ?_
  refine arun_guard (v := (Value.agg (c_api_Block (G_api_Block.mk 0 0 [])).toArray)) (((((((((x1.length : Int) == 256) && x2.2) && (decide (x2.1 = (G_api_Block.mk 1 3 ([97, 98] : Str))))) && x6.2) && (x6.1 == ([97, 98] : Str))) && (!x8.2)) && x9) == true) rfl rfl rfl (fun hc => ex_build (qs := []) (v := (Value.agg (c_api_Block (G_api_Block.mk 0 0 [])).toArray)) evp_nil (by kernel_rfl)) ?_
  obtain ⟨x10, hx10, h⟩ := bindS h
  refine arun_guard (v := (Bo x10)) (((((((((x1.length : Int) == 256) && x2.2) && (decide (x2.1 = (G_api_Block.mk 1 3 ([97, 98] : Str))))) && x6.2) && (x6.1 == ([97, 98] : Str))) && (!x8.2)) && x9) == true) rfl rfl rfl (fun hc => ex_call0 (vs := [(Value.agg (c_api_Block (G_api_Block.mk 0 0 [])).toArray)]) (v := (Bo x10)) rfl en_10 (cargs (evs (cond_of hc) evs_nil)) rfl (ok_block_May (G_api_Block.mk 0 0 []) x10 (gd_of hc hx10)) rfl) ?_
  refine arun_guard (v := (Bo (!x10))) (((((((((x1.length : Int) == 256) && x2.2) && (decide (x2.1 = (G_api_Block.mk 1 3 ([97, 98] : Str))))) && x6.2) && (x6.1 == ([97, 98] : Str))) && (!x8.2)) && x9) == true) rfl rfl rfl (fun hc => ex_un (vx := (Bo x10)) (cond_of hc) notB_ok) ?_
  refine arun_do rfl rfl rfl (ex_pick rfl pkAnd) ?_
  refine arun_do rfl rfl rfl (ex_assign (eV (v := (Bo (((((((((x1.length : Int) == 256) && x2.2) && (decide (x2.1 = (G_api_Block.mk 1 3 ([97, 98] : Str))))) && x6.2) && (x6.1 == ([97, 98] : Str))) && (!x8.2)) && x9) && (!x10)))) rfl)) ?_
  refine arun_keepE [0] 0 0 (st' := ⟨72, 0, [(0, (Bo (((((((((x1.length : Int) == 256) && x2.2) && (decide (x2.1 = (G_api_Block.mk 1 3 ([97, 98] : Str))))) && x6.2) && (x6.1 == ([97, 98] : Str))) && (!x8.2)) && x9) && (!x10))))], [], ⟨0, []⟩⟩) (by kernel_rfl) (by kernel_rfl) ?_
  show AWp _ _ _ _
  refine awp_ret ?_
  cases h
  exact ares1 (rtmp rfl (eV rfl))

end Go.Proofs
