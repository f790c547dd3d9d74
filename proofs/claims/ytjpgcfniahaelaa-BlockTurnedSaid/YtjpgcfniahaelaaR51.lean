/- Pure models of functions of the program, and that its code does what they say: block sector bytes, block Put, pack Take. Written by a program. -/
import Derived.Test.YtjpgcfniahaelaaR50
import Derived.Test.YtjpgcfniahaelaaR5B
import Derived.Test.YtjpgcfniahaelaaR5X
set_option maxRecDepth 20000
set_option maxHeartbeats 4000000
namespace Go.Proofs
open Go Go.Fhl
set_option linter.unusedVariables false
set_option linter.unusedSimpArgs false
noncomputable def M_block_sector_bytes (t0 : G_block_sector) : Option Str :=
  Option.bind (M_block_sector_may t0) fun (x1 : Bool) => cond (!x1) (some []) (Option.bind (M_pack_Put ([49, 52, 50] : Str) ([t0.Block.Kind, t0.Block.Birth, (t0.Block.Load.length : Int)] : List Int)) fun (x3 : Str) => Option.bind (addS x3 t0.Block.Load) fun (x4 : Str) => Option.bind (M_strings_Repeat ([0] : Str) (w64 (256 - (x4.length : Int)))) fun (x5 : Str) => Option.bind (addS x4 x5) fun (x6 : Str) => some x6)
theorem ok_block_sector_bytes (t0 : G_block_sector) (r : Str) (h : M_block_sector_bytes t0 = some r) : FFn Try.prog 29 [(Value.agg (c_block_sector t0).toArray)] (S r) := by
  refine FFn.of_body (n := 29) Try.func29 rfl Try.ntmps29 rfl rfl rfl rfl ?_
  show AWp _ _ _ ⟨29, 0, [(0, (Value.agg (c_block_sector t0).toArray))], [], ⟨0, []⟩⟩
  unfold M_block_sector_bytes at h
  refine awp_seq ?_
  refine awp_region ?_
  refine arun_do rfl rfl rfl (ex_box (vx := (Value.agg (c_block_sector t0).toArray)) (cs := (c_block_sector t0)) (k := 0) (L' := [(c_block_sector t0)]) (eV (v := (Value.agg (c_block_sector t0).toArray)) rfl) rfl rfl rfl) ?_
  refine arun_do rfl rfl rfl (ex_assign (eV (v := (S [])) rfl)) ?_
  refine arun_keepE [1] 1 0 (st' := ⟨29, 0, [(1, (LP 0 0))], [(c_block_sector t0)], ⟨0, []⟩⟩) (by kernel_rfl) (by kernel_rfl) ?_
  show AWp _ _ _ _
  refine awp_seq ?_
  refine awp_seq ?_
  refine awp_region ?_
  refine arun_do rfl rfl rfl (tx_ldLA (vs := (c_block_sector t0)) Try.underlying61 rfl s_61 (by decide) rfl rfl rfl rfl) ?_
  obtain ⟨x1, hx1, h⟩ := bindS h
  refine arun_do rfl rfl rfl (ex_call0 (vs := [(Value.agg (c_block_sector t0).toArray)]) (v := (Bo x1)) rfl en_27 (cargs (evs rfl evs_nil)) rfl (ok_block_sector_may t0 x1 hx1) rfl) ?_
  refine arun_do rfl rfl rfl (ex_un (vx := (Bo x1)) rfl notB_ok) ?_
  refine arun_keepE [1, 6] 1 0 (st' := ⟨29, 0, [(1, (LP 0 0)), (6, (Bo (!x1)))], [(c_block_sector t0)], ⟨0, []⟩⟩) (by kernel_rfl) (by kernel_rfl) ?_
  show AWp _ _ _ _
  rcases Bool.eq_false_or_eq_true (!x1) with hb2 | hb2
  · rw [condT hb2] at h
    refine awp_condT (boT hb2) ?_
    refine awp_seq ?_
    refine awp_region ?_
    refine arun_do rfl rfl rfl (ex_assign (eV (v := (S [])) rfl)) ?_
    refine arun_keepE [2] 0 0 (st' := ⟨29, 0, [(2, (S []))], [], ⟨0, []⟩⟩) (by kernel_rfl) (by kernel_rfl) ?_
    show AWp _ _ _ _
    refine awp_ret ?_
    cases h
    exact ares1 (rtmp rfl (eV rfl))
  · rw [condF hb2] at h
    refine awp_condF (boF hb2) ?_
    refine awp_skip ?_
    show AWp _ _ _ _
    refine awp_seq ?_
    obtain ⟨x3, hx3, h⟩ := bindS h
    obtain ⟨x4, hx4, h⟩ := bindS h
    refine awp_kn [3] 0 0 (st' := ⟨29, 0, [(3, (S x4))], [], ⟨0, []⟩⟩) (awp_draw (T := [(LP 0 0), (LP 0 0), (I t0.Block.Kind), (LP 0 0), (LP 0 1), (I t0.Block.Birth), (LP 0 0), (LP 0 2), (S t0.Block.Load), (I (t0.Block.Load.length : Int)), (SL 1 cI ([t0.Block.Kind, t0.Block.Birth, (t0.Block.Load.length : Int)] : List Int)), (S x3), (LP 0 0), (LP 0 2), (S t0.Block.Load), (S x4), (S x4)]) (LH := [([(c_block_sector t0)], ⟨0, []⟩)]) (D := [⟨[(1, none)], [], [0], false⟩, ⟨[(7, some 0)], [0], [0], false⟩, ⟨[(8, some 1)], [0, 1], [0], false⟩, ⟨[(1, none)], [], [0], false⟩, ⟨[(10, some 3)], [3], [0], false⟩, ⟨[(11, some 4)], [3, 4], [0], false⟩, ⟨[(1, none)], [], [0], false⟩, ⟨[(13, some 6)], [6], [0], false⟩, ⟨[(14, some 7)], [6, 7], [0], false⟩, ⟨[(15, some 8)], [6, 7, 8], [0], false⟩, ⟨[(9, some 2), (12, some 5), (16, some 9)], [0, 1, 2, 3, 4, 5, 6, 7, 8, 9], [0], false⟩, ⟨[(17, some 10)], [0, 1, 2, 3, 4, 5, 6, 7, 8, 9, 10], [0], false⟩, ⟨[(1, none)], [], [0], false⟩, ⟨[(19, some 12)], [12], [0], false⟩, ⟨[(20, some 13)], [12, 13], [0], false⟩, ⟨[(18, some 11), (21, some 14)], [0, 1, 2, 3, 4, 5, 6, 7, 8, 9, 10, 11, 12, 13, 14], [0], false⟩, ⟨[(22, some 15)], [0, 1, 2, 3, 4, 5, 6, 7, 8, 9, 10, 11, 12, 13, 14, 15], [0], false⟩]) (S := []) (plan := [0, 1, 2, 3, 4, 5, 6, 7, 8, 9, 10, 11, 12, 13, 14, 15, 16]) mo (by kernel_rfl) rfl rfl rfl (dcons (dstep1 (Tm := [(1, (LP 0 0))]) (L := [(c_block_sector t0)]) (H := ⟨0, []⟩) rfl rfl rfl rfl rfl (astep_do rfl (ex_fieldAddr (v := (LP 0 0)) Try.underlying61 rfl s_23 (by decide) rfl rfl))) (dcons (dstep1 (Tm := [(7, (LP 0 0))]) (L := [(c_block_sector t0)]) (H := ⟨0, []⟩) rfl rfl rfl rfl rfl (astep_do rfl (ex_fieldAddr (v := (LP 0 0)) Try.underlying23 rfl s_3 (by decide) rfl rfl))) (dcons (dstep1 (Tm := [(8, (LP 0 0))]) (L := [(c_block_sector t0)]) (H := ⟨0, []⟩) rfl rfl rfl rfl rfl (astep_do rfl (tx_ldL1 (v := (I t0.Block.Kind)) Try.underlying3 rfl rfl rfl rfl))) (dcons (dstep1 (Tm := [(1, (LP 0 0))]) (L := [(c_block_sector t0)]) (H := ⟨0, []⟩) rfl rfl rfl rfl rfl (astep_do rfl (ex_fieldAddr (v := (LP 0 0)) Try.underlying61 rfl s_23 (by decide) rfl rfl))) (dcons (dstep1 (Tm := [(10, (LP 0 0))]) (L := [(c_block_sector t0)]) (H := ⟨0, []⟩) rfl rfl rfl rfl rfl (astep_do rfl (ex_fieldAddr (v := (LP 0 1)) Try.underlying23 rfl s_3 (by decide) rfl rfl))) (dcons (dstep1 (Tm := [(11, (LP 0 1))]) (L := [(c_block_sector t0)]) (H := ⟨0, []⟩) rfl rfl rfl rfl rfl (astep_do rfl (tx_ldL1 (v := (I t0.Block.Birth)) Try.underlying3 rfl rfl rfl rfl))) (dcons (dstep1 (Tm := [(1, (LP 0 0))]) (L := [(c_block_sector t0)]) (H := ⟨0, []⟩) rfl rfl rfl rfl rfl (astep_do rfl (ex_fieldAddr (v := (LP 0 0)) Try.underlying61 rfl s_23 (by decide) rfl rfl))) (dcons (dstep1 (Tm := [(13, (LP 0 0))]) (L := [(c_block_sector t0)]) (H := ⟨0, []⟩) rfl rfl rfl rfl rfl (astep_do rfl (ex_fieldAddr (v := (LP 0 2)) Try.underlying23 rfl s_9 (by decide) rfl rfl))) (dcons (dstep1 (Tm := [(14, (LP 0 2))]) (L := [(c_block_sector t0)]) (H := ⟨0, []⟩) rfl rfl rfl rfl rfl (astep_do rfl (tx_ldL1 (v := (S t0.Block.Load)) Try.underlying9 rfl rfl rfl rfl))) (dcons (dstep1 (Tm := [(15, (S t0.Block.Load))]) (L := [(c_block_sector t0)]) (H := ⟨0, []⟩) rfl rfl rfl rfl rfl (astep_do rfl (tx_lenS Try.underlying9 rfl))) (dcons (dstep1 (Tm := [(9, (I t0.Block.Kind)), (12, (I t0.Block.Birth)), (16, (I (t0.Block.Load.length : Int)))]) (L := [(c_block_sector t0)]) (H := ⟨0, []⟩) rfl rfl rfl rfl rfl (astep_do rfl (ex_buildSliceD (qs := [(0, (I t0.Block.Kind)), (1, (I t0.Block.Birth)), (2, (I (t0.Block.Load.length : Int)))]) (cells := (([t0.Block.Kind, t0.Block.Birth, (t0.Block.Load.length : Int)] : List Int).flatMap cI)) Try.underlying48 s_3 (by decide) (evp rfl (evp rfl (evp rfl evp_nil))) rfl (by kernel_rfl) (by kernel_rfl) (by kernel_rfl)))) (dcons (dstep1 (Tm := [(17, (SL 1 cI ([t0.Block.Kind, t0.Block.Birth, (t0.Block.Load.length : Int)] : List Int)))]) (L := [(c_block_sector t0)]) (H := ⟨0, []⟩) rfl rfl rfl rfl rfl (astep_do rfl (ex_call0 (vs := [(S ([49, 52, 50] : Str)), (SL 1 cI ([t0.Block.Kind, t0.Block.Birth, (t0.Block.Load.length : Int)] : List Int))]) (v := (S x3)) rfl en_39 (cargs (evs rfl (evs rfl evs_nil))) rfl (ok_pack_Put ([49, 52, 50] : Str) ([t0.Block.Kind, t0.Block.Birth, (t0.Block.Load.length : Int)] : List Int) x3 hx3) rfl))) (dcons (dstep1 (Tm := [(1, (LP 0 0))]) (L := [(c_block_sector t0)]) (H := ⟨0, []⟩) rfl rfl rfl rfl rfl (astep_do rfl (ex_fieldAddr (v := (LP 0 0)) Try.underlying61 rfl s_23 (by decide) rfl rfl))) (dcons (dstep1 (Tm := [(19, (LP 0 0))]) (L := [(c_block_sector t0)]) (H := ⟨0, []⟩) rfl rfl rfl rfl rfl (astep_do rfl (ex_fieldAddr (v := (LP 0 2)) Try.underlying23 rfl s_9 (by decide) rfl rfl))) (dcons (dstep1 (Tm := [(20, (LP 0 2))]) (L := [(c_block_sector t0)]) (H := ⟨0, []⟩) rfl rfl rfl rfl rfl (astep_do rfl (tx_ldL1 (v := (S t0.Block.Load)) Try.underlying9 rfl rfl rfl rfl))) (dcons (dstep1 (Tm := [(18, (S x3)), (21, (S t0.Block.Load))]) (L := [(c_block_sector t0)]) (H := ⟨0, []⟩) rfl rfl rfl rfl rfl (astep_do rfl (ex_bin (vx := (S x3)) (vy := (S t0.Block.Load)) rfl rfl (addS_ok hx4)))) (dcons (dstep1 (Tm := [(22, (S x4))]) (L := [(c_block_sector t0)]) (H := ⟨0, []⟩) rfl rfl rfl rfl rfl (astep_do rfl (ex_assign (eV (v := (S x4)) rfl)))) dnil))))))))))))))))) ⟨rfl, rfl⟩) (by kernel_rfl) (by kernel_rfl) ?_
    show AWp _ _ _ _
    refine awp_seq ?_
    refine awp_region ?_
    refine arun_do rfl rfl rfl (ex_move (eV (v := (S x4)) rfl)) ?_
    refine arun_do rfl rfl rfl (ex_move (eV (v := (S x4)) rfl)) ?_
    refine arun_do rfl rfl rfl (tx_lenS Try.underlying9 rfl) ?_
    refine arun_do rfl rfl rfl (ex_bin (vx := (I 256)) (vy := (I (x4.length : Int))) rfl rfl subI_ok) ?_
    obtain ⟨x5, hx5, h⟩ := bindS h
    refine arun_do rfl rfl rfl (ex_call0 (vs := [(S ([0] : Str)), (I (w64 (256 - (x4.length : Int))))]) (v := (S x5)) rfl en_40 (cargs (evs rfl (evs rfl evs_nil))) rfl (ok_strings_Repeat ([0] : Str) (w64 (256 - (x4.length : Int))) x5 hx5) rfl) ?_
    obtain ⟨x6, hx6, h⟩ := bindS h
    refine arun_do rfl rfl rfl (ex_bin (vx := (S x4)) (vy := (S x5)) rfl rfl (addS_ok hx6)) ?_
    refine arun_do rfl rfl rfl (ex_assign (eV (v := (S x6)) rfl)) ?_
    refine arun_keepE [2] 0 0 (st' := ⟨29, 0, [(2, (S x6))], [], ⟨0, []⟩⟩) (by kernel_rfl) (by kernel_rfl) ?_
    show AWp _ _ _ _
    refine awp_ret ?_
    cases h
    exact ares1 (rtmp rfl (eV rfl))

noncomputable def M_block_Put (t0 : G_api_Block) : Option Str :=
  Option.bind (M_block_sector_bytes (G_block_sector.mk t0)) fun (x1 : Str) => some x1
theorem ok_block_Put (t0 : G_api_Block) (r : Str) (h : M_block_Put t0 = some r) : FFn Try.prog 12 [(Value.agg (c_api_Block t0).toArray)] (S r) := by
  refine FFn.of_body (n := 6) Try.func12 rfl Try.ntmps12 rfl rfl rfl rfl ?_
  show AWp _ _ _ ⟨6, 0, [(0, (Value.agg (c_api_Block t0).toArray))], [], ⟨0, []⟩⟩
  unfold M_block_Put at h
  refine awp_seq ?_
  refine awp_region ?_
  refine arun_do rfl rfl rfl (ex_box (vx := (Value.agg (c_api_Block t0).toArray)) (cs := (c_api_Block t0)) (k := 0) (L' := [(c_api_Block t0)]) (eV (v := (Value.agg (c_api_Block t0).toArray)) rfl) rfl rfl rfl) ?_
  refine arun_do rfl rfl rfl (ex_assign (eV (v := (S [])) rfl)) ?_
  refine arun_keepE [1] 1 0 (st' := ⟨6, 0, [(1, (LP 0 0))], [(c_api_Block t0)], ⟨0, []⟩⟩) (by kernel_rfl) (by kernel_rfl) ?_
  show AWp _ _ _ _
  refine awp_seq ?_
  refine awp_region ?_
  refine arun_do rfl rfl rfl (tx_ldLA (vs := (c_api_Block t0)) Try.underlying23 rfl s_23 (by decide) rfl rfl rfl rfl) ?_
  refine arun_do rfl rfl rfl (ex_build (qs := [(0, (Value.agg (c_api_Block t0).toArray))]) (v := (Value.agg (c_block_sector (G_block_sector.mk t0)).toArray)) (evp rfl evp_nil) (by kernel_rfl)) ?_
  obtain ⟨x1, hx1, h⟩ := bindS h
  refine arun_do rfl rfl rfl (ex_call0 (vs := [(Value.agg (c_block_sector (G_block_sector.mk t0)).toArray)]) (v := (S x1)) rfl en_29 (cargs (evs rfl evs_nil)) rfl (ok_block_sector_bytes (G_block_sector.mk t0) x1 hx1) rfl) ?_
  refine arun_do rfl rfl rfl (ex_assign (eV (v := (S x1)) rfl)) ?_
  refine arun_keepE [2] 0 0 (st' := ⟨6, 0, [(2, (S x1))], [], ⟨0, []⟩⟩) (by kernel_rfl) (by kernel_rfl) ?_
  show AWp _ _ _ _
  refine awp_ret ?_
  cases h
  exact ares1 (rtmp rfl (eV rfl))

noncomputable def M_pack_Take_l2 (c_1 : (Str → Int → List Int → Option ((List Int) × Str × Bool))) (x1 : ((List Int) × Int × Bool)) (v3 : Str) (v4 : Int) (v5 : List Int) (x7 : Int) (x8 : Str) : Nat → Int → Int → Option ((List Int) × Str × Bool)
  | 0, _, _ => none
  | n2 + 1, v9, v10 =>
  cond (decide (v10 < (x8.length : Int))) (Option.bind (getI x8 v10) fun (x12 : UInt8) => Option.bind (shlI v9 (8 : Int)) fun (x13 : Int) => (M_pack_Take_l2 c_1 x1 v3 v4 v5 x7 x8 n2) (orI x13 (x12.toNat : Int)) (w64 (v10 + 1))) (Option.bind (appL 8 v5 ([v9] : List Int)) fun (x14 : List Int) => Option.bind (slL v3 x7 (v3.length : Int)) fun (x15 : Str) => c_1 x15 (w64 (v4 + 1)) x14)
noncomputable def M_pack_Take_l1 (x1 : ((List Int) × Int × Bool)) : Nat → Str → Int → List Int → Option ((List Int) × Str × Bool)
  | 0, _, _, _ => none
  | n1 + 1, v3, v4, v5 =>
  cond (decide (v4 < (x1.1.length : Int))) (Option.bind (getI x1.1 v4) fun (x7 : Int) => Option.bind (slL v3 0 x7) fun (x8 : Str) => M_pack_Take_l2 (M_pack_Take_l1 x1 n1) x1 v3 v4 v5 x7 x8 fuel 0 0) (some (v5, v3, true))
noncomputable def M_pack_Take (t0 : Str) (t1 : Str) : Option ((List Int) × Str × Bool) :=
  Option.bind (M_pack_sizes t0) fun (x1 : ((List Int) × Int × Bool)) => cond ((!x1.2.2) || (decide ((t1.length : Int) < x1.2.1))) (some ([], [], false)) (M_pack_Take_l1 x1 fuel t1 0 ([] : List Int))
theorem ok_pack_Take (t0 : Str) (t1 : Str) (r : ((List Int) × Str × Bool)) (h : M_pack_Take t0 t1 = some r) : FFn Try.prog 42 [(S t0), (S t1)] (Value.tuple #[(SL 1 cI r.1), (S r.2.1), (Bo r.2.2)]) := by
  refine FFn.of_body (n := 59) Try.func42 rfl Try.ntmps42 rfl rfl rfl rfl ?_
  show AWp _ _ _ ⟨59, 0, [(0, (S t0)), (1, (S t1))], [], ⟨0, []⟩⟩
  unfold M_pack_Take at h
  refine awp_seq ?_
  refine awp_region ?_
  refine arun_do rfl rfl rfl (ex_assign (eV (v := (Value.slice none 0 0)) rfl)) ?_
  refine arun_do rfl rfl rfl (ex_assign (eV (v := (S [])) rfl)) ?_
  refine arun_do rfl rfl rfl (ex_assign (eV (v := (Bo false)) rfl)) ?_
  refine arun_keepE [0, 1, 4] 0 0 (st' := ⟨59, 0, [(0, (S t0)), (1, (S t1)), (4, (Value.slice none 0 0))], [], ⟨0, []⟩⟩) (by kernel_rfl) (by kernel_rfl) ?_
  show AWp _ _ _ _
  refine awp_seq ?_
  refine awp_region ?_
  refine arun_do rfl rfl rfl (ex_move (eV (v := (S t0)) rfl)) ?_
  obtain ⟨x1, hx1, h⟩ := bindS h
  refine arun_do rfl rfl rfl (ex_call0 (vs := [(S t0)]) (v := (Value.tuple #[(SL 1 cI x1.1), (I x1.2.1), (Bo x1.2.2)])) rfl en_46 (cargs (evs rfl evs_nil)) rfl (ok_pack_sizes t0 x1 hx1) rfl) ?_
  refine arun_do rfl rfl rfl (ex_move (eV (v := (Value.tuple #[(SL 1 cI x1.1), (I x1.2.1), (Bo x1.2.2)])) rfl)) ?_
  refine arun_do rfl rfl rfl (ex_extract (vx := (Value.tuple #[(SL 1 cI x1.1), (I x1.2.1), (Bo x1.2.2)])) (v := (SL 1 cI x1.1)) rfl rfl) ?_
  refine arun_do rfl rfl rfl (ex_extract (vx := (Value.tuple #[(SL 1 cI x1.1), (I x1.2.1), (Bo x1.2.2)])) (v := (I x1.2.1)) rfl rfl) ?_
  refine arun_do rfl rfl rfl (ex_extract (vx := (Value.tuple #[(SL 1 cI x1.1), (I x1.2.1), (Bo x1.2.2)])) (v := (Bo x1.2.2)) rfl rfl) ?_
  refine arun_do rfl rfl rfl (ex_assign (eV (v := (SL 1 cI x1.1)) rfl)) ?_
  refine arun_do rfl rfl rfl (ex_assign (eV (v := (I x1.2.1)) rfl)) ?_
  refine arun_do rfl rfl rfl (ex_assign (eV (v := (Bo x1.2.2)) rfl)) ?_
  refine arun_keepE [1, 4, 6, 7, 8] 0 0 (st' := ⟨59, 0, [(1, (S t1)), (4, (Value.slice none 0 0)), (6, (Bo x1.2.2)), (7, (SL 1 cI x1.1)), (8, (I x1.2.1))], [], ⟨0, []⟩⟩) (by kernel_rfl) (by kernel_rfl) ?_
  show AWp _ _ _ _
  refine awp_seq ?_
  refine awp_seq ?_
  refine awp_region ?_
  refine arun_do rfl rfl rfl (ex_move (eV (v := (Bo x1.2.2)) rfl)) ?_
  refine arun_do rfl rfl rfl (ex_un (vx := (Bo x1.2.2)) rfl notB_ok) ?_
  refine arun_do rfl rfl rfl (ex_move (eV (v := (Bo (!x1.2.2))) rfl)) ?_
  refine arun_guard (v := (S t1)) ((!x1.2.2) == false) rfl rfl rfl (fun hc => ex_move (eV (v := (S t1)) rfl)) ?_
  refine arun_guard (v := (I (t1.length : Int))) ((!x1.2.2) == false) rfl rfl rfl (fun hc => tx_lenS Try.underlying9 (cond_of hc)) ?_
  refine arun_guard (v := (I x1.2.1)) ((!x1.2.2) == false) rfl rfl rfl (fun hc => ex_move (eV (v := (I x1.2.1)) rfl)) ?_
  refine arun_guard (v := (Bo (decide ((t1.length : Int) < x1.2.1)))) ((!x1.2.2) == false) rfl rfl rfl (fun hc => ex_bin (vx := (I (t1.length : Int))) (vy := (I x1.2.1)) (cond_of hc) (cond_of hc) lssI_ok) ?_
  refine arun_do rfl rfl rfl (ex_pick rfl pkOr) ?_
  refine arun_keepE [1, 4, 7, 27] 0 0 (st' := ⟨59, 0, [(1, (S t1)), (4, (Value.slice none 0 0)), (7, (SL 1 cI x1.1)), (27, (Bo ((!x1.2.2) || (decide ((t1.length : Int) < x1.2.1)))))], [], ⟨0, []⟩⟩) (by kernel_rfl) (by kernel_rfl) ?_
  show AWp _ _ _ _
  rcases Bool.eq_false_or_eq_true ((!x1.2.2) || (decide ((t1.length : Int) < x1.2.1))) with hb2 | hb2
  · rw [condT hb2] at h
    refine awp_condT (boT hb2) ?_
    refine awp_seq ?_
    refine awp_region ?_
    refine arun_do rfl rfl rfl (ex_assign (eV (v := (Value.slice none 0 0)) rfl)) ?_
    refine arun_do rfl rfl rfl (ex_assign (eV (v := (S [])) rfl)) ?_
    refine arun_do rfl rfl rfl (ex_assign (eV (v := (Bo false)) rfl)) ?_
    refine arun_keepE [4, 5, 6] 0 0 (st' := ⟨59, 0, [(4, (Value.slice none 0 0)), (5, (S [])), (6, (Bo false))], [], ⟨0, []⟩⟩) (by kernel_rfl) (by kernel_rfl) ?_
    show AWp _ _ _ _
    refine awp_ret ?_
    cases h
    exact aresN rfl (L2.cons (rtmp rfl (eN rfl)) (L2.cons (rtmp rfl (eV rfl)) (L2.cons (rtmp rfl (eV rfl)) L2.nil))) rfl
  · rw [condF hb2] at h
    refine awp_condF (boF hb2) ?_
    refine awp_skip ?_
    show AWp _ _ _ _
    refine awp_seq ?_
    refine awp_seq ?_
    refine awp_region ?_
    refine arun_do rfl rfl rfl (ex_move (eV (v := (SL 1 cI x1.1)) rfl)) ?_
    refine arun_do rfl rfl rfl (tx_lenD (xs := x1.1) ceI Try.underlying48 rfl) ?_
    refine arun_do rfl rfl rfl (ex_move (eV (v := (I 0)) rfl)) ?_
    refine arun_keepE [1, 4, 28, 29, 30] 0 0 (st' := ⟨59, 0, [(1, (S t1)), (4, (Value.slice none 0 0)), (28, (SL 1 cI x1.1)), (29, (I (x1.1.length : Int))), (30, (I 0))], [], ⟨0, []⟩⟩) (by kernel_rfl) (by kernel_rfl) ?_
    show AWp _ _ _ _
    refine awp_block ?_
    refine awp_nilGro 4 1 rfl (by decide) ?_
    refine awp_keepE [1, 4, 28, 29, 30] 0 1 (st' := ⟨59, 0, [(1, (S t1)), (4, (GV 0 0)), (28, (SL 1 cI x1.1)), (29, (I (x1.1.length : Int))), (30, (I 0))], [], ⟨1, [(0, ⟨1, (([] : List Int).flatMap cI), true⟩)]⟩⟩) (by kernel_rfl) (by kernel_rfl) ?_
    refine awp_loop (fun n s => ∃ (v3 : Str) (v4 : Int) (v5 : List Int), s = ⟨59, 0, [(1, (S v3)), (4, (GV 0 v5.length)), (28, (SL 1 cI x1.1)), (29, (I (x1.1.length : Int))), (30, (I v4))], [], ⟨1, [(0, ⟨1, ((v5).flatMap cI), true⟩)]⟩⟩ ∧ M_pack_Take_l1 x1 n v3 v4 v5 = some r) fuel (Exists.intro t1 (Exists.intro 0 (Exists.intro ([] : List Int) (And.intro rfl h)))) ?_
    rintro n s ⟨v3, v4, v5, rfl, h⟩ -
    cases n with
    | zero => cases h
    | succ n1 =>
      unfold M_pack_Take_l1 at h
      refine awp_seq ?_
      refine awp_region ?_
      refine arun_do rfl rfl rfl (ex_bin (vx := (I v4)) (vy := (I (x1.1.length : Int))) rfl rfl lssI_ok) ?_
      refine arun_keepE [1, 4, 28, 29, 30, 31] 0 1 (st' := ⟨59, 0, [(1, (S v3)), (4, (GV 0 v5.length)), (28, (SL 1 cI x1.1)), (29, (I (x1.1.length : Int))), (30, (I v4)), (31, (Bo (decide (v4 < (x1.1.length : Int)))))], [], ⟨1, [(0, ⟨1, ((v5).flatMap cI), true⟩)]⟩⟩) (by kernel_rfl) (by kernel_rfl) ?_
      show AWp _ _ _ _
      refine awp_seq ?_
      rcases Bool.eq_false_or_eq_true (decide (v4 < (x1.1.length : Int))) with hb6 | hb6
      · rw [condT hb6] at h
        refine awp_condT (boT hb6) ?_
        refine awp_skip ?_
        show AWp _ _ _ _
        refine awp_seq ?_
        refine awp_block ?_
        refine awp_seq ?_
        refine awp_region ?_
        obtain ⟨x7, hx7, h⟩ := bindS h
        refine arun_do rfl rfl rfl (tx_idxD (c := cI) (xs := x1.1) (i := v4) ceI Try.underlying48 s_3 rfl rfl hx7) ?_
        refine arun_do rfl rfl rfl (tx_ldD1 (v := (I x7)) Try.underlying3 rfl rfl rfl) ?_
        refine arun_do rfl rfl rfl (ex_assign (eV (v := (I x7)) rfl)) ?_
        refine arun_keepE [1, 4, 10, 28, 29, 30] 0 1 (st' := ⟨59, 0, [(1, (S v3)), (4, (GV 0 v5.length)), (10, (I x7)), (28, (SL 1 cI x1.1)), (29, (I (x1.1.length : Int))), (30, (I v4))], [], ⟨1, [(0, ⟨1, ((v5).flatMap cI), true⟩)]⟩⟩) (by kernel_rfl) (by kernel_rfl) ?_
        show AWp _ _ _ _
        refine awp_seq ?_
        refine awp_region ?_
        refine arun_do rfl rfl rfl (ex_assign (eV (v := (I 0)) rfl)) ?_
        refine arun_keepE [1, 4, 10, 11, 28, 29, 30] 0 1 (st' := ⟨59, 0, [(1, (S v3)), (4, (GV 0 v5.length)), (10, (I x7)), (11, (I 0)), (28, (SL 1 cI x1.1)), (29, (I (x1.1.length : Int))), (30, (I v4))], [], ⟨1, [(0, ⟨1, ((v5).flatMap cI), true⟩)]⟩⟩) (by kernel_rfl) (by kernel_rfl) ?_
        show AWp _ _ _ _
        refine awp_seq ?_
        refine awp_seq ?_
        refine awp_region ?_
        refine arun_do rfl rfl rfl (ex_move (eV (v := (S v3)) rfl)) ?_
        refine arun_do rfl rfl rfl (ex_move (eV (v := (I x7)) rfl)) ?_
        obtain ⟨x8, hx8, h⟩ := bindS h
        refine arun_do rfl rfl rfl (tx_slS (u := v3) Try.underlying9 rfl lo0 (hiX (l := x7) rfl) hx8) ?_
        refine arun_do rfl rfl rfl (tx_sbD Try.underlying9 Try.underlying34 Try.underlying5 rfl) ?_
        refine arun_do rfl rfl rfl (tx_lenD (xs := x8) ce8 Try.underlying34 rfl) ?_
        refine arun_do rfl rfl rfl (ex_move (eV (v := (I 0)) rfl)) ?_
        refine arun_keepE [1, 4, 10, 11, 28, 29, 30, 37, 38, 39] 0 1 (st' := ⟨59, 0, [(1, (S v3)), (4, (GV 0 v5.length)), (10, (I x7)), (11, (I 0)), (28, (SL 1 cI x1.1)), (29, (I (x1.1.length : Int))), (30, (I v4)), (37, (SL 1 c8 x8)), (38, (I (x8.length : Int))), (39, (I 0))], [], ⟨1, [(0, ⟨1, ((v5).flatMap cI), true⟩)]⟩⟩) (by kernel_rfl) (by kernel_rfl) ?_
        show AWp _ _ _ _
        refine awp_block ?_
        refine awp_loop (fun n s => ∃ (v9 : Int) (v10 : Int), s = ⟨59, 0, [(1, (S v3)), (4, (GV 0 v5.length)), (10, (I x7)), (11, (I v9)), (28, (SL 1 cI x1.1)), (29, (I (x1.1.length : Int))), (30, (I v4)), (37, (SL 1 c8 x8)), (38, (I (x8.length : Int))), (39, (I v10))], [], ⟨1, [(0, ⟨1, ((v5).flatMap cI), true⟩)]⟩⟩ ∧ M_pack_Take_l2 (M_pack_Take_l1 x1 n1) x1 v3 v4 v5 x7 x8 n v9 v10 = some r) fuel (Exists.intro 0 (Exists.intro 0 (And.intro rfl h))) ?_
        rintro n s ⟨v9, v10, rfl, h⟩ -
        cases n with
        | zero => cases h
        | succ n2 =>
          unfold M_pack_Take_l2 at h
          refine awp_seq ?_
          refine awp_region ?_
          refine arun_do rfl rfl rfl (ex_bin (vx := (I v10)) (vy := (I (x8.length : Int))) rfl rfl lssI_ok) ?_
          refine arun_keepE [1, 4, 10, 11, 28, 29, 30, 37, 38, 39, 40] 0 1 (st' := ⟨59, 0, [(1, (S v3)), (4, (GV 0 v5.length)), (10, (I x7)), (11, (I v9)), (28, (SL 1 cI x1.1)), (29, (I (x1.1.length : Int))), (30, (I v4)), (37, (SL 1 c8 x8)), (38, (I (x8.length : Int))), (39, (I v10)), (40, (Bo (decide (v10 < (x8.length : Int)))))], [], ⟨1, [(0, ⟨1, ((v5).flatMap cI), true⟩)]⟩⟩) (by kernel_rfl) (by kernel_rfl) ?_
          show AWp _ _ _ _
          refine awp_seq ?_
          rcases Bool.eq_false_or_eq_true (decide (v10 < (x8.length : Int))) with hb11 | hb11
          · rw [condT hb11] at h
            refine awp_condT (boT hb11) ?_
            refine awp_skip ?_
            show AWp _ _ _ _
            refine awp_seq ?_
            refine awp_block ?_
            refine awp_seq ?_
            refine awp_region ?_
            obtain ⟨x12, hx12, h⟩ := bindS h
            refine arun_do rfl rfl rfl (tx_idxD (c := c8) (xs := x8) (i := v10) ce8 Try.underlying34 s_5 rfl rfl hx12) ?_
            refine arun_do rfl rfl rfl (tx_ldD1 (v := (U8 x12)) Try.underlying5 rfl rfl rfl) ?_
            refine arun_do rfl rfl rfl (ex_assign (eV (v := (U8 x12)) rfl)) ?_
            refine arun_keepE [1, 4, 10, 11, 13, 28, 29, 30, 37, 38, 39] 0 1 (st' := ⟨59, 0, [(1, (S v3)), (4, (GV 0 v5.length)), (10, (I x7)), (11, (I v9)), (13, (U8 x12)), (28, (SL 1 cI x1.1)), (29, (I (x1.1.length : Int))), (30, (I v4)), (37, (SL 1 c8 x8)), (38, (I (x8.length : Int))), (39, (I v10))], [], ⟨1, [(0, ⟨1, ((v5).flatMap cI), true⟩)]⟩⟩) (by kernel_rfl) (by kernel_rfl) ?_
            show AWp _ _ _ _
            refine awp_region ?_
            refine arun_do rfl rfl rfl (ex_move (eV (v := (I v9)) rfl)) ?_
            obtain ⟨x13, hx13, h⟩ := bindS h
            refine arun_do rfl rfl rfl (ex_bin (vx := (I v9)) (vy := (U64 8)) rfl rfl (shlI_ok hx13)) ?_
            refine arun_do rfl rfl rfl (ex_move (eV (v := (U8 x12)) rfl)) ?_
            refine arun_do rfl rfl rfl (tx_8_64 Try.underlying5 Try.underlying3 rfl) ?_
            refine arun_do rfl rfl rfl (ex_bin (vx := (I x13)) (vy := (I (x12.toNat : Int))) rfl rfl orI_ok) ?_
            refine arun_do rfl rfl rfl (ex_assign (eV (v := (I (orI x13 (x12.toNat : Int)))) rfl)) ?_
            refine arun_keepE [1, 4, 10, 11, 28, 29, 30, 37, 38, 39] 0 1 (st' := ⟨59, 0, [(1, (S v3)), (4, (GV 0 v5.length)), (10, (I x7)), (11, (I (orI x13 (x12.toNat : Int)))), (28, (SL 1 cI x1.1)), (29, (I (x1.1.length : Int))), (30, (I v4)), (37, (SL 1 c8 x8)), (38, (I (x8.length : Int))), (39, (I v10))], [], ⟨1, [(0, ⟨1, ((v5).flatMap cI), true⟩)]⟩⟩) (by kernel_rfl) (by kernel_rfl) ?_
            show AWp _ _ _ _
            refine awp_region ?_
            refine arun_do rfl rfl rfl (ex_bin (vx := (I v10)) (vy := (I 1)) rfl rfl addI_ok) ?_
            refine arun_do rfl rfl rfl (ex_move (eV (v := (I (w64 (v10 + 1)))) rfl)) ?_
            refine arun_keepE [1, 4, 10, 11, 28, 29, 30, 37, 38, 39] 0 1 (st' := ⟨59, 0, [(1, (S v3)), (4, (GV 0 v5.length)), (10, (I x7)), (11, (I (orI x13 (x12.toNat : Int)))), (28, (SL 1 cI x1.1)), (29, (I (x1.1.length : Int))), (30, (I v4)), (37, (SL 1 c8 x8)), (38, (I (x8.length : Int))), (39, (I (w64 (v10 + 1))))], [], ⟨1, [(0, ⟨1, ((v5).flatMap cI), true⟩)]⟩⟩) (by kernel_rfl) (by kernel_rfl) ?_
            exact Exists.intro n2 (And.intro (Nat.lt_succ_self _) (Exists.intro (orI x13 (x12.toNat : Int)) (Exists.intro (w64 (v10 + 1)) (And.intro rfl h))))
          · rw [condF hb11] at h
            refine awp_condF (boF hb11) ?_
            refine awp_exit ?_
            show AWp _ _ _ _
            obtain ⟨x14, hx14, h⟩ := bindS h
            obtain ⟨x15, hx15, h⟩ := bindS h
            refine awp_kn [1, 4, 28, 29, 30] 0 1 (st' := ⟨59, 0, [(1, (S x15)), (4, (GV 0 x14.length)), (28, (SL 1 cI x1.1)), (29, (I (x1.1.length : Int))), (30, (I v4))], [], ⟨1, [(0, ⟨1, ((x14).flatMap cI), true⟩)]⟩⟩) (awp_draw (T := [(GV 0 v5.length), (I v9), (SL 1 cI ([v9] : List Int)), (GV 0 x14.length), (S v3), (I x7), (S x15), (GV 0 x14.length), (S x15)]) (LH := [([], ⟨1, [(0, ⟨1, ((v5).flatMap cI), true⟩)]⟩), ([], ⟨1, [(0, ⟨1, ((x14).flatMap cI), true⟩)]⟩)]) (D := [⟨[(4, none)], [], [0], false⟩, ⟨[(11, none)], [], [0], false⟩, ⟨[(50, some 1)], [1], [0], false⟩, ⟨[(49, some 0), (51, some 2)], [0, 1, 2], [0], true⟩, ⟨[(1, none)], [], [0, 1], false⟩, ⟨[(10, none)], [], [0, 1], false⟩, ⟨[(53, some 4), (54, some 5)], [4, 5], [0, 1], false⟩, ⟨[(52, some 3)], [0, 1, 2, 3], [1], false⟩, ⟨[(55, some 6)], [0, 1, 2, 3, 4, 5, 6, 7], [1], false⟩]) (S := [3]) (plan := [0, 1, 2, 3, 4, 5, 6, 7, 8]) mo (by kernel_rfl) rfl rfl rfl (dcons (dstep1 (Tm := [(4, (GV 0 v5.length))]) (L := []) (H := ⟨1, [(0, ⟨1, ((v5).flatMap cI), true⟩)]⟩) rfl rfl rfl rfl rfl (astep_do rfl (ex_move (eV (v := (GV 0 v5.length)) rfl)))) (dcons (dstep1 (Tm := [(11, (I v9))]) (L := []) (H := ⟨1, [(0, ⟨1, ((v5).flatMap cI), true⟩)]⟩) rfl rfl rfl rfl rfl (astep_do rfl (ex_move (eV (v := (I v9)) rfl)))) (dcons (dstep1 (Tm := [(50, (I v9))]) (L := []) (H := ⟨1, [(0, ⟨1, ((v5).flatMap cI), true⟩)]⟩) rfl rfl rfl rfl rfl (astep_do rfl (ex_buildSliceD (qs := [(0, (I v9))]) (cells := (([v9] : List Int).flatMap cI)) Try.underlying48 s_3 (by decide) (evp rfl evp_nil) rfl (by kernel_rfl) (by kernel_rfl) (by kernel_rfl)))) (dcons (dstep1 (Tm := [(49, (GV 0 v5.length)), (51, (SL 1 cI ([v9] : List Int)))]) (L := []) (H := ⟨1, [(0, ⟨1, ((v5).flatMap cI), true⟩)]⟩) rfl rfl rfl rfl rfl (astep_do rfl (tx_appG (c := cI) (xs := v5) (H' := ⟨1, [(0, ⟨1, ((x14).flatMap cI), true⟩)]⟩) ceI e_3 rfl rfl rfl (tsrcD (ys := ([v9] : List Int)) ceI Try.underlying48 s_3 Try.underlying48 rfl) hx14 rfl))) (dcons (dstepN (by intro k hk; simp only [List.mem_cons, List.not_mem_nil, or_false] at hk; rcases hk with rfl | rfl <;> exact ⟨[(1, (S v3))], _, _, _, _, _, rfl, rfl, rfl, rfl, astep_do rfl (ex_move (eV (v := (S v3)) rfl))⟩)) (dcons (dstepN (by intro k hk; simp only [List.mem_cons, List.not_mem_nil, or_false] at hk; rcases hk with rfl | rfl <;> exact ⟨[(10, (I x7))], _, _, _, _, _, rfl, rfl, rfl, rfl, astep_do rfl (ex_move (eV (v := (I x7)) rfl))⟩)) (dcons (dstepN (by intro k hk; simp only [List.mem_cons, List.not_mem_nil, or_false] at hk; rcases hk with rfl | rfl <;> exact ⟨[(53, (S v3)), (54, (I x7))], _, _, _, _, _, rfl, rfl, rfl, rfl, astep_do rfl (tx_slS (u := v3) Try.underlying9 rfl (loX (l := x7) rfl) hiN hx15)⟩)) (dcons (dstep1 (Tm := [(52, (GV 0 x14.length))]) (L := []) (H := ⟨1, [(0, ⟨1, ((x14).flatMap cI), true⟩)]⟩) rfl rfl rfl rfl rfl (astep_do rfl (ex_assign (eV (v := (GV 0 x14.length)) rfl)))) (dcons (dstep1 (Tm := [(55, (S x15))]) (L := []) (H := ⟨1, [(0, ⟨1, ((x14).flatMap cI), true⟩)]⟩) rfl rfl rfl rfl rfl (astep_do rfl (ex_assign (eV (v := (S x15)) rfl)))) dnil))))))))) ⟨rfl, rfl⟩) (by kernel_rfl) (by kernel_rfl) ?_
            show AWp _ _ _ _
            refine awp_region ?_
            refine arun_do rfl rfl rfl (ex_bin (vx := (I v4)) (vy := (I 1)) rfl rfl addI_ok) ?_
            refine arun_do rfl rfl rfl (ex_move (eV (v := (I (w64 (v4 + 1)))) rfl)) ?_
            refine arun_keepE [1, 4, 28, 29, 30] 0 1 (st' := ⟨59, 0, [(1, (S x15)), (4, (GV 0 x14.length)), (28, (SL 1 cI x1.1)), (29, (I (x1.1.length : Int))), (30, (I (w64 (v4 + 1))))], [], ⟨1, [(0, ⟨1, ((x14).flatMap cI), true⟩)]⟩⟩) (by kernel_rfl) (by kernel_rfl) ?_
            exact Exists.intro n1 (And.intro (Nat.lt_succ_self _) (Exists.intro x15 (Exists.intro (w64 (v4 + 1)) (Exists.intro x14 (And.intro rfl h)))))
      · rw [condF hb6] at h
        refine awp_condF (boF hb6) ?_
        refine awp_exit ?_
        show AWp _ _ _ _
        refine awp_seq ?_
        refine awp_region ?_
        refine arun_do rfl rfl rfl (ex_move (eV (v := (GV 0 v5.length)) rfl)) ?_
        refine arun_do rfl rfl rfl (ex_move (eV (v := (S v3)) rfl)) ?_
        refine arun_do rfl rfl rfl (ex_assign (eV (v := (GV 0 v5.length)) rfl)) ?_
        refine arun_do rfl rfl rfl (ex_assign (eV (v := (S v3)) rfl)) ?_
        refine arun_do rfl rfl rfl (ex_assign (eV (v := (Bo true)) rfl)) ?_
        refine arun_keepE [4, 5, 6] 0 1 (st' := ⟨59, 0, [(4, (GV 0 v5.length)), (5, (S v3)), (6, (Bo true))], [], ⟨1, [(0, ⟨1, ((v5).flatMap cI), true⟩)]⟩⟩) (by kernel_rfl) (by kernel_rfl) ?_
        show AWp _ _ _ _
        refine awp_freeze 0 (bk := ⟨1, ((v5).flatMap cI), true⟩) (T' := [(4, (SL 1 cI v5)), (5, (S v3)), (6, (Bo true))]) (L' := []) rfl (fzG ceI rfl rfl (FzT.keep (v := (S v3)) rfl (FzT.keep (v := (Bo true)) rfl FzT.nil))) (FzL.refl _) ?_
        show AWp _ _ _ ⟨59, 0, [(4, (SL 1 cI v5)), (5, (S v3)), (6, (Bo true))], [], ⟨1, []⟩⟩
        refine awp_ret ?_
        cases h
        exact aresN rfl (L2.cons (rtmp rfl (eV rfl)) (L2.cons (rtmp rfl (eV rfl)) (L2.cons (rtmp rfl (eV rfl)) L2.nil))) rfl

end Go.Proofs
