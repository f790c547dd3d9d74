/- Pure models of functions of the program, and that its code does what they say: palimplaw5 BlockForms. Written by a program. -/
import Derived.Test.YtjpgcfniahaelaaR51
import Derived.Test.YtjpgcfniahaelaaR52
import Derived.Test.YtjpgcfniahaelaaR55
import Derived.Test.YtjpgcfniahaelaaR5B
set_option maxRecDepth 20000
set_option maxHeartbeats 4000000
namespace Go.Proofs
open Go Go.Fhl
set_option linter.unusedVariables false
set_option linter.unusedSimpArgs false
noncomputable def M_law5_BlockForms_l2 (c_1 : (Int → Option Bool)) (x4 : Str) : Nat → Int → Option Bool
  | 0, _ => none
  | n2 + 1, v14 =>
  cond (decide (v14 < (([(G_api_Block.mk 0 0 []), (G_api_Block.mk 1 0 []), (G_api_Block.mk 7 1 []), (G_api_Block.mk (-1) 1 []), (G_api_Block.mk 1 (-1) []), (G_api_Block.mk 1 1073741825 []), (G_api_Block.mk 1 1 x4)] : List G_api_Block).length : Int))) (Option.bind (getI ([(G_api_Block.mk 0 0 []), (G_api_Block.mk 1 0 []), (G_api_Block.mk 7 1 []), (G_api_Block.mk (-1) 1 []), (G_api_Block.mk 1 (-1) []), (G_api_Block.mk 1 1073741825 []), (G_api_Block.mk 1 1 x4)] : List G_api_Block) v14) fun (x16 : G_api_Block) => Option.bind (M_block_May x16) fun (x17 : Bool) => Option.bind (gd (x17 == false) (getI ([(G_api_Block.mk 0 0 []), (G_api_Block.mk 1 0 []), (G_api_Block.mk 7 1 []), (G_api_Block.mk (-1) 1 []), (G_api_Block.mk 1 (-1) []), (G_api_Block.mk 1 1073741825 []), (G_api_Block.mk 1 1 x4)] : List G_api_Block) v14)) fun (x18 : G_api_Block) => Option.bind (gd (x17 == false) (M_block_Put x18)) fun (x19 : Str) => cond (x17 || (x19 != [])) (some false) ((M_law5_BlockForms_l2 c_1 x4 n2) (w64 (v14 + 1)))) (Option.bind (M_block_Put (G_api_Block.mk 2 1 ([97, 98] : Str))) fun (x21 : Str) => Option.bind (slL x21 0 255) fun (x22 : Str) => Option.bind (M_block_Take x22) fun (x23 : (G_api_Block × Bool)) => Option.bind (slL x21 0 255) fun (x24 : Str) => Option.bind (addS x24 ([120] : Str)) fun (x25 : Str) => Option.bind (M_block_Take x25) fun (x26 : (G_api_Block × Bool)) => Option.bind (M_block_Read (G_api_Dev.mk [] [] 0 0 false) (G_api_Ptr.mk 0 0 (A4.mk 0 0 0 0)) 1) fun (x27 : (Str × Bool)) => Option.bind (gd (((x21.length : Int) == 256) == true) (slL x21 0 9)) fun (x28 : Str) => some ((((((x21.length : Int) == 256) && (x28 == ([2, 0, 0, 0, 1, 0, 2, 97, 98] : Str))) && (!x23.2)) && (!x26.2)) && (!x27.2)))
noncomputable def M_law5_BlockForms_l1 (x3 : List UInt8) (x4 : Str) : Nat → Int → Option Bool
  | 0, _ => none
  | n1 + 1, v5 =>
  cond (decide (v5 < (([(G_api_Block.mk 1 1 []), (G_api_Block.mk 6 1073741824 x3), (G_api_Block.mk 3 7 ([120] : Str))] : List G_api_Block).length : Int))) (Option.bind (getI ([(G_api_Block.mk 1 1 []), (G_api_Block.mk 6 1073741824 x3), (G_api_Block.mk 3 7 ([120] : Str))] : List G_api_Block) v5) fun (x7 : G_api_Block) => Option.bind (M_block_Put x7) fun (x8 : Str) => Option.bind (M_block_Take x8) fun (x9 : (G_api_Block × Bool)) => Option.bind (getI ([(G_api_Block.mk 1 1 []), (G_api_Block.mk 6 1073741824 x3), (G_api_Block.mk 3 7 ([120] : Str))] : List G_api_Block) v5) fun (x10 : G_api_Block) => Option.bind (M_block_May x10) fun (x11 : Bool) => Option.bind (gd (((!x11) || (!x9.2)) == false) (getI ([(G_api_Block.mk 1 1 []), (G_api_Block.mk 6 1073741824 x3), (G_api_Block.mk 3 7 ([120] : Str))] : List G_api_Block) v5)) fun (x12 : G_api_Block) => cond (((!x11) || (!x9.2)) || (!decide (x9.1 = x12))) (some false) ((M_law5_BlockForms_l1 x3 x4 n1) (w64 (v5 + 1)))) (M_law5_BlockForms_l2 (M_law5_BlockForms_l1 x3 x4 n1) x4 fuel 0)
noncomputable def M_law5_BlockForms : Option Bool :=
  Option.bind (M_law5_begun) fun (x1 : Bool) => cond (!x1) (some false) (Option.bind (makeL 1 249 0) fun (x3 : List UInt8) => Option.bind (addS x3 ([120] : Str)) fun (x4 : Str) => M_law5_BlockForms_l1 x3 x4 fuel 0)
theorem ok_law5_BlockForms (r : Bool) (h : M_law5_BlockForms = some r) : FFn Try.prog 5 [] (Bo r) := by
  refine FFn.of_body (n := 127) Try.func5 rfl Try.ntmps5 rfl rfl rfl rfl ?_
  show AWp _ _ _ ⟨127, 0, [], [], ⟨0, []⟩⟩
  unfold M_law5_BlockForms at h
  refine awp_seq ?_
  refine awp_region ?_
  refine arun_do rfl rfl rfl (ex_assign (eV (v := (Bo false)) rfl)) ?_
  refine arun_keepE [] 0 0 (st' := ⟨127, 0, [], [], ⟨0, []⟩⟩) (by kernel_rfl) (by kernel_rfl) ?_
  show AWp _ _ _ _
  refine awp_seq ?_
  refine awp_seq ?_
  refine awp_region ?_
  obtain ⟨x1, hx1, h⟩ := bindS h
  refine arun_do rfl rfl rfl (ex_call0 (vs := []) (v := (Bo x1)) rfl en_8 (cargs evs_nil) rfl (ok_law5_begun  x1 hx1) rfl) ?_
  refine arun_do rfl rfl rfl (ex_un (vx := (Bo x1)) rfl notB_ok) ?_
  refine arun_keepE [16] 0 0 (st' := ⟨127, 0, [(16, (Bo (!x1)))], [], ⟨0, []⟩⟩) (by kernel_rfl) (by kernel_rfl) ?_
  show AWp _ _ _ _
  rcases Bool.eq_false_or_eq_true (!x1) with hb2 | hb2
  · rw [condT hb2] at h
    refine awp_condT (boT hb2) ?_
    refine awp_seq ?_
    refine awp_region ?_
    refine arun_do rfl rfl rfl (ex_assign (eV (v := (Bo false)) rfl)) ?_
    refine arun_keepE [0] 0 0 (st' := ⟨127, 0, [(0, (Bo false))], [], ⟨0, []⟩⟩) (by kernel_rfl) (by kernel_rfl) ?_
    show AWp _ _ _ _
    refine awp_ret ?_
    cases h
    exact ares1 (rtmp rfl (eV rfl))
  · rw [condF hb2] at h
    refine awp_condF (boF hb2) ?_
    refine awp_skip ?_
    show AWp _ _ _ _
    refine awp_seq ?_
    refine awp_region ?_
    obtain ⟨x3, hx3, h⟩ := bindS h
    refine arun_do rfl rfl rfl (tx_makeD (c := c8) (e := 0) ce8 Try.underlying34 s_5 b_5 z_5 rfl rfl rfl rfl hx3) ?_
    refine arun_do rfl rfl rfl (tx_bsD (bs := x3) Try.underlying34 Try.underlying9 Try.underlying5 rfl) ?_
    refine arun_do rfl rfl rfl (ex_assign (eV (v := (S x3)) rfl)) ?_
    refine arun_keepE [1] 0 0 (st' := ⟨127, 0, [(1, (S x3))], [], ⟨0, []⟩⟩) (by kernel_rfl) (by kernel_rfl) ?_
    show AWp _ _ _ _
    refine awp_seq ?_
    refine awp_region ?_
    refine arun_do rfl rfl rfl (ex_build (qs := [(0, (I 1)), (1, (I 1))]) (v := (Value.agg (c_api_Block (G_api_Block.mk 1 1 [])).toArray)) (evp rfl (evp rfl evp_nil)) (by kernel_rfl)) ?_
    refine arun_do rfl rfl rfl (ex_move (eV (v := (S x3)) rfl)) ?_
    refine arun_do rfl rfl rfl (ex_build (qs := [(0, (I 6)), (1, (I 1073741824)), (2, (S x3))]) (v := (Value.agg (c_api_Block (G_api_Block.mk 6 1073741824 x3)).toArray)) (evp rfl (evp rfl (evp rfl evp_nil))) (by kernel_rfl)) ?_
    refine arun_do rfl rfl rfl (ex_build (qs := [(0, (I 3)), (1, (I 7)), (2, (S ([120] : Str)))]) (v := (Value.agg (c_api_Block (G_api_Block.mk 3 7 ([120] : Str))).toArray)) (evp rfl (evp rfl (evp rfl evp_nil))) (by kernel_rfl)) ?_
    refine arun_do rfl rfl rfl (ex_buildSliceD (qs := [(0, (Value.agg (c_api_Block (G_api_Block.mk 1 1 [])).toArray)), (1, (Value.agg (c_api_Block (G_api_Block.mk 6 1073741824 x3)).toArray)), (2, (Value.agg (c_api_Block (G_api_Block.mk 3 7 ([120] : Str))).toArray))]) (cells := (([(G_api_Block.mk 1 1 []), (G_api_Block.mk 6 1073741824 x3), (G_api_Block.mk 3 7 ([120] : Str))] : List G_api_Block).flatMap c_api_Block)) Try.underlying57 s_23 (by decide) (evp rfl (evp rfl (evp rfl evp_nil))) rfl (by kernel_rfl) (by kernel_rfl) (by kernel_rfl)) ?_
    refine arun_do rfl rfl rfl (ex_assign (eV (v := (SL 3 c_api_Block ([(G_api_Block.mk 1 1 []), (G_api_Block.mk 6 1073741824 x3), (G_api_Block.mk 3 7 ([120] : Str))] : List G_api_Block))) rfl)) ?_
    refine arun_keepE [1, 2] 0 0 (st' := ⟨127, 0, [(1, (S x3)), (2, (SL 3 c_api_Block ([(G_api_Block.mk 1 1 []), (G_api_Block.mk 6 1073741824 x3), (G_api_Block.mk 3 7 ([120] : Str))] : List G_api_Block)))], [], ⟨0, []⟩⟩) (by kernel_rfl) (by kernel_rfl) ?_
    show AWp _ _ _ _
    refine awp_seq ?_
    refine awp_region ?_
    refine arun_do rfl rfl rfl (ex_build (qs := []) (v := (Value.agg (c_api_Block (G_api_Block.mk 0 0 [])).toArray)) evp_nil (by kernel_rfl)) ?_
    refine arun_do rfl rfl rfl (ex_build (qs := [(0, (I 1))]) (v := (Value.agg (c_api_Block (G_api_Block.mk 1 0 [])).toArray)) (evp rfl evp_nil) (by kernel_rfl)) ?_
    refine arun_do rfl rfl rfl (ex_build (qs := [(0, (I 7)), (1, (I 1))]) (v := (Value.agg (c_api_Block (G_api_Block.mk 7 1 [])).toArray)) (evp rfl (evp rfl evp_nil)) (by kernel_rfl)) ?_
    refine arun_do rfl rfl rfl (ex_build (qs := [(0, (I (-1))), (1, (I 1))]) (v := (Value.agg (c_api_Block (G_api_Block.mk (-1) 1 [])).toArray)) (evp rfl (evp rfl evp_nil)) (by kernel_rfl)) ?_
    refine arun_do rfl rfl rfl (ex_build (qs := [(0, (I 1)), (1, (I (-1)))]) (v := (Value.agg (c_api_Block (G_api_Block.mk 1 (-1) [])).toArray)) (evp rfl (evp rfl evp_nil)) (by kernel_rfl)) ?_
    refine arun_do rfl rfl rfl (ex_build (qs := [(0, (I 1)), (1, (I 1073741825))]) (v := (Value.agg (c_api_Block (G_api_Block.mk 1 1073741825 [])).toArray)) (evp rfl (evp rfl evp_nil)) (by kernel_rfl)) ?_
    refine arun_do rfl rfl rfl (ex_move (eV (v := (S x3)) rfl)) ?_
    obtain ⟨x4, hx4, h⟩ := bindS h
    refine arun_do rfl rfl rfl (ex_bin (vx := (S x3)) (vy := (S ([120] : Str))) rfl rfl (addS_ok hx4)) ?_
    refine arun_do rfl rfl rfl (ex_build (qs := [(0, (I 1)), (1, (I 1)), (2, (S x4))]) (v := (Value.agg (c_api_Block (G_api_Block.mk 1 1 x4)).toArray)) (evp rfl (evp rfl (evp rfl evp_nil))) (by kernel_rfl)) ?_
    refine arun_do rfl rfl rfl (ex_buildSliceD (qs := [(0, (Value.agg (c_api_Block (G_api_Block.mk 0 0 [])).toArray)), (1, (Value.agg (c_api_Block (G_api_Block.mk 1 0 [])).toArray)), (2, (Value.agg (c_api_Block (G_api_Block.mk 7 1 [])).toArray)), (3, (Value.agg (c_api_Block (G_api_Block.mk (-1) 1 [])).toArray)), (4, (Value.agg (c_api_Block (G_api_Block.mk 1 (-1) [])).toArray)), (5, (Value.agg (c_api_Block (G_api_Block.mk 1 1073741825 [])).toArray)), (6, (Value.agg (c_api_Block (G_api_Block.mk 1 1 x4)).toArray))]) (cells := (([(G_api_Block.mk 0 0 []), (G_api_Block.mk 1 0 []), (G_api_Block.mk 7 1 []), (G_api_Block.mk (-1) 1 []), (G_api_Block.mk 1 (-1) []), (G_api_Block.mk 1 1073741825 []), (G_api_Block.mk 1 1 x4)] : List G_api_Block).flatMap c_api_Block)) Try.underlying57 s_23 (by decide) (evp rfl (evp rfl (evp rfl (evp rfl (evp rfl (evp rfl (evp rfl evp_nil))))))) rfl (by kernel_rfl) (by kernel_rfl) (by kernel_rfl)) ?_
    refine arun_do rfl rfl rfl (ex_assign (eV (v := (SL 3 c_api_Block ([(G_api_Block.mk 0 0 []), (G_api_Block.mk 1 0 []), (G_api_Block.mk 7 1 []), (G_api_Block.mk (-1) 1 []), (G_api_Block.mk 1 (-1) []), (G_api_Block.mk 1 1073741825 []), (G_api_Block.mk 1 1 x4)] : List G_api_Block))) rfl)) ?_
    refine arun_keepE [2, 3] 0 0 (st' := ⟨127, 0, [(2, (SL 3 c_api_Block ([(G_api_Block.mk 1 1 []), (G_api_Block.mk 6 1073741824 x3), (G_api_Block.mk 3 7 ([120] : Str))] : List G_api_Block))), (3, (SL 3 c_api_Block ([(G_api_Block.mk 0 0 []), (G_api_Block.mk 1 0 []), (G_api_Block.mk 7 1 []), (G_api_Block.mk (-1) 1 []), (G_api_Block.mk 1 (-1) []), (G_api_Block.mk 1 1073741825 []), (G_api_Block.mk 1 1 x4)] : List G_api_Block)))], [], ⟨0, []⟩⟩) (by kernel_rfl) (by kernel_rfl) ?_
    show AWp _ _ _ _
    refine awp_seq ?_
    refine awp_seq ?_
    refine awp_region ?_
    refine arun_do rfl rfl rfl (ex_assign (eV (v := (I 0)) rfl)) ?_
    refine arun_keepE [2, 3, 4] 0 0 (st' := ⟨127, 0, [(2, (SL 3 c_api_Block ([(G_api_Block.mk 1 1 []), (G_api_Block.mk 6 1073741824 x3), (G_api_Block.mk 3 7 ([120] : Str))] : List G_api_Block))), (3, (SL 3 c_api_Block ([(G_api_Block.mk 0 0 []), (G_api_Block.mk 1 0 []), (G_api_Block.mk 7 1 []), (G_api_Block.mk (-1) 1 []), (G_api_Block.mk 1 (-1) []), (G_api_Block.mk 1 1073741825 []), (G_api_Block.mk 1 1 x4)] : List G_api_Block))), (4, (I 0))], [], ⟨0, []⟩⟩) (by kernel_rfl) (by kernel_rfl) ?_
    show AWp _ _ _ _
    refine awp_block ?_
    refine awp_loop (fun n s => ∃ (v5 : Int), s = ⟨127, 0, [(2, (SL 3 c_api_Block ([(G_api_Block.mk 1 1 []), (G_api_Block.mk 6 1073741824 x3), (G_api_Block.mk 3 7 ([120] : Str))] : List G_api_Block))), (3, (SL 3 c_api_Block ([(G_api_Block.mk 0 0 []), (G_api_Block.mk 1 0 []), (G_api_Block.mk 7 1 []), (G_api_Block.mk (-1) 1 []), (G_api_Block.mk 1 (-1) []), (G_api_Block.mk 1 1073741825 []), (G_api_Block.mk 1 1 x4)] : List G_api_Block))), (4, (I v5))], [], ⟨0, []⟩⟩ ∧ M_law5_BlockForms_l1 x3 x4 n v5 = some r) fuel (Exists.intro 0 (And.intro rfl h)) ?_
    rintro n s ⟨v5, rfl, h⟩ -
    cases n with
    | zero => cases h
    | succ n1 =>
      unfold M_law5_BlockForms_l1 at h
      refine awp_seq ?_
      refine awp_seq ?_
      refine awp_region ?_
      refine arun_do rfl rfl rfl (ex_move (eV (v := (I v5)) rfl)) ?_
      refine arun_do rfl rfl rfl (ex_move (eV (v := (SL 3 c_api_Block ([(G_api_Block.mk 1 1 []), (G_api_Block.mk 6 1073741824 x3), (G_api_Block.mk 3 7 ([120] : Str))] : List G_api_Block))) rfl)) ?_
      refine arun_do rfl rfl rfl (tx_lenD (xs := ([(G_api_Block.mk 1 1 []), (G_api_Block.mk 6 1073741824 x3), (G_api_Block.mk 3 7 ([120] : Str))] : List G_api_Block)) ce_api_Block Try.underlying57 rfl) ?_
      refine arun_do rfl rfl rfl (ex_bin (vx := (I v5)) (vy := (I (([(G_api_Block.mk 1 1 []), (G_api_Block.mk 6 1073741824 x3), (G_api_Block.mk 3 7 ([120] : Str))] : List G_api_Block).length : Int))) rfl rfl lssI_ok) ?_
      refine arun_keepE [2, 3, 4, 37] 0 0 (st' := ⟨127, 0, [(2, (SL 3 c_api_Block ([(G_api_Block.mk 1 1 []), (G_api_Block.mk 6 1073741824 x3), (G_api_Block.mk 3 7 ([120] : Str))] : List G_api_Block))), (3, (SL 3 c_api_Block ([(G_api_Block.mk 0 0 []), (G_api_Block.mk 1 0 []), (G_api_Block.mk 7 1 []), (G_api_Block.mk (-1) 1 []), (G_api_Block.mk 1 (-1) []), (G_api_Block.mk 1 1073741825 []), (G_api_Block.mk 1 1 x4)] : List G_api_Block))), (4, (I v5)), (37, (Bo (decide (v5 < (([(G_api_Block.mk 1 1 []), (G_api_Block.mk 6 1073741824 x3), (G_api_Block.mk 3 7 ([120] : Str))] : List G_api_Block).length : Int)))))], [], ⟨0, []⟩⟩) (by kernel_rfl) (by kernel_rfl) ?_
      show AWp _ _ _ _
      rcases Bool.eq_false_or_eq_true (decide (v5 < (([(G_api_Block.mk 1 1 []), (G_api_Block.mk 6 1073741824 x3), (G_api_Block.mk 3 7 ([120] : Str))] : List G_api_Block).length : Int))) with hb6 | hb6
      · rw [condT hb6] at h
        refine awp_condT (boT hb6) ?_
        refine awp_skip ?_
        show AWp _ _ _ _
        refine awp_seq ?_
        refine awp_block ?_
        refine awp_seq ?_
        refine awp_region ?_
        refine arun_do rfl rfl rfl (ex_move (eV (v := (SL 3 c_api_Block ([(G_api_Block.mk 1 1 []), (G_api_Block.mk 6 1073741824 x3), (G_api_Block.mk 3 7 ([120] : Str))] : List G_api_Block))) rfl)) ?_
        refine arun_do rfl rfl rfl (ex_move (eV (v := (I v5)) rfl)) ?_
        obtain ⟨x7, hx7, h⟩ := bindS h
        refine arun_do rfl rfl rfl (tx_idxD (c := c_api_Block) (xs := ([(G_api_Block.mk 1 1 []), (G_api_Block.mk 6 1073741824 x3), (G_api_Block.mk 3 7 ([120] : Str))] : List G_api_Block)) (i := v5) ce_api_Block Try.underlying57 s_23 rfl rfl hx7) ?_
        refine arun_do rfl rfl rfl (tx_ldDA (vs := (c_api_Block x7)) Try.underlying23 rfl s_23 (by decide) rfl (Nat.le_of_ble_eq_true rfl) rfl) ?_
        obtain ⟨x8, hx8, h⟩ := bindS h
        refine arun_do rfl rfl rfl (ex_call0 (vs := [(Value.agg (c_api_Block x7).toArray)]) (v := (S x8)) rfl en_12 (cargs (evs rfl evs_nil)) rfl (ok_block_Put x7 x8 hx8) rfl) ?_
        obtain ⟨x9, hx9, h⟩ := bindS h
        refine arun_do rfl rfl rfl (ex_call0 (vs := [(S x8)]) (v := (Value.tuple #[(Value.agg (c_api_Block x9.1).toArray), (Bo x9.2)])) rfl en_16 (cargs (evs rfl evs_nil)) rfl (ok_block_Take x8 x9 hx9) rfl) ?_
        refine arun_do rfl rfl rfl (ex_move (eV (v := (Value.tuple #[(Value.agg (c_api_Block x9.1).toArray), (Bo x9.2)])) rfl)) ?_
        refine arun_do rfl rfl rfl (ex_extract (vx := (Value.tuple #[(Value.agg (c_api_Block x9.1).toArray), (Bo x9.2)])) (v := (Value.agg (c_api_Block x9.1).toArray)) rfl rfl) ?_
        refine arun_do rfl rfl rfl (ex_extract (vx := (Value.tuple #[(Value.agg (c_api_Block x9.1).toArray), (Bo x9.2)])) (v := (Bo x9.2)) rfl rfl) ?_
        refine arun_do rfl rfl rfl (ex_alloc (k := 0) (zs := (c_api_Block (G_api_Block.mk 0 0 []))) (L' := [(c_api_Block (G_api_Block.mk 0 0 []))]) z_23 rfl rfl rfl rfl) ?_
        refine arun_do0 rfl rfl (ex_storeL (vy := (Value.agg (c_api_Block x9.1).toArray)) (cs := (c_api_Block (G_api_Block.mk 0 0 []))) (vs := (c_api_Block x9.1)) (L' := [(c_api_Block x9.1)]) rfl (eV (v := (Value.agg (c_api_Block x9.1).toArray)) rfl) rfl s_23 rfl (Nat.le_of_ble_eq_true rfl) (by kernel_rfl)) ?_
        refine arun_do rfl rfl rfl (ex_assign (eV (v := (Bo x9.2)) rfl)) ?_
        refine arun_keepE [2, 3, 4, 5, 6] 1 0 (st' := ⟨127, 0, [(2, (SL 3 c_api_Block ([(G_api_Block.mk 1 1 []), (G_api_Block.mk 6 1073741824 x3), (G_api_Block.mk 3 7 ([120] : Str))] : List G_api_Block))), (3, (SL 3 c_api_Block ([(G_api_Block.mk 0 0 []), (G_api_Block.mk 1 0 []), (G_api_Block.mk 7 1 []), (G_api_Block.mk (-1) 1 []), (G_api_Block.mk 1 (-1) []), (G_api_Block.mk 1 1073741825 []), (G_api_Block.mk 1 1 x4)] : List G_api_Block))), (4, (I v5)), (5, (LP 0 0)), (6, (Bo x9.2))], [(c_api_Block x9.1)], ⟨0, []⟩⟩) (by kernel_rfl) (by kernel_rfl) ?_
        show AWp _ _ _ _
        refine awp_seq ?_
        obtain ⟨x10, hx10, h⟩ := bindS h
        obtain ⟨x11, hx11, h⟩ := bindS h
        obtain ⟨x12, hx12, h⟩ := bindS h
        refine awp_kn [2, 3, 4, 66] 0 0 (st' := ⟨127, 0, [(2, (SL 3 c_api_Block ([(G_api_Block.mk 1 1 []), (G_api_Block.mk 6 1073741824 x3), (G_api_Block.mk 3 7 ([120] : Str))] : List G_api_Block))), (3, (SL 3 c_api_Block ([(G_api_Block.mk 0 0 []), (G_api_Block.mk 1 0 []), (G_api_Block.mk 7 1 []), (G_api_Block.mk (-1) 1 []), (G_api_Block.mk 1 (-1) []), (G_api_Block.mk 1 1073741825 []), (G_api_Block.mk 1 1 x4)] : List G_api_Block))), (4, (I v5)), (66, (Bo (((!x11) || (!x9.2)) || (!decide (x9.1 = x12)))))], [], ⟨0, []⟩⟩) (awp_draw (T := [(SL 3 c_api_Block ([(G_api_Block.mk 1 1 []), (G_api_Block.mk 6 1073741824 x3), (G_api_Block.mk 3 7 ([120] : Str))] : List G_api_Block)), (I v5), (DP (c_api_Block x10)), (Value.agg (c_api_Block x10).toArray), (Bo x11), (Bo (!x11)), (Bo (!x11)), (cond ((!x11) == false) (Bo x9.2) skipV), (cond ((!x11) == false) (Bo (!x9.2)) skipV), (Bo ((!x11) || (!x9.2))), (Bo ((!x11) || (!x9.2))), (cond (((!x11) || (!x9.2)) == false) (Value.agg (c_api_Block x9.1).toArray) skipV), (cond (((!x11) || (!x9.2)) == false) (SL 3 c_api_Block ([(G_api_Block.mk 1 1 []), (G_api_Block.mk 6 1073741824 x3), (G_api_Block.mk 3 7 ([120] : Str))] : List G_api_Block)) skipV), (cond (((!x11) || (!x9.2)) == false) (I v5) skipV), (cond (((!x11) || (!x9.2)) == false) (DP (c_api_Block x12)) skipV), (cond (((!x11) || (!x9.2)) == false) (Value.agg (c_api_Block x12).toArray) skipV), (cond (((!x11) || (!x9.2)) == false) (Bo (!decide (x9.1 = x12))) skipV), (Bo (((!x11) || (!x9.2)) || (!decide (x9.1 = x12))))]) (LH := [([(c_api_Block x9.1)], ⟨0, []⟩)]) (D := [⟨[(2, none)], [], [0], false⟩, ⟨[(4, none)], [], [0], false⟩, ⟨[(49, some 0), (50, some 1)], [0, 1], [0], false⟩, ⟨[(51, some 2)], [0, 1, 2], [0], false⟩, ⟨[(52, some 3)], [0, 1, 2, 3], [0], false⟩, ⟨[(53, some 4)], [0, 1, 2, 3, 4], [0], false⟩, ⟨[(54, some 5)], [0, 1, 2, 3, 4, 5], [0], false⟩, ⟨[(6, none), (55, some 6)], [0, 1, 2, 3, 4, 5, 6], [0], false⟩, ⟨[(56, some 7), (55, some 6)], [0, 1, 2, 3, 4, 5, 6, 7], [0], false⟩, ⟨[(55, some 6), (57, some 8)], [0, 1, 2, 3, 4, 5, 6, 7, 8], [0], false⟩, ⟨[(58, some 9)], [0, 1, 2, 3, 4, 5, 6, 7, 8, 9], [0], false⟩, ⟨[(5, none), (59, some 10)], [0, 1, 2, 3, 4, 5, 6, 7, 8, 9, 10], [0], false⟩, ⟨[(2, none), (59, some 10)], [0, 1, 2, 3, 4, 5, 6, 7, 8, 9, 10], [0], false⟩, ⟨[(4, none), (59, some 10)], [0, 1, 2, 3, 4, 5, 6, 7, 8, 9, 10], [0], false⟩, ⟨[(61, some 12), (62, some 13), (59, some 10)], [0, 1, 2, 3, 4, 5, 6, 7, 8, 9, 10, 12, 13], [0], false⟩, ⟨[(63, some 14), (59, some 10)], [0, 1, 2, 3, 4, 5, 6, 7, 8, 9, 10, 12, 13, 14], [0], false⟩, ⟨[(60, some 11), (64, some 15), (59, some 10)], [0, 1, 2, 3, 4, 5, 6, 7, 8, 9, 10, 11, 12, 13, 14, 15], [0], false⟩, ⟨[(59, some 10), (65, some 16)], [0, 1, 2, 3, 4, 5, 6, 7, 8, 9, 10, 11, 12, 13, 14, 15, 16], [0], false⟩]) (S := []) (plan := [0, 1, 2, 3, 4, 5, 6, 7, 8, 9, 10, 11, 12, 13, 14, 15, 16, 17]) mo (by kernel_rfl) rfl rfl rfl (dcons (dstep1 (Tm := [(2, (SL 3 c_api_Block ([(G_api_Block.mk 1 1 []), (G_api_Block.mk 6 1073741824 x3), (G_api_Block.mk 3 7 ([120] : Str))] : List G_api_Block)))]) (L := [(c_api_Block x9.1)]) (H := ⟨0, []⟩) rfl rfl rfl rfl rfl (astep_do rfl (ex_move (eV (v := (SL 3 c_api_Block ([(G_api_Block.mk 1 1 []), (G_api_Block.mk 6 1073741824 x3), (G_api_Block.mk 3 7 ([120] : Str))] : List G_api_Block))) rfl)))) (dcons (dstep1 (Tm := [(4, (I v5))]) (L := [(c_api_Block x9.1)]) (H := ⟨0, []⟩) rfl rfl rfl rfl rfl (astep_do rfl (ex_move (eV (v := (I v5)) rfl)))) (dcons (dstep1 (Tm := [(49, (SL 3 c_api_Block ([(G_api_Block.mk 1 1 []), (G_api_Block.mk 6 1073741824 x3), (G_api_Block.mk 3 7 ([120] : Str))] : List G_api_Block))), (50, (I v5))]) (L := [(c_api_Block x9.1)]) (H := ⟨0, []⟩) rfl rfl rfl rfl rfl (astep_do rfl (tx_idxD (c := c_api_Block) (xs := ([(G_api_Block.mk 1 1 []), (G_api_Block.mk 6 1073741824 x3), (G_api_Block.mk 3 7 ([120] : Str))] : List G_api_Block)) (i := v5) ce_api_Block Try.underlying57 s_23 rfl rfl hx10))) (dcons (dstep1 (Tm := [(51, (DP (c_api_Block x10)))]) (L := [(c_api_Block x9.1)]) (H := ⟨0, []⟩) rfl rfl rfl rfl rfl (astep_do rfl (tx_ldDA (vs := (c_api_Block x10)) Try.underlying23 rfl s_23 (by decide) rfl (Nat.le_of_ble_eq_true rfl) rfl))) (dcons (dstep1 (Tm := [(52, (Value.agg (c_api_Block x10).toArray))]) (L := [(c_api_Block x9.1)]) (H := ⟨0, []⟩) rfl rfl rfl rfl rfl (astep_do rfl (ex_call0 (vs := [(Value.agg (c_api_Block x10).toArray)]) (v := (Bo x11)) rfl en_10 (cargs (evs rfl evs_nil)) rfl (ok_block_May x10 x11 hx11) rfl))) (dcons (dstep1 (Tm := [(53, (Bo x11))]) (L := [(c_api_Block x9.1)]) (H := ⟨0, []⟩) rfl rfl rfl rfl rfl (astep_do rfl (ex_un (vx := (Bo x11)) rfl notB_ok))) (dcons (dstep1 (Tm := [(54, (Bo (!x11)))]) (L := [(c_api_Block x9.1)]) (H := ⟨0, []⟩) rfl rfl rfl rfl rfl (astep_do rfl (ex_move (eV (v := (Bo (!x11))) rfl)))) (dcons (dstep1 (Tm := [(6, (Bo x9.2)), (55, (Bo (!x11)))]) (L := [(c_api_Block x9.1)]) (H := ⟨0, []⟩) rfl rfl rfl rfl rfl (astep_guard (v := (Bo x9.2)) ((!x11) == false) rfl (fun hc => ex_move (eV (v := (Bo x9.2)) rfl)))) (dcons (dstep1 (Tm := [(56, (cond ((!x11) == false) (Bo x9.2) skipV)), (55, (Bo (!x11)))]) (L := [(c_api_Block x9.1)]) (H := ⟨0, []⟩) rfl rfl rfl rfl rfl (astep_guard (v := (Bo (!x9.2))) ((!x11) == false) rfl (fun hc => ex_un (vx := (Bo x9.2)) (cond_of hc) notB_ok))) (dcons (dstep1 (Tm := [(55, (Bo (!x11))), (57, (cond ((!x11) == false) (Bo (!x9.2)) skipV))]) (L := [(c_api_Block x9.1)]) (H := ⟨0, []⟩) rfl rfl rfl rfl rfl (astep_do rfl (ex_pick rfl pkOr))) (dcons (dstep1 (Tm := [(58, (Bo ((!x11) || (!x9.2))))]) (L := [(c_api_Block x9.1)]) (H := ⟨0, []⟩) rfl rfl rfl rfl rfl (astep_do rfl (ex_move (eV (v := (Bo ((!x11) || (!x9.2)))) rfl)))) (dcons (dstep1 (Tm := [(5, (LP 0 0)), (59, (Bo ((!x11) || (!x9.2))))]) (L := [(c_api_Block x9.1)]) (H := ⟨0, []⟩) rfl rfl rfl rfl rfl (astep_guard (v := (Value.agg (c_api_Block x9.1).toArray)) (((!x11) || (!x9.2)) == false) rfl (fun hc => tx_ldLA (vs := (c_api_Block x9.1)) Try.underlying23 rfl s_23 (by decide) rfl rfl rfl rfl))) (dcons (dstep1 (Tm := [(2, (SL 3 c_api_Block ([(G_api_Block.mk 1 1 []), (G_api_Block.mk 6 1073741824 x3), (G_api_Block.mk 3 7 ([120] : Str))] : List G_api_Block))), (59, (Bo ((!x11) || (!x9.2))))]) (L := [(c_api_Block x9.1)]) (H := ⟨0, []⟩) rfl rfl rfl rfl rfl (astep_guard (v := (SL 3 c_api_Block ([(G_api_Block.mk 1 1 []), (G_api_Block.mk 6 1073741824 x3), (G_api_Block.mk 3 7 ([120] : Str))] : List G_api_Block))) (((!x11) || (!x9.2)) == false) rfl (fun hc => ex_move (eV (v := (SL 3 c_api_Block ([(G_api_Block.mk 1 1 []), (G_api_Block.mk 6 1073741824 x3), (G_api_Block.mk 3 7 ([120] : Str))] : List G_api_Block))) rfl)))) (dcons (dstep1 (Tm := [(4, (I v5)), (59, (Bo ((!x11) || (!x9.2))))]) (L := [(c_api_Block x9.1)]) (H := ⟨0, []⟩) rfl rfl rfl rfl rfl (astep_guard (v := (I v5)) (((!x11) || (!x9.2)) == false) rfl (fun hc => ex_move (eV (v := (I v5)) rfl)))) (dcons (dstep1 (Tm := [(61, (cond (((!x11) || (!x9.2)) == false) (SL 3 c_api_Block ([(G_api_Block.mk 1 1 []), (G_api_Block.mk 6 1073741824 x3), (G_api_Block.mk 3 7 ([120] : Str))] : List G_api_Block)) skipV)), (62, (cond (((!x11) || (!x9.2)) == false) (I v5) skipV)), (59, (Bo ((!x11) || (!x9.2))))]) (L := [(c_api_Block x9.1)]) (H := ⟨0, []⟩) rfl rfl rfl rfl rfl (astep_guard (v := (DP (c_api_Block x12))) (((!x11) || (!x9.2)) == false) rfl (fun hc => tx_idxD (c := c_api_Block) (xs := ([(G_api_Block.mk 1 1 []), (G_api_Block.mk 6 1073741824 x3), (G_api_Block.mk 3 7 ([120] : Str))] : List G_api_Block)) (i := v5) ce_api_Block Try.underlying57 s_23 (cond_of hc) (cond_of hc) (gd_of hc hx12)))) (dcons (dstep1 (Tm := [(63, (cond (((!x11) || (!x9.2)) == false) (DP (c_api_Block x12)) skipV)), (59, (Bo ((!x11) || (!x9.2))))]) (L := [(c_api_Block x9.1)]) (H := ⟨0, []⟩) rfl rfl rfl rfl rfl (astep_guard (v := (Value.agg (c_api_Block x12).toArray)) (((!x11) || (!x9.2)) == false) rfl (fun hc => tx_ldDA (vs := (c_api_Block x12)) Try.underlying23 rfl s_23 (by decide) (cond_of hc) (Nat.le_of_ble_eq_true rfl) rfl))) (dcons (dstep1 (Tm := [(60, (cond (((!x11) || (!x9.2)) == false) (Value.agg (c_api_Block x9.1).toArray) skipV)), (64, (cond (((!x11) || (!x9.2)) == false) (Value.agg (c_api_Block x12).toArray) skipV)), (59, (Bo ((!x11) || (!x9.2))))]) (L := [(c_api_Block x9.1)]) (H := ⟨0, []⟩) rfl rfl rfl rfl rfl (astep_guard (v := (Bo (!decide (x9.1 = x12)))) (((!x11) || (!x9.2)) == false) rfl (fun hc => ex_bin (vx := (Value.agg (c_api_Block x9.1).toArray)) (vy := (Value.agg (c_api_Block x12).toArray)) (cond_of hc) (cond_of hc) neq_23))) (dcons (dstep1 (Tm := [(59, (Bo ((!x11) || (!x9.2)))), (65, (cond (((!x11) || (!x9.2)) == false) (Bo (!decide (x9.1 = x12))) skipV))]) (L := [(c_api_Block x9.1)]) (H := ⟨0, []⟩) rfl rfl rfl rfl rfl (astep_do rfl (ex_pick rfl pkOr))) dnil)))))))))))))))))) ⟨rfl, rfl⟩) (by kernel_rfl) (by kernel_rfl) ?_
        show AWp _ _ _ _
        rcases Bool.eq_false_or_eq_true (((!x11) || (!x9.2)) || (!decide (x9.1 = x12))) with hb13 | hb13
        · rw [condT hb13] at h
          refine awp_condT (boT hb13) ?_
          refine awp_seq ?_
          refine awp_region ?_
          refine arun_do rfl rfl rfl (ex_assign (eV (v := (Bo false)) rfl)) ?_
          refine arun_keepE [0] 0 0 (st' := ⟨127, 0, [(0, (Bo false))], [], ⟨0, []⟩⟩) (by kernel_rfl) (by kernel_rfl) ?_
          show AWp _ _ _ _
          refine awp_ret ?_
          cases h
          exact ares1 (rtmp rfl (eV rfl))
        · rw [condF hb13] at h
          refine awp_condF (boF hb13) ?_
          refine awp_skip ?_
          show AWp _ _ _ _
          refine awp_region ?_
          refine arun_do rfl rfl rfl (ex_move (eV (v := (I v5)) rfl)) ?_
          refine arun_do rfl rfl rfl (ex_bin (vx := (I v5)) (vy := (I 1)) rfl rfl addI_ok) ?_
          refine arun_do rfl rfl rfl (ex_assign (eV (v := (I (w64 (v5 + 1)))) rfl)) ?_
          refine arun_keepE [2, 3, 4] 0 0 (st' := ⟨127, 0, [(2, (SL 3 c_api_Block ([(G_api_Block.mk 1 1 []), (G_api_Block.mk 6 1073741824 x3), (G_api_Block.mk 3 7 ([120] : Str))] : List G_api_Block))), (3, (SL 3 c_api_Block ([(G_api_Block.mk 0 0 []), (G_api_Block.mk 1 0 []), (G_api_Block.mk 7 1 []), (G_api_Block.mk (-1) 1 []), (G_api_Block.mk 1 (-1) []), (G_api_Block.mk 1 1073741825 []), (G_api_Block.mk 1 1 x4)] : List G_api_Block))), (4, (I (w64 (v5 + 1))))], [], ⟨0, []⟩⟩) (by kernel_rfl) (by kernel_rfl) ?_
          exact Exists.intro n1 (And.intro (Nat.lt_succ_self _) (Exists.intro (w64 (v5 + 1)) (And.intro rfl h)))
      · rw [condF hb6] at h
        refine awp_condF (boF hb6) ?_
        refine awp_exit ?_
        show AWp _ _ _ _
        refine awp_seq ?_
        refine awp_seq ?_
        refine awp_region ?_
        refine arun_do rfl rfl rfl (ex_assign (eV (v := (I 0)) rfl)) ?_
        refine arun_keepE [3, 7] 0 0 (st' := ⟨127, 0, [(3, (SL 3 c_api_Block ([(G_api_Block.mk 0 0 []), (G_api_Block.mk 1 0 []), (G_api_Block.mk 7 1 []), (G_api_Block.mk (-1) 1 []), (G_api_Block.mk 1 (-1) []), (G_api_Block.mk 1 1073741825 []), (G_api_Block.mk 1 1 x4)] : List G_api_Block))), (7, (I 0))], [], ⟨0, []⟩⟩) (by kernel_rfl) (by kernel_rfl) ?_
        show AWp _ _ _ _
        refine awp_block ?_
        refine awp_loop (fun n s => ∃ (v14 : Int), s = ⟨127, 0, [(3, (SL 3 c_api_Block ([(G_api_Block.mk 0 0 []), (G_api_Block.mk 1 0 []), (G_api_Block.mk 7 1 []), (G_api_Block.mk (-1) 1 []), (G_api_Block.mk 1 (-1) []), (G_api_Block.mk 1 1073741825 []), (G_api_Block.mk 1 1 x4)] : List G_api_Block))), (7, (I v14))], [], ⟨0, []⟩⟩ ∧ M_law5_BlockForms_l2 (M_law5_BlockForms_l1 x3 x4 n1) x4 n v14 = some r) fuel (Exists.intro 0 (And.intro rfl h)) ?_
        rintro n s ⟨v14, rfl, h⟩ -
        cases n with
        | zero => cases h
        | succ n2 =>
          unfold M_law5_BlockForms_l2 at h
          refine awp_seq ?_
          refine awp_seq ?_
          refine awp_region ?_
          refine arun_do rfl rfl rfl (ex_move (eV (v := (I v14)) rfl)) ?_
          refine arun_do rfl rfl rfl (ex_move (eV (v := (SL 3 c_api_Block ([(G_api_Block.mk 0 0 []), (G_api_Block.mk 1 0 []), (G_api_Block.mk 7 1 []), (G_api_Block.mk (-1) 1 []), (G_api_Block.mk 1 (-1) []), (G_api_Block.mk 1 1073741825 []), (G_api_Block.mk 1 1 x4)] : List G_api_Block))) rfl)) ?_
          refine arun_do rfl rfl rfl (tx_lenD (xs := ([(G_api_Block.mk 0 0 []), (G_api_Block.mk 1 0 []), (G_api_Block.mk 7 1 []), (G_api_Block.mk (-1) 1 []), (G_api_Block.mk 1 (-1) []), (G_api_Block.mk 1 1073741825 []), (G_api_Block.mk 1 1 x4)] : List G_api_Block)) ce_api_Block Try.underlying57 rfl) ?_
          refine arun_do rfl rfl rfl (ex_bin (vx := (I v14)) (vy := (I (([(G_api_Block.mk 0 0 []), (G_api_Block.mk 1 0 []), (G_api_Block.mk 7 1 []), (G_api_Block.mk (-1) 1 []), (G_api_Block.mk 1 (-1) []), (G_api_Block.mk 1 1073741825 []), (G_api_Block.mk 1 1 x4)] : List G_api_Block).length : Int))) rfl rfl lssI_ok) ?_
          refine arun_keepE [3, 7, 70] 0 0 (st' := ⟨127, 0, [(3, (SL 3 c_api_Block ([(G_api_Block.mk 0 0 []), (G_api_Block.mk 1 0 []), (G_api_Block.mk 7 1 []), (G_api_Block.mk (-1) 1 []), (G_api_Block.mk 1 (-1) []), (G_api_Block.mk 1 1073741825 []), (G_api_Block.mk 1 1 x4)] : List G_api_Block))), (7, (I v14)), (70, (Bo (decide (v14 < (([(G_api_Block.mk 0 0 []), (G_api_Block.mk 1 0 []), (G_api_Block.mk 7 1 []), (G_api_Block.mk (-1) 1 []), (G_api_Block.mk 1 (-1) []), (G_api_Block.mk 1 1073741825 []), (G_api_Block.mk 1 1 x4)] : List G_api_Block).length : Int)))))], [], ⟨0, []⟩⟩) (by kernel_rfl) (by kernel_rfl) ?_
          show AWp _ _ _ _
          rcases Bool.eq_false_or_eq_true (decide (v14 < (([(G_api_Block.mk 0 0 []), (G_api_Block.mk 1 0 []), (G_api_Block.mk 7 1 []), (G_api_Block.mk (-1) 1 []), (G_api_Block.mk 1 (-1) []), (G_api_Block.mk 1 1073741825 []), (G_api_Block.mk 1 1 x4)] : List G_api_Block).length : Int))) with hb15 | hb15
          · rw [condT hb15] at h
            refine awp_condT (boT hb15) ?_
            refine awp_skip ?_
            show AWp _ _ _ _
            refine awp_seq ?_
            refine awp_block ?_
            refine awp_seq ?_
            refine awp_region ?_
            refine arun_do rfl rfl rfl (ex_move (eV (v := (SL 3 c_api_Block ([(G_api_Block.mk 0 0 []), (G_api_Block.mk 1 0 []), (G_api_Block.mk 7 1 []), (G_api_Block.mk (-1) 1 []), (G_api_Block.mk 1 (-1) []), (G_api_Block.mk 1 1073741825 []), (G_api_Block.mk 1 1 x4)] : List G_api_Block))) rfl)) ?_
            refine arun_do rfl rfl rfl (ex_move (eV (v := (I v14)) rfl)) ?_
            obtain ⟨x16, hx16, h⟩ := bindS h
            refine arun_do rfl rfl rfl (tx_idxD (c := c_api_Block) (xs := ([(G_api_Block.mk 0 0 []), (G_api_Block.mk 1 0 []), (G_api_Block.mk 7 1 []), (G_api_Block.mk (-1) 1 []), (G_api_Block.mk 1 (-1) []), (G_api_Block.mk 1 1073741825 []), (G_api_Block.mk 1 1 x4)] : List G_api_Block)) (i := v14) ce_api_Block Try.underlying57 s_23 rfl rfl hx16) ?_
            refine arun_do rfl rfl rfl (tx_ldDA (vs := (c_api_Block x16)) Try.underlying23 rfl s_23 (by decide) rfl (Nat.le_of_ble_eq_true rfl) rfl) ?_
            obtain ⟨x17, hx17, h⟩ := bindS h
            refine arun_do rfl rfl rfl (ex_call0 (vs := [(Value.agg (c_api_Block x16).toArray)]) (v := (Bo x17)) rfl en_10 (cargs (evs rfl evs_nil)) rfl (ok_block_May x16 x17 hx17) rfl) ?_
            refine arun_do rfl rfl rfl (ex_move (eV (v := (Bo x17)) rfl)) ?_
            refine arun_guard (v := (SL 3 c_api_Block ([(G_api_Block.mk 0 0 []), (G_api_Block.mk 1 0 []), (G_api_Block.mk 7 1 []), (G_api_Block.mk (-1) 1 []), (G_api_Block.mk 1 (-1) []), (G_api_Block.mk 1 1073741825 []), (G_api_Block.mk 1 1 x4)] : List G_api_Block))) (x17 == false) rfl rfl rfl (fun hc => ex_move (eV (v := (SL 3 c_api_Block ([(G_api_Block.mk 0 0 []), (G_api_Block.mk 1 0 []), (G_api_Block.mk 7 1 []), (G_api_Block.mk (-1) 1 []), (G_api_Block.mk 1 (-1) []), (G_api_Block.mk 1 1073741825 []), (G_api_Block.mk 1 1 x4)] : List G_api_Block))) rfl)) ?_
            refine arun_guard (v := (I v14)) (x17 == false) rfl rfl rfl (fun hc => ex_move (eV (v := (I v14)) rfl)) ?_
            obtain ⟨x18, hx18, h⟩ := bindS h
            refine arun_guard (v := (DP (c_api_Block x18))) (x17 == false) rfl rfl rfl (fun hc => tx_idxD (c := c_api_Block) (xs := ([(G_api_Block.mk 0 0 []), (G_api_Block.mk 1 0 []), (G_api_Block.mk 7 1 []), (G_api_Block.mk (-1) 1 []), (G_api_Block.mk 1 (-1) []), (G_api_Block.mk 1 1073741825 []), (G_api_Block.mk 1 1 x4)] : List G_api_Block)) (i := v14) ce_api_Block Try.underlying57 s_23 (cond_of hc) (cond_of hc) (gd_of hc hx18)) ?_
            refine arun_guard (v := (Value.agg (c_api_Block x18).toArray)) (x17 == false) rfl rfl rfl (fun hc => tx_ldDA (vs := (c_api_Block x18)) Try.underlying23 rfl s_23 (by decide) (cond_of hc) (Nat.le_of_ble_eq_true rfl) rfl) ?_
            obtain ⟨x19, hx19, h⟩ := bindS h
            refine arun_guard (v := (S x19)) (x17 == false) rfl rfl rfl (fun hc => ex_call0 (vs := [(Value.agg (c_api_Block x18).toArray)]) (v := (S x19)) rfl en_12 (cargs (evs (cond_of hc) evs_nil)) rfl (ok_block_Put x18 x19 (gd_of hc hx19)) rfl) ?_
            refine arun_guard (v := (Bo (x19 != []))) (x17 == false) rfl rfl rfl (fun hc => ex_bin (vx := (S x19)) (vy := (S [])) (cond_of hc) rfl neqS_ok) ?_
            refine arun_do rfl rfl rfl (ex_pick rfl pkOr) ?_
            refine arun_keepE [3, 7, 85] 0 0 (st' := ⟨127, 0, [(3, (SL 3 c_api_Block ([(G_api_Block.mk 0 0 []), (G_api_Block.mk 1 0 []), (G_api_Block.mk 7 1 []), (G_api_Block.mk (-1) 1 []), (G_api_Block.mk 1 (-1) []), (G_api_Block.mk 1 1073741825 []), (G_api_Block.mk 1 1 x4)] : List G_api_Block))), (7, (I v14)), (85, (Bo (x17 || (x19 != []))))], [], ⟨0, []⟩⟩) (by kernel_rfl) (by kernel_rfl) ?_
            show AWp _ _ _ _
            rcases Bool.eq_false_or_eq_true (x17 || (x19 != [])) with hb20 | hb20
            · rw [condT hb20] at h
              refine awp_condT (boT hb20) ?_
              refine awp_seq ?_
              refine awp_region ?_
              refine arun_do rfl rfl rfl (ex_assign (eV (v := (Bo false)) rfl)) ?_
              refine arun_keepE [0] 0 0 (st' := ⟨127, 0, [(0, (Bo false))], [], ⟨0, []⟩⟩) (by kernel_rfl) (by kernel_rfl) ?_
              show AWp _ _ _ _
              refine awp_ret ?_
              cases h
              exact ares1 (rtmp rfl (eV rfl))
            · rw [condF hb20] at h
              refine awp_condF (boF hb20) ?_
              refine awp_skip ?_
              show AWp _ _ _ _
              refine awp_region ?_
              refine arun_do rfl rfl rfl (ex_move (eV (v := (I v14)) rfl)) ?_
              refine arun_do rfl rfl rfl (ex_bin (vx := (I v14)) (vy := (I 1)) rfl rfl addI_ok) ?_
              refine arun_do rfl rfl rfl (ex_assign (eV (v := (I (w64 (v14 + 1)))) rfl)) ?_
              refine arun_keepE [3, 7] 0 0 (st' := ⟨127, 0, [(3, (SL 3 c_api_Block ([(G_api_Block.mk 0 0 []), (G_api_Block.mk 1 0 []), (G_api_Block.mk 7 1 []), (G_api_Block.mk (-1) 1 []), (G_api_Block.mk 1 (-1) []), (G_api_Block.mk 1 1073741825 []), (G_api_Block.mk 1 1 x4)] : List G_api_Block))), (7, (I (w64 (v14 + 1))))], [], ⟨0, []⟩⟩) (by kernel_rfl) (by kernel_rfl) ?_
              exact Exists.intro n2 (And.intro (Nat.lt_succ_self _) (Exists.intro (w64 (v14 + 1)) (And.intro rfl h)))
          · rw [condF hb15] at h
            refine awp_condF (boF hb15) ?_
            refine awp_exit ?_
            show AWp _ _ _ _
            refine awp_seq ?_
            refine awp_region ?_
            refine arun_do rfl rfl rfl (ex_build (qs := [(0, (I 2)), (1, (I 1)), (2, (S ([97, 98] : Str)))]) (v := (Value.agg (c_api_Block (G_api_Block.mk 2 1 ([97, 98] : Str))).toArray)) (evp rfl (evp rfl (evp rfl evp_nil))) (by kernel_rfl)) ?_
            obtain ⟨x21, hx21, h⟩ := bindS h
            refine arun_do rfl rfl rfl (ex_call0 (vs := [(Value.agg (c_api_Block (G_api_Block.mk 2 1 ([97, 98] : Str))).toArray)]) (v := (S x21)) rfl en_12 (cargs (evs rfl evs_nil)) rfl (ok_block_Put (G_api_Block.mk 2 1 ([97, 98] : Str)) x21 hx21) rfl) ?_
            refine arun_do rfl rfl rfl (ex_assign (eV (v := (S x21)) rfl)) ?_
            refine arun_keepE [8] 0 0 (st' := ⟨127, 0, [(8, (S x21))], [], ⟨0, []⟩⟩) (by kernel_rfl) (by kernel_rfl) ?_
            show AWp _ _ _ _
            refine awp_seq ?_
            refine awp_region ?_
            refine arun_do rfl rfl rfl (ex_move (eV (v := (S x21)) rfl)) ?_
            obtain ⟨x22, hx22, h⟩ := bindS h
            refine arun_do rfl rfl rfl (tx_slS (u := x21) Try.underlying9 rfl lo0 (hiX (l := 255) rfl) hx22) ?_
            obtain ⟨x23, hx23, h⟩ := bindS h
            refine arun_do rfl rfl rfl (ex_call0 (vs := [(S x22)]) (v := (Value.tuple #[(Value.agg (c_api_Block x23.1).toArray), (Bo x23.2)])) rfl en_16 (cargs (evs rfl evs_nil)) rfl (ok_block_Take x22 x23 hx23) rfl) ?_
            refine arun_do rfl rfl rfl (ex_move (eV (v := (Value.tuple #[(Value.agg (c_api_Block x23.1).toArray), (Bo x23.2)])) rfl)) ?_
            refine arun_do rfl rfl rfl (ex_extract (vx := (Value.tuple #[(Value.agg (c_api_Block x23.1).toArray), (Bo x23.2)])) (v := (Value.agg (c_api_Block x23.1).toArray)) rfl rfl) ?_
            refine arun_do rfl rfl rfl (ex_extract (vx := (Value.tuple #[(Value.agg (c_api_Block x23.1).toArray), (Bo x23.2)])) (v := (Bo x23.2)) rfl rfl) ?_
            refine arun_do rfl rfl rfl (ex_alloc (k := 0) (zs := (c_api_Block (G_api_Block.mk 0 0 []))) (L' := [(c_api_Block (G_api_Block.mk 0 0 []))]) z_23 rfl rfl rfl rfl) ?_
            refine arun_do0 rfl rfl (ex_storeL (vy := (Value.agg (c_api_Block x23.1).toArray)) (cs := (c_api_Block (G_api_Block.mk 0 0 []))) (vs := (c_api_Block x23.1)) (L' := [(c_api_Block x23.1)]) rfl (eV (v := (Value.agg (c_api_Block x23.1).toArray)) rfl) rfl s_23 rfl (Nat.le_of_ble_eq_true rfl) (by kernel_rfl)) ?_
            refine arun_do rfl rfl rfl (ex_assign (eV (v := (Bo x23.2)) rfl)) ?_
            refine arun_keepE [8, 10] 0 0 (st' := ⟨127, 0, [(8, (S x21)), (10, (Bo x23.2))], [], ⟨0, []⟩⟩) (by kernel_rfl) (by kernel_rfl) ?_
            show AWp _ _ _ _
            refine awp_seq ?_
            refine awp_region ?_
            refine arun_do rfl rfl rfl (ex_move (eV (v := (S x21)) rfl)) ?_
            obtain ⟨x24, hx24, h⟩ := bindS h
            refine arun_do rfl rfl rfl (tx_slS (u := x21) Try.underlying9 rfl lo0 (hiX (l := 255) rfl) hx24) ?_
            obtain ⟨x25, hx25, h⟩ := bindS h
            refine arun_do rfl rfl rfl (ex_bin (vx := (S x24)) (vy := (S ([120] : Str))) rfl rfl (addS_ok hx25)) ?_
            obtain ⟨x26, hx26, h⟩ := bindS h
            refine arun_do rfl rfl rfl (ex_call0 (vs := [(S x25)]) (v := (Value.tuple #[(Value.agg (c_api_Block x26.1).toArray), (Bo x26.2)])) rfl en_16 (cargs (evs rfl evs_nil)) rfl (ok_block_Take x25 x26 hx26) rfl) ?_
            refine arun_do rfl rfl rfl (ex_move (eV (v := (Value.tuple #[(Value.agg (c_api_Block x26.1).toArray), (Bo x26.2)])) rfl)) ?_
            refine arun_do rfl rfl rfl (ex_extract (vx := (Value.tuple #[(Value.agg (c_api_Block x26.1).toArray), (Bo x26.2)])) (v := (Value.agg (c_api_Block x26.1).toArray)) rfl rfl) ?_
            refine arun_do rfl rfl rfl (ex_extract (vx := (Value.tuple #[(Value.agg (c_api_Block x26.1).toArray), (Bo x26.2)])) (v := (Bo x26.2)) rfl rfl) ?_
            refine arun_do rfl rfl rfl (ex_alloc (k := 0) (zs := (c_api_Block (G_api_Block.mk 0 0 []))) (L' := [(c_api_Block (G_api_Block.mk 0 0 []))]) z_23 rfl rfl rfl rfl) ?_
            refine arun_do0 rfl rfl (ex_storeL (vy := (Value.agg (c_api_Block x26.1).toArray)) (cs := (c_api_Block (G_api_Block.mk 0 0 []))) (vs := (c_api_Block x26.1)) (L' := [(c_api_Block x26.1)]) rfl (eV (v := (Value.agg (c_api_Block x26.1).toArray)) rfl) rfl s_23 rfl (Nat.le_of_ble_eq_true rfl) (by kernel_rfl)) ?_
            refine arun_do rfl rfl rfl (ex_assign (eV (v := (Bo x26.2)) rfl)) ?_
            refine arun_keepE [8, 10, 12] 0 0 (st' := ⟨127, 0, [(8, (S x21)), (10, (Bo x23.2)), (12, (Bo x26.2))], [], ⟨0, []⟩⟩) (by kernel_rfl) (by kernel_rfl) ?_
            show AWp _ _ _ _
            refine awp_seq ?_
            refine awp_region ?_
            refine arun_do rfl rfl rfl (ex_buildW (vs := ([(Value.slice none 0 0)] ++ ([(Value.slice none 0 0)] ++ ([(I 0)] ++ ([(I 0)] ++ ([(Bo false)]))))).toArray) (qs := []) (ws := (c_api_Dev (G_api_Dev.mk [] [] 0 0 false))) evp_nil (by kernel_rfl) (by repeat (first | exact trivial | refine ⟨.inl rfl, ?_⟩ | refine ⟨.inr ⟨rfl, _, rfl⟩, ?_⟩))) ?_
            refine arun_do rfl rfl rfl (ex_build (qs := []) (v := (Value.agg (c_api_Ptr (G_api_Ptr.mk 0 0 (A4.mk 0 0 0 0))).toArray)) evp_nil (by kernel_rfl)) ?_
            obtain ⟨x27, hx27, h⟩ := bindS h
            refine arun_do rfl rfl rfl (ex_call0 (vs := [(Value.agg (c_api_Dev (G_api_Dev.mk [] [] 0 0 false)).toArray), (Value.agg (c_api_Ptr (G_api_Ptr.mk 0 0 (A4.mk 0 0 0 0))).toArray), (I 1)]) (v := (Value.tuple #[(S x27.1), (Bo x27.2)])) rfl en_21 (cargs (evs rfl (evs rfl (evs rfl evs_nil)))) rfl (ok_block_Read (G_api_Dev.mk [] [] 0 0 false) (G_api_Ptr.mk 0 0 (A4.mk 0 0 0 0)) 1 x27 hx27) rfl) ?_
            refine arun_do rfl rfl rfl (ex_move (eV (v := (Value.tuple #[(S x27.1), (Bo x27.2)])) rfl)) ?_
            refine arun_do rfl rfl rfl (ex_extract (vx := (Value.tuple #[(S x27.1), (Bo x27.2)])) (v := (S x27.1)) rfl rfl) ?_
            refine arun_do rfl rfl rfl (ex_extract (vx := (Value.tuple #[(S x27.1), (Bo x27.2)])) (v := (Bo x27.2)) rfl rfl) ?_
            refine arun_do rfl rfl rfl (ex_assign (eV (v := (S x27.1)) rfl)) ?_
            refine arun_do rfl rfl rfl (ex_assign (eV (v := (Bo x27.2)) rfl)) ?_
            refine arun_keepE [8, 10, 12, 14] 0 0 (st' := ⟨127, 0, [(8, (S x21)), (10, (Bo x23.2)), (12, (Bo x26.2)), (14, (Bo x27.2))], [], ⟨0, []⟩⟩) (by kernel_rfl) (by kernel_rfl) ?_
            show AWp _ _ _ _
            refine awp_seq ?_
            refine awp_region ?_
            refine arun_do rfl rfl rfl (ex_move (eV (v := (S x21)) rfl)) ?_
            refine arun_do rfl rfl rfl (tx_lenS Try.underlying9 rfl) ?_
            refine arun_do rfl rfl rfl (ex_bin (vx := (I (x21.length : Int))) (vy := (I 256)) rfl rfl eqlI_ok) ?_
            refine arun_do rfl rfl rfl (ex_move (eV (v := (Bo ((x21.length : Int) == 256))) rfl)) ?_
            refine arun_guard (v := (S x21)) (((x21.length : Int) == 256) == true) rfl rfl rfl (fun hc => ex_move (eV (v := (S x21)) rfl)) ?_
            obtain ⟨x28, hx28, h⟩ := bindS h
            refine arun_guard (v := (S x28)) (((x21.length : Int) == 256) == true) rfl rfl rfl (fun hc => tx_slS (u := x21) Try.underlying9 (cond_of hc) lo0 (hiX (l := 9) rfl) (gd_of hc hx28)) ?_
            refine arun_guard (v := (Bo (x28 == ([2, 0, 0, 0, 1, 0, 2, 97, 98] : Str)))) (((x21.length : Int) == 256) == true) rfl rfl rfl (fun hc => ex_bin (vx := (S x28)) (vy := (S ([2, 0, 0, 0, 1, 0, 2, 97, 98] : Str))) (cond_of hc) rfl eqlS_ok) ?_
            refine arun_do rfl rfl rfl (ex_pick rfl pkAnd) ?_
            refine arun_do rfl rfl rfl (ex_move (eV (v := (Bo (((x21.length : Int) == 256) && (x28 == ([2, 0, 0, 0, 1, 0, 2, 97, 98] : Str))))) rfl)) ?_
            refine arun_guard (v := (Bo x23.2)) ((((x21.length : Int) == 256) && (x28 == ([2, 0, 0, 0, 1, 0, 2, 97, 98] : Str))) == true) rfl rfl rfl (fun hc => ex_move (eV (v := (Bo x23.2)) rfl)) ?_
            refine arun_guard (v := (Bo (!x23.2))) ((((x21.length : Int) == 256) && (x28 == ([2, 0, 0, 0, 1, 0, 2, 97, 98] : Str))) == true) rfl rfl rfl (fun hc => ex_un (vx := (Bo x23.2)) (cond_of hc) notB_ok) ?_
            refine arun_do rfl rfl rfl (ex_pick rfl pkAnd) ?_
            refine arun_do rfl rfl rfl (ex_move (eV (v := (Bo ((((x21.length : Int) == 256) && (x28 == ([2, 0, 0, 0, 1, 0, 2, 97, 98] : Str))) && (!x23.2)))) rfl)) ?_
            refine arun_guard (v := (Bo x26.2)) (((((x21.length : Int) == 256) && (x28 == ([2, 0, 0, 0, 1, 0, 2, 97, 98] : Str))) && (!x23.2)) == true) rfl rfl rfl (fun hc => ex_move (eV (v := (Bo x26.2)) rfl)) ?_
            refine arun_guard (v := (Bo (!x26.2))) (((((x21.length : Int) == 256) && (x28 == ([2, 0, 0, 0, 1, 0, 2, 97, 98] : Str))) && (!x23.2)) == true) rfl rfl rfl (fun hc => ex_un (vx := (Bo x26.2)) (cond_of hc) notB_ok) ?_
            refine arun_do rfl rfl rfl (ex_pick rfl pkAnd) ?_
            refine arun_do rfl rfl rfl (ex_move (eV (v := (Bo (((((x21.length : Int) == 256) && (x28 == ([2, 0, 0, 0, 1, 0, 2, 97, 98] : Str))) && (!x23.2)) && (!x26.2)))) rfl)) ?_
            refine arun_guard (v := (Bo x27.2)) ((((((x21.length : Int) == 256) && (x28 == ([2, 0, 0, 0, 1, 0, 2, 97, 98] : Str))) && (!x23.2)) && (!x26.2)) == true) rfl rfl rfl (fun hc => ex_move (eV (v := (Bo x27.2)) rfl)) ?_
            refine arun_guard (v := (Bo (!x27.2))) ((((((x21.length : Int) == 256) && (x28 == ([2, 0, 0, 0, 1, 0, 2, 97, 98] : Str))) && (!x23.2)) && (!x26.2)) == true) rfl rfl rfl (fun hc => ex_un (vx := (Bo x27.2)) (cond_of hc) notB_ok) ?_
            refine arun_do rfl rfl rfl (ex_pick rfl pkAnd) ?_
            refine arun_do rfl rfl rfl (ex_assign (eV (v := (Bo ((((((x21.length : Int) == 256) && (x28 == ([2, 0, 0, 0, 1, 0, 2, 97, 98] : Str))) && (!x23.2)) && (!x26.2)) && (!x27.2)))) rfl)) ?_
            refine arun_keepE [0] 0 0 (st' := ⟨127, 0, [(0, (Bo ((((((x21.length : Int) == 256) && (x28 == ([2, 0, 0, 0, 1, 0, 2, 97, 98] : Str))) && (!x23.2)) && (!x26.2)) && (!x27.2))))], [], ⟨0, []⟩⟩) (by kernel_rfl) (by kernel_rfl) ?_
            show AWp _ _ _ _
            refine awp_ret ?_
            cases h
            exact ares1 (rtmp rfl (eV rfl))

end Go.Proofs
