/- Pure models of functions of the program, and that its code does what they say: palimplaw5 made, palimpref1 num, palimpref1 MayBlock, palimpref1 Put, palimpref1 PutBlock. Written by a program. -/
import Derived.Test.YtjpgcfniahaelaaR52
import Derived.Test.YtjpgcfniahaelaaR5B
set_option maxRecDepth 20000
set_option maxHeartbeats 4000000
namespace Go.Proofs
open Go Go.Fhl
set_option linter.unusedVariables false
set_option linter.unusedSimpArgs false
noncomputable def M_law5_made (t0 : UInt8) (t1 : UInt8) (t2 : Str) : Option G_api_Block :=
  Option.bind (rem8 t0 6) fun (x1 : UInt8) => Option.bind (slL t2 0 (min (t2.length : Int) 249)) fun (x2 : Str) => some (G_api_Block.mk (w64 (1 + (x1.toNat : Int))) (w64 (1 + (t1.toNat : Int))) x2)
theorem ok_law5_made (t0 : UInt8) (t1 : UInt8) (t2 : Str) (r : G_api_Block) (h : M_law5_made t0 t1 t2 = some r) : FFn Try.prog 9 [(U8 t0), (U8 t1), (S t2)] (Value.agg (c_api_Block r).toArray) := by
  refine FFn.of_body (n := 20) Try.func9 rfl Try.ntmps9 rfl rfl rfl rfl ?_
  show AWp _ _ _ ⟨20, 0, [(0, (U8 t0)), (1, (U8 t1)), (2, (S t2))], [], ⟨0, []⟩⟩
  unfold M_law5_made at h
  refine awp_seq ?_
  refine awp_region ?_
  refine arun_do rfl rfl rfl (ex_alloc (k := 0) (zs := (c_api_Block (G_api_Block.mk 0 0 []))) (L' := [(c_api_Block (G_api_Block.mk 0 0 []))]) z_23 rfl rfl rfl rfl) ?_
  refine arun_keepE [0, 1, 2, 6] 1 0 (st' := ⟨20, 0, [(0, (U8 t0)), (1, (U8 t1)), (2, (S t2)), (6, (LP 0 0))], [(c_api_Block (G_api_Block.mk 0 0 []))], ⟨0, []⟩⟩) (by kernel_rfl) (by kernel_rfl) ?_
  show AWp _ _ _ _
  refine awp_seq ?_
  refine awp_region ?_
  refine arun_do rfl rfl rfl (ex_move (eV (v := (U8 t0)) rfl)) ?_
  obtain ⟨x1, hx1, h⟩ := bindS h
  refine arun_do rfl rfl rfl (ex_bin (vx := (U8 t0)) (vy := (U8 6)) rfl rfl (rem8_ok hx1)) ?_
  refine arun_do rfl rfl rfl (tx_8_64 Try.underlying5 Try.underlying3 rfl) ?_
  refine arun_do rfl rfl rfl (ex_bin (vx := (I 1)) (vy := (I (x1.toNat : Int))) rfl rfl addI_ok) ?_
  refine arun_do rfl rfl rfl (ex_move (eV (v := (U8 t1)) rfl)) ?_
  refine arun_do rfl rfl rfl (tx_8_64 Try.underlying5 Try.underlying3 rfl) ?_
  refine arun_do rfl rfl rfl (ex_bin (vx := (I 1)) (vy := (I (t1.toNat : Int))) rfl rfl addI_ok) ?_
  refine arun_do rfl rfl rfl (ex_move (eV (v := (S t2)) rfl)) ?_
  refine arun_do rfl rfl rfl (ex_move (eV (v := (S t2)) rfl)) ?_
  refine arun_do rfl rfl rfl (tx_lenS Try.underlying9 rfl) ?_
  refine arun_do rfl rfl rfl (ex_min (m := (t2.length : Int)) (n := 249) rfl rfl) ?_
  obtain ⟨x2, hx2, h⟩ := bindS h
  refine arun_do rfl rfl rfl (tx_slS (u := t2) Try.underlying9 rfl lo0 (hiX (l := (min (t2.length : Int) 249)) rfl) hx2) ?_
  refine arun_do rfl rfl rfl (ex_build (qs := [(0, (I (w64 (1 + (x1.toNat : Int))))), (1, (I (w64 (1 + (t1.toNat : Int))))), (2, (S x2))]) (v := (Value.agg (c_api_Block (G_api_Block.mk (w64 (1 + (x1.toNat : Int))) (w64 (1 + (t1.toNat : Int))) x2)).toArray)) (evp rfl (evp rfl (evp rfl evp_nil))) (by kernel_rfl)) ?_
  refine arun_do0 rfl rfl (ex_storeL (vy := (Value.agg (c_api_Block (G_api_Block.mk (w64 (1 + (x1.toNat : Int))) (w64 (1 + (t1.toNat : Int))) x2)).toArray)) (cs := (c_api_Block (G_api_Block.mk 0 0 []))) (vs := (c_api_Block (G_api_Block.mk (w64 (1 + (x1.toNat : Int))) (w64 (1 + (t1.toNat : Int))) x2))) (L' := [(c_api_Block (G_api_Block.mk (w64 (1 + (x1.toNat : Int))) (w64 (1 + (t1.toNat : Int))) x2))]) rfl (eV (v := (Value.agg (c_api_Block (G_api_Block.mk (w64 (1 + (x1.toNat : Int))) (w64 (1 + (t1.toNat : Int))) x2)).toArray)) rfl) rfl s_23 rfl (Nat.le_of_ble_eq_true rfl) (by kernel_rfl)) ?_
  refine arun_keepE [6] 1 0 (st' := ⟨20, 0, [(6, (LP 0 0))], [(c_api_Block (G_api_Block.mk (w64 (1 + (x1.toNat : Int))) (w64 (1 + (t1.toNat : Int))) x2))], ⟨0, []⟩⟩) (by kernel_rfl) (by kernel_rfl) ?_
  show AWp _ _ _ _
  refine awp_ret ?_
  cases h
  exact ares1 (rcellL rfl rfl rfl (partA Try.underlying23 rfl s_23 (by decide) (Nat.le_of_ble_eq_true rfl) rfl))

noncomputable def M_ref1_num (t0 : Int) : Option Bool :=
  some ((decide (t0 ≥ 0)) && (decide (t0 ≤ 1073741824)))
theorem ok_ref1_num (t0 : Int) (r : Bool) (h : M_ref1_num t0 = some r) : FFn Try.prog 28 [(I t0)] (Bo r) := by
  refine FFn.of_body (n := 9) Try.func28 rfl Try.ntmps28 rfl rfl rfl rfl ?_
  show AWp _ _ _ ⟨9, 0, [(0, (I t0))], [], ⟨0, []⟩⟩
  unfold M_ref1_num at h
  refine awp_seq ?_
  refine awp_region ?_
  refine arun_do rfl rfl rfl (ex_assign (eV (v := (Bo false)) rfl)) ?_
  refine arun_keepE [0] 0 0 (st' := ⟨9, 0, [(0, (I t0))], [], ⟨0, []⟩⟩) (by kernel_rfl) (by kernel_rfl) ?_
  show AWp _ _ _ _
  refine awp_seq ?_
  refine awp_region ?_
  refine arun_do rfl rfl rfl (ex_move (eV (v := (I t0)) rfl)) ?_
  refine arun_do rfl rfl rfl (ex_bin (vx := (I t0)) (vy := (I 0)) rfl rfl geqI_ok) ?_
  refine arun_do rfl rfl rfl (ex_move (eV (v := (Bo (decide (t0 ≥ 0)))) rfl)) ?_
  refine arun_guard (v := (I t0)) ((decide (t0 ≥ 0)) == true) rfl rfl rfl (fun hc => ex_move (eV (v := (I t0)) rfl)) ?_
  refine arun_guard (v := (Bo (decide (t0 ≤ 1073741824)))) ((decide (t0 ≥ 0)) == true) rfl rfl rfl (fun hc => ex_bin (vx := (I t0)) (vy := (I 1073741824)) (cond_of hc) rfl leqI_ok) ?_
  refine arun_do rfl rfl rfl (ex_pick rfl pkAnd) ?_
  refine arun_do rfl rfl rfl (ex_assign (eV (v := (Bo ((decide (t0 ≥ 0)) && (decide (t0 ≤ 1073741824))))) rfl)) ?_
  refine arun_keepE [2] 0 0 (st' := ⟨9, 0, [(2, (Bo ((decide (t0 ≥ 0)) && (decide (t0 ≤ 1073741824)))))], [], ⟨0, []⟩⟩) (by kernel_rfl) (by kernel_rfl) ?_
  show AWp _ _ _ _
  refine awp_ret ?_
  cases h
  exact ares1 (rtmp rfl (eV rfl))

noncomputable def M_ref1_MayBlock (t0 : G_api_Block) : Option Bool :=
  Option.bind (gd ((((decide (t0.Kind ≥ 1)) && (decide (t0.Kind ≤ 6))) && (decide (t0.Birth ≥ 1))) == true) (M_ref1_num t0.Birth)) fun (x1 : Bool) => some (((((decide (t0.Kind ≥ 1)) && (decide (t0.Kind ≤ 6))) && (decide (t0.Birth ≥ 1))) && x1) && (decide ((t0.Load.length : Int) ≤ 249)))
theorem ok_ref1_MayBlock (t0 : G_api_Block) (r : Bool) (h : M_ref1_MayBlock t0 = some r) : FFn Try.prog 11 [(Value.agg (c_api_Block t0).toArray)] (Bo r) := by
  refine FFn.of_body (n := 27) Try.func11 rfl Try.ntmps11 rfl rfl rfl rfl ?_
  show AWp _ _ _ ⟨27, 0, [(0, (Value.agg (c_api_Block t0).toArray))], [], ⟨0, []⟩⟩
  unfold M_ref1_MayBlock at h
  refine awp_seq ?_
  refine awp_region ?_
  refine arun_do rfl rfl rfl (ex_box (vx := (Value.agg (c_api_Block t0).toArray)) (cs := (c_api_Block t0)) (k := 0) (L' := [(c_api_Block t0)]) (eV (v := (Value.agg (c_api_Block t0).toArray)) rfl) rfl rfl rfl) ?_
  refine arun_do rfl rfl rfl (ex_assign (eV (v := (Bo false)) rfl)) ?_
  refine arun_keepE [1] 1 0 (st' := ⟨27, 0, [(1, (LP 0 0))], [(c_api_Block t0)], ⟨0, []⟩⟩) (by kernel_rfl) (by kernel_rfl) ?_
  show AWp _ _ _ _
  refine awp_seq ?_
  refine awp_region ?_
  refine arun_do rfl rfl rfl (ex_fieldAddr (v := (LP 0 0)) Try.underlying23 rfl s_3 (by decide) rfl rfl) ?_
  refine arun_do rfl rfl rfl (tx_ldL1 (v := (I t0.Kind)) Try.underlying3 rfl rfl rfl rfl) ?_
  refine arun_do rfl rfl rfl (ex_bin (vx := (I t0.Kind)) (vy := (I 1)) rfl rfl geqI_ok) ?_
  refine arun_do rfl rfl rfl (ex_move (eV (v := (Bo (decide (t0.Kind ≥ 1)))) rfl)) ?_
  refine arun_guard (v := (LP 0 0)) ((decide (t0.Kind ≥ 1)) == true) rfl rfl rfl (fun hc => ex_fieldAddr (v := (LP 0 0)) Try.underlying23 rfl s_3 (by decide) rfl rfl) ?_
  refine arun_guard (v := (I t0.Kind)) ((decide (t0.Kind ≥ 1)) == true) rfl rfl rfl (fun hc => tx_ldL1 (v := (I t0.Kind)) Try.underlying3 rfl (cond_of hc) rfl rfl) ?_
  refine arun_guard (v := (Bo (decide (t0.Kind ≤ 6)))) ((decide (t0.Kind ≥ 1)) == true) rfl rfl rfl (fun hc => ex_bin (vx := (I t0.Kind)) (vy := (I 6)) (cond_of hc) rfl leqI_ok) ?_
  refine arun_do rfl rfl rfl (ex_pick rfl pkAnd) ?_
  refine arun_do rfl rfl rfl (ex_move (eV (v := (Bo ((decide (t0.Kind ≥ 1)) && (decide (t0.Kind ≤ 6))))) rfl)) ?_
  refine arun_guard (v := (LP 0 1)) (((decide (t0.Kind ≥ 1)) && (decide (t0.Kind ≤ 6))) == true) rfl rfl rfl (fun hc => ex_fieldAddr (v := (LP 0 1)) Try.underlying23 rfl s_3 (by decide) rfl rfl) ?_
  refine arun_guard (v := (I t0.Birth)) (((decide (t0.Kind ≥ 1)) && (decide (t0.Kind ≤ 6))) == true) rfl rfl rfl (fun hc => tx_ldL1 (v := (I t0.Birth)) Try.underlying3 rfl (cond_of hc) rfl rfl) ?_
  refine arun_guard (v := (Bo (decide (t0.Birth ≥ 1)))) (((decide (t0.Kind ≥ 1)) && (decide (t0.Kind ≤ 6))) == true) rfl rfl rfl (fun hc => ex_bin (vx := (I t0.Birth)) (vy := (I 1)) (cond_of hc) rfl geqI_ok) ?_
  refine arun_do rfl rfl rfl (ex_pick rfl pkAnd) ?_
  refine arun_do rfl rfl rfl (ex_move (eV (v := (Bo (((decide (t0.Kind ≥ 1)) && (decide (t0.Kind ≤ 6))) && (decide (t0.Birth ≥ 1))))) rfl)) ?_
  refine arun_guard (v := (LP 0 1)) ((((decide (t0.Kind ≥ 1)) && (decide (t0.Kind ≤ 6))) && (decide (t0.Birth ≥ 1))) == true) rfl rfl rfl (fun hc => ex_fieldAddr (v := (LP 0 1)) Try.underlying23 rfl s_3 (by decide) rfl rfl) ?_
  refine arun_guard (v := (I t0.Birth)) ((((decide (t0.Kind ≥ 1)) && (decide (t0.Kind ≤ 6))) && (decide (t0.Birth ≥ 1))) == true) rfl rfl rfl (fun hc => tx_ldL1 (v := (I t0.Birth)) Try.underlying3 rfl (cond_of hc) rfl rfl) ?_
  obtain ⟨x1, hx1, h⟩ := bindS h
  refine arun_guard (v := (Bo x1)) ((((decide (t0.Kind ≥ 1)) && (decide (t0.Kind ≤ 6))) && (decide (t0.Birth ≥ 1))) == true) rfl rfl rfl (fun hc => ex_call0 (vs := [(I t0.Birth)]) (v := (Bo x1)) rfl en_28 (cargs (evs (cond_of hc) evs_nil)) rfl (ok_ref1_num t0.Birth x1 (gd_of hc hx1)) rfl) ?_
  refine arun_do rfl rfl rfl (ex_pick rfl pkAnd) ?_
  refine arun_do rfl rfl rfl (ex_move (eV (v := (Bo ((((decide (t0.Kind ≥ 1)) && (decide (t0.Kind ≤ 6))) && (decide (t0.Birth ≥ 1))) && x1))) rfl)) ?_
  refine arun_guard (v := (LP 0 2)) (((((decide (t0.Kind ≥ 1)) && (decide (t0.Kind ≤ 6))) && (decide (t0.Birth ≥ 1))) && x1) == true) rfl rfl rfl (fun hc => ex_fieldAddr (v := (LP 0 2)) Try.underlying23 rfl s_9 (by decide) rfl rfl) ?_
  refine arun_guard (v := (S t0.Load)) (((((decide (t0.Kind ≥ 1)) && (decide (t0.Kind ≤ 6))) && (decide (t0.Birth ≥ 1))) && x1) == true) rfl rfl rfl (fun hc => tx_ldL1 (v := (S t0.Load)) Try.underlying9 rfl (cond_of hc) rfl rfl) ?_
  refine arun_guard (v := (I (t0.Load.length : Int))) (((((decide (t0.Kind ≥ 1)) && (decide (t0.Kind ≤ 6))) && (decide (t0.Birth ≥ 1))) && x1) == true) rfl rfl rfl (fun hc => tx_lenS Try.underlying9 (cond_of hc)) ?_
  refine arun_guard (v := (Bo (decide ((t0.Load.length : Int) ≤ 249)))) (((((decide (t0.Kind ≥ 1)) && (decide (t0.Kind ≤ 6))) && (decide (t0.Birth ≥ 1))) && x1) == true) rfl rfl rfl (fun hc => ex_bin (vx := (I (t0.Load.length : Int))) (vy := (I 249)) (cond_of hc) rfl leqI_ok) ?_
  refine arun_do rfl rfl rfl (ex_pick rfl pkAnd) ?_
  refine arun_do rfl rfl rfl (ex_assign (eV (v := (Bo (((((decide (t0.Kind ≥ 1)) && (decide (t0.Kind ≤ 6))) && (decide (t0.Birth ≥ 1))) && x1) && (decide ((t0.Load.length : Int) ≤ 249))))) rfl)) ?_
  refine arun_keepE [2] 0 0 (st' := ⟨27, 0, [(2, (Bo (((((decide (t0.Kind ≥ 1)) && (decide (t0.Kind ≤ 6))) && (decide (t0.Birth ≥ 1))) && x1) && (decide ((t0.Load.length : Int) ≤ 249)))))], [], ⟨0, []⟩⟩) (by kernel_rfl) (by kernel_rfl) ?_
  show AWp _ _ _ _
  refine awp_ret ?_
  cases h
  exact ares1 (rtmp rfl (eV rfl))

noncomputable def M_ref1_Put_l2 (c_1 : (Str → Int → Option Str)) (t0 : Str) (t1 : (List Int)) (v3 : Int) : Nat → Str → Int → Option Str
  | 0, _, _ => none
  | n2 + 1, v7, v8 =>
  cond (decide (v8 ≥ 0)) (Option.bind (getI t1 v3) fun (x10 : Int) => Option.bind (shrI x10 (w64 (8 * v8))) fun (x11 : Int) => Option.bind (addS v7 ([(UInt8.ofInt x11)] : List UInt8)) fun (x12 : Str) => (M_ref1_Put_l2 c_1 t0 t1 v3 n2) x12 (w64 (v8 - 1))) (c_1 v7 (w64 (v3 + 1)))
noncomputable def M_ref1_Put_l1 (t0 : Str) (t1 : (List Int)) : Nat → Str → Int → Option Str
  | 0, _, _ => none
  | n1 + 1, v2, v3 =>
  cond (decide (v3 < (t0.length : Int))) (Option.bind (getI t0 v3) fun (x5 : UInt8) => cond ((decide ((w64 ((x5.toNat : Int) - 48)) < 1)) || (decide ((w64 ((x5.toNat : Int) - 48)) > 4))) (some []) (M_ref1_Put_l2 (M_ref1_Put_l1 t0 t1 n1) t0 t1 v3 fuel v2 (w64 ((w64 ((x5.toNat : Int) - 48)) - 1)))) (some v2)
noncomputable def M_ref1_Put (t0 : Str) (t1 : (List Int)) : Option Str :=
  cond ((t0.length : Int) != (t1.length : Int)) (some []) (M_ref1_Put_l1 t0 t1 fuel ([] : Str) 0)
theorem ok_ref1_Put (t0 : Str) (t1 : (List Int)) (r : Str) (h : M_ref1_Put t0 t1 = some r) : FFn Try.prog 30 [(S t0), (SL 1 cI t1)] (S r) := by
  refine FFn.of_body (n := 50) Try.func30 rfl Try.ntmps30 rfl rfl rfl rfl ?_
  show AWp _ _ _ ⟨50, 0, [(0, (S t0)), (1, (SL 1 cI t1))], [], ⟨0, []⟩⟩
  unfold M_ref1_Put at h
  refine awp_seq ?_
  refine awp_region ?_
  refine arun_do rfl rfl rfl (ex_assign (eV (v := (S [])) rfl)) ?_
  refine arun_keepE [0, 1] 0 0 (st' := ⟨50, 0, [(0, (S t0)), (1, (SL 1 cI t1))], [], ⟨0, []⟩⟩) (by kernel_rfl) (by kernel_rfl) ?_
  show AWp _ _ _ _
  refine awp_seq ?_
  refine awp_seq ?_
  refine awp_region ?_
  refine arun_do rfl rfl rfl (ex_move (eV (v := (S t0)) rfl)) ?_
  refine arun_do rfl rfl rfl (tx_lenS Try.underlying9 rfl) ?_
  refine arun_do rfl rfl rfl (ex_move (eV (v := (SL 1 cI t1)) rfl)) ?_
  refine arun_do rfl rfl rfl (tx_lenD (xs := t1) ceI Try.underlying48 rfl) ?_
  refine arun_do rfl rfl rfl (ex_bin (vx := (I (t0.length : Int))) (vy := (I (t1.length : Int))) rfl rfl neqI_ok) ?_
  refine arun_keepE [0, 1, 13] 0 0 (st' := ⟨50, 0, [(0, (S t0)), (1, (SL 1 cI t1)), (13, (Bo ((t0.length : Int) != (t1.length : Int))))], [], ⟨0, []⟩⟩) (by kernel_rfl) (by kernel_rfl) ?_
  show AWp _ _ _ _
  rcases Bool.eq_false_or_eq_true ((t0.length : Int) != (t1.length : Int)) with hb1 | hb1
  · rw [condT hb1] at h
    refine awp_condT (boT hb1) ?_
    refine awp_seq ?_
    refine awp_region ?_
    refine arun_do rfl rfl rfl (ex_assign (eV (v := (S [])) rfl)) ?_
    refine arun_keepE [4] 0 0 (st' := ⟨50, 0, [(4, (S []))], [], ⟨0, []⟩⟩) (by kernel_rfl) (by kernel_rfl) ?_
    show AWp _ _ _ _
    refine awp_ret ?_
    cases h
    exact ares1 (rtmp rfl (eV rfl))
  · rw [condF hb1] at h
    refine awp_condF (boF hb1) ?_
    refine awp_skip ?_
    show AWp _ _ _ _
    refine awp_seq ?_
    refine awp_region ?_
    refine arun_do rfl rfl rfl (ex_assign (eV (v := (S [])) rfl)) ?_
    refine arun_keepE [0, 1, 5] 0 0 (st' := ⟨50, 0, [(0, (S t0)), (1, (SL 1 cI t1)), (5, (S []))], [], ⟨0, []⟩⟩) (by kernel_rfl) (by kernel_rfl) ?_
    show AWp _ _ _ _
    refine awp_seq ?_
    refine awp_seq ?_
    refine awp_region ?_
    refine arun_do rfl rfl rfl (ex_assign (eV (v := (I 0)) rfl)) ?_
    refine arun_keepE [0, 1, 5, 6] 0 0 (st' := ⟨50, 0, [(0, (S t0)), (1, (SL 1 cI t1)), (5, (S [])), (6, (I 0))], [], ⟨0, []⟩⟩) (by kernel_rfl) (by kernel_rfl) ?_
    show AWp _ _ _ _
    refine awp_block ?_
    refine awp_loop (fun n s => ∃ (v2 : Str) (v3 : Int), s = ⟨50, 0, [(0, (S t0)), (1, (SL 1 cI t1)), (5, (S v2)), (6, (I v3))], [], ⟨0, []⟩⟩ ∧ M_ref1_Put_l1 t0 t1 n v2 v3 = some r) fuel (Exists.intro ([] : Str) (Exists.intro 0 (And.intro rfl h))) ?_
    rintro n s ⟨v2, v3, rfl, h⟩ -
    cases n with
    | zero => cases h
    | succ n1 =>
      unfold M_ref1_Put_l1 at h
      refine awp_seq ?_
      refine awp_seq ?_
      refine awp_region ?_
      refine arun_do rfl rfl rfl (ex_move (eV (v := (I v3)) rfl)) ?_
      refine arun_do rfl rfl rfl (ex_move (eV (v := (S t0)) rfl)) ?_
      refine arun_do rfl rfl rfl (tx_lenS Try.underlying9 rfl) ?_
      refine arun_do rfl rfl rfl (ex_bin (vx := (I v3)) (vy := (I (t0.length : Int))) rfl rfl lssI_ok) ?_
      refine arun_keepE [0, 1, 5, 6, 17] 0 0 (st' := ⟨50, 0, [(0, (S t0)), (1, (SL 1 cI t1)), (5, (S v2)), (6, (I v3)), (17, (Bo (decide (v3 < (t0.length : Int)))))], [], ⟨0, []⟩⟩) (by kernel_rfl) (by kernel_rfl) ?_
      show AWp _ _ _ _
      rcases Bool.eq_false_or_eq_true (decide (v3 < (t0.length : Int))) with hb4 | hb4
      · rw [condT hb4] at h
        refine awp_condT (boT hb4) ?_
        refine awp_skip ?_
        show AWp _ _ _ _
        refine awp_seq ?_
        refine awp_block ?_
        refine awp_seq ?_
        refine awp_region ?_
        refine arun_do rfl rfl rfl (ex_move (eV (v := (S t0)) rfl)) ?_
        refine arun_do rfl rfl rfl (ex_move (eV (v := (I v3)) rfl)) ?_
        obtain ⟨x5, hx5, h⟩ := bindS h
        refine arun_do rfl rfl rfl (tx_idxS (u := t0) (i := v3) Try.underlying9 rfl rfl hx5) ?_
        refine arun_do rfl rfl rfl (tx_8_64 Try.underlying5 Try.underlying3 rfl) ?_
        refine arun_do rfl rfl rfl (ex_bin (vx := (I (x5.toNat : Int))) (vy := (I 48)) rfl rfl subI_ok) ?_
        refine arun_do rfl rfl rfl (ex_assign (eV (v := (I (w64 ((x5.toNat : Int) - 48)))) rfl)) ?_
        refine arun_keepE [0, 1, 5, 6, 7] 0 0 (st' := ⟨50, 0, [(0, (S t0)), (1, (SL 1 cI t1)), (5, (S v2)), (6, (I v3)), (7, (I (w64 ((x5.toNat : Int) - 48))))], [], ⟨0, []⟩⟩) (by kernel_rfl) (by kernel_rfl) ?_
        show AWp _ _ _ _
        refine awp_seq ?_
        refine awp_seq ?_
        refine awp_region ?_
        refine arun_do rfl rfl rfl (ex_move (eV (v := (I (w64 ((x5.toNat : Int) - 48)))) rfl)) ?_
        refine arun_do rfl rfl rfl (ex_bin (vx := (I (w64 ((x5.toNat : Int) - 48)))) (vy := (I 1)) rfl rfl lssI_ok) ?_
        refine arun_do rfl rfl rfl (ex_move (eV (v := (Bo (decide ((w64 ((x5.toNat : Int) - 48)) < 1)))) rfl)) ?_
        refine arun_guard (v := (I (w64 ((x5.toNat : Int) - 48)))) ((decide ((w64 ((x5.toNat : Int) - 48)) < 1)) == false) rfl rfl rfl (fun hc => ex_move (eV (v := (I (w64 ((x5.toNat : Int) - 48)))) rfl)) ?_
        refine arun_guard (v := (Bo (decide ((w64 ((x5.toNat : Int) - 48)) > 4)))) ((decide ((w64 ((x5.toNat : Int) - 48)) < 1)) == false) rfl rfl rfl (fun hc => ex_bin (vx := (I (w64 ((x5.toNat : Int) - 48)))) (vy := (I 4)) (cond_of hc) rfl gtrI_ok) ?_
        refine arun_do rfl rfl rfl (ex_pick rfl pkOr) ?_
        refine arun_keepE [0, 1, 5, 6, 7, 30] 0 0 (st' := ⟨50, 0, [(0, (S t0)), (1, (SL 1 cI t1)), (5, (S v2)), (6, (I v3)), (7, (I (w64 ((x5.toNat : Int) - 48)))), (30, (Bo ((decide ((w64 ((x5.toNat : Int) - 48)) < 1)) || (decide ((w64 ((x5.toNat : Int) - 48)) > 4)))))], [], ⟨0, []⟩⟩) (by kernel_rfl) (by kernel_rfl) ?_
        show AWp _ _ _ _
        rcases Bool.eq_false_or_eq_true ((decide ((w64 ((x5.toNat : Int) - 48)) < 1)) || (decide ((w64 ((x5.toNat : Int) - 48)) > 4))) with hb6 | hb6
        · rw [condT hb6] at h
          refine awp_condT (boT hb6) ?_
          refine awp_seq ?_
          refine awp_region ?_
          refine arun_do rfl rfl rfl (ex_assign (eV (v := (S [])) rfl)) ?_
          refine arun_keepE [4] 0 0 (st' := ⟨50, 0, [(4, (S []))], [], ⟨0, []⟩⟩) (by kernel_rfl) (by kernel_rfl) ?_
          show AWp _ _ _ _
          refine awp_ret ?_
          cases h
          exact ares1 (rtmp rfl (eV rfl))
        · rw [condF hb6] at h
          refine awp_condF (boF hb6) ?_
          refine awp_skip ?_
          show AWp _ _ _ _
          refine awp_seq ?_
          refine awp_region ?_
          refine arun_do rfl rfl rfl (ex_move (eV (v := (I (w64 ((x5.toNat : Int) - 48)))) rfl)) ?_
          refine arun_do rfl rfl rfl (ex_bin (vx := (I (w64 ((x5.toNat : Int) - 48)))) (vy := (I 1)) rfl rfl subI_ok) ?_
          refine arun_do rfl rfl rfl (ex_assign (eV (v := (I (w64 ((w64 ((x5.toNat : Int) - 48)) - 1)))) rfl)) ?_
          refine arun_keepE [0, 1, 5, 6, 8] 0 0 (st' := ⟨50, 0, [(0, (S t0)), (1, (SL 1 cI t1)), (5, (S v2)), (6, (I v3)), (8, (I (w64 ((w64 ((x5.toNat : Int) - 48)) - 1))))], [], ⟨0, []⟩⟩) (by kernel_rfl) (by kernel_rfl) ?_
          show AWp _ _ _ _
          refine awp_block ?_
          refine awp_loop (fun n s => ∃ (v7 : Str) (v8 : Int), s = ⟨50, 0, [(0, (S t0)), (1, (SL 1 cI t1)), (5, (S v7)), (6, (I v3)), (8, (I v8))], [], ⟨0, []⟩⟩ ∧ M_ref1_Put_l2 (M_ref1_Put_l1 t0 t1 n1) t0 t1 v3 n v7 v8 = some r) fuel (Exists.intro v2 (Exists.intro (w64 ((w64 ((x5.toNat : Int) - 48)) - 1)) (And.intro rfl h))) ?_
          rintro n s ⟨v7, v8, rfl, h⟩ -
          cases n with
          | zero => cases h
          | succ n2 =>
            unfold M_ref1_Put_l2 at h
            refine awp_seq ?_
            refine awp_seq ?_
            refine awp_region ?_
            refine arun_do rfl rfl rfl (ex_move (eV (v := (I v8)) rfl)) ?_
            refine arun_do rfl rfl rfl (ex_bin (vx := (I v8)) (vy := (I 0)) rfl rfl geqI_ok) ?_
            refine arun_keepE [0, 1, 5, 6, 8, 34] 0 0 (st' := ⟨50, 0, [(0, (S t0)), (1, (SL 1 cI t1)), (5, (S v7)), (6, (I v3)), (8, (I v8)), (34, (Bo (decide (v8 ≥ 0))))], [], ⟨0, []⟩⟩) (by kernel_rfl) (by kernel_rfl) ?_
            show AWp _ _ _ _
            rcases Bool.eq_false_or_eq_true (decide (v8 ≥ 0)) with hb9 | hb9
            · rw [condT hb9] at h
              refine awp_condT (boT hb9) ?_
              refine awp_skip ?_
              show AWp _ _ _ _
              refine awp_seq ?_
              refine awp_block ?_
              refine awp_region ?_
              refine arun_do rfl rfl rfl (ex_move (eV (v := (S v7)) rfl)) ?_
              refine arun_do rfl rfl rfl (ex_move (eV (v := (SL 1 cI t1)) rfl)) ?_
              refine arun_do rfl rfl rfl (ex_move (eV (v := (I v3)) rfl)) ?_
              obtain ⟨x10, hx10, h⟩ := bindS h
              refine arun_do rfl rfl rfl (tx_idxD (c := cI) (xs := t1) (i := v3) ceI Try.underlying48 s_3 rfl rfl hx10) ?_
              refine arun_do rfl rfl rfl (tx_ldD1 (v := (I x10)) Try.underlying3 rfl rfl rfl) ?_
              refine arun_do rfl rfl rfl (ex_move (eV (v := (I v8)) rfl)) ?_
              refine arun_do rfl rfl rfl (ex_bin (vx := (I 8)) (vy := (I v8)) rfl rfl mulI_ok) ?_
              obtain ⟨x11, hx11, h⟩ := bindS h
              refine arun_do rfl rfl rfl (ex_bin (vx := (I x10)) (vy := (I (w64 (8 * v8)))) rfl rfl (shrI_ok hx11)) ?_
              refine arun_do rfl rfl rfl (tx_64_8 Try.underlying3 Try.underlying5 rfl) ?_
              refine arun_do rfl rfl rfl (ex_buildSliceD (qs := [(0, (U8 (UInt8.ofInt x11)))]) (cells := (([(UInt8.ofInt x11)] : List UInt8).flatMap c8)) Try.underlying34 s_5 (by decide) (evp rfl evp_nil) rfl (by kernel_rfl) (by kernel_rfl) (by kernel_rfl)) ?_
              refine arun_do rfl rfl rfl (tx_bsD (bs := ([(UInt8.ofInt x11)] : List UInt8)) Try.underlying34 Try.underlying9 Try.underlying5 rfl) ?_
              obtain ⟨x12, hx12, h⟩ := bindS h
              refine arun_do rfl rfl rfl (ex_bin (vx := (S v7)) (vy := (S ([(UInt8.ofInt x11)] : List UInt8))) rfl rfl (addS_ok hx12)) ?_
              refine arun_do rfl rfl rfl (ex_assign (eV (v := (S x12)) rfl)) ?_
              refine arun_keepE [0, 1, 5, 6, 8] 0 0 (st' := ⟨50, 0, [(0, (S t0)), (1, (SL 1 cI t1)), (5, (S x12)), (6, (I v3)), (8, (I v8))], [], ⟨0, []⟩⟩) (by kernel_rfl) (by kernel_rfl) ?_
              show AWp _ _ _ _
              refine awp_region ?_
              refine arun_do rfl rfl rfl (ex_move (eV (v := (I v8)) rfl)) ?_
              refine arun_do rfl rfl rfl (ex_bin (vx := (I v8)) (vy := (I 1)) rfl rfl subI_ok) ?_
              refine arun_do rfl rfl rfl (ex_assign (eV (v := (I (w64 (v8 - 1)))) rfl)) ?_
              refine arun_keepE [0, 1, 5, 6, 8] 0 0 (st' := ⟨50, 0, [(0, (S t0)), (1, (SL 1 cI t1)), (5, (S x12)), (6, (I v3)), (8, (I (w64 (v8 - 1))))], [], ⟨0, []⟩⟩) (by kernel_rfl) (by kernel_rfl) ?_
              exact Exists.intro n2 (And.intro (Nat.lt_succ_self _) (Exists.intro x12 (Exists.intro (w64 (v8 - 1)) (And.intro rfl h))))
            · rw [condF hb9] at h
              refine awp_condF (boF hb9) ?_
              refine awp_exit ?_
              show AWp _ _ _ _
              refine awp_region ?_
              refine arun_do rfl rfl rfl (ex_move (eV (v := (I v3)) rfl)) ?_
              refine arun_do rfl rfl rfl (ex_bin (vx := (I v3)) (vy := (I 1)) rfl rfl addI_ok) ?_
              refine arun_do rfl rfl rfl (ex_assign (eV (v := (I (w64 (v3 + 1)))) rfl)) ?_
              refine arun_keepE [0, 1, 5, 6] 0 0 (st' := ⟨50, 0, [(0, (S t0)), (1, (SL 1 cI t1)), (5, (S v7)), (6, (I (w64 (v3 + 1))))], [], ⟨0, []⟩⟩) (by kernel_rfl) (by kernel_rfl) ?_
              exact Exists.intro n1 (And.intro (Nat.lt_succ_self _) (Exists.intro v7 (Exists.intro (w64 (v3 + 1)) (And.intro rfl h))))
      · rw [condF hb4] at h
        refine awp_condF (boF hb4) ?_
        refine awp_exit ?_
        show AWp _ _ _ _
        refine awp_seq ?_
        refine awp_region ?_
        refine arun_do rfl rfl rfl (ex_move (eV (v := (S v2)) rfl)) ?_
        refine arun_do rfl rfl rfl (ex_assign (eV (v := (S v2)) rfl)) ?_
        refine arun_keepE [4] 0 0 (st' := ⟨50, 0, [(4, (S v2))], [], ⟨0, []⟩⟩) (by kernel_rfl) (by kernel_rfl) ?_
        show AWp _ _ _ _
        refine awp_ret ?_
        cases h
        exact ares1 (rtmp rfl (eV rfl))

noncomputable def M_ref1_PutBlock (t0 : G_api_Block) : Option Str :=
  Option.bind (M_ref1_MayBlock t0) fun (x1 : Bool) => cond (!x1) (some []) (Option.bind (M_ref1_Put ([49, 52, 50] : Str) ([t0.Kind, t0.Birth, (t0.Load.length : Int)] : List Int)) fun (x3 : Str) => Option.bind (addS x3 t0.Load) fun (x4 : Str) => Option.bind (M_ref1_noughts (w64 (256 - (x4.length : Int)))) fun (x5 : Str) => Option.bind (addS x4 x5) fun (x6 : Str) => some x6)
theorem ok_ref1_PutBlock (t0 : G_api_Block) (r : Str) (h : M_ref1_PutBlock t0 = some r) : FFn Try.prog 13 [(Value.agg (c_api_Block t0).toArray)] (S r) := by
  refine FFn.of_body (n := 25) Try.func13 rfl Try.ntmps13 rfl rfl rfl rfl ?_
  show AWp _ _ _ ⟨25, 0, [(0, (Value.agg (c_api_Block t0).toArray))], [], ⟨0, []⟩⟩
  unfold M_ref1_PutBlock at h
  refine awp_seq ?_
  refine awp_region ?_
  refine arun_do rfl rfl rfl (ex_box (vx := (Value.agg (c_api_Block t0).toArray)) (cs := (c_api_Block t0)) (k := 0) (L' := [(c_api_Block t0)]) (eV (v := (Value.agg (c_api_Block t0).toArray)) rfl) rfl rfl rfl) ?_
  refine arun_do rfl rfl rfl (ex_assign (eV (v := (S [])) rfl)) ?_
  refine arun_keepE [1] 1 0 (st' := ⟨25, 0, [(1, (LP 0 0))], [(c_api_Block t0)], ⟨0, []⟩⟩) (by kernel_rfl) (by kernel_rfl) ?_
  show AWp _ _ _ _
  refine awp_seq ?_
  refine awp_seq ?_
  refine awp_region ?_
  refine arun_do rfl rfl rfl (tx_ldLA (vs := (c_api_Block t0)) Try.underlying23 rfl s_23 (by decide) rfl rfl rfl rfl) ?_
  obtain ⟨x1, hx1, h⟩ := bindS h
  refine arun_do rfl rfl rfl (ex_call0 (vs := [(Value.agg (c_api_Block t0).toArray)]) (v := (Bo x1)) rfl en_11 (cargs (evs rfl evs_nil)) rfl (ok_ref1_MayBlock t0 x1 hx1) rfl) ?_
  refine arun_do rfl rfl rfl (ex_un (vx := (Bo x1)) rfl notB_ok) ?_
  refine arun_keepE [1, 6] 1 0 (st' := ⟨25, 0, [(1, (LP 0 0)), (6, (Bo (!x1)))], [(c_api_Block t0)], ⟨0, []⟩⟩) (by kernel_rfl) (by kernel_rfl) ?_
  show AWp _ _ _ _
  rcases Bool.eq_false_or_eq_true (!x1) with hb2 | hb2
  · rw [condT hb2] at h
    refine awp_condT (boT hb2) ?_
    refine awp_seq ?_
    refine awp_region ?_
    refine arun_do rfl rfl rfl (ex_assign (eV (v := (S [])) rfl)) ?_
    refine arun_keepE [2] 0 0 (st' := ⟨25, 0, [(2, (S []))], [], ⟨0, []⟩⟩) (by kernel_rfl) (by kernel_rfl) ?_
    show AWp _ _ _ _
    refine awp_ret ?_
    cases h
    exact ares1 (rtmp rfl (eV rfl))
  · rw [condF hb2] at h
    refine awp_condF (boF hb2) ?_
    refine awp_skip ?_
    show AWp _ _ _ _
    refine awp_seq ?_
    obtain ⟨x3, hx3, h⟩ := bindS h
    obtain ⟨x4, hx4, h⟩ := bindS h
    refine awp_kn [3] 0 0 (st' := ⟨25, 0, [(3, (S x4))], [], ⟨0, []⟩⟩) (awp_draw (T := [(LP 0 0), (I t0.Kind), (LP 0 1), (I t0.Birth), (LP 0 2), (S t0.Load), (I (t0.Load.length : Int)), (SL 1 cI ([t0.Kind, t0.Birth, (t0.Load.length : Int)] : List Int)), (S x3), (LP 0 2), (S t0.Load), (S x4), (S x4)]) (LH := [([(c_api_Block t0)], ⟨0, []⟩)]) (D := [⟨[(1, none)], [], [0], false⟩, ⟨[(7, some 0)], [0], [0], false⟩, ⟨[(1, none)], [], [0], false⟩, ⟨[(9, some 2)], [2], [0], false⟩, ⟨[(1, none)], [], [0], false⟩, ⟨[(11, some 4)], [4], [0], false⟩, ⟨[(12, some 5)], [4, 5], [0], false⟩, ⟨[(8, some 1), (10, some 3), (13, some 6)], [0, 1, 2, 3, 4, 5, 6], [0], false⟩, ⟨[(14, some 7)], [0, 1, 2, 3, 4, 5, 6, 7], [0], false⟩, ⟨[(1, none)], [], [0], false⟩, ⟨[(16, some 9)], [9], [0], false⟩, ⟨[(15, some 8), (17, some 10)], [0, 1, 2, 3, 4, 5, 6, 7, 8, 9, 10], [0], false⟩, ⟨[(18, some 11)], [0, 1, 2, 3, 4, 5, 6, 7, 8, 9, 10, 11], [0], false⟩]) (S := []) (plan := [0, 1, 2, 3, 4, 5, 6, 7, 8, 9, 10, 11, 12]) mo (by kernel_rfl) rfl rfl rfl (dcons (dstep1 (Tm := [(1, (LP 0 0))]) (L := [(c_api_Block t0)]) (H := ⟨0, []⟩) rfl rfl rfl rfl rfl (astep_do rfl (ex_fieldAddr (v := (LP 0 0)) Try.underlying23 rfl s_3 (by decide) rfl rfl))) (dcons (dstep1 (Tm := [(7, (LP 0 0))]) (L := [(c_api_Block t0)]) (H := ⟨0, []⟩) rfl rfl rfl rfl rfl (astep_do rfl (tx_ldL1 (v := (I t0.Kind)) Try.underlying3 rfl rfl rfl rfl))) (dcons (dstep1 (Tm := [(1, (LP 0 0))]) (L := [(c_api_Block t0)]) (H := ⟨0, []⟩) rfl rfl rfl rfl rfl (astep_do rfl (ex_fieldAddr (v := (LP 0 1)) Try.underlying23 rfl s_3 (by decide) rfl rfl))) (dcons (dstep1 (Tm := [(9, (LP 0 1))]) (L := [(c_api_Block t0)]) (H := ⟨0, []⟩) rfl rfl rfl rfl rfl (astep_do rfl (tx_ldL1 (v := (I t0.Birth)) Try.underlying3 rfl rfl rfl rfl))) (dcons (dstep1 (Tm := [(1, (LP 0 0))]) (L := [(c_api_Block t0)]) (H := ⟨0, []⟩) rfl rfl rfl rfl rfl (astep_do rfl (ex_fieldAddr (v := (LP 0 2)) Try.underlying23 rfl s_9 (by decide) rfl rfl))) (dcons (dstep1 (Tm := [(11, (LP 0 2))]) (L := [(c_api_Block t0)]) (H := ⟨0, []⟩) rfl rfl rfl rfl rfl (astep_do rfl (tx_ldL1 (v := (S t0.Load)) Try.underlying9 rfl rfl rfl rfl))) (dcons (dstep1 (Tm := [(12, (S t0.Load))]) (L := [(c_api_Block t0)]) (H := ⟨0, []⟩) rfl rfl rfl rfl rfl (astep_do rfl (tx_lenS Try.underlying9 rfl))) (dcons (dstep1 (Tm := [(8, (I t0.Kind)), (10, (I t0.Birth)), (13, (I (t0.Load.length : Int)))]) (L := [(c_api_Block t0)]) (H := ⟨0, []⟩) rfl rfl rfl rfl rfl (astep_do rfl (ex_buildSliceD (qs := [(0, (I t0.Kind)), (1, (I t0.Birth)), (2, (I (t0.Load.length : Int)))]) (cells := (([t0.Kind, t0.Birth, (t0.Load.length : Int)] : List Int).flatMap cI)) Try.underlying48 s_3 (by decide) (evp rfl (evp rfl (evp rfl evp_nil))) rfl (by kernel_rfl) (by kernel_rfl) (by kernel_rfl)))) (dcons (dstep1 (Tm := [(14, (SL 1 cI ([t0.Kind, t0.Birth, (t0.Load.length : Int)] : List Int)))]) (L := [(c_api_Block t0)]) (H := ⟨0, []⟩) rfl rfl rfl rfl rfl (astep_do rfl (ex_call0 (vs := [(S ([49, 52, 50] : Str)), (SL 1 cI ([t0.Kind, t0.Birth, (t0.Load.length : Int)] : List Int))]) (v := (S x3)) rfl en_30 (cargs (evs rfl (evs rfl evs_nil))) rfl (ok_ref1_Put ([49, 52, 50] : Str) ([t0.Kind, t0.Birth, (t0.Load.length : Int)] : List Int) x3 hx3) rfl))) (dcons (dstep1 (Tm := [(1, (LP 0 0))]) (L := [(c_api_Block t0)]) (H := ⟨0, []⟩) rfl rfl rfl rfl rfl (astep_do rfl (ex_fieldAddr (v := (LP 0 2)) Try.underlying23 rfl s_9 (by decide) rfl rfl))) (dcons (dstep1 (Tm := [(16, (LP 0 2))]) (L := [(c_api_Block t0)]) (H := ⟨0, []⟩) rfl rfl rfl rfl rfl (astep_do rfl (tx_ldL1 (v := (S t0.Load)) Try.underlying9 rfl rfl rfl rfl))) (dcons (dstep1 (Tm := [(15, (S x3)), (17, (S t0.Load))]) (L := [(c_api_Block t0)]) (H := ⟨0, []⟩) rfl rfl rfl rfl rfl (astep_do rfl (ex_bin (vx := (S x3)) (vy := (S t0.Load)) rfl rfl (addS_ok hx4)))) (dcons (dstep1 (Tm := [(18, (S x4))]) (L := [(c_api_Block t0)]) (H := ⟨0, []⟩) rfl rfl rfl rfl rfl (astep_do rfl (ex_assign (eV (v := (S x4)) rfl)))) dnil))))))))))))) ⟨rfl, rfl⟩) (by kernel_rfl) (by kernel_rfl) ?_
    show AWp _ _ _ _
    refine awp_seq ?_
    refine awp_region ?_
    refine arun_do rfl rfl rfl (ex_move (eV (v := (S x4)) rfl)) ?_
    refine arun_do rfl rfl rfl (ex_move (eV (v := (S x4)) rfl)) ?_
    refine arun_do rfl rfl rfl (tx_lenS Try.underlying9 rfl) ?_
    refine arun_do rfl rfl rfl (ex_bin (vx := (I 256)) (vy := (I (x4.length : Int))) rfl rfl subI_ok) ?_
    obtain ⟨x5, hx5, h⟩ := bindS h
    refine arun_do rfl rfl rfl (ex_call0 (vs := [(I (w64 (256 - (x4.length : Int))))]) (v := (S x5)) rfl en_31 (cargs (evs rfl evs_nil)) rfl (ok_ref1_noughts (w64 (256 - (x4.length : Int))) x5 hx5) rfl) ?_
    obtain ⟨x6, hx6, h⟩ := bindS h
    refine arun_do rfl rfl rfl (ex_bin (vx := (S x4)) (vy := (S x5)) rfl rfl (addS_ok hx6)) ?_
    refine arun_do rfl rfl rfl (ex_assign (eV (v := (S x6)) rfl)) ?_
    refine arun_keepE [2] 0 0 (st' := ⟨25, 0, [(2, (S x6))], [], ⟨0, []⟩⟩) (by kernel_rfl) (by kernel_rfl) ?_
    show AWp _ _ _ _
    refine awp_ret ?_
    cases h
    exact ares1 (rtmp rfl (eV rfl))

end Go.Proofs
