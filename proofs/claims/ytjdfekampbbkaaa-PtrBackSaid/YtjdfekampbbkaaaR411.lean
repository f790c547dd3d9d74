/- Pure models of functions of the program, and that its code does what they say: palimplaw4 PtrFits. Written by a program. -/
import Derived.Test.YtjdfekampbbkaaaR42
import Derived.Test.YtjdfekampbbkaaaR43
import Derived.Test.YtjdfekampbbkaaaR4B
set_option maxRecDepth 20000
set_option maxHeartbeats 4000000
namespace Go.Proofs
open Go Go.Fhl
set_option linter.unusedVariables false
set_option linter.unusedSimpArgs false
noncomputable def M_law4_PtrFits (t0 : Str) (t1 : UInt16) (t2 : UInt16) (t3 : UInt8) (t4 : UInt8) : Option Bool :=
  Option.bind (M_law4_begun) fun (x1 : Bool) => cond (!x1) (some false) (Option.bind (gd (((decide ((t0.length : Int) > 60)) || (decide ((t0.length : Int) < 4))) == false) (remI (t0.length : Int) 4)) fun (x3 : Int) => cond ((((decide ((t0.length : Int) > 60)) || (decide ((t0.length : Int) < 4))) || (x3 != 0)) || (t4 == 0)) (some true) (Option.bind (M_ptr_To (t1.toNat : Int) t0 (t2.toNat : Int)) fun (x5 : G_api_Ptr) => Option.bind (remI (t3.toNat : Int) (((t0).length : Nat) : Int)) fun (x6 : Int) => Option.bind (getI t0 x6) fun (x7 : UInt8) => Option.bind (getI t0 x6) fun (x8 : UInt8) => Option.bind (setI t0 x6 (x7 ^^^ t4)) fun (x9 : List UInt8) => Option.bind (gd (((x5.Addr == (t1.toNat : Int)) && (x5.Birth == (t2.toNat : Int))) == true) (M_ptr_Fits x5 t0)) fun (x10 : Bool) => Option.bind (gd ((((x5.Addr == (t1.toNat : Int)) && (x5.Birth == (t2.toNat : Int))) && x10) == true) (M_ptr_Fits x5 x9)) fun (x11 : Bool) => Option.bind (gd (((((x5.Addr == (t1.toNat : Int)) && (x5.Birth == (t2.toNat : Int))) && x10) && (!x11)) == true) (addS t0 ([t4, 0, 0, 0] : List UInt8))) fun (x12 : Str) => Option.bind (gd (((((x5.Addr == (t1.toNat : Int)) && (x5.Birth == (t2.toNat : Int))) && x10) && (!x11)) == true) (M_ptr_Fits x5 x12)) fun (x13 : Bool) => Option.bind (gd ((((((x5.Addr == (t1.toNat : Int)) && (x5.Birth == (t2.toNat : Int))) && x10) && (!x11)) && (!x13)) == true) (M_ptr_Fits (G_api_Ptr.mk 0 0 x5.Sum) t0)) fun (x14 : Bool) => some ((((((x5.Addr == (t1.toNat : Int)) && (x5.Birth == (t2.toNat : Int))) && x10) && (!x11)) && (!x13)) && x14)))
theorem ok_law4_PtrFits (t0 : Str) (t1 : UInt16) (t2 : UInt16) (t3 : UInt8) (t4 : UInt8) (r : Bool) (h : M_law4_PtrFits t0 t1 t2 t3 t4 = some r) : FFn Try.prog 7 [(S t0), (U16 t1), (U16 t2), (U8 t3), (U8 t4)] (Bo r) := by
  refine FFn.of_body (n := 93) Try.func7 rfl Try.ntmps7 rfl rfl rfl rfl ?_
  show AWp _ _ _ ⟨93, 0, [(0, (S t0)), (1, (U16 t1)), (2, (U16 t2)), (3, (U8 t3)), (4, (U8 t4))], [], ⟨0, []⟩⟩
  unfold M_law4_PtrFits at h
  refine awp_seq ?_
  refine awp_region ?_
  refine arun_do rfl rfl rfl (ex_assign (eV (v := (Bo false)) rfl)) ?_
  refine arun_keepE [0, 1, 2, 3, 4] 0 0 (st' := ⟨93, 0, [(0, (S t0)), (1, (U16 t1)), (2, (U16 t2)), (3, (U8 t3)), (4, (U8 t4))], [], ⟨0, []⟩⟩) (by kernel_rfl) (by kernel_rfl) ?_
  show AWp _ _ _ _
  refine awp_seq ?_
  refine awp_seq ?_
  refine awp_region ?_
  obtain ⟨x1, hx1, h⟩ := bindS h
  refine arun_do rfl rfl rfl (ex_call0 (vs := []) (v := (Bo x1)) rfl en_8 (cargs evs_nil) rfl (ok_law4_begun  x1 hx1) rfl) ?_
  refine arun_do rfl rfl rfl (ex_un (vx := (Bo x1)) rfl notB_ok) ?_
  refine arun_keepE [0, 1, 2, 3, 4, 14] 0 0 (st' := ⟨93, 0, [(0, (S t0)), (1, (U16 t1)), (2, (U16 t2)), (3, (U8 t3)), (4, (U8 t4)), (14, (Bo (!x1)))], [], ⟨0, []⟩⟩) (by kernel_rfl) (by kernel_rfl) ?_
  show AWp _ _ _ _
  rcases Bool.eq_false_or_eq_true (!x1) with hb2 | hb2
  · rw [condT hb2] at h
    refine awp_condT (boT hb2) ?_
    refine awp_seq ?_
    refine awp_region ?_
    refine arun_do rfl rfl rfl (ex_assign (eV (v := (Bo false)) rfl)) ?_
    refine arun_keepE [10] 0 0 (st' := ⟨93, 0, [(10, (Bo false))], [], ⟨0, []⟩⟩) (by kernel_rfl) (by kernel_rfl) ?_
    show AWp _ _ _ _
    refine awp_ret ?_
    cases h
    exact ares1 (rtmp rfl (eV rfl))
  · rw [condF hb2] at h
    refine awp_condF (boF hb2) ?_
    refine awp_skip ?_
    show AWp _ _ _ _
    refine awp_seq ?_
    refine awp_seq ?_
    refine awp_region ?_
    refine arun_do rfl rfl rfl (ex_move (eV (v := (S t0)) rfl)) ?_
    refine arun_do rfl rfl rfl (tx_lenS Try.underlying9 rfl) ?_
    refine arun_do rfl rfl rfl (ex_bin (vx := (I (t0.length : Int))) (vy := (I 60)) rfl rfl gtrI_ok) ?_
    refine arun_do rfl rfl rfl (ex_move (eV (v := (Bo (decide ((t0.length : Int) > 60)))) rfl)) ?_
    refine arun_guard (v := (S t0)) ((decide ((t0.length : Int) > 60)) == false) rfl rfl rfl (fun hc => ex_move (eV (v := (S t0)) rfl)) ?_
    refine arun_guard (v := (I (t0.length : Int))) ((decide ((t0.length : Int) > 60)) == false) rfl rfl rfl (fun hc => tx_lenS Try.underlying9 (cond_of hc)) ?_
    refine arun_guard (v := (Bo (decide ((t0.length : Int) < 4)))) ((decide ((t0.length : Int) > 60)) == false) rfl rfl rfl (fun hc => ex_bin (vx := (I (t0.length : Int))) (vy := (I 4)) (cond_of hc) rfl lssI_ok) ?_
    refine arun_do rfl rfl rfl (ex_pick rfl pkOr) ?_
    refine arun_do rfl rfl rfl (ex_move (eV (v := (Bo ((decide ((t0.length : Int) > 60)) || (decide ((t0.length : Int) < 4))))) rfl)) ?_
    refine arun_guard (v := (S t0)) (((decide ((t0.length : Int) > 60)) || (decide ((t0.length : Int) < 4))) == false) rfl rfl rfl (fun hc => ex_move (eV (v := (S t0)) rfl)) ?_
    refine arun_guard (v := (I (t0.length : Int))) (((decide ((t0.length : Int) > 60)) || (decide ((t0.length : Int) < 4))) == false) rfl rfl rfl (fun hc => tx_lenS Try.underlying9 (cond_of hc)) ?_
    obtain ⟨x3, hx3, h⟩ := bindS h
    refine arun_guard (v := (I x3)) (((decide ((t0.length : Int) > 60)) || (decide ((t0.length : Int) < 4))) == false) rfl rfl rfl (fun hc => ex_bin (vx := (I (t0.length : Int))) (vy := (I 4)) (cond_of hc) rfl (remI_ok (gd_of hc hx3))) ?_
    refine arun_guard (v := (Bo (x3 != 0))) (((decide ((t0.length : Int) > 60)) || (decide ((t0.length : Int) < 4))) == false) rfl rfl rfl (fun hc => ex_bin (vx := (I x3)) (vy := (I 0)) (cond_of hc) rfl neqI_ok) ?_
    refine arun_do rfl rfl rfl (ex_pick rfl pkOr) ?_
    refine arun_do rfl rfl rfl (ex_move (eV (v := (Bo (((decide ((t0.length : Int) > 60)) || (decide ((t0.length : Int) < 4))) || (x3 != 0)))) rfl)) ?_
    refine arun_guard (v := (U8 t4)) ((((decide ((t0.length : Int) > 60)) || (decide ((t0.length : Int) < 4))) || (x3 != 0)) == false) rfl rfl rfl (fun hc => ex_move (eV (v := (U8 t4)) rfl)) ?_
    refine arun_guard (v := (Bo (t4 == 0))) ((((decide ((t0.length : Int) > 60)) || (decide ((t0.length : Int) < 4))) || (x3 != 0)) == false) rfl rfl rfl (fun hc => ex_bin (vx := (U8 t4)) (vy := (U8 0)) (cond_of hc) rfl eql8_ok) ?_
    refine arun_do rfl rfl rfl (ex_pick rfl pkOr) ?_
    refine arun_keepE [0, 1, 2, 3, 4, 32] 0 0 (st' := ⟨93, 0, [(0, (S t0)), (1, (U16 t1)), (2, (U16 t2)), (3, (U8 t3)), (4, (U8 t4)), (32, (Bo ((((decide ((t0.length : Int) > 60)) || (decide ((t0.length : Int) < 4))) || (x3 != 0)) || (t4 == 0))))], [], ⟨0, []⟩⟩) (by kernel_rfl) (by kernel_rfl) ?_
    show AWp _ _ _ _
    rcases Bool.eq_false_or_eq_true ((((decide ((t0.length : Int) > 60)) || (decide ((t0.length : Int) < 4))) || (x3 != 0)) || (t4 == 0)) with hb4 | hb4
    · rw [condT hb4] at h
      refine awp_condT (boT hb4) ?_
      refine awp_seq ?_
      refine awp_region ?_
      refine arun_do rfl rfl rfl (ex_assign (eV (v := (Bo true)) rfl)) ?_
      refine arun_keepE [10] 0 0 (st' := ⟨93, 0, [(10, (Bo true))], [], ⟨0, []⟩⟩) (by kernel_rfl) (by kernel_rfl) ?_
      show AWp _ _ _ _
      refine awp_ret ?_
      cases h
      exact ares1 (rtmp rfl (eV rfl))
    · rw [condF hb4] at h
      refine awp_condF (boF hb4) ?_
      refine awp_skip ?_
      show AWp _ _ _ _
      refine awp_seq ?_
      refine awp_region ?_
      refine arun_do rfl rfl rfl (ex_move (eV (v := (U16 t1)) rfl)) ?_
      refine arun_do rfl rfl rfl (tx_16_64 Try.underlying48 Try.underlying3 rfl) ?_
      refine arun_do rfl rfl rfl (ex_move (eV (v := (S t0)) rfl)) ?_
      refine arun_do rfl rfl rfl (ex_move (eV (v := (U16 t2)) rfl)) ?_
      refine arun_do rfl rfl rfl (tx_16_64 Try.underlying48 Try.underlying3 rfl) ?_
      obtain ⟨x5, hx5, h⟩ := bindS h
      refine arun_do rfl rfl rfl (ex_call0 (vs := [(I (t1.toNat : Int)), (S t0), (I (t2.toNat : Int))]) (v := (Value.agg (c_api_Ptr x5).toArray)) rfl en_16 (cargs (evs rfl (evs rfl (evs rfl evs_nil)))) rfl (ok_ptr_To (t1.toNat : Int) t0 (t2.toNat : Int) x5 hx5) rfl) ?_
      refine arun_do rfl rfl rfl (ex_alloc (k := 0) (zs := (c_api_Ptr (G_api_Ptr.mk 0 0 (A4.mk 0 0 0 0)))) (L' := [(c_api_Ptr (G_api_Ptr.mk 0 0 (A4.mk 0 0 0 0)))]) z_26 rfl rfl rfl rfl) ?_
      refine arun_do0 rfl rfl (ex_storeL (vy := (Value.agg (c_api_Ptr x5).toArray)) (cs := (c_api_Ptr (G_api_Ptr.mk 0 0 (A4.mk 0 0 0 0)))) (vs := (c_api_Ptr x5)) (L' := [(c_api_Ptr x5)]) rfl (eV (v := (Value.agg (c_api_Ptr x5).toArray)) rfl) rfl s_26 rfl (Nat.le_of_ble_eq_true rfl) (by kernel_rfl)) ?_
      refine arun_keepE [0, 1, 2, 3, 4, 11] 1 0 (st' := ⟨93, 0, [(0, (S t0)), (1, (U16 t1)), (2, (U16 t2)), (3, (U8 t3)), (4, (U8 t4)), (11, (LP 0 0))], [(c_api_Ptr x5)], ⟨0, []⟩⟩) (by kernel_rfl) (by kernel_rfl) ?_
      show AWp _ _ _ _
      refine awp_seq ?_
      refine awp_region ?_
      refine arun_do rfl rfl rfl (ex_move (eV (v := (S t0)) rfl)) ?_
      refine arun_do rfl rfl rfl (tx_sbG (k := 0) (H' := ⟨1, [(0, ⟨1, ((t0).flatMap c8), true⟩)]⟩) Try.underlying9 Try.underlying27 Try.underlying5 rfl rfl rfl) ?_
      refine arun_do rfl rfl rfl (ex_assign (eV (v := (GV 0 (t0).length)) rfl)) ?_
      refine arun_keepE [0, 1, 2, 3, 4, 11, 12] 1 1 (st' := ⟨93, 0, [(0, (S t0)), (1, (U16 t1)), (2, (U16 t2)), (3, (U8 t3)), (4, (U8 t4)), (11, (LP 0 0)), (12, (GV 0 (t0).length))], [(c_api_Ptr x5)], ⟨1, [(0, ⟨1, ((t0).flatMap c8), true⟩)]⟩⟩) (by kernel_rfl) (by kernel_rfl) ?_
      show AWp _ _ _ _
      refine awp_seq ?_
      refine awp_region ?_
      refine arun_do rfl rfl rfl (ex_move (eV (v := (GV 0 (t0).length)) rfl)) ?_
      refine arun_do rfl rfl rfl (ex_move (eV (v := (U8 t3)) rfl)) ?_
      refine arun_do rfl rfl rfl (tx_8_64 Try.underlying5 Try.underlying3 rfl) ?_
      refine arun_do rfl rfl rfl (ex_move (eV (v := (GV 0 (t0).length)) rfl)) ?_
      refine arun_do rfl rfl rfl (ex_lenN (n := (t0).length) Try.underlying27 rfl) ?_
      obtain ⟨x6, hx6, h⟩ := bindS h
      refine arun_do rfl rfl rfl (ex_bin (vx := (I (t3.toNat : Int))) (vy := (I (((t0).length : Nat) : Int))) rfl rfl (remI_ok hx6)) ?_
      obtain ⟨x7, hx7, h⟩ := bindS h
      refine arun_do rfl rfl rfl (tx_idxG (c := c8) (xs := t0) (i := x6) ce8 Try.underlying27 s_5 rfl rfl rfl rfl hx7) ?_
      refine arun_do rfl rfl rfl (tx_ldG (v := (U8 x7)) (s := 1) rfl rfl (part_elem (off := 0) (v := (U8 x7)) ce8 hx7 Try.underlying5 rfl (by decide) rfl)) ?_
      refine arun_do rfl rfl rfl (ex_move (eV (v := (U8 t4)) rfl)) ?_
      refine arun_do rfl rfl rfl (ex_bin (vx := (U8 x7)) (vy := (U8 t4)) rfl rfl xor8_ok) ?_
      obtain ⟨x8, hx8, h⟩ := bindS h
      refine arun_do rfl rfl rfl (tx_idxG (c := c8) (xs := t0) (i := x6) ce8 Try.underlying27 s_5 rfl rfl rfl rfl hx8) ?_
      obtain ⟨x9, hx9, h⟩ := bindS h
      refine arun_do0 rfl rfl (tx_stG (c := c8) (xs := t0) (e := (x7 ^^^ t4)) (H' := ⟨1, [(0, ⟨1, ((x9).flatMap c8), true⟩)]⟩) ce8 s_5 rfl (eV (v := (U8 (x7 ^^^ t4))) rfl) rfl rfl hx9 rfl) ?_
      refine arun_fewer (T' := [(0, (S t0)), (1, (U16 t1)), (2, (U16 t2)), (3, (U8 t3)), (4, (U8 t4)), (11, (LP 0 0)), (12, (GV 0 x9.length)), (41, (GV 0 x9.length)), (42, (U8 t3)), (43, (I (t3.toNat : Int))), (44, (GV 0 x9.length)), (45, (I (((t0).length : Nat) : Int))), (46, (I x6)), (48, (U8 x7)), (49, (U8 t4)), (50, (U8 (x7 ^^^ t4)))]) (ReT.keep (v := (S t0)) rfl (ReT.keep (v := (U16 t1)) rfl (ReT.keep (v := (U16 t2)) rfl (ReT.keep (v := (U8 t3)) rfl (ReT.keep (v := (U8 t4)) rfl (ReT.keep (v := (LP 0 0)) rfl (ReT.gv rfl (setI_len hx9) (ReT.gv rfl (setI_len hx9) (ReT.keep (v := (U8 t3)) rfl (ReT.keep (v := (I (t3.toNat : Int))) rfl (ReT.gv rfl (setI_len hx9) (ReT.keep (v := (I (((t0).length : Nat) : Int))) rfl (ReT.keep (v := (I x6)) rfl (ReT.keep (v := (U8 x7)) rfl (ReT.keep (v := (U8 t4)) rfl (ReT.keep (v := (U8 (x7 ^^^ t4))) rfl ReT.nil)))))))))))))))) ?_
      refine arun_keepE [0, 1, 2, 4, 11, 12] 1 1 (st' := ⟨93, 0, [(0, (S t0)), (1, (U16 t1)), (2, (U16 t2)), (4, (U8 t4)), (11, (LP 0 0)), (12, (GV 0 x9.length))], [(c_api_Ptr x5)], ⟨1, [(0, ⟨1, ((x9).flatMap c8), true⟩)]⟩⟩) (by kernel_rfl) (by kernel_rfl) ?_
      show AWp _ _ _ _
      refine awp_seq ?_
      refine awp_region ?_
      refine arun_do rfl rfl rfl (ex_fieldAddr (v := (LP 0 0)) Try.underlying26 rfl s_3 (by decide) rfl rfl) ?_
      refine arun_do rfl rfl rfl (tx_ldL1 (v := (I x5.Addr)) Try.underlying3 rfl rfl rfl rfl) ?_
      refine arun_do rfl rfl rfl (ex_move (eV (v := (U16 t1)) rfl)) ?_
      refine arun_do rfl rfl rfl (tx_16_64 Try.underlying48 Try.underlying3 rfl) ?_
      refine arun_do rfl rfl rfl (ex_bin (vx := (I x5.Addr)) (vy := (I (t1.toNat : Int))) rfl rfl eqlI_ok) ?_
      refine arun_do rfl rfl rfl (ex_move (eV (v := (Bo (x5.Addr == (t1.toNat : Int)))) rfl)) ?_
      refine arun_guard (v := (LP 0 1)) ((x5.Addr == (t1.toNat : Int)) == true) rfl rfl rfl (fun hc => ex_fieldAddr (v := (LP 0 1)) Try.underlying26 rfl s_3 (by decide) rfl rfl) ?_
      refine arun_guard (v := (I x5.Birth)) ((x5.Addr == (t1.toNat : Int)) == true) rfl rfl rfl (fun hc => tx_ldL1 (v := (I x5.Birth)) Try.underlying3 rfl (cond_of hc) rfl rfl) ?_
      refine arun_guard (v := (U16 t2)) ((x5.Addr == (t1.toNat : Int)) == true) rfl rfl rfl (fun hc => ex_move (eV (v := (U16 t2)) rfl)) ?_
      refine arun_guard (v := (I (t2.toNat : Int))) ((x5.Addr == (t1.toNat : Int)) == true) rfl rfl rfl (fun hc => tx_16_64 Try.underlying48 Try.underlying3 (cond_of hc)) ?_
      refine arun_guard (v := (Bo (x5.Birth == (t2.toNat : Int)))) ((x5.Addr == (t1.toNat : Int)) == true) rfl rfl rfl (fun hc => ex_bin (vx := (I x5.Birth)) (vy := (I (t2.toNat : Int))) (cond_of hc) (cond_of hc) eqlI_ok) ?_
      refine arun_do rfl rfl rfl (ex_pick rfl pkAnd) ?_
      refine arun_do rfl rfl rfl (ex_move (eV (v := (Bo ((x5.Addr == (t1.toNat : Int)) && (x5.Birth == (t2.toNat : Int))))) rfl)) ?_
      refine arun_guard (v := (Value.agg (c_api_Ptr x5).toArray)) (((x5.Addr == (t1.toNat : Int)) && (x5.Birth == (t2.toNat : Int))) == true) rfl rfl rfl (fun hc => tx_ldLA (vs := (c_api_Ptr x5)) Try.underlying26 rfl s_26 (by decide) rfl rfl rfl rfl) ?_
      refine arun_guard (v := (S t0)) (((x5.Addr == (t1.toNat : Int)) && (x5.Birth == (t2.toNat : Int))) == true) rfl rfl rfl (fun hc => ex_move (eV (v := (S t0)) rfl)) ?_
      obtain ⟨x10, hx10, h⟩ := bindS h
      refine arun_guard (v := (Bo x10)) (((x5.Addr == (t1.toNat : Int)) && (x5.Birth == (t2.toNat : Int))) == true) rfl rfl rfl (fun hc => ex_call0 (vs := [(Value.agg (c_api_Ptr x5).toArray), (S t0)]) (v := (Bo x10)) rfl en_20 (cargs (evs (cond_of hc) (evs (cond_of hc) evs_nil))) rfl (ok_ptr_Fits x5 t0 x10 (gd_of hc hx10)) rfl) ?_
      refine arun_do rfl rfl rfl (ex_pick rfl pkAnd) ?_
      refine arun_do rfl rfl rfl (ex_move (eV (v := (Bo (((x5.Addr == (t1.toNat : Int)) && (x5.Birth == (t2.toNat : Int))) && x10))) rfl)) ?_
      refine arun_guard (v := (Value.agg (c_api_Ptr x5).toArray)) ((((x5.Addr == (t1.toNat : Int)) && (x5.Birth == (t2.toNat : Int))) && x10) == true) rfl rfl rfl (fun hc => tx_ldLA (vs := (c_api_Ptr x5)) Try.underlying26 rfl s_26 (by decide) rfl rfl rfl rfl) ?_
      refine arun_guard (v := (GV 0 x9.length)) ((((x5.Addr == (t1.toNat : Int)) && (x5.Birth == (t2.toNat : Int))) && x10) == true) rfl rfl rfl (fun hc => ex_move (eV (v := (GV 0 x9.length)) rfl)) ?_
      refine arun_guard (v := (S x9)) ((((x5.Addr == (t1.toNat : Int)) && (x5.Birth == (t2.toNat : Int))) && x10) == true) rfl rfl rfl (fun hc => tx_bsG (bs := x9) Try.underlying27 Try.underlying9 Try.underlying5 (cond_of hc) rfl rfl) ?_
      obtain ⟨x11, hx11, h⟩ := bindS h
      refine arun_guard (v := (Bo x11)) ((((x5.Addr == (t1.toNat : Int)) && (x5.Birth == (t2.toNat : Int))) && x10) == true) rfl rfl rfl (fun hc => ex_call0 (vs := [(Value.agg (c_api_Ptr x5).toArray), (S x9)]) (v := (Bo x11)) rfl en_20 (cargs (evs (cond_of hc) (evs (cond_of hc) evs_nil))) rfl (ok_ptr_Fits x5 x9 x11 (gd_of hc hx11)) rfl) ?_
      refine arun_guard (v := (Bo (!x11))) ((((x5.Addr == (t1.toNat : Int)) && (x5.Birth == (t2.toNat : Int))) && x10) == true) rfl rfl rfl (fun hc => ex_un (vx := (Bo x11)) (cond_of hc) notB_ok) ?_
      refine arun_do rfl rfl rfl (ex_pick rfl pkAnd) ?_
      refine arun_do rfl rfl rfl (ex_move (eV (v := (Bo ((((x5.Addr == (t1.toNat : Int)) && (x5.Birth == (t2.toNat : Int))) && x10) && (!x11)))) rfl)) ?_
      refine arun_guard (v := (Value.agg (c_api_Ptr x5).toArray)) (((((x5.Addr == (t1.toNat : Int)) && (x5.Birth == (t2.toNat : Int))) && x10) && (!x11)) == true) rfl rfl rfl (fun hc => tx_ldLA (vs := (c_api_Ptr x5)) Try.underlying26 rfl s_26 (by decide) rfl rfl rfl rfl) ?_
      refine arun_guard (v := (S t0)) (((((x5.Addr == (t1.toNat : Int)) && (x5.Birth == (t2.toNat : Int))) && x10) && (!x11)) == true) rfl rfl rfl (fun hc => ex_move (eV (v := (S t0)) rfl)) ?_
      refine arun_guard (v := (U8 t4)) (((((x5.Addr == (t1.toNat : Int)) && (x5.Birth == (t2.toNat : Int))) && x10) && (!x11)) == true) rfl rfl rfl (fun hc => ex_move (eV (v := (U8 t4)) rfl)) ?_
      refine arun_guard (v := (SL 1 c8 ([t4, 0, 0, 0] : List UInt8))) (((((x5.Addr == (t1.toNat : Int)) && (x5.Birth == (t2.toNat : Int))) && x10) && (!x11)) == true) rfl rfl rfl (fun hc => ex_buildSliceD (qs := [(0, (U8 t4)), (1, (U8 0)), (2, (U8 0)), (3, (U8 0))]) (cells := (([t4, 0, 0, 0] : List UInt8).flatMap c8)) Try.underlying27 s_5 (by decide) (evp (cond_of hc) (evp rfl (evp rfl (evp rfl evp_nil)))) rfl (by kernel_rfl) (by kernel_rfl) (by kernel_rfl)) ?_
      refine arun_guard (v := (S ([t4, 0, 0, 0] : List UInt8))) (((((x5.Addr == (t1.toNat : Int)) && (x5.Birth == (t2.toNat : Int))) && x10) && (!x11)) == true) rfl rfl rfl (fun hc => tx_bsD (bs := ([t4, 0, 0, 0] : List UInt8)) Try.underlying27 Try.underlying9 Try.underlying5 (cond_of hc)) ?_
      obtain ⟨x12, hx12, h⟩ := bindS h
      refine arun_guard (v := (S x12)) (((((x5.Addr == (t1.toNat : Int)) && (x5.Birth == (t2.toNat : Int))) && x10) && (!x11)) == true) rfl rfl rfl (fun hc => ex_bin (vx := (S t0)) (vy := (S ([t4, 0, 0, 0] : List UInt8))) (cond_of hc) (cond_of hc) (addS_ok (gd_of hc hx12))) ?_
      obtain ⟨x13, hx13, h⟩ := bindS h
      refine arun_guard (v := (Bo x13)) (((((x5.Addr == (t1.toNat : Int)) && (x5.Birth == (t2.toNat : Int))) && x10) && (!x11)) == true) rfl rfl rfl (fun hc => ex_call0 (vs := [(Value.agg (c_api_Ptr x5).toArray), (S x12)]) (v := (Bo x13)) rfl en_20 (cargs (evs (cond_of hc) (evs (cond_of hc) evs_nil))) rfl (ok_ptr_Fits x5 x12 x13 (gd_of hc hx13)) rfl) ?_
      refine arun_guard (v := (Bo (!x13))) (((((x5.Addr == (t1.toNat : Int)) && (x5.Birth == (t2.toNat : Int))) && x10) && (!x11)) == true) rfl rfl rfl (fun hc => ex_un (vx := (Bo x13)) (cond_of hc) notB_ok) ?_
      refine arun_do rfl rfl rfl (ex_pick rfl pkAnd) ?_
      refine arun_do rfl rfl rfl (ex_move (eV (v := (Bo (((((x5.Addr == (t1.toNat : Int)) && (x5.Birth == (t2.toNat : Int))) && x10) && (!x11)) && (!x13)))) rfl)) ?_
      refine arun_guard (v := (LP 0 2)) ((((((x5.Addr == (t1.toNat : Int)) && (x5.Birth == (t2.toNat : Int))) && x10) && (!x11)) && (!x13)) == true) rfl rfl rfl (fun hc => ex_fieldAddr (v := (LP 0 2)) Try.underlying26 rfl s_24 (by decide) rfl rfl) ?_
      refine arun_guard (v := (Value.agg ((cA4 c32) x5.Sum).toArray)) ((((((x5.Addr == (t1.toNat : Int)) && (x5.Birth == (t2.toNat : Int))) && x10) && (!x11)) && (!x13)) == true) rfl rfl rfl (fun hc => tx_ldLA (vs := ((cA4 c32) x5.Sum)) Try.underlying24 rfl s_24 (by decide) (cond_of hc) rfl rfl rfl) ?_
      refine arun_guard (v := (Value.agg (c_api_Ptr (G_api_Ptr.mk 0 0 x5.Sum)).toArray)) ((((((x5.Addr == (t1.toNat : Int)) && (x5.Birth == (t2.toNat : Int))) && x10) && (!x11)) && (!x13)) == true) rfl rfl rfl (fun hc => ex_build (qs := [(2, (Value.agg ((cA4 c32) x5.Sum).toArray))]) (v := (Value.agg (c_api_Ptr (G_api_Ptr.mk 0 0 x5.Sum)).toArray)) (evp (cond_of hc) evp_nil) (by kernel_rfl)) ?_
      refine arun_guard (v := (S t0)) ((((((x5.Addr == (t1.toNat : Int)) && (x5.Birth == (t2.toNat : Int))) && x10) && (!x11)) && (!x13)) == true) rfl rfl rfl (fun hc => ex_move (eV (v := (S t0)) rfl)) ?_
      obtain ⟨x14, hx14, h⟩ := bindS h
      refine arun_guard (v := (Bo x14)) ((((((x5.Addr == (t1.toNat : Int)) && (x5.Birth == (t2.toNat : Int))) && x10) && (!x11)) && (!x13)) == true) rfl rfl rfl (fun hc => ex_call0 (vs := [(Value.agg (c_api_Ptr (G_api_Ptr.mk 0 0 x5.Sum)).toArray), (S t0)]) (v := (Bo x14)) rfl en_20 (cargs (evs (cond_of hc) (evs (cond_of hc) evs_nil))) rfl (ok_ptr_Fits (G_api_Ptr.mk 0 0 x5.Sum) t0 x14 (gd_of hc hx14)) rfl) ?_
      refine arun_do rfl rfl rfl (ex_pick rfl pkAnd) ?_
      refine arun_do rfl rfl rfl (ex_assign (eV (v := (Bo ((((((x5.Addr == (t1.toNat : Int)) && (x5.Birth == (t2.toNat : Int))) && x10) && (!x11)) && (!x13)) && x14))) rfl)) ?_
      refine arun_keepE [10] 0 0 (st' := ⟨93, 0, [(10, (Bo ((((((x5.Addr == (t1.toNat : Int)) && (x5.Birth == (t2.toNat : Int))) && x10) && (!x11)) && (!x13)) && x14)))], [], ⟨0, []⟩⟩) (by kernel_rfl) (by kernel_rfl) ?_
      show AWp _ _ _ _
      refine awp_ret ?_
      cases h
      exact ares1 (rtmp rfl (eV rfl))

end Go.Proofs
