/- Pure models of functions of the program, and that its code does what they say: palimplaw14 EditLoops. Written by a program. -/
import Derived.Test.YtbeefpabcndkcaaGreatDoorR14Z10
import Derived.Test.YtbeefpabcndkcaaGreatDoorR14Z13
import Derived.Test.YtbeefpabcndkcaaGreatDoorR14Z15
import Derived.Test.YtbeefpabcndkcaaGreatDoorR14Z17
import Derived.Test.YtbeefpabcndkcaaGreatDoorR14Z6
import Derived.Test.YtbeefpabcndkcaaGreatDoorR14Z7
import Derived.Test.YtbeefpabcndkcaaGreatDoorR14Z9
import Derived.Test.YtbeefpabcndkcaaGreatDoorR14ZB
set_option maxRecDepth 20000
set_option maxHeartbeats 4000000
namespace Go.Proofs
open Go Go.Fhl
set_option linter.unusedVariables false
set_option linter.unusedSimpArgs false
noncomputable def M_law14_EditLoops_l1 (x5 : ((List G_api_Node) × G_palimpmade_Picks)) (x6 : UInt8) (x7 : UInt8) (x13 : Str) (x18 : ((List G_api_Node) × Int)) : Nat → Int → Option Bool
  | 0, _ => none
  | n1 + 1, v27 =>
  cond (decide (v27 < (x5.1.length : Int))) (Option.bind (M_ref11_Within x5.1 v27 (x6.toNat : Int)) fun (x29 : Bool) => Option.bind (M_ref11_Within x18.1 v27 (x6.toNat : Int)) fun (x30 : Bool) => cond (x29 != x30) (some false) ((M_law14_EditLoops_l1 x5 x6 x7 x13 x18 n1) (w64 (v27 + 1)))) (Option.bind (M_ref11_Within x5.1 (x7.toNat : Int) (x6.toNat : Int)) fun (x32 : Bool) => Option.bind (gd ((!x32) == true) (M_ref11_May x18.1)) fun (x33 : Bool) => Option.bind (gd (((!x32) && x33) == true) (getI x18.1 (x6.toNat : Int))) fun (x34 : G_api_Node) => Option.bind (gd ((((!x32) && x33) && (x34.Up == (x7.toNat : Int))) == true) (getI x18.1 (x6.toNat : Int))) fun (x35 : G_api_Node) => some ((((!x32) && x33) && (x34.Up == (x7.toNat : Int))) && (x35.Name == x13)))
noncomputable def M_law14_EditLoops_k1 (x5 : ((List G_api_Node) × G_palimpmade_Picks)) (x6 : UInt8) (x7 : UInt8) (x8 : (Str × Bool)) (x13 : Str) (y14 : Str) : Option Bool :=
  Option.bind (addS y14 x13) fun (x17 : Str) => Option.bind (M_edit_Move x5.1 x8.1 x17) fun (x18 : ((List G_api_Node) × Int)) => Option.bind (addS y14 x13) fun (x19 : Str) => Option.bind (M_ref11_Parts x19) fun (x20 : ((List Str) × Bool)) => cond (!x20.2) (Option.bind (M_ref11_Same x18.1 x5.1) fun (x22 : Bool) => some (x22 && (x18.2 == 1))) (Option.bind (M_ref11_Kid x5.1 (x7.toNat : Int) x13) fun (x23 : (Int × Bool)) => cond (x23.2 || (x18.2 != 0)) (Option.bind (M_ref11_Same x18.1 x5.1) fun (x25 : Bool) => Option.bind (gd (((x25 == true) && (x23.2 == false)) && ((x18.2 == 7) == true)) (M_ref11_Within x5.1 (x7.toNat : Int) (x6.toNat : Int))) fun (x26 : Bool) => some (x25 && (x23.2 || ((x18.2 == 7) && x26)))) (M_law14_EditLoops_l1 x5 x6 x7 x13 x18 fuel 0))
noncomputable def M_law14_EditLoops (t0 : (List UInt8)) (t1 : UInt8) (t2 : UInt8) (t3 : UInt8) : Option Bool :=
  Option.bind (M_law14_begun) fun (x1 : Bool) => cond (!x1) (some false) (cond (decide ((t0.length : Int) > 60)) (some true) (Option.bind (M_made_Made t0) fun (x4 : G_palimpmade_Picks) => Option.bind (M_made_Picks_Set x4 25) fun (x5 : ((List G_api_Node) × G_palimpmade_Picks)) => Option.bind (rem8 t1 8) fun (x6 : UInt8) => Option.bind (rem8 t2 8) fun (x7 : UInt8) => Option.bind (M_ref11_Way x5.1 (x6.toNat : Int)) fun (x8 : (Str × Bool)) => Option.bind (M_ref11_Way x5.1 (x7.toNat : Int)) fun (x9 : (Str × Bool)) => Option.bind (gd ((((!x8.2) || (!x9.2)) || ((x6.toNat : Int) == 0)) == false) (getI x5.1 (x7.toNat : Int))) fun (x10 : G_api_Node) => cond ((((!x8.2) || (!x9.2)) || ((x6.toNat : Int) == 0)) || (x10.Kind != 2)) (some true) (Option.bind (rem8 t3 4) fun (x12 : UInt8) => Option.bind (getI ([([120, 49] : Str), ([120, 50] : Str), ([97] : Str), ([98] : Str)] : List Str) (x12.toNat : Int)) fun (x13 : Str) => cond (x9.1 != []) (Option.bind (addS x9.1 ([47] : Str)) fun (x16 : Str) => M_law14_EditLoops_k1 x5 x6 x7 x8 x13 x16) (M_law14_EditLoops_k1 x5 x6 x7 x8 x13 x9.1))))
theorem ok_law14_EditLoops (t0 : (List UInt8)) (t1 : UInt8) (t2 : UInt8) (t3 : UInt8) (r : Bool) (h : M_law14_EditLoops t0 t1 t2 t3 = some r) : FFn Tryz.prog 6 [(SL 1 c8 t0), (U8 t1), (U8 t2), (U8 t3)] (Bo r) := by
  refine FFn.of_body (n := 172) Tryz.func6 rfl Tryz.ntmps6 rfl rfl rfl rfl ?_
  show AWp _ _ _ ⟨172, 0, [(0, (SL 1 c8 t0)), (1, (U8 t1)), (2, (U8 t2)), (3, (U8 t3))], [], ⟨0, []⟩⟩
  unfold M_law14_EditLoops at h
  refine awp_seq ?_
  refine awp_region ?_
  refine arun_do rfl rfl rfl (ex_assign (eV (v := (Bo false)) rfl)) ?_
  refine arun_keepE [0, 1, 2, 3] 0 0 (st' := ⟨172, 0, [(0, (SL 1 c8 t0)), (1, (U8 t1)), (2, (U8 t2)), (3, (U8 t3))], [], ⟨0, []⟩⟩) (by kernel_rfl) (by kernel_rfl) ?_
  show AWp _ _ _ _
  refine awp_seq ?_
  refine awp_seq ?_
  refine awp_region ?_
  obtain ⟨x1, hx1, h⟩ := bindS h
  refine arun_do rfl rfl rfl (ex_call0 (vs := []) (v := (Bo x1)) rfl en_7 (cargs evs_nil) rfl (ok_law14_begun  x1 hx1) rfl) ?_
  refine arun_do rfl rfl rfl (ex_un (vx := (Bo x1)) rfl notB_ok) ?_
  refine arun_keepE [0, 1, 2, 3, 25] 0 0 (st' := ⟨172, 0, [(0, (SL 1 c8 t0)), (1, (U8 t1)), (2, (U8 t2)), (3, (U8 t3)), (25, (Bo (!x1)))], [], ⟨0, []⟩⟩) (by kernel_rfl) (by kernel_rfl) ?_
  show AWp _ _ _ _
  rcases Bool.eq_false_or_eq_true (!x1) with hb2 | hb2
  · rw [condT hb2] at h
    refine awp_condT (boT hb2) ?_
    refine awp_seq ?_
    refine awp_region ?_
    refine arun_do rfl rfl rfl (ex_assign (eV (v := (Bo false)) rfl)) ?_
    refine arun_keepE [8] 0 0 (st' := ⟨172, 0, [(8, (Bo false))], [], ⟨0, []⟩⟩) (by kernel_rfl) (by kernel_rfl) ?_
    show AWp _ _ _ _
    refine awp_ret ?_
    cases h
    exact ares1 (rtmp rfl (eV rfl))
  · rw [condF hb2] at h
    refine awp_condF (boF hb2) ?_
    refine awp_skip ?_
    show AWp _ _ _ _
    refine awp_seq ?_
    refine awp_seq ?_
    refine awp_region ?_
    refine arun_do rfl rfl rfl (ex_move (eV (v := (SL 1 c8 t0)) rfl)) ?_
    refine arun_do rfl rfl rfl (tx_lenD (xs := t0) ce8 Tryz.underlying22 rfl) ?_
    refine arun_do rfl rfl rfl (ex_bin (vx := (I (t0.length : Int))) (vy := (I 60)) rfl rfl gtrI_ok) ?_
    refine arun_keepE [0, 1, 2, 3, 28] 0 0 (st' := ⟨172, 0, [(0, (SL 1 c8 t0)), (1, (U8 t1)), (2, (U8 t2)), (3, (U8 t3)), (28, (Bo (decide ((t0.length : Int) > 60))))], [], ⟨0, []⟩⟩) (by kernel_rfl) (by kernel_rfl) ?_
    show AWp _ _ _ _
    rcases Bool.eq_false_or_eq_true (decide ((t0.length : Int) > 60)) with hb3 | hb3
    · rw [condT hb3] at h
      refine awp_condT (boT hb3) ?_
      refine awp_seq ?_
      refine awp_region ?_
      refine arun_do rfl rfl rfl (ex_assign (eV (v := (Bo true)) rfl)) ?_
      refine arun_keepE [8] 0 0 (st' := ⟨172, 0, [(8, (Bo true))], [], ⟨0, []⟩⟩) (by kernel_rfl) (by kernel_rfl) ?_
      show AWp _ _ _ _
      refine awp_ret ?_
      cases h
      exact ares1 (rtmp rfl (eV rfl))
    · rw [condF hb3] at h
      refine awp_condF (boF hb3) ?_
      refine awp_skip ?_
      show AWp _ _ _ _
      refine awp_seq ?_
      refine awp_region ?_
      refine arun_do rfl rfl rfl (ex_move (eV (v := (SL 1 c8 t0)) rfl)) ?_
      obtain ⟨x4, hx4, h⟩ := bindS h
      refine arun_do rfl rfl rfl (ex_callNew (vs := [(SL 1 c8 t0)]) (k := 0) (b := ⟨1, (c_palimpmade_Picks x4), false⟩) (H' := ⟨1, [(0, ⟨1, (c_palimpmade_Picks x4), false⟩)]⟩) rfl en_8 (cargs (evs rfl evs_nil)) rfl (ok_made_Made t0 x4 hx4) rfl rfl rfl) ?_
      obtain ⟨x5, hx5, h⟩ := bindS h
      refine arun_do rfl rfl rfl (ex_call1 (vs := [(NP 0 0), (I 25)]) (vs' := [(NP 0 0), (I 25)]) (v := (SL 5 c_api_Node x5.1)) (n := 0) (b := ⟨1, (c_palimpmade_Picks x4), false⟩) (b' := ⟨1, (c_palimpmade_Picks x5.2), false⟩) (H' := ⟨1, [(0, ⟨1, (c_palimpmade_Picks x5.2), false⟩)]⟩) rfl en_9 (cargs (evs rfl (evs rfl evs_nil))) rfl rfl (.cons (.inr ⟨_, rfl, rfl⟩) (.cons (.inl ⟨rfl, rfl⟩) .nil)) (ok_made_Picks_Set x4 25 x5 hx5) rfl rfl) ?_
      refine arun_do rfl rfl rfl (ex_assign (eV (v := (SL 5 c_api_Node x5.1)) rfl)) ?_
      refine arun_keepE [1, 2, 3, 9] 0 0 (st' := ⟨172, 0, [(1, (U8 t1)), (2, (U8 t2)), (3, (U8 t3)), (9, (SL 5 c_api_Node x5.1))], [], ⟨0, []⟩⟩) (by kernel_rfl) (by kernel_rfl) ?_
      show AWp _ _ _ _
      refine awp_seq ?_
      refine awp_region ?_
      refine arun_do rfl rfl rfl (ex_move (eV (v := (U8 t1)) rfl)) ?_
      obtain ⟨x6, hx6, h⟩ := bindS h
      refine arun_do rfl rfl rfl (ex_bin (vx := (U8 t1)) (vy := (U8 8)) rfl rfl (rem8_ok hx6)) ?_
      refine arun_do rfl rfl rfl (tx_8_64 Tryz.underlying5 Tryz.underlying3 rfl) ?_
      refine arun_do rfl rfl rfl (ex_move (eV (v := (U8 t2)) rfl)) ?_
      obtain ⟨x7, hx7, h⟩ := bindS h
      refine arun_do rfl rfl rfl (ex_bin (vx := (U8 t2)) (vy := (U8 8)) rfl rfl (rem8_ok hx7)) ?_
      refine arun_do rfl rfl rfl (tx_8_64 Tryz.underlying5 Tryz.underlying3 rfl) ?_
      refine arun_do rfl rfl rfl (ex_assign (eV (v := (I (x6.toNat : Int))) rfl)) ?_
      refine arun_do rfl rfl rfl (ex_assign (eV (v := (I (x7.toNat : Int))) rfl)) ?_
      refine arun_keepE [3, 9, 10, 11] 0 0 (st' := ⟨172, 0, [(3, (U8 t3)), (9, (SL 5 c_api_Node x5.1)), (10, (I (x6.toNat : Int))), (11, (I (x7.toNat : Int)))], [], ⟨0, []⟩⟩) (by kernel_rfl) (by kernel_rfl) ?_
      show AWp _ _ _ _
      refine awp_seq ?_
      refine awp_region ?_
      refine arun_do rfl rfl rfl (ex_move (eV (v := (SL 5 c_api_Node x5.1)) rfl)) ?_
      refine arun_do rfl rfl rfl (ex_move (eV (v := (I (x6.toNat : Int))) rfl)) ?_
      obtain ⟨x8, hx8, h⟩ := bindS h
      refine arun_do rfl rfl rfl (ex_call0 (vs := [(SL 5 c_api_Node x5.1), (I (x6.toNat : Int))]) (v := (Value.tuple #[(S x8.1), (Bo x8.2)])) rfl en_19 (cargs (evs rfl (evs rfl evs_nil))) rfl (ok_ref11_Way x5.1 (x6.toNat : Int) x8 hx8) rfl) ?_
      refine arun_do rfl rfl rfl (ex_move (eV (v := (Value.tuple #[(S x8.1), (Bo x8.2)])) rfl)) ?_
      refine arun_do rfl rfl rfl (ex_extract (vx := (Value.tuple #[(S x8.1), (Bo x8.2)])) (v := (S x8.1)) rfl rfl) ?_
      refine arun_do rfl rfl rfl (ex_extract (vx := (Value.tuple #[(S x8.1), (Bo x8.2)])) (v := (Bo x8.2)) rfl rfl) ?_
      refine arun_do rfl rfl rfl (ex_assign (eV (v := (S x8.1)) rfl)) ?_
      refine arun_do rfl rfl rfl (ex_assign (eV (v := (Bo x8.2)) rfl)) ?_
      refine arun_keepE [3, 9, 10, 11, 12, 13] 0 0 (st' := ⟨172, 0, [(3, (U8 t3)), (9, (SL 5 c_api_Node x5.1)), (10, (I (x6.toNat : Int))), (11, (I (x7.toNat : Int))), (12, (S x8.1)), (13, (Bo x8.2))], [], ⟨0, []⟩⟩) (by kernel_rfl) (by kernel_rfl) ?_
      show AWp _ _ _ _
      refine awp_seq ?_
      refine awp_region ?_
      refine arun_do rfl rfl rfl (ex_move (eV (v := (SL 5 c_api_Node x5.1)) rfl)) ?_
      refine arun_do rfl rfl rfl (ex_move (eV (v := (I (x7.toNat : Int))) rfl)) ?_
      obtain ⟨x9, hx9, h⟩ := bindS h
      refine arun_do rfl rfl rfl (ex_call0 (vs := [(SL 5 c_api_Node x5.1), (I (x7.toNat : Int))]) (v := (Value.tuple #[(S x9.1), (Bo x9.2)])) rfl en_19 (cargs (evs rfl (evs rfl evs_nil))) rfl (ok_ref11_Way x5.1 (x7.toNat : Int) x9 hx9) rfl) ?_
      refine arun_do rfl rfl rfl (ex_move (eV (v := (Value.tuple #[(S x9.1), (Bo x9.2)])) rfl)) ?_
      refine arun_do rfl rfl rfl (ex_extract (vx := (Value.tuple #[(S x9.1), (Bo x9.2)])) (v := (S x9.1)) rfl rfl) ?_
      refine arun_do rfl rfl rfl (ex_extract (vx := (Value.tuple #[(S x9.1), (Bo x9.2)])) (v := (Bo x9.2)) rfl rfl) ?_
      refine arun_do rfl rfl rfl (ex_assign (eV (v := (S x9.1)) rfl)) ?_
      refine arun_do rfl rfl rfl (ex_assign (eV (v := (Bo x9.2)) rfl)) ?_
      refine arun_keepE [3, 9, 10, 11, 12, 13, 14, 15] 0 0 (st' := ⟨172, 0, [(3, (U8 t3)), (9, (SL 5 c_api_Node x5.1)), (10, (I (x6.toNat : Int))), (11, (I (x7.toNat : Int))), (12, (S x8.1)), (13, (Bo x8.2)), (14, (S x9.1)), (15, (Bo x9.2))], [], ⟨0, []⟩⟩) (by kernel_rfl) (by kernel_rfl) ?_
      show AWp _ _ _ _
      refine awp_seq ?_
      refine awp_seq ?_
      refine awp_region ?_
      refine arun_do rfl rfl rfl (ex_move (eV (v := (Bo x8.2)) rfl)) ?_
      refine arun_do rfl rfl rfl (ex_un (vx := (Bo x8.2)) rfl notB_ok) ?_
      refine arun_do rfl rfl rfl (ex_move (eV (v := (Bo (!x8.2))) rfl)) ?_
      refine arun_guard (v := (Bo x9.2)) ((!x8.2) == false) rfl rfl rfl (fun hc => ex_move (eV (v := (Bo x9.2)) rfl)) ?_
      refine arun_guard (v := (Bo (!x9.2))) ((!x8.2) == false) rfl rfl rfl (fun hc => ex_un (vx := (Bo x9.2)) (cond_of hc) notB_ok) ?_
      refine arun_do rfl rfl rfl (ex_pick rfl pkOr) ?_
      refine arun_do rfl rfl rfl (ex_move (eV (v := (Bo ((!x8.2) || (!x9.2)))) rfl)) ?_
      refine arun_guard (v := (I (x6.toNat : Int))) (((!x8.2) || (!x9.2)) == false) rfl rfl rfl (fun hc => ex_move (eV (v := (I (x6.toNat : Int))) rfl)) ?_
      refine arun_guard (v := (Bo ((x6.toNat : Int) == 0))) (((!x8.2) || (!x9.2)) == false) rfl rfl rfl (fun hc => ex_bin (vx := (I (x6.toNat : Int))) (vy := (I 0)) (cond_of hc) rfl eqlI_ok) ?_
      refine arun_do rfl rfl rfl (ex_pick rfl pkOr) ?_
      refine arun_do rfl rfl rfl (ex_move (eV (v := (Bo (((!x8.2) || (!x9.2)) || ((x6.toNat : Int) == 0)))) rfl)) ?_
      refine arun_guard (v := (SL 5 c_api_Node x5.1)) ((((!x8.2) || (!x9.2)) || ((x6.toNat : Int) == 0)) == false) rfl rfl rfl (fun hc => ex_move (eV (v := (SL 5 c_api_Node x5.1)) rfl)) ?_
      refine arun_guard (v := (I (x7.toNat : Int))) ((((!x8.2) || (!x9.2)) || ((x6.toNat : Int) == 0)) == false) rfl rfl rfl (fun hc => ex_move (eV (v := (I (x7.toNat : Int))) rfl)) ?_
      obtain ⟨x10, hx10, h⟩ := bindS h
      refine arun_guard (v := (DP (c_api_Node x10))) ((((!x8.2) || (!x9.2)) || ((x6.toNat : Int) == 0)) == false) rfl rfl rfl (fun hc => tx_idxD (c := c_api_Node) (xs := x5.1) (i := (x7.toNat : Int)) ce_api_Node Tryz.underlying25 s_38 (cond_of hc) (cond_of hc) (gd_of hc hx10)) ?_
      refine arun_guard (v := (DP (List.drop 0 (c_api_Node x10)))) ((((!x8.2) || (!x9.2)) || ((x6.toNat : Int) == 0)) == false) rfl rfl rfl (fun hc => ex_fieldAddrD (vs := (List.drop 0 (c_api_Node x10))) Tryz.underlying38 rfl s_3 (by decide) (cond_of hc) rfl) ?_
      refine arun_guard (v := (I x10.Kind)) ((((!x8.2) || (!x9.2)) || ((x6.toNat : Int) == 0)) == false) rfl rfl rfl (fun hc => tx_ldD1 (v := (I x10.Kind)) Tryz.underlying3 rfl (cond_of hc) rfl) ?_
      refine arun_guard (v := (Bo (x10.Kind != 2))) ((((!x8.2) || (!x9.2)) || ((x6.toNat : Int) == 0)) == false) rfl rfl rfl (fun hc => ex_bin (vx := (I x10.Kind)) (vy := (I 2)) (cond_of hc) rfl neqI_ok) ?_
      refine arun_do rfl rfl rfl (ex_pick rfl pkOr) ?_
      refine arun_keepE [3, 9, 10, 11, 12, 14, 67] 0 0 (st' := ⟨172, 0, [(3, (U8 t3)), (9, (SL 5 c_api_Node x5.1)), (10, (I (x6.toNat : Int))), (11, (I (x7.toNat : Int))), (12, (S x8.1)), (14, (S x9.1)), (67, (Bo ((((!x8.2) || (!x9.2)) || ((x6.toNat : Int) == 0)) || (x10.Kind != 2))))], [], ⟨0, []⟩⟩) (by kernel_rfl) (by kernel_rfl) ?_
      show AWp _ _ _ _
      rcases Bool.eq_false_or_eq_true ((((!x8.2) || (!x9.2)) || ((x6.toNat : Int) == 0)) || (x10.Kind != 2)) with hb11 | hb11
      · rw [condT hb11] at h
        refine awp_condT (boT hb11) ?_
        refine awp_seq ?_
        refine awp_region ?_
        refine arun_do rfl rfl rfl (ex_assign (eV (v := (Bo true)) rfl)) ?_
        refine arun_keepE [8] 0 0 (st' := ⟨172, 0, [(8, (Bo true))], [], ⟨0, []⟩⟩) (by kernel_rfl) (by kernel_rfl) ?_
        show AWp _ _ _ _
        refine awp_ret ?_
        cases h
        exact ares1 (rtmp rfl (eV rfl))
      · rw [condF hb11] at h
        refine awp_condF (boF hb11) ?_
        refine awp_skip ?_
        show AWp _ _ _ _
        refine awp_seq ?_
        refine awp_region ?_
        refine arun_do rfl rfl rfl (ex_buildSliceD (qs := [(0, (S ([120, 49] : Str))), (1, (S ([120, 50] : Str))), (2, (S ([97] : Str))), (3, (S ([98] : Str)))]) (cells := (([([120, 49] : Str), ([120, 50] : Str), ([97] : Str), ([98] : Str)] : List Str).flatMap cS)) Tryz.underlying50 s_9 (by decide) (evp rfl (evp rfl (evp rfl (evp rfl evp_nil)))) rfl (by kernel_rfl) (by kernel_rfl) (by kernel_rfl)) ?_
        refine arun_do rfl rfl rfl (ex_move (eV (v := (U8 t3)) rfl)) ?_
        obtain ⟨x12, hx12, h⟩ := bindS h
        refine arun_do rfl rfl rfl (ex_bin (vx := (U8 t3)) (vy := (U8 4)) rfl rfl (rem8_ok hx12)) ?_
        obtain ⟨x13, hx13, h⟩ := bindS h
        refine arun_do rfl rfl rfl (tx_idxD (c := cS) (xs := ([([120, 49] : Str), ([120, 50] : Str), ([97] : Str), ([98] : Str)] : List Str)) (i := (x12.toNat : Int)) ceS Tryz.underlying50 s_9 rfl rfl hx13) ?_
        refine arun_do rfl rfl rfl (tx_ldD1 (v := (S x13)) Tryz.underlying9 rfl rfl rfl) ?_
        refine arun_do rfl rfl rfl (ex_assign (eV (v := (S x13)) rfl)) ?_
        refine arun_keepE [9, 10, 11, 12, 14, 16] 0 0 (st' := ⟨172, 0, [(9, (SL 5 c_api_Node x5.1)), (10, (I (x6.toNat : Int))), (11, (I (x7.toNat : Int))), (12, (S x8.1)), (14, (S x9.1)), (16, (S x13))], [], ⟨0, []⟩⟩) (by kernel_rfl) (by kernel_rfl) ?_
        show AWp _ _ _ _
        refine awp_seqJ (fun s => ∃ (y14 : Str), s = ⟨172, 0, [(9, (SL 5 c_api_Node x5.1)), (10, (I (x6.toNat : Int))), (11, (I (x7.toNat : Int))), (12, (S x8.1)), (14, (S y14)), (16, (S x13))], [], ⟨0, []⟩⟩ ∧ M_law14_EditLoops_k1 x5 x6 x7 x8 x13 y14 = some r) ?_ ?_
        · refine awp_seq ?_
          refine awp_region ?_
          refine arun_do rfl rfl rfl (ex_move (eV (v := (S x9.1)) rfl)) ?_
          refine arun_do rfl rfl rfl (ex_bin (vx := (S x9.1)) (vy := (S [])) rfl rfl neqS_ok) ?_
          refine arun_keepE [9, 10, 11, 12, 14, 16, 74] 0 0 (st' := ⟨172, 0, [(9, (SL 5 c_api_Node x5.1)), (10, (I (x6.toNat : Int))), (11, (I (x7.toNat : Int))), (12, (S x8.1)), (14, (S x9.1)), (16, (S x13)), (74, (Bo (x9.1 != [])))], [], ⟨0, []⟩⟩) (by kernel_rfl) (by kernel_rfl) ?_
          show AWp _ _ _ _
          rcases Bool.eq_false_or_eq_true (x9.1 != []) with hb15 | hb15
          · rw [condT hb15] at h
            refine awp_condT (boT hb15) ?_
            refine awp_region ?_
            refine arun_do rfl rfl rfl (ex_move (eV (v := (S x9.1)) rfl)) ?_
            obtain ⟨x16, hx16, h⟩ := bindS h
            refine arun_do rfl rfl rfl (ex_bin (vx := (S x9.1)) (vy := (S ([47] : Str))) rfl rfl (addS_ok hx16)) ?_
            refine arun_do rfl rfl rfl (ex_assign (eV (v := (S x16)) rfl)) ?_
            refine arun_keepE [9, 10, 11, 12, 14, 16] 0 0 (st' := ⟨172, 0, [(9, (SL 5 c_api_Node x5.1)), (10, (I (x6.toNat : Int))), (11, (I (x7.toNat : Int))), (12, (S x8.1)), (14, (S x16)), (16, (S x13))], [], ⟨0, []⟩⟩) (by kernel_rfl) (by kernel_rfl) ?_
            exact (Exists.intro x16 (And.intro rfl h))
          · rw [condF hb15] at h
            refine awp_condF (boF hb15) ?_
            refine awp_keepE [9, 10, 11, 12, 14, 16] 0 0 (st' := ⟨172, 0, [(9, (SL 5 c_api_Node x5.1)), (10, (I (x6.toNat : Int))), (11, (I (x7.toNat : Int))), (12, (S x8.1)), (14, (S x9.1)), (16, (S x13))], [], ⟨0, []⟩⟩) (by kernel_rfl) (by kernel_rfl) ?_
            refine awp_skip ?_
            exact (Exists.intro x9.1 (And.intro rfl h))
        · rintro s ⟨y14, rfl, h⟩
          unfold M_law14_EditLoops_k1 at h
          refine awp_seq ?_
          refine awp_region ?_
          refine arun_do rfl rfl rfl (ex_move (eV (v := (SL 5 c_api_Node x5.1)) rfl)) ?_
          refine arun_do rfl rfl rfl (ex_move (eV (v := (S x8.1)) rfl)) ?_
          refine arun_do rfl rfl rfl (ex_move (eV (v := (S y14)) rfl)) ?_
          refine arun_do rfl rfl rfl (ex_move (eV (v := (S x13)) rfl)) ?_
          obtain ⟨x17, hx17, h⟩ := bindS h
          refine arun_do rfl rfl rfl (ex_bin (vx := (S y14)) (vy := (S x13)) rfl rfl (addS_ok hx17)) ?_
          obtain ⟨x18, hx18, h⟩ := bindS h
          refine arun_do rfl rfl rfl (ex_call0 (vs := [(SL 5 c_api_Node x5.1), (S x8.1), (S x17)]) (v := (Value.tuple #[(SL 5 c_api_Node x18.1), (I x18.2)])) rfl en_12 (cargs (evs rfl (evs rfl (evs rfl evs_nil)))) rfl (ok_edit_Move x5.1 x8.1 x17 x18 hx18) rfl) ?_
          refine arun_do rfl rfl rfl (ex_move (eV (v := (Value.tuple #[(SL 5 c_api_Node x18.1), (I x18.2)])) rfl)) ?_
          refine arun_do rfl rfl rfl (ex_extract (vx := (Value.tuple #[(SL 5 c_api_Node x18.1), (I x18.2)])) (v := (SL 5 c_api_Node x18.1)) rfl rfl) ?_
          refine arun_do rfl rfl rfl (ex_extract (vx := (Value.tuple #[(SL 5 c_api_Node x18.1), (I x18.2)])) (v := (I x18.2)) rfl rfl) ?_
          refine arun_do rfl rfl rfl (ex_assign (eV (v := (SL 5 c_api_Node x18.1)) rfl)) ?_
          refine arun_do rfl rfl rfl (ex_assign (eV (v := (I x18.2)) rfl)) ?_
          refine arun_keepE [9, 10, 11, 14, 16, 17, 18] 0 0 (st' := ⟨172, 0, [(9, (SL 5 c_api_Node x5.1)), (10, (I (x6.toNat : Int))), (11, (I (x7.toNat : Int))), (14, (S y14)), (16, (S x13)), (17, (SL 5 c_api_Node x18.1)), (18, (I x18.2))], [], ⟨0, []⟩⟩) (by kernel_rfl) (by kernel_rfl) ?_
          show AWp _ _ _ _
          refine awp_seq ?_
          refine awp_region ?_
          refine arun_do rfl rfl rfl (ex_move (eV (v := (S y14)) rfl)) ?_
          refine arun_do rfl rfl rfl (ex_move (eV (v := (S x13)) rfl)) ?_
          obtain ⟨x19, hx19, h⟩ := bindS h
          refine arun_do rfl rfl rfl (ex_bin (vx := (S y14)) (vy := (S x13)) rfl rfl (addS_ok hx19)) ?_
          obtain ⟨x20, hx20, h⟩ := bindS h
          refine arun_do rfl rfl rfl (ex_call0 (vs := [(S x19)]) (v := (Value.tuple #[(SL 1 cS x20.1), (Bo x20.2)])) rfl en_20 (cargs (evs rfl evs_nil)) rfl (ok_ref11_Parts x19 x20 hx20) rfl) ?_
          refine arun_do rfl rfl rfl (ex_move (eV (v := (Value.tuple #[(SL 1 cS x20.1), (Bo x20.2)])) rfl)) ?_
          refine arun_do rfl rfl rfl (ex_extract (vx := (Value.tuple #[(SL 1 cS x20.1), (Bo x20.2)])) (v := (SL 1 cS x20.1)) rfl rfl) ?_
          refine arun_do rfl rfl rfl (ex_extract (vx := (Value.tuple #[(SL 1 cS x20.1), (Bo x20.2)])) (v := (Bo x20.2)) rfl rfl) ?_
          refine arun_do rfl rfl rfl (ex_assign (eV (v := (SL 1 cS x20.1)) rfl)) ?_
          refine arun_do rfl rfl rfl (ex_assign (eV (v := (Bo x20.2)) rfl)) ?_
          refine arun_keepE [9, 10, 11, 16, 17, 18, 20] 0 0 (st' := ⟨172, 0, [(9, (SL 5 c_api_Node x5.1)), (10, (I (x6.toNat : Int))), (11, (I (x7.toNat : Int))), (16, (S x13)), (17, (SL 5 c_api_Node x18.1)), (18, (I x18.2)), (20, (Bo x20.2))], [], ⟨0, []⟩⟩) (by kernel_rfl) (by kernel_rfl) ?_
          show AWp _ _ _ _
          refine awp_seq ?_
          refine awp_seq ?_
          refine awp_region ?_
          refine arun_do rfl rfl rfl (ex_move (eV (v := (Bo x20.2)) rfl)) ?_
          refine arun_do rfl rfl rfl (ex_un (vx := (Bo x20.2)) rfl notB_ok) ?_
          refine arun_keepE [9, 10, 11, 16, 17, 18, 94] 0 0 (st' := ⟨172, 0, [(9, (SL 5 c_api_Node x5.1)), (10, (I (x6.toNat : Int))), (11, (I (x7.toNat : Int))), (16, (S x13)), (17, (SL 5 c_api_Node x18.1)), (18, (I x18.2)), (94, (Bo (!x20.2)))], [], ⟨0, []⟩⟩) (by kernel_rfl) (by kernel_rfl) ?_
          show AWp _ _ _ _
          rcases Bool.eq_false_or_eq_true (!x20.2) with hb21 | hb21
          · rw [condT hb21] at h
            refine awp_condT (boT hb21) ?_
            refine awp_seq ?_
            refine awp_region ?_
            refine arun_do rfl rfl rfl (ex_move (eV (v := (SL 5 c_api_Node x18.1)) rfl)) ?_
            refine arun_do rfl rfl rfl (ex_move (eV (v := (SL 5 c_api_Node x5.1)) rfl)) ?_
            obtain ⟨x22, hx22, h⟩ := bindS h
            refine arun_do rfl rfl rfl (ex_call0 (vs := [(SL 5 c_api_Node x18.1), (SL 5 c_api_Node x5.1)]) (v := (Bo x22)) rfl en_13 (cargs (evs rfl (evs rfl evs_nil))) rfl (ok_ref11_Same x18.1 x5.1 x22 hx22) rfl) ?_
            refine arun_do rfl rfl rfl (ex_move (eV (v := (Bo x22)) rfl)) ?_
            refine arun_guard (v := (I x18.2)) (x22 == true) rfl rfl rfl (fun hc => ex_move (eV (v := (I x18.2)) rfl)) ?_
            refine arun_guard (v := (Bo (x18.2 == 1))) (x22 == true) rfl rfl rfl (fun hc => ex_bin (vx := (I x18.2)) (vy := (I 1)) (cond_of hc) rfl eqlI_ok) ?_
            refine arun_do rfl rfl rfl (ex_pick rfl pkAnd) ?_
            refine arun_do rfl rfl rfl (ex_assign (eV (v := (Bo (x22 && (x18.2 == 1)))) rfl)) ?_
            refine arun_keepE [8] 0 0 (st' := ⟨172, 0, [(8, (Bo (x22 && (x18.2 == 1))))], [], ⟨0, []⟩⟩) (by kernel_rfl) (by kernel_rfl) ?_
            show AWp _ _ _ _
            refine awp_ret ?_
            cases h
            exact ares1 (rtmp rfl (eV rfl))
          · rw [condF hb21] at h
            refine awp_condF (boF hb21) ?_
            refine awp_skip ?_
            show AWp _ _ _ _
            refine awp_seq ?_
            refine awp_region ?_
            refine arun_do rfl rfl rfl (ex_move (eV (v := (SL 5 c_api_Node x5.1)) rfl)) ?_
            refine arun_do rfl rfl rfl (ex_move (eV (v := (I (x7.toNat : Int))) rfl)) ?_
            refine arun_do rfl rfl rfl (ex_move (eV (v := (S x13)) rfl)) ?_
            obtain ⟨x23, hx23, h⟩ := bindS h
            refine arun_do rfl rfl rfl (ex_call0 (vs := [(SL 5 c_api_Node x5.1), (I (x7.toNat : Int)), (S x13)]) (v := (Value.tuple #[(I x23.1), (Bo x23.2)])) rfl en_21 (cargs (evs rfl (evs rfl (evs rfl evs_nil)))) rfl (ok_ref11_Kid x5.1 (x7.toNat : Int) x13 x23 hx23) rfl) ?_
            refine arun_do rfl rfl rfl (ex_move (eV (v := (Value.tuple #[(I x23.1), (Bo x23.2)])) rfl)) ?_
            refine arun_do rfl rfl rfl (ex_extract (vx := (Value.tuple #[(I x23.1), (Bo x23.2)])) (v := (I x23.1)) rfl rfl) ?_
            refine arun_do rfl rfl rfl (ex_extract (vx := (Value.tuple #[(I x23.1), (Bo x23.2)])) (v := (Bo x23.2)) rfl rfl) ?_
            refine arun_do rfl rfl rfl (ex_assign (eV (v := (I x23.1)) rfl)) ?_
            refine arun_do rfl rfl rfl (ex_assign (eV (v := (Bo x23.2)) rfl)) ?_
            refine arun_keepE [9, 10, 11, 16, 17, 18, 22] 0 0 (st' := ⟨172, 0, [(9, (SL 5 c_api_Node x5.1)), (10, (I (x6.toNat : Int))), (11, (I (x7.toNat : Int))), (16, (S x13)), (17, (SL 5 c_api_Node x18.1)), (18, (I x18.2)), (22, (Bo x23.2))], [], ⟨0, []⟩⟩) (by kernel_rfl) (by kernel_rfl) ?_
            show AWp _ _ _ _
            refine awp_seq ?_
            refine awp_seq ?_
            refine awp_region ?_
            refine arun_do rfl rfl rfl (ex_move (eV (v := (Bo x23.2)) rfl)) ?_
            refine arun_do rfl rfl rfl (ex_move (eV (v := (Bo x23.2)) rfl)) ?_
            refine arun_guard (v := (I x18.2)) (x23.2 == false) rfl rfl rfl (fun hc => ex_move (eV (v := (I x18.2)) rfl)) ?_
            refine arun_guard (v := (Bo (x18.2 != 0))) (x23.2 == false) rfl rfl rfl (fun hc => ex_bin (vx := (I x18.2)) (vy := (I 0)) (cond_of hc) rfl neqI_ok) ?_
            refine arun_do rfl rfl rfl (ex_pick rfl pkOr) ?_
            refine arun_keepE [9, 10, 11, 16, 17, 18, 22, 113] 0 0 (st' := ⟨172, 0, [(9, (SL 5 c_api_Node x5.1)), (10, (I (x6.toNat : Int))), (11, (I (x7.toNat : Int))), (16, (S x13)), (17, (SL 5 c_api_Node x18.1)), (18, (I x18.2)), (22, (Bo x23.2)), (113, (Bo (x23.2 || (x18.2 != 0))))], [], ⟨0, []⟩⟩) (by kernel_rfl) (by kernel_rfl) ?_
            show AWp _ _ _ _
            rcases Bool.eq_false_or_eq_true (x23.2 || (x18.2 != 0)) with hb24 | hb24
            · rw [condT hb24] at h
              refine awp_condT (boT hb24) ?_
              refine awp_seq ?_
              refine awp_region ?_
              refine arun_do rfl rfl rfl (ex_move (eV (v := (SL 5 c_api_Node x18.1)) rfl)) ?_
              refine arun_do rfl rfl rfl (ex_move (eV (v := (SL 5 c_api_Node x5.1)) rfl)) ?_
              obtain ⟨x25, hx25, h⟩ := bindS h
              refine arun_do rfl rfl rfl (ex_call0 (vs := [(SL 5 c_api_Node x18.1), (SL 5 c_api_Node x5.1)]) (v := (Bo x25)) rfl en_13 (cargs (evs rfl (evs rfl evs_nil))) rfl (ok_ref11_Same x18.1 x5.1 x25 hx25) rfl) ?_
              refine arun_do rfl rfl rfl (ex_move (eV (v := (Bo x25)) rfl)) ?_
              refine arun_guard (v := (Bo x23.2)) (x25 == true) rfl rfl rfl (fun hc => ex_move (eV (v := (Bo x23.2)) rfl)) ?_
              refine arun_guard (v := (Bo x23.2)) (x25 == true) rfl rfl rfl (fun hc => ex_move (eV (v := (Bo x23.2)) (cond_of hc))) ?_
              refine arun_guard (v := (I x18.2)) ((x25 == true) && (x23.2 == false)) rfl rfl gv_nest (fun hc => ex_move (eV (v := (I x18.2)) rfl)) ?_
              refine arun_guard (v := (Bo (x18.2 == 7))) ((x25 == true) && (x23.2 == false)) rfl rfl gv_nest (fun hc => ex_bin (vx := (I x18.2)) (vy := (I 7)) (cond_of hc) rfl eqlI_ok) ?_
              refine arun_guard (v := (Bo (x18.2 == 7))) ((x25 == true) && (x23.2 == false)) rfl rfl gv_nest (fun hc => ex_move (eV (v := (Bo (x18.2 == 7))) (cond_of hc))) ?_
              refine arun_guard (v := (SL 5 c_api_Node x5.1)) (((x25 == true) && (x23.2 == false)) && ((x18.2 == 7) == true)) rfl rfl gv_nest (fun hc => ex_move (eV (v := (SL 5 c_api_Node x5.1)) rfl)) ?_
              refine arun_guard (v := (I (x7.toNat : Int))) (((x25 == true) && (x23.2 == false)) && ((x18.2 == 7) == true)) rfl rfl gv_nest (fun hc => ex_move (eV (v := (I (x7.toNat : Int))) rfl)) ?_
              refine arun_guard (v := (I (x6.toNat : Int))) (((x25 == true) && (x23.2 == false)) && ((x18.2 == 7) == true)) rfl rfl gv_nest (fun hc => ex_move (eV (v := (I (x6.toNat : Int))) rfl)) ?_
              obtain ⟨x26, hx26, h⟩ := bindS h
              refine arun_guard (v := (Bo x26)) (((x25 == true) && (x23.2 == false)) && ((x18.2 == 7) == true)) rfl rfl gv_nest (fun hc => ex_call0 (vs := [(SL 5 c_api_Node x5.1), (I (x7.toNat : Int)), (I (x6.toNat : Int))]) (v := (Bo x26)) rfl en_22 (cargs (evs (cond_of hc) (evs (cond_of hc) (evs (cond_of hc) evs_nil)))) rfl (ok_ref11_Within x5.1 (x7.toNat : Int) (x6.toNat : Int) x26 (gd_of hc hx26)) rfl) ?_
              refine arun_guard (v := (Bo ((x18.2 == 7) && x26))) ((x25 == true) && (x23.2 == false)) rfl rfl gv_nest (fun hc => ex_pick (cond_of hc) (pkAndN hc)) ?_
              refine arun_guard (v := (Bo (x23.2 || ((x18.2 == 7) && x26)))) (x25 == true) rfl rfl rfl (fun hc => ex_pick (cond_of hc) (pkOrN hc)) ?_
              refine arun_do rfl rfl rfl (ex_pick rfl pkAnd) ?_
              refine arun_do rfl rfl rfl (ex_assign (eV (v := (Bo (x25 && (x23.2 || ((x18.2 == 7) && x26))))) rfl)) ?_
              refine arun_keepE [8] 0 0 (st' := ⟨172, 0, [(8, (Bo (x25 && (x23.2 || ((x18.2 == 7) && x26)))))], [], ⟨0, []⟩⟩) (by kernel_rfl) (by kernel_rfl) ?_
              show AWp _ _ _ _
              refine awp_ret ?_
              cases h
              exact ares1 (rtmp rfl (eV rfl))
            · rw [condF hb24] at h
              refine awp_condF (boF hb24) ?_
              refine awp_skip ?_
              show AWp _ _ _ _
              refine awp_seq ?_
              refine awp_seq ?_
              refine awp_region ?_
              refine arun_do rfl rfl rfl (ex_assign (eV (v := (I 0)) rfl)) ?_
              refine arun_keepE [9, 10, 11, 16, 17, 23] 0 0 (st' := ⟨172, 0, [(9, (SL 5 c_api_Node x5.1)), (10, (I (x6.toNat : Int))), (11, (I (x7.toNat : Int))), (16, (S x13)), (17, (SL 5 c_api_Node x18.1)), (23, (I 0))], [], ⟨0, []⟩⟩) (by kernel_rfl) (by kernel_rfl) ?_
              show AWp _ _ _ _
              refine awp_block ?_
              refine awp_loop (fun n s => ∃ (v27 : Int), s = ⟨172, 0, [(9, (SL 5 c_api_Node x5.1)), (10, (I (x6.toNat : Int))), (11, (I (x7.toNat : Int))), (16, (S x13)), (17, (SL 5 c_api_Node x18.1)), (23, (I v27))], [], ⟨0, []⟩⟩ ∧ M_law14_EditLoops_l1 x5 x6 x7 x13 x18 n v27 = some r) fuel (Exists.intro 0 (And.intro rfl h)) ?_
              rintro n s ⟨v27, rfl, h⟩ -
              cases n with
              | zero => cases h
              | succ n1 =>
                unfold M_law14_EditLoops_l1 at h
                refine awp_seq ?_
                refine awp_seq ?_
                refine awp_region ?_
                refine arun_do rfl rfl rfl (ex_move (eV (v := (I v27)) rfl)) ?_
                refine arun_do rfl rfl rfl (ex_move (eV (v := (SL 5 c_api_Node x5.1)) rfl)) ?_
                refine arun_do rfl rfl rfl (tx_lenD (xs := x5.1) ce_api_Node Tryz.underlying25 rfl) ?_
                refine arun_do rfl rfl rfl (ex_bin (vx := (I v27)) (vy := (I (x5.1.length : Int))) rfl rfl lssI_ok) ?_
                refine arun_keepE [9, 10, 11, 16, 17, 23, 133] 0 0 (st' := ⟨172, 0, [(9, (SL 5 c_api_Node x5.1)), (10, (I (x6.toNat : Int))), (11, (I (x7.toNat : Int))), (16, (S x13)), (17, (SL 5 c_api_Node x18.1)), (23, (I v27)), (133, (Bo (decide (v27 < (x5.1.length : Int)))))], [], ⟨0, []⟩⟩) (by kernel_rfl) (by kernel_rfl) ?_
                show AWp _ _ _ _
                rcases Bool.eq_false_or_eq_true (decide (v27 < (x5.1.length : Int))) with hb28 | hb28
                · rw [condT hb28] at h
                  refine awp_condT (boT hb28) ?_
                  refine awp_skip ?_
                  show AWp _ _ _ _
                  refine awp_seq ?_
                  refine awp_block ?_
                  refine awp_seq ?_
                  refine awp_region ?_
                  refine arun_do rfl rfl rfl (ex_move (eV (v := (SL 5 c_api_Node x5.1)) rfl)) ?_
                  refine arun_do rfl rfl rfl (ex_move (eV (v := (I v27)) rfl)) ?_
                  refine arun_do rfl rfl rfl (ex_move (eV (v := (I (x6.toNat : Int))) rfl)) ?_
                  obtain ⟨x29, hx29, h⟩ := bindS h
                  refine arun_do rfl rfl rfl (ex_call0 (vs := [(SL 5 c_api_Node x5.1), (I v27), (I (x6.toNat : Int))]) (v := (Bo x29)) rfl en_22 (cargs (evs rfl (evs rfl (evs rfl evs_nil)))) rfl (ok_ref11_Within x5.1 v27 (x6.toNat : Int) x29 hx29) rfl) ?_
                  refine arun_do rfl rfl rfl (ex_move (eV (v := (SL 5 c_api_Node x18.1)) rfl)) ?_
                  refine arun_do rfl rfl rfl (ex_move (eV (v := (I v27)) rfl)) ?_
                  refine arun_do rfl rfl rfl (ex_move (eV (v := (I (x6.toNat : Int))) rfl)) ?_
                  obtain ⟨x30, hx30, h⟩ := bindS h
                  refine arun_do rfl rfl rfl (ex_call0 (vs := [(SL 5 c_api_Node x18.1), (I v27), (I (x6.toNat : Int))]) (v := (Bo x30)) rfl en_22 (cargs (evs rfl (evs rfl (evs rfl evs_nil)))) rfl (ok_ref11_Within x18.1 v27 (x6.toNat : Int) x30 hx30) rfl) ?_
                  refine arun_do rfl rfl rfl (ex_bin (vx := (Bo x29)) (vy := (Bo x30)) rfl rfl (neqB_ok Tryz.underlying4)) ?_
                  refine arun_keepE [9, 10, 11, 16, 17, 23, 144] 0 0 (st' := ⟨172, 0, [(9, (SL 5 c_api_Node x5.1)), (10, (I (x6.toNat : Int))), (11, (I (x7.toNat : Int))), (16, (S x13)), (17, (SL 5 c_api_Node x18.1)), (23, (I v27)), (144, (Bo (x29 != x30)))], [], ⟨0, []⟩⟩) (by kernel_rfl) (by kernel_rfl) ?_
                  show AWp _ _ _ _
                  rcases Bool.eq_false_or_eq_true (x29 != x30) with hb31 | hb31
                  · rw [condT hb31] at h
                    refine awp_condT (boT hb31) ?_
                    refine awp_seq ?_
                    refine awp_region ?_
                    refine arun_do rfl rfl rfl (ex_assign (eV (v := (Bo false)) rfl)) ?_
                    refine arun_keepE [8] 0 0 (st' := ⟨172, 0, [(8, (Bo false))], [], ⟨0, []⟩⟩) (by kernel_rfl) (by kernel_rfl) ?_
                    show AWp _ _ _ _
                    refine awp_ret ?_
                    cases h
                    exact ares1 (rtmp rfl (eV rfl))
                  · rw [condF hb31] at h
                    refine awp_condF (boF hb31) ?_
                    refine awp_skip ?_
                    show AWp _ _ _ _
                    refine awp_region ?_
                    refine arun_do rfl rfl rfl (ex_move (eV (v := (I v27)) rfl)) ?_
                    refine arun_do rfl rfl rfl (ex_bin (vx := (I v27)) (vy := (I 1)) rfl rfl addI_ok) ?_
                    refine arun_do rfl rfl rfl (ex_assign (eV (v := (I (w64 (v27 + 1)))) rfl)) ?_
                    refine arun_keepE [9, 10, 11, 16, 17, 23] 0 0 (st' := ⟨172, 0, [(9, (SL 5 c_api_Node x5.1)), (10, (I (x6.toNat : Int))), (11, (I (x7.toNat : Int))), (16, (S x13)), (17, (SL 5 c_api_Node x18.1)), (23, (I (w64 (v27 + 1))))], [], ⟨0, []⟩⟩) (by kernel_rfl) (by kernel_rfl) ?_
                    exact Exists.intro n1 (And.intro (Nat.lt_succ_self _) (Exists.intro (w64 (v27 + 1)) (And.intro rfl h)))
                · rw [condF hb28] at h
                  refine awp_condF (boF hb28) ?_
                  refine awp_exit ?_
                  show AWp _ _ _ _
                  refine awp_seq ?_
                  refine awp_region ?_
                  refine arun_do rfl rfl rfl (ex_move (eV (v := (SL 5 c_api_Node x5.1)) rfl)) ?_
                  refine arun_do rfl rfl rfl (ex_move (eV (v := (I (x7.toNat : Int))) rfl)) ?_
                  refine arun_do rfl rfl rfl (ex_move (eV (v := (I (x6.toNat : Int))) rfl)) ?_
                  obtain ⟨x32, hx32, h⟩ := bindS h
                  refine arun_do rfl rfl rfl (ex_call0 (vs := [(SL 5 c_api_Node x5.1), (I (x7.toNat : Int)), (I (x6.toNat : Int))]) (v := (Bo x32)) rfl en_22 (cargs (evs rfl (evs rfl (evs rfl evs_nil)))) rfl (ok_ref11_Within x5.1 (x7.toNat : Int) (x6.toNat : Int) x32 hx32) rfl) ?_
                  refine arun_do rfl rfl rfl (ex_un (vx := (Bo x32)) rfl notB_ok) ?_
                  refine arun_do rfl rfl rfl (ex_move (eV (v := (Bo (!x32))) rfl)) ?_
                  refine arun_guard (v := (SL 5 c_api_Node x18.1)) ((!x32) == true) rfl rfl rfl (fun hc => ex_move (eV (v := (SL 5 c_api_Node x18.1)) rfl)) ?_
                  obtain ⟨x33, hx33, h⟩ := bindS h
                  refine arun_guard (v := (Bo x33)) ((!x32) == true) rfl rfl rfl (fun hc => ex_call0 (vs := [(SL 5 c_api_Node x18.1)]) (v := (Bo x33)) rfl en_14 (cargs (evs (cond_of hc) evs_nil)) rfl (ok_ref11_May x18.1 x33 (gd_of hc hx33)) rfl) ?_
                  refine arun_do rfl rfl rfl (ex_pick rfl pkAnd) ?_
                  refine arun_do rfl rfl rfl (ex_move (eV (v := (Bo ((!x32) && x33))) rfl)) ?_
                  refine arun_guard (v := (SL 5 c_api_Node x18.1)) (((!x32) && x33) == true) rfl rfl rfl (fun hc => ex_move (eV (v := (SL 5 c_api_Node x18.1)) rfl)) ?_
                  refine arun_guard (v := (I (x6.toNat : Int))) (((!x32) && x33) == true) rfl rfl rfl (fun hc => ex_move (eV (v := (I (x6.toNat : Int))) rfl)) ?_
                  obtain ⟨x34, hx34, h⟩ := bindS h
                  refine arun_guard (v := (DP (c_api_Node x34))) (((!x32) && x33) == true) rfl rfl rfl (fun hc => tx_idxD (c := c_api_Node) (xs := x18.1) (i := (x6.toNat : Int)) ce_api_Node Tryz.underlying25 s_38 (cond_of hc) (cond_of hc) (gd_of hc hx34)) ?_
                  refine arun_guard (v := (DP (List.drop 1 (c_api_Node x34)))) (((!x32) && x33) == true) rfl rfl rfl (fun hc => ex_fieldAddrD (vs := (List.drop 1 (c_api_Node x34))) Tryz.underlying38 rfl s_3 (by decide) (cond_of hc) rfl) ?_
                  refine arun_guard (v := (I x34.Up)) (((!x32) && x33) == true) rfl rfl rfl (fun hc => tx_ldD1 (v := (I x34.Up)) Tryz.underlying3 rfl (cond_of hc) rfl) ?_
                  refine arun_guard (v := (I (x7.toNat : Int))) (((!x32) && x33) == true) rfl rfl rfl (fun hc => ex_move (eV (v := (I (x7.toNat : Int))) rfl)) ?_
                  refine arun_guard (v := (Bo (x34.Up == (x7.toNat : Int)))) (((!x32) && x33) == true) rfl rfl rfl (fun hc => ex_bin (vx := (I x34.Up)) (vy := (I (x7.toNat : Int))) (cond_of hc) (cond_of hc) eqlI_ok) ?_
                  refine arun_do rfl rfl rfl (ex_pick rfl pkAnd) ?_
                  refine arun_do rfl rfl rfl (ex_move (eV (v := (Bo (((!x32) && x33) && (x34.Up == (x7.toNat : Int))))) rfl)) ?_
                  refine arun_guard (v := (SL 5 c_api_Node x18.1)) ((((!x32) && x33) && (x34.Up == (x7.toNat : Int))) == true) rfl rfl rfl (fun hc => ex_move (eV (v := (SL 5 c_api_Node x18.1)) rfl)) ?_
                  refine arun_guard (v := (I (x6.toNat : Int))) ((((!x32) && x33) && (x34.Up == (x7.toNat : Int))) == true) rfl rfl rfl (fun hc => ex_move (eV (v := (I (x6.toNat : Int))) rfl)) ?_
                  obtain ⟨x35, hx35, h⟩ := bindS h
                  refine arun_guard (v := (DP (c_api_Node x35))) ((((!x32) && x33) && (x34.Up == (x7.toNat : Int))) == true) rfl rfl rfl (fun hc => tx_idxD (c := c_api_Node) (xs := x18.1) (i := (x6.toNat : Int)) ce_api_Node Tryz.underlying25 s_38 (cond_of hc) (cond_of hc) (gd_of hc hx35)) ?_
                  refine arun_guard (v := (DP (List.drop 2 (c_api_Node x35)))) ((((!x32) && x33) && (x34.Up == (x7.toNat : Int))) == true) rfl rfl rfl (fun hc => ex_fieldAddrD (vs := (List.drop 2 (c_api_Node x35))) Tryz.underlying38 rfl s_9 (by decide) (cond_of hc) rfl) ?_
                  refine arun_guard (v := (S x35.Name)) ((((!x32) && x33) && (x34.Up == (x7.toNat : Int))) == true) rfl rfl rfl (fun hc => tx_ldD1 (v := (S x35.Name)) Tryz.underlying9 rfl (cond_of hc) rfl) ?_
                  refine arun_guard (v := (S x13)) ((((!x32) && x33) && (x34.Up == (x7.toNat : Int))) == true) rfl rfl rfl (fun hc => ex_move (eV (v := (S x13)) rfl)) ?_
                  refine arun_guard (v := (Bo (x35.Name == x13))) ((((!x32) && x33) && (x34.Up == (x7.toNat : Int))) == true) rfl rfl rfl (fun hc => ex_bin (vx := (S x35.Name)) (vy := (S x13)) (cond_of hc) (cond_of hc) eqlS_ok) ?_
                  refine arun_do rfl rfl rfl (ex_pick rfl pkAnd) ?_
                  refine arun_do rfl rfl rfl (ex_assign (eV (v := (Bo ((((!x32) && x33) && (x34.Up == (x7.toNat : Int))) && (x35.Name == x13)))) rfl)) ?_
                  refine arun_keepE [8] 0 0 (st' := ⟨172, 0, [(8, (Bo ((((!x32) && x33) && (x34.Up == (x7.toNat : Int))) && (x35.Name == x13))))], [], ⟨0, []⟩⟩) (by kernel_rfl) (by kernel_rfl) ?_
                  show AWp _ _ _ _
                  refine awp_ret ?_
                  cases h
                  exact ares1 (rtmp rfl (eV rfl))

end Go.Proofs
