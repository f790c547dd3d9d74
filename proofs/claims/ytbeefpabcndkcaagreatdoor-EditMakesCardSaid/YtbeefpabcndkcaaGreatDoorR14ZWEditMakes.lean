/- Pure models of functions of the program, and that its code does what they say: palimplaw14 EditMakes. Written by a program. -/
import Derived.Test.YtbeefpabcndkcaaGreatDoorR14Z10
import Derived.Test.YtbeefpabcndkcaaGreatDoorR14Z12
import Derived.Test.YtbeefpabcndkcaaGreatDoorR14Z15
import Derived.Test.YtbeefpabcndkcaaGreatDoorR14Z17
import Derived.Test.YtbeefpabcndkcaaGreatDoorR14Z5
import Derived.Test.YtbeefpabcndkcaaGreatDoorR14Z7
import Derived.Test.YtbeefpabcndkcaaGreatDoorR14Z9
import Derived.Test.YtbeefpabcndkcaaGreatDoorR14ZB
set_option maxRecDepth 20000
set_option maxHeartbeats 4000000
namespace Go.Proofs
open Go Go.Fhl
set_option linter.unusedVariables false
set_option linter.unusedSimpArgs false
noncomputable def M_law14_EditMakes_l1 (t2 : UInt8) (x5 : ((List G_api_Node) × G_palimpmade_Picks)) (x7 : (Str × G_palimpmade_Picks)) (x8 : (Int × Bool)) (x10 : ((List G_api_Node) × Int)) (x13 : (Int × Int)) (x14 : (Int × Int)) : Nat → Int → Option Bool
  | 0, _ => none
  | n1 + 1, v17 =>
  cond (decide (v17 < (x5.1.length : Int))) (Option.bind (gd ((v17 != x13.1) == true) (getI x10.1 v17)) fun (x19 : G_api_Node) => Option.bind (gd ((v17 != x13.1) == true) (getI x5.1 v17)) fun (x20 : G_api_Node) => cond ((v17 != x13.1) && (!decide (x19 = x20))) (some false) ((M_law14_EditMakes_l1 t2 x5 x7 x8 x10 x13 x14 n1) (w64 (v17 + 1)))) (Option.bind (M_edit_Drop x10.1 x7.1) fun (x22 : ((List G_api_Node) × Int)) => Option.bind (M_edit_Make x10.1 x7.1 1) fun (x23 : ((List G_api_Node) × Int)) => Option.bind (gd ((((x8.2 && (x13.1 == x8.1)) && (x13.2 == 0)) && (x14.2 == 2)) == true) (getI x10.1 x13.1)) fun (x24 : G_api_Node) => Option.bind (gd ((((x8.2 && (x13.1 == x8.1)) && (x13.2 == 0)) && (x14.2 == 2)) == true) (rem8 t2 2)) fun (x25 : UInt8) => Option.bind (gd (((((x8.2 && (x13.1 == x8.1)) && (x13.2 == 0)) && (x14.2 == 2)) && (x24.Kind == (w64 (1 + (x25.toNat : Int))))) == true) (getI x10.1 x13.1)) fun (x26 : G_api_Node) => Option.bind (gd (((((((x8.2 && (x13.1 == x8.1)) && (x13.2 == 0)) && (x14.2 == 2)) && (x24.Kind == (w64 (1 + (x25.toNat : Int))))) && (x26.Body == [])) && (x22.2 == 0)) == true) (M_ref11_Same x22.1 x5.1)) fun (x27 : Bool) => some ((((((((x8.2 && (x13.1 == x8.1)) && (x13.2 == 0)) && (x14.2 == 2)) && (x24.Kind == (w64 (1 + (x25.toNat : Int))))) && (x26.Body == [])) && (x22.2 == 0)) && x27) && (x23.2 == 3)))
noncomputable def M_law14_EditMakes (t0 : (List UInt8)) (t1 : UInt8) (t2 : UInt8) : Option Bool :=
  Option.bind (M_law14_begun) fun (x1 : Bool) => cond (!x1) (some false) (cond (decide ((t0.length : Int) > 60)) (some true) (Option.bind (M_made_Made t0) fun (x4 : G_palimpmade_Picks) => Option.bind (M_made_Picks_Set x4 25) fun (x5 : ((List G_api_Node) × G_palimpmade_Picks)) => Option.bind (M_made_Made ([t1] : List UInt8)) fun (x6 : G_palimpmade_Picks) => Option.bind (M_made_Picks_Path x6 ) fun (x7 : (Str × G_palimpmade_Picks)) => Option.bind (M_ref11_Free x5.1) fun (x8 : (Int × Bool)) => Option.bind (rem8 t2 2) fun (x9 : UInt8) => Option.bind (M_edit_Make x5.1 x7.1 (w64 (1 + (x9.toNat : Int)))) fun (x10 : ((List G_api_Node) × Int)) => cond (x10.2 != 0) (Option.bind (M_ref11_Same x10.1 x5.1) fun (x12 : Bool) => some (x12 && ((x10.2 != 8) || (!x8.2)))) (Option.bind (M_ref11_Find x10.1 x7.1) fun (x13 : (Int × Int)) => Option.bind (M_ref11_Find x5.1 x7.1) fun (x14 : (Int × Int)) => Option.bind (gd (((x10.1.length : Int) != (x5.1.length : Int)) == false) (M_ref11_May x10.1)) fun (x15 : Bool) => cond (((((x10.1.length : Int) != (x5.1.length : Int)) || (!x15)) || (decide (x13.1 < 1))) || (decide (x13.1 ≥ (x5.1.length : Int)))) (some false) (M_law14_EditMakes_l1 t2 x5 x7 x8 x10 x13 x14 fuel 0))))
theorem ok_law14_EditMakes (t0 : (List UInt8)) (t1 : UInt8) (t2 : UInt8) (r : Bool) (h : M_law14_EditMakes t0 t1 t2 = some r) : FFn Tryz.prog 4 [(SL 1 c8 t0), (U8 t1), (U8 t2)] (Bo r) := by
  refine FFn.of_body (n := 173) Tryz.func4 rfl Tryz.ntmps4 rfl rfl rfl rfl ?_
  show AWp _ _ _ ⟨173, 0, [(0, (SL 1 c8 t0)), (1, (U8 t1)), (2, (U8 t2))], [], ⟨0, []⟩⟩
  unfold M_law14_EditMakes at h
  refine awp_seq ?_
  refine awp_region ?_
  refine arun_do rfl rfl rfl (ex_assign (eV (v := (Bo false)) rfl)) ?_
  refine arun_keepE [0, 1, 2] 0 0 (st' := ⟨173, 0, [(0, (SL 1 c8 t0)), (1, (U8 t1)), (2, (U8 t2))], [], ⟨0, []⟩⟩) (by kernel_rfl) (by kernel_rfl) ?_
  show AWp _ _ _ _
  refine awp_seq ?_
  refine awp_seq ?_
  refine awp_region ?_
  obtain ⟨x1, hx1, h⟩ := bindS h
  refine arun_do rfl rfl rfl (ex_call0 (vs := []) (v := (Bo x1)) rfl en_7 (cargs evs_nil) rfl (ok_law14_begun  x1 hx1) rfl) ?_
  refine arun_do rfl rfl rfl (ex_un (vx := (Bo x1)) rfl notB_ok) ?_
  refine arun_keepE [0, 1, 2, 23] 0 0 (st' := ⟨173, 0, [(0, (SL 1 c8 t0)), (1, (U8 t1)), (2, (U8 t2)), (23, (Bo (!x1)))], [], ⟨0, []⟩⟩) (by kernel_rfl) (by kernel_rfl) ?_
  show AWp _ _ _ _
  rcases Bool.eq_false_or_eq_true (!x1) with hb2 | hb2
  · rw [condT hb2] at h
    refine awp_condT (boT hb2) ?_
    refine awp_seq ?_
    refine awp_region ?_
    refine arun_do rfl rfl rfl (ex_assign (eV (v := (Bo false)) rfl)) ?_
    refine arun_keepE [6] 0 0 (st' := ⟨173, 0, [(6, (Bo false))], [], ⟨0, []⟩⟩) (by kernel_rfl) (by kernel_rfl) ?_
    show AWp _ _ _ _
    refine awp_ret ?_
    cases h
    exact ares1 (rtmp rfl (eV rfl))
  · rw [condF hb2] at h
    refine awp_condF (boF hb2) ?_
    refine awp_skip ?_
    show AWp _ _ _ _
    refine awp_seq ?_
    refine awp_seq ?_
    refine awp_region ?_
    refine arun_do rfl rfl rfl (ex_move (eV (v := (SL 1 c8 t0)) rfl)) ?_
    refine arun_do rfl rfl rfl (tx_lenD (xs := t0) ce8 Tryz.underlying22 rfl) ?_
    refine arun_do rfl rfl rfl (ex_bin (vx := (I (t0.length : Int))) (vy := (I 60)) rfl rfl gtrI_ok) ?_
    refine arun_keepE [0, 1, 2, 26] 0 0 (st' := ⟨173, 0, [(0, (SL 1 c8 t0)), (1, (U8 t1)), (2, (U8 t2)), (26, (Bo (decide ((t0.length : Int) > 60))))], [], ⟨0, []⟩⟩) (by kernel_rfl) (by kernel_rfl) ?_
    show AWp _ _ _ _
    rcases Bool.eq_false_or_eq_true (decide ((t0.length : Int) > 60)) with hb3 | hb3
    · rw [condT hb3] at h
      refine awp_condT (boT hb3) ?_
      refine awp_seq ?_
      refine awp_region ?_
      refine arun_do rfl rfl rfl (ex_assign (eV (v := (Bo true)) rfl)) ?_
      refine arun_keepE [6] 0 0 (st' := ⟨173, 0, [(6, (Bo true))], [], ⟨0, []⟩⟩) (by kernel_rfl) (by kernel_rfl) ?_
      show AWp _ _ _ _
      refine awp_ret ?_
      cases h
      exact ares1 (rtmp rfl (eV rfl))
    · rw [condF hb3] at h
      refine awp_condF (boF hb3) ?_
      refine awp_skip ?_
      show AWp _ _ _ _
      refine awp_seq ?_
      refine awp_region ?_
      refine arun_do rfl rfl rfl (ex_move (eV (v := (SL 1 c8 t0)) rfl)) ?_
      obtain ⟨x4, hx4, h⟩ := bindS h
      refine arun_do rfl rfl rfl (ex_callNew (vs := [(SL 1 c8 t0)]) (k := 0) (b := ⟨1, (c_palimpmade_Picks x4), false⟩) (H' := ⟨1, [(0, ⟨1, (c_palimpmade_Picks x4), false⟩)]⟩) rfl en_8 (cargs (evs rfl evs_nil)) rfl (ok_made_Made t0 x4 hx4) rfl rfl rfl) ?_
      obtain ⟨x5, hx5, h⟩ := bindS h
      refine arun_do rfl rfl rfl (ex_call1 (vs := [(NP 0 0), (I 25)]) (vs' := [(NP 0 0), (I 25)]) (v := (SL 5 c_api_Node x5.1)) (n := 0) (b := ⟨1, (c_palimpmade_Picks x4), false⟩) (b' := ⟨1, (c_palimpmade_Picks x5.2), false⟩) (H' := ⟨1, [(0, ⟨1, (c_palimpmade_Picks x5.2), false⟩)]⟩) rfl en_9 (cargs (evs rfl (evs rfl evs_nil))) rfl rfl (.cons (.inr ⟨_, rfl, rfl⟩) (.cons (.inl ⟨rfl, rfl⟩) .nil)) (ok_made_Picks_Set x4 25 x5 hx5) rfl rfl) ?_
      refine arun_do rfl rfl rfl (ex_assign (eV (v := (SL 5 c_api_Node x5.1)) rfl)) ?_
      refine arun_keepE [1, 2, 7] 0 0 (st' := ⟨173, 0, [(1, (U8 t1)), (2, (U8 t2)), (7, (SL 5 c_api_Node x5.1))], [], ⟨0, []⟩⟩) (by kernel_rfl) (by kernel_rfl) ?_
      show AWp _ _ _ _
      refine awp_seq ?_
      refine awp_region ?_
      refine arun_do rfl rfl rfl (ex_move (eV (v := (U8 t1)) rfl)) ?_
      refine arun_do rfl rfl rfl (ex_buildSliceD (qs := [(0, (U8 t1))]) (cells := (([t1] : List UInt8).flatMap c8)) Tryz.underlying22 s_5 (by decide) (evp rfl evp_nil) rfl (by kernel_rfl) (by kernel_rfl) (by kernel_rfl)) ?_
      obtain ⟨x6, hx6, h⟩ := bindS h
      refine arun_do rfl rfl rfl (ex_callNew (vs := [(SL 1 c8 ([t1] : List UInt8))]) (k := 0) (b := ⟨1, (c_palimpmade_Picks x6), false⟩) (H' := ⟨1, [(0, ⟨1, (c_palimpmade_Picks x6), false⟩)]⟩) rfl en_8 (cargs (evs rfl evs_nil)) rfl (ok_made_Made ([t1] : List UInt8) x6 hx6) rfl rfl rfl) ?_
      obtain ⟨x7, hx7, h⟩ := bindS h
      refine arun_do rfl rfl rfl (ex_call1 (vs := [(NP 0 0)]) (vs' := [(NP 0 0)]) (v := (S x7.1)) (n := 0) (b := ⟨1, (c_palimpmade_Picks x6), false⟩) (b' := ⟨1, (c_palimpmade_Picks x7.2), false⟩) (H' := ⟨1, [(0, ⟨1, (c_palimpmade_Picks x7.2), false⟩)]⟩) rfl en_10 (cargs (evs rfl evs_nil)) rfl rfl (.cons (.inr ⟨_, rfl, rfl⟩) .nil) (ok_made_Picks_Path x6  x7 hx7) rfl rfl) ?_
      refine arun_do rfl rfl rfl (ex_assign (eV (v := (S x7.1)) rfl)) ?_
      refine arun_keepE [2, 7, 8] 0 0 (st' := ⟨173, 0, [(2, (U8 t2)), (7, (SL 5 c_api_Node x5.1)), (8, (S x7.1))], [], ⟨0, []⟩⟩) (by kernel_rfl) (by kernel_rfl) ?_
      show AWp _ _ _ _
      refine awp_seq ?_
      refine awp_region ?_
      refine arun_do rfl rfl rfl (ex_move (eV (v := (SL 5 c_api_Node x5.1)) rfl)) ?_
      obtain ⟨x8, hx8, h⟩ := bindS h
      refine arun_do rfl rfl rfl (ex_call0 (vs := [(SL 5 c_api_Node x5.1)]) (v := (Value.tuple #[(I x8.1), (Bo x8.2)])) rfl en_15 (cargs (evs rfl evs_nil)) rfl (ok_ref11_Free x5.1 x8 hx8) rfl) ?_
      refine arun_do rfl rfl rfl (ex_move (eV (v := (Value.tuple #[(I x8.1), (Bo x8.2)])) rfl)) ?_
      refine arun_do rfl rfl rfl (ex_extract (vx := (Value.tuple #[(I x8.1), (Bo x8.2)])) (v := (I x8.1)) rfl rfl) ?_
      refine arun_do rfl rfl rfl (ex_extract (vx := (Value.tuple #[(I x8.1), (Bo x8.2)])) (v := (Bo x8.2)) rfl rfl) ?_
      refine arun_do rfl rfl rfl (ex_assign (eV (v := (I x8.1)) rfl)) ?_
      refine arun_do rfl rfl rfl (ex_assign (eV (v := (Bo x8.2)) rfl)) ?_
      refine arun_keepE [2, 7, 8, 9, 10] 0 0 (st' := ⟨173, 0, [(2, (U8 t2)), (7, (SL 5 c_api_Node x5.1)), (8, (S x7.1)), (9, (I x8.1)), (10, (Bo x8.2))], [], ⟨0, []⟩⟩) (by kernel_rfl) (by kernel_rfl) ?_
      show AWp _ _ _ _
      refine awp_seq ?_
      refine awp_region ?_
      refine arun_do rfl rfl rfl (ex_move (eV (v := (SL 5 c_api_Node x5.1)) rfl)) ?_
      refine arun_do rfl rfl rfl (ex_move (eV (v := (S x7.1)) rfl)) ?_
      refine arun_do rfl rfl rfl (ex_move (eV (v := (U8 t2)) rfl)) ?_
      obtain ⟨x9, hx9, h⟩ := bindS h
      refine arun_do rfl rfl rfl (ex_bin (vx := (U8 t2)) (vy := (U8 2)) rfl rfl (rem8_ok hx9)) ?_
      refine arun_do rfl rfl rfl (tx_8_64 Tryz.underlying5 Tryz.underlying3 rfl) ?_
      refine arun_do rfl rfl rfl (ex_bin (vx := (I 1)) (vy := (I (x9.toNat : Int))) rfl rfl addI_ok) ?_
      obtain ⟨x10, hx10, h⟩ := bindS h
      refine arun_do rfl rfl rfl (ex_call0 (vs := [(SL 5 c_api_Node x5.1), (S x7.1), (I (w64 (1 + (x9.toNat : Int))))]) (v := (Value.tuple #[(SL 5 c_api_Node x10.1), (I x10.2)])) rfl en_16 (cargs (evs rfl (evs rfl (evs rfl evs_nil)))) rfl (ok_edit_Make x5.1 x7.1 (w64 (1 + (x9.toNat : Int))) x10 hx10) rfl) ?_
      refine arun_do rfl rfl rfl (ex_move (eV (v := (Value.tuple #[(SL 5 c_api_Node x10.1), (I x10.2)])) rfl)) ?_
      refine arun_do rfl rfl rfl (ex_extract (vx := (Value.tuple #[(SL 5 c_api_Node x10.1), (I x10.2)])) (v := (SL 5 c_api_Node x10.1)) rfl rfl) ?_
      refine arun_do rfl rfl rfl (ex_extract (vx := (Value.tuple #[(SL 5 c_api_Node x10.1), (I x10.2)])) (v := (I x10.2)) rfl rfl) ?_
      refine arun_do rfl rfl rfl (ex_assign (eV (v := (SL 5 c_api_Node x10.1)) rfl)) ?_
      refine arun_do rfl rfl rfl (ex_assign (eV (v := (I x10.2)) rfl)) ?_
      refine arun_keepE [2, 7, 8, 9, 10, 11, 12] 0 0 (st' := ⟨173, 0, [(2, (U8 t2)), (7, (SL 5 c_api_Node x5.1)), (8, (S x7.1)), (9, (I x8.1)), (10, (Bo x8.2)), (11, (SL 5 c_api_Node x10.1)), (12, (I x10.2))], [], ⟨0, []⟩⟩) (by kernel_rfl) (by kernel_rfl) ?_
      show AWp _ _ _ _
      refine awp_seq ?_
      refine awp_seq ?_
      refine awp_region ?_
      refine arun_do rfl rfl rfl (ex_move (eV (v := (I x10.2)) rfl)) ?_
      refine arun_do rfl rfl rfl (ex_bin (vx := (I x10.2)) (vy := (I 0)) rfl rfl neqI_ok) ?_
      refine arun_keepE [2, 7, 8, 9, 10, 11, 12, 50] 0 0 (st' := ⟨173, 0, [(2, (U8 t2)), (7, (SL 5 c_api_Node x5.1)), (8, (S x7.1)), (9, (I x8.1)), (10, (Bo x8.2)), (11, (SL 5 c_api_Node x10.1)), (12, (I x10.2)), (50, (Bo (x10.2 != 0)))], [], ⟨0, []⟩⟩) (by kernel_rfl) (by kernel_rfl) ?_
      show AWp _ _ _ _
      rcases Bool.eq_false_or_eq_true (x10.2 != 0) with hb11 | hb11
      · rw [condT hb11] at h
        refine awp_condT (boT hb11) ?_
        refine awp_seq ?_
        refine awp_region ?_
        refine arun_do rfl rfl rfl (ex_move (eV (v := (SL 5 c_api_Node x10.1)) rfl)) ?_
        refine arun_do rfl rfl rfl (ex_move (eV (v := (SL 5 c_api_Node x5.1)) rfl)) ?_
        obtain ⟨x12, hx12, h⟩ := bindS h
        refine arun_do rfl rfl rfl (ex_call0 (vs := [(SL 5 c_api_Node x10.1), (SL 5 c_api_Node x5.1)]) (v := (Bo x12)) rfl en_13 (cargs (evs rfl (evs rfl evs_nil))) rfl (ok_ref11_Same x10.1 x5.1 x12 hx12) rfl) ?_
        refine arun_do rfl rfl rfl (ex_move (eV (v := (Bo x12)) rfl)) ?_
        refine arun_guard (v := (I x10.2)) (x12 == true) rfl rfl rfl (fun hc => ex_move (eV (v := (I x10.2)) rfl)) ?_
        refine arun_guard (v := (Bo (x10.2 != 8))) (x12 == true) rfl rfl rfl (fun hc => ex_bin (vx := (I x10.2)) (vy := (I 8)) (cond_of hc) rfl neqI_ok) ?_
        refine arun_guard (v := (Bo (x10.2 != 8))) (x12 == true) rfl rfl rfl (fun hc => ex_move (eV (v := (Bo (x10.2 != 8))) (cond_of hc))) ?_
        refine arun_guard (v := (Bo x8.2)) ((x12 == true) && ((x10.2 != 8) == false)) rfl rfl gv_nest (fun hc => ex_move (eV (v := (Bo x8.2)) rfl)) ?_
        refine arun_guard (v := (Bo (!x8.2))) ((x12 == true) && ((x10.2 != 8) == false)) rfl rfl gv_nest (fun hc => ex_un (vx := (Bo x8.2)) (cond_of hc) notB_ok) ?_
        refine arun_guard (v := (Bo ((x10.2 != 8) || (!x8.2)))) (x12 == true) rfl rfl rfl (fun hc => ex_pick (cond_of hc) (pkOrN hc)) ?_
        refine arun_do rfl rfl rfl (ex_pick rfl pkAnd) ?_
        refine arun_do rfl rfl rfl (ex_assign (eV (v := (Bo (x12 && ((x10.2 != 8) || (!x8.2))))) rfl)) ?_
        refine arun_keepE [6] 0 0 (st' := ⟨173, 0, [(6, (Bo (x12 && ((x10.2 != 8) || (!x8.2)))))], [], ⟨0, []⟩⟩) (by kernel_rfl) (by kernel_rfl) ?_
        show AWp _ _ _ _
        refine awp_ret ?_
        cases h
        exact ares1 (rtmp rfl (eV rfl))
      · rw [condF hb11] at h
        refine awp_condF (boF hb11) ?_
        refine awp_skip ?_
        show AWp _ _ _ _
        refine awp_seq ?_
        refine awp_region ?_
        refine arun_do rfl rfl rfl (ex_move (eV (v := (SL 5 c_api_Node x10.1)) rfl)) ?_
        refine arun_do rfl rfl rfl (ex_move (eV (v := (S x7.1)) rfl)) ?_
        obtain ⟨x13, hx13, h⟩ := bindS h
        refine arun_do rfl rfl rfl (ex_call0 (vs := [(SL 5 c_api_Node x10.1), (S x7.1)]) (v := (Value.tuple #[(I x13.1), (I x13.2)])) rfl en_11 (cargs (evs rfl (evs rfl evs_nil))) rfl (ok_ref11_Find x10.1 x7.1 x13 hx13) rfl) ?_
        refine arun_do rfl rfl rfl (ex_move (eV (v := (Value.tuple #[(I x13.1), (I x13.2)])) rfl)) ?_
        refine arun_do rfl rfl rfl (ex_extract (vx := (Value.tuple #[(I x13.1), (I x13.2)])) (v := (I x13.1)) rfl rfl) ?_
        refine arun_do rfl rfl rfl (ex_extract (vx := (Value.tuple #[(I x13.1), (I x13.2)])) (v := (I x13.2)) rfl rfl) ?_
        refine arun_do rfl rfl rfl (ex_assign (eV (v := (I x13.1)) rfl)) ?_
        refine arun_do rfl rfl rfl (ex_assign (eV (v := (I x13.2)) rfl)) ?_
        refine arun_keepE [2, 7, 8, 9, 10, 11, 13, 14] 0 0 (st' := ⟨173, 0, [(2, (U8 t2)), (7, (SL 5 c_api_Node x5.1)), (8, (S x7.1)), (9, (I x8.1)), (10, (Bo x8.2)), (11, (SL 5 c_api_Node x10.1)), (13, (I x13.1)), (14, (I x13.2))], [], ⟨0, []⟩⟩) (by kernel_rfl) (by kernel_rfl) ?_
        show AWp _ _ _ _
        refine awp_seq ?_
        refine awp_region ?_
        refine arun_do rfl rfl rfl (ex_move (eV (v := (SL 5 c_api_Node x5.1)) rfl)) ?_
        refine arun_do rfl rfl rfl (ex_move (eV (v := (S x7.1)) rfl)) ?_
        obtain ⟨x14, hx14, h⟩ := bindS h
        refine arun_do rfl rfl rfl (ex_call0 (vs := [(SL 5 c_api_Node x5.1), (S x7.1)]) (v := (Value.tuple #[(I x14.1), (I x14.2)])) rfl en_11 (cargs (evs rfl (evs rfl evs_nil))) rfl (ok_ref11_Find x5.1 x7.1 x14 hx14) rfl) ?_
        refine arun_do rfl rfl rfl (ex_move (eV (v := (Value.tuple #[(I x14.1), (I x14.2)])) rfl)) ?_
        refine arun_do rfl rfl rfl (ex_extract (vx := (Value.tuple #[(I x14.1), (I x14.2)])) (v := (I x14.1)) rfl rfl) ?_
        refine arun_do rfl rfl rfl (ex_extract (vx := (Value.tuple #[(I x14.1), (I x14.2)])) (v := (I x14.2)) rfl rfl) ?_
        refine arun_do rfl rfl rfl (ex_assign (eV (v := (I x14.1)) rfl)) ?_
        refine arun_do rfl rfl rfl (ex_assign (eV (v := (I x14.2)) rfl)) ?_
        refine arun_keepE [2, 7, 8, 9, 10, 11, 13, 14, 16] 0 0 (st' := ⟨173, 0, [(2, (U8 t2)), (7, (SL 5 c_api_Node x5.1)), (8, (S x7.1)), (9, (I x8.1)), (10, (Bo x8.2)), (11, (SL 5 c_api_Node x10.1)), (13, (I x13.1)), (14, (I x13.2)), (16, (I x14.2))], [], ⟨0, []⟩⟩) (by kernel_rfl) (by kernel_rfl) ?_
        show AWp _ _ _ _
        refine awp_seq ?_
        refine awp_seq ?_
        refine awp_region ?_
        refine arun_do rfl rfl rfl (ex_move (eV (v := (SL 5 c_api_Node x10.1)) rfl)) ?_
        refine arun_do rfl rfl rfl (tx_lenD (xs := x10.1) ce_api_Node Tryz.underlying25 rfl) ?_
        refine arun_do rfl rfl rfl (ex_move (eV (v := (SL 5 c_api_Node x5.1)) rfl)) ?_
        refine arun_do rfl rfl rfl (tx_lenD (xs := x5.1) ce_api_Node Tryz.underlying25 rfl) ?_
        refine arun_do rfl rfl rfl (ex_bin (vx := (I (x10.1.length : Int))) (vy := (I (x5.1.length : Int))) rfl rfl neqI_ok) ?_
        refine arun_do rfl rfl rfl (ex_move (eV (v := (Bo ((x10.1.length : Int) != (x5.1.length : Int)))) rfl)) ?_
        refine arun_guard (v := (SL 5 c_api_Node x10.1)) (((x10.1.length : Int) != (x5.1.length : Int)) == false) rfl rfl rfl (fun hc => ex_move (eV (v := (SL 5 c_api_Node x10.1)) rfl)) ?_
        obtain ⟨x15, hx15, h⟩ := bindS h
        refine arun_guard (v := (Bo x15)) (((x10.1.length : Int) != (x5.1.length : Int)) == false) rfl rfl rfl (fun hc => ex_call0 (vs := [(SL 5 c_api_Node x10.1)]) (v := (Bo x15)) rfl en_14 (cargs (evs (cond_of hc) evs_nil)) rfl (ok_ref11_May x10.1 x15 (gd_of hc hx15)) rfl) ?_
        refine arun_guard (v := (Bo (!x15))) (((x10.1.length : Int) != (x5.1.length : Int)) == false) rfl rfl rfl (fun hc => ex_un (vx := (Bo x15)) (cond_of hc) notB_ok) ?_
        refine arun_do rfl rfl rfl (ex_pick rfl pkOr) ?_
        refine arun_do rfl rfl rfl (ex_move (eV (v := (Bo (((x10.1.length : Int) != (x5.1.length : Int)) || (!x15)))) rfl)) ?_
        refine arun_guard (v := (I x13.1)) ((((x10.1.length : Int) != (x5.1.length : Int)) || (!x15)) == false) rfl rfl rfl (fun hc => ex_move (eV (v := (I x13.1)) rfl)) ?_
        refine arun_guard (v := (Bo (decide (x13.1 < 1)))) ((((x10.1.length : Int) != (x5.1.length : Int)) || (!x15)) == false) rfl rfl rfl (fun hc => ex_bin (vx := (I x13.1)) (vy := (I 1)) (cond_of hc) rfl lssI_ok) ?_
        refine arun_do rfl rfl rfl (ex_pick rfl pkOr) ?_
        refine arun_do rfl rfl rfl (ex_move (eV (v := (Bo ((((x10.1.length : Int) != (x5.1.length : Int)) || (!x15)) || (decide (x13.1 < 1))))) rfl)) ?_
        refine arun_guard (v := (I x13.1)) (((((x10.1.length : Int) != (x5.1.length : Int)) || (!x15)) || (decide (x13.1 < 1))) == false) rfl rfl rfl (fun hc => ex_move (eV (v := (I x13.1)) rfl)) ?_
        refine arun_guard (v := (SL 5 c_api_Node x5.1)) (((((x10.1.length : Int) != (x5.1.length : Int)) || (!x15)) || (decide (x13.1 < 1))) == false) rfl rfl rfl (fun hc => ex_move (eV (v := (SL 5 c_api_Node x5.1)) rfl)) ?_
        refine arun_guard (v := (I (x5.1.length : Int))) (((((x10.1.length : Int) != (x5.1.length : Int)) || (!x15)) || (decide (x13.1 < 1))) == false) rfl rfl rfl (fun hc => tx_lenD (xs := x5.1) ce_api_Node Tryz.underlying25 (cond_of hc)) ?_
        refine arun_guard (v := (Bo (decide (x13.1 ≥ (x5.1.length : Int))))) (((((x10.1.length : Int) != (x5.1.length : Int)) || (!x15)) || (decide (x13.1 < 1))) == false) rfl rfl rfl (fun hc => ex_bin (vx := (I x13.1)) (vy := (I (x5.1.length : Int))) (cond_of hc) (cond_of hc) geqI_ok) ?_
        refine arun_do rfl rfl rfl (ex_pick rfl pkOr) ?_
        refine arun_keepE [2, 7, 8, 9, 10, 11, 13, 14, 16, 93] 0 0 (st' := ⟨173, 0, [(2, (U8 t2)), (7, (SL 5 c_api_Node x5.1)), (8, (S x7.1)), (9, (I x8.1)), (10, (Bo x8.2)), (11, (SL 5 c_api_Node x10.1)), (13, (I x13.1)), (14, (I x13.2)), (16, (I x14.2)), (93, (Bo (((((x10.1.length : Int) != (x5.1.length : Int)) || (!x15)) || (decide (x13.1 < 1))) || (decide (x13.1 ≥ (x5.1.length : Int))))))], [], ⟨0, []⟩⟩) (by kernel_rfl) (by kernel_rfl) ?_
        show AWp _ _ _ _
        rcases Bool.eq_false_or_eq_true (((((x10.1.length : Int) != (x5.1.length : Int)) || (!x15)) || (decide (x13.1 < 1))) || (decide (x13.1 ≥ (x5.1.length : Int)))) with hb16 | hb16
        · rw [condT hb16] at h
          refine awp_condT (boT hb16) ?_
          refine awp_seq ?_
          refine awp_region ?_
          refine arun_do rfl rfl rfl (ex_assign (eV (v := (Bo false)) rfl)) ?_
          refine arun_keepE [6] 0 0 (st' := ⟨173, 0, [(6, (Bo false))], [], ⟨0, []⟩⟩) (by kernel_rfl) (by kernel_rfl) ?_
          show AWp _ _ _ _
          refine awp_ret ?_
          cases h
          exact ares1 (rtmp rfl (eV rfl))
        · rw [condF hb16] at h
          refine awp_condF (boF hb16) ?_
          refine awp_skip ?_
          show AWp _ _ _ _
          refine awp_seq ?_
          refine awp_seq ?_
          refine awp_region ?_
          refine arun_do rfl rfl rfl (ex_assign (eV (v := (I 0)) rfl)) ?_
          refine arun_keepE [2, 7, 8, 9, 10, 11, 13, 14, 16, 17] 0 0 (st' := ⟨173, 0, [(2, (U8 t2)), (7, (SL 5 c_api_Node x5.1)), (8, (S x7.1)), (9, (I x8.1)), (10, (Bo x8.2)), (11, (SL 5 c_api_Node x10.1)), (13, (I x13.1)), (14, (I x13.2)), (16, (I x14.2)), (17, (I 0))], [], ⟨0, []⟩⟩) (by kernel_rfl) (by kernel_rfl) ?_
          show AWp _ _ _ _
          refine awp_block ?_
          refine awp_loop (fun n s => ∃ (v17 : Int), s = ⟨173, 0, [(2, (U8 t2)), (7, (SL 5 c_api_Node x5.1)), (8, (S x7.1)), (9, (I x8.1)), (10, (Bo x8.2)), (11, (SL 5 c_api_Node x10.1)), (13, (I x13.1)), (14, (I x13.2)), (16, (I x14.2)), (17, (I v17))], [], ⟨0, []⟩⟩ ∧ M_law14_EditMakes_l1 t2 x5 x7 x8 x10 x13 x14 n v17 = some r) fuel (Exists.intro 0 (And.intro rfl h)) ?_
          rintro n s ⟨v17, rfl, h⟩ -
          cases n with
          | zero => cases h
          | succ n1 =>
            unfold M_law14_EditMakes_l1 at h
            refine awp_seq ?_
            refine awp_seq ?_
            refine awp_region ?_
            refine arun_do rfl rfl rfl (ex_move (eV (v := (I v17)) rfl)) ?_
            refine arun_do rfl rfl rfl (ex_move (eV (v := (SL 5 c_api_Node x5.1)) rfl)) ?_
            refine arun_do rfl rfl rfl (tx_lenD (xs := x5.1) ce_api_Node Tryz.underlying25 rfl) ?_
            refine arun_do rfl rfl rfl (ex_bin (vx := (I v17)) (vy := (I (x5.1.length : Int))) rfl rfl lssI_ok) ?_
            refine arun_keepE [2, 7, 8, 9, 10, 11, 13, 14, 16, 17, 97] 0 0 (st' := ⟨173, 0, [(2, (U8 t2)), (7, (SL 5 c_api_Node x5.1)), (8, (S x7.1)), (9, (I x8.1)), (10, (Bo x8.2)), (11, (SL 5 c_api_Node x10.1)), (13, (I x13.1)), (14, (I x13.2)), (16, (I x14.2)), (17, (I v17)), (97, (Bo (decide (v17 < (x5.1.length : Int)))))], [], ⟨0, []⟩⟩) (by kernel_rfl) (by kernel_rfl) ?_
            show AWp _ _ _ _
            rcases Bool.eq_false_or_eq_true (decide (v17 < (x5.1.length : Int))) with hb18 | hb18
            · rw [condT hb18] at h
              refine awp_condT (boT hb18) ?_
              refine awp_skip ?_
              show AWp _ _ _ _
              refine awp_seq ?_
              refine awp_block ?_
              refine awp_seq ?_
              obtain ⟨x19, hx19, h⟩ := bindS h
              obtain ⟨x20, hx20, h⟩ := bindS h
              refine awp_kn [2, 7, 8, 9, 10, 11, 13, 14, 16, 17, 113] 0 0 (st' := ⟨173, 0, [(2, (U8 t2)), (7, (SL 5 c_api_Node x5.1)), (8, (S x7.1)), (9, (I x8.1)), (10, (Bo x8.2)), (11, (SL 5 c_api_Node x10.1)), (13, (I x13.1)), (14, (I x13.2)), (16, (I x14.2)), (17, (I v17)), (113, (Bo ((v17 != x13.1) && (!decide (x19 = x20)))))], [], ⟨0, []⟩⟩) (awp_draw (T := [(I v17), (I x13.1), (Bo (v17 != x13.1)), (Bo (v17 != x13.1)), (cond ((v17 != x13.1) == true) (SL 5 c_api_Node x10.1) skipV), (cond ((v17 != x13.1) == true) (I v17) skipV), (cond ((v17 != x13.1) == true) (DP (c_api_Node x19)) skipV), (cond ((v17 != x13.1) == true) (Value.agg (c_api_Node x19).toArray) skipV), (cond ((v17 != x13.1) == true) (SL 5 c_api_Node x5.1) skipV), (cond ((v17 != x13.1) == true) (I v17) skipV), (cond ((v17 != x13.1) == true) (DP (c_api_Node x20)) skipV), (cond ((v17 != x13.1) == true) (Value.agg (c_api_Node x20).toArray) skipV), (cond ((v17 != x13.1) == true) (Bo (!decide (x19 = x20))) skipV), (Bo ((v17 != x13.1) && (!decide (x19 = x20))))]) (LH := [([], ⟨0, []⟩)]) (D := [⟨[(17, none)], [], [0], false⟩, ⟨[(13, none)], [], [0], false⟩, ⟨[(100, some 0), (101, some 1)], [0, 1], [0], false⟩, ⟨[(102, some 2)], [0, 1, 2], [0], false⟩, ⟨[(11, none), (103, some 3)], [0, 1, 2, 3], [0], false⟩, ⟨[(17, none), (103, some 3)], [0, 1, 2, 3], [0], false⟩, ⟨[(104, some 4), (105, some 5), (103, some 3)], [0, 1, 2, 3, 4, 5], [0], false⟩, ⟨[(106, some 6), (103, some 3)], [0, 1, 2, 3, 4, 5, 6], [0], false⟩, ⟨[(7, none), (103, some 3)], [0, 1, 2, 3], [0], false⟩, ⟨[(17, none), (103, some 3)], [0, 1, 2, 3], [0], false⟩, ⟨[(108, some 8), (109, some 9), (103, some 3)], [0, 1, 2, 3, 8, 9], [0], false⟩, ⟨[(110, some 10), (103, some 3)], [0, 1, 2, 3, 8, 9, 10], [0], false⟩, ⟨[(107, some 7), (111, some 11), (103, some 3)], [0, 1, 2, 3, 4, 5, 6, 7, 8, 9, 10, 11], [0], false⟩, ⟨[(103, some 3), (112, some 12)], [0, 1, 2, 3, 4, 5, 6, 7, 8, 9, 10, 11, 12], [0], false⟩]) (S := []) (plan := [0, 1, 2, 3, 4, 5, 6, 7, 8, 9, 10, 11, 12, 13]) mo (by kernel_rfl) rfl rfl rfl (dcons (dstep1 (Tm := [(17, (I v17))]) (L := []) (H := ⟨0, []⟩) rfl rfl rfl rfl rfl (astep_do rfl (ex_move (eV (v := (I v17)) rfl)))) (dcons (dstep1 (Tm := [(13, (I x13.1))]) (L := []) (H := ⟨0, []⟩) rfl rfl rfl rfl rfl (astep_do rfl (ex_move (eV (v := (I x13.1)) rfl)))) (dcons (dstep1 (Tm := [(100, (I v17)), (101, (I x13.1))]) (L := []) (H := ⟨0, []⟩) rfl rfl rfl rfl rfl (astep_do rfl (ex_bin (vx := (I v17)) (vy := (I x13.1)) rfl rfl neqI_ok))) (dcons (dstep1 (Tm := [(102, (Bo (v17 != x13.1)))]) (L := []) (H := ⟨0, []⟩) rfl rfl rfl rfl rfl (astep_do rfl (ex_move (eV (v := (Bo (v17 != x13.1))) rfl)))) (dcons (dstep1 (Tm := [(11, (SL 5 c_api_Node x10.1)), (103, (Bo (v17 != x13.1)))]) (L := []) (H := ⟨0, []⟩) rfl rfl rfl rfl rfl (astep_guard (v := (SL 5 c_api_Node x10.1)) ((v17 != x13.1) == true) rfl (fun hc => ex_move (eV (v := (SL 5 c_api_Node x10.1)) rfl)))) (dcons (dstep1 (Tm := [(17, (I v17)), (103, (Bo (v17 != x13.1)))]) (L := []) (H := ⟨0, []⟩) rfl rfl rfl rfl rfl (astep_guard (v := (I v17)) ((v17 != x13.1) == true) rfl (fun hc => ex_move (eV (v := (I v17)) rfl)))) (dcons (dstep1 (Tm := [(104, (cond ((v17 != x13.1) == true) (SL 5 c_api_Node x10.1) skipV)), (105, (cond ((v17 != x13.1) == true) (I v17) skipV)), (103, (Bo (v17 != x13.1)))]) (L := []) (H := ⟨0, []⟩) rfl rfl rfl rfl rfl (astep_guard (v := (DP (c_api_Node x19))) ((v17 != x13.1) == true) rfl (fun hc => tx_idxD (c := c_api_Node) (xs := x10.1) (i := v17) ce_api_Node Tryz.underlying25 s_38 (cond_of hc) (cond_of hc) (gd_of hc hx19)))) (dcons (dstep1 (Tm := [(106, (cond ((v17 != x13.1) == true) (DP (c_api_Node x19)) skipV)), (103, (Bo (v17 != x13.1)))]) (L := []) (H := ⟨0, []⟩) rfl rfl rfl rfl rfl (astep_guard (v := (Value.agg (c_api_Node x19).toArray)) ((v17 != x13.1) == true) rfl (fun hc => tx_ldDA (vs := (c_api_Node x19)) Tryz.underlying38 rfl s_38 (by decide) (cond_of hc) (Nat.le_of_ble_eq_true rfl) rfl))) (dcons (dstep1 (Tm := [(7, (SL 5 c_api_Node x5.1)), (103, (Bo (v17 != x13.1)))]) (L := []) (H := ⟨0, []⟩) rfl rfl rfl rfl rfl (astep_guard (v := (SL 5 c_api_Node x5.1)) ((v17 != x13.1) == true) rfl (fun hc => ex_move (eV (v := (SL 5 c_api_Node x5.1)) rfl)))) (dcons (dstep1 (Tm := [(17, (I v17)), (103, (Bo (v17 != x13.1)))]) (L := []) (H := ⟨0, []⟩) rfl rfl rfl rfl rfl (astep_guard (v := (I v17)) ((v17 != x13.1) == true) rfl (fun hc => ex_move (eV (v := (I v17)) rfl)))) (dcons (dstep1 (Tm := [(108, (cond ((v17 != x13.1) == true) (SL 5 c_api_Node x5.1) skipV)), (109, (cond ((v17 != x13.1) == true) (I v17) skipV)), (103, (Bo (v17 != x13.1)))]) (L := []) (H := ⟨0, []⟩) rfl rfl rfl rfl rfl (astep_guard (v := (DP (c_api_Node x20))) ((v17 != x13.1) == true) rfl (fun hc => tx_idxD (c := c_api_Node) (xs := x5.1) (i := v17) ce_api_Node Tryz.underlying25 s_38 (cond_of hc) (cond_of hc) (gd_of hc hx20)))) (dcons (dstep1 (Tm := [(110, (cond ((v17 != x13.1) == true) (DP (c_api_Node x20)) skipV)), (103, (Bo (v17 != x13.1)))]) (L := []) (H := ⟨0, []⟩) rfl rfl rfl rfl rfl (astep_guard (v := (Value.agg (c_api_Node x20).toArray)) ((v17 != x13.1) == true) rfl (fun hc => tx_ldDA (vs := (c_api_Node x20)) Tryz.underlying38 rfl s_38 (by decide) (cond_of hc) (Nat.le_of_ble_eq_true rfl) rfl))) (dcons (dstep1 (Tm := [(107, (cond ((v17 != x13.1) == true) (Value.agg (c_api_Node x19).toArray) skipV)), (111, (cond ((v17 != x13.1) == true) (Value.agg (c_api_Node x20).toArray) skipV)), (103, (Bo (v17 != x13.1)))]) (L := []) (H := ⟨0, []⟩) rfl rfl rfl rfl rfl (astep_guard (v := (Bo (!decide (x19 = x20)))) ((v17 != x13.1) == true) rfl (fun hc => ex_bin (vx := (Value.agg (c_api_Node x19).toArray)) (vy := (Value.agg (c_api_Node x20).toArray)) (cond_of hc) (cond_of hc) neq_38))) (dcons (dstep1 (Tm := [(103, (Bo (v17 != x13.1))), (112, (cond ((v17 != x13.1) == true) (Bo (!decide (x19 = x20))) skipV))]) (L := []) (H := ⟨0, []⟩) rfl rfl rfl rfl rfl (astep_do rfl (ex_pick rfl pkAnd))) dnil)))))))))))))) ⟨rfl, rfl⟩) (by kernel_rfl) (by kernel_rfl) ?_
              show AWp _ _ _ _
              rcases Bool.eq_false_or_eq_true ((v17 != x13.1) && (!decide (x19 = x20))) with hb21 | hb21
              · rw [condT hb21] at h
                refine awp_condT (boT hb21) ?_
                refine awp_seq ?_
                refine awp_region ?_
                refine arun_do rfl rfl rfl (ex_assign (eV (v := (Bo false)) rfl)) ?_
                refine arun_keepE [6] 0 0 (st' := ⟨173, 0, [(6, (Bo false))], [], ⟨0, []⟩⟩) (by kernel_rfl) (by kernel_rfl) ?_
                show AWp _ _ _ _
                refine awp_ret ?_
                cases h
                exact ares1 (rtmp rfl (eV rfl))
              · rw [condF hb21] at h
                refine awp_condF (boF hb21) ?_
                refine awp_skip ?_
                show AWp _ _ _ _
                refine awp_region ?_
                refine arun_do rfl rfl rfl (ex_move (eV (v := (I v17)) rfl)) ?_
                refine arun_do rfl rfl rfl (ex_bin (vx := (I v17)) (vy := (I 1)) rfl rfl addI_ok) ?_
                refine arun_do rfl rfl rfl (ex_assign (eV (v := (I (w64 (v17 + 1)))) rfl)) ?_
                refine arun_keepE [2, 7, 8, 9, 10, 11, 13, 14, 16, 17] 0 0 (st' := ⟨173, 0, [(2, (U8 t2)), (7, (SL 5 c_api_Node x5.1)), (8, (S x7.1)), (9, (I x8.1)), (10, (Bo x8.2)), (11, (SL 5 c_api_Node x10.1)), (13, (I x13.1)), (14, (I x13.2)), (16, (I x14.2)), (17, (I (w64 (v17 + 1))))], [], ⟨0, []⟩⟩) (by kernel_rfl) (by kernel_rfl) ?_
                exact Exists.intro n1 (And.intro (Nat.lt_succ_self _) (Exists.intro (w64 (v17 + 1)) (And.intro rfl h)))
            · rw [condF hb18] at h
              refine awp_condF (boF hb18) ?_
              refine awp_exit ?_
              show AWp _ _ _ _
              refine awp_seq ?_
              refine awp_region ?_
              refine arun_do rfl rfl rfl (ex_move (eV (v := (SL 5 c_api_Node x10.1)) rfl)) ?_
              refine arun_do rfl rfl rfl (ex_move (eV (v := (S x7.1)) rfl)) ?_
              obtain ⟨x22, hx22, h⟩ := bindS h
              refine arun_do rfl rfl rfl (ex_call0 (vs := [(SL 5 c_api_Node x10.1), (S x7.1)]) (v := (Value.tuple #[(SL 5 c_api_Node x22.1), (I x22.2)])) rfl en_17 (cargs (evs rfl (evs rfl evs_nil))) rfl (ok_edit_Drop x10.1 x7.1 x22 hx22) rfl) ?_
              refine arun_do rfl rfl rfl (ex_move (eV (v := (Value.tuple #[(SL 5 c_api_Node x22.1), (I x22.2)])) rfl)) ?_
              refine arun_do rfl rfl rfl (ex_extract (vx := (Value.tuple #[(SL 5 c_api_Node x22.1), (I x22.2)])) (v := (SL 5 c_api_Node x22.1)) rfl rfl) ?_
              refine arun_do rfl rfl rfl (ex_extract (vx := (Value.tuple #[(SL 5 c_api_Node x22.1), (I x22.2)])) (v := (I x22.2)) rfl rfl) ?_
              refine arun_do rfl rfl rfl (ex_assign (eV (v := (SL 5 c_api_Node x22.1)) rfl)) ?_
              refine arun_do rfl rfl rfl (ex_assign (eV (v := (I x22.2)) rfl)) ?_
              refine arun_keepE [2, 7, 8, 9, 10, 11, 13, 14, 16, 18, 19] 0 0 (st' := ⟨173, 0, [(2, (U8 t2)), (7, (SL 5 c_api_Node x5.1)), (8, (S x7.1)), (9, (I x8.1)), (10, (Bo x8.2)), (11, (SL 5 c_api_Node x10.1)), (13, (I x13.1)), (14, (I x13.2)), (16, (I x14.2)), (18, (SL 5 c_api_Node x22.1)), (19, (I x22.2))], [], ⟨0, []⟩⟩) (by kernel_rfl) (by kernel_rfl) ?_
              show AWp _ _ _ _
              refine awp_seq ?_
              refine awp_region ?_
              refine arun_do rfl rfl rfl (ex_move (eV (v := (SL 5 c_api_Node x10.1)) rfl)) ?_
              refine arun_do rfl rfl rfl (ex_move (eV (v := (S x7.1)) rfl)) ?_
              obtain ⟨x23, hx23, h⟩ := bindS h
              refine arun_do rfl rfl rfl (ex_call0 (vs := [(SL 5 c_api_Node x10.1), (S x7.1), (I 1)]) (v := (Value.tuple #[(SL 5 c_api_Node x23.1), (I x23.2)])) rfl en_16 (cargs (evs rfl (evs rfl (evs rfl evs_nil)))) rfl (ok_edit_Make x10.1 x7.1 1 x23 hx23) rfl) ?_
              refine arun_do rfl rfl rfl (ex_move (eV (v := (Value.tuple #[(SL 5 c_api_Node x23.1), (I x23.2)])) rfl)) ?_
              refine arun_do rfl rfl rfl (ex_extract (vx := (Value.tuple #[(SL 5 c_api_Node x23.1), (I x23.2)])) (v := (SL 5 c_api_Node x23.1)) rfl rfl) ?_
              refine arun_do rfl rfl rfl (ex_extract (vx := (Value.tuple #[(SL 5 c_api_Node x23.1), (I x23.2)])) (v := (I x23.2)) rfl rfl) ?_
              refine arun_do rfl rfl rfl (ex_assign (eV (v := (SL 5 c_api_Node x23.1)) rfl)) ?_
              refine arun_do rfl rfl rfl (ex_assign (eV (v := (I x23.2)) rfl)) ?_
              refine arun_keepE [2, 7, 9, 10, 11, 13, 14, 16, 18, 19, 21] 0 0 (st' := ⟨173, 0, [(2, (U8 t2)), (7, (SL 5 c_api_Node x5.1)), (9, (I x8.1)), (10, (Bo x8.2)), (11, (SL 5 c_api_Node x10.1)), (13, (I x13.1)), (14, (I x13.2)), (16, (I x14.2)), (18, (SL 5 c_api_Node x22.1)), (19, (I x22.2)), (21, (I x23.2))], [], ⟨0, []⟩⟩) (by kernel_rfl) (by kernel_rfl) ?_
              show AWp _ _ _ _
              refine awp_seq ?_
              refine awp_region ?_
              refine arun_do rfl rfl rfl (ex_move (eV (v := (Bo x8.2)) rfl)) ?_
              refine arun_do rfl rfl rfl (ex_move (eV (v := (Bo x8.2)) rfl)) ?_
              refine arun_guard (v := (I x13.1)) (x8.2 == true) rfl rfl rfl (fun hc => ex_move (eV (v := (I x13.1)) rfl)) ?_
              refine arun_guard (v := (I x8.1)) (x8.2 == true) rfl rfl rfl (fun hc => ex_move (eV (v := (I x8.1)) rfl)) ?_
              refine arun_guard (v := (Bo (x13.1 == x8.1))) (x8.2 == true) rfl rfl rfl (fun hc => ex_bin (vx := (I x13.1)) (vy := (I x8.1)) (cond_of hc) (cond_of hc) eqlI_ok) ?_
              refine arun_do rfl rfl rfl (ex_pick rfl pkAnd) ?_
              refine arun_do rfl rfl rfl (ex_move (eV (v := (Bo (x8.2 && (x13.1 == x8.1)))) rfl)) ?_
              refine arun_guard (v := (I x13.2)) ((x8.2 && (x13.1 == x8.1)) == true) rfl rfl rfl (fun hc => ex_move (eV (v := (I x13.2)) rfl)) ?_
              refine arun_guard (v := (Bo (x13.2 == 0))) ((x8.2 && (x13.1 == x8.1)) == true) rfl rfl rfl (fun hc => ex_bin (vx := (I x13.2)) (vy := (I 0)) (cond_of hc) rfl eqlI_ok) ?_
              refine arun_do rfl rfl rfl (ex_pick rfl pkAnd) ?_
              refine arun_do rfl rfl rfl (ex_move (eV (v := (Bo ((x8.2 && (x13.1 == x8.1)) && (x13.2 == 0)))) rfl)) ?_
              refine arun_guard (v := (I x14.2)) (((x8.2 && (x13.1 == x8.1)) && (x13.2 == 0)) == true) rfl rfl rfl (fun hc => ex_move (eV (v := (I x14.2)) rfl)) ?_
              refine arun_guard (v := (Bo (x14.2 == 2))) (((x8.2 && (x13.1 == x8.1)) && (x13.2 == 0)) == true) rfl rfl rfl (fun hc => ex_bin (vx := (I x14.2)) (vy := (I 2)) (cond_of hc) rfl eqlI_ok) ?_
              refine arun_do rfl rfl rfl (ex_pick rfl pkAnd) ?_
              refine arun_do rfl rfl rfl (ex_move (eV (v := (Bo (((x8.2 && (x13.1 == x8.1)) && (x13.2 == 0)) && (x14.2 == 2)))) rfl)) ?_
              refine arun_guard (v := (SL 5 c_api_Node x10.1)) ((((x8.2 && (x13.1 == x8.1)) && (x13.2 == 0)) && (x14.2 == 2)) == true) rfl rfl rfl (fun hc => ex_move (eV (v := (SL 5 c_api_Node x10.1)) rfl)) ?_
              refine arun_guard (v := (I x13.1)) ((((x8.2 && (x13.1 == x8.1)) && (x13.2 == 0)) && (x14.2 == 2)) == true) rfl rfl rfl (fun hc => ex_move (eV (v := (I x13.1)) rfl)) ?_
              obtain ⟨x24, hx24, h⟩ := bindS h
              refine arun_guard (v := (DP (c_api_Node x24))) ((((x8.2 && (x13.1 == x8.1)) && (x13.2 == 0)) && (x14.2 == 2)) == true) rfl rfl rfl (fun hc => tx_idxD (c := c_api_Node) (xs := x10.1) (i := x13.1) ce_api_Node Tryz.underlying25 s_38 (cond_of hc) (cond_of hc) (gd_of hc hx24)) ?_
              refine arun_guard (v := (DP (List.drop 0 (c_api_Node x24)))) ((((x8.2 && (x13.1 == x8.1)) && (x13.2 == 0)) && (x14.2 == 2)) == true) rfl rfl rfl (fun hc => ex_fieldAddrD (vs := (List.drop 0 (c_api_Node x24))) Tryz.underlying38 rfl s_3 (by decide) (cond_of hc) rfl) ?_
              refine arun_guard (v := (I x24.Kind)) ((((x8.2 && (x13.1 == x8.1)) && (x13.2 == 0)) && (x14.2 == 2)) == true) rfl rfl rfl (fun hc => tx_ldD1 (v := (I x24.Kind)) Tryz.underlying3 rfl (cond_of hc) rfl) ?_
              refine arun_guard (v := (U8 t2)) ((((x8.2 && (x13.1 == x8.1)) && (x13.2 == 0)) && (x14.2 == 2)) == true) rfl rfl rfl (fun hc => ex_move (eV (v := (U8 t2)) rfl)) ?_
              obtain ⟨x25, hx25, h⟩ := bindS h
              refine arun_guard (v := (U8 x25)) ((((x8.2 && (x13.1 == x8.1)) && (x13.2 == 0)) && (x14.2 == 2)) == true) rfl rfl rfl (fun hc => ex_bin (vx := (U8 t2)) (vy := (U8 2)) (cond_of hc) rfl (rem8_ok (gd_of hc hx25))) ?_
              refine arun_guard (v := (I (x25.toNat : Int))) ((((x8.2 && (x13.1 == x8.1)) && (x13.2 == 0)) && (x14.2 == 2)) == true) rfl rfl rfl (fun hc => tx_8_64 Tryz.underlying5 Tryz.underlying3 (cond_of hc)) ?_
              refine arun_guard (v := (I (w64 (1 + (x25.toNat : Int))))) ((((x8.2 && (x13.1 == x8.1)) && (x13.2 == 0)) && (x14.2 == 2)) == true) rfl rfl rfl (fun hc => ex_bin (vx := (I 1)) (vy := (I (x25.toNat : Int))) rfl (cond_of hc) addI_ok) ?_
              refine arun_guard (v := (Bo (x24.Kind == (w64 (1 + (x25.toNat : Int)))))) ((((x8.2 && (x13.1 == x8.1)) && (x13.2 == 0)) && (x14.2 == 2)) == true) rfl rfl rfl (fun hc => ex_bin (vx := (I x24.Kind)) (vy := (I (w64 (1 + (x25.toNat : Int))))) (cond_of hc) (cond_of hc) eqlI_ok) ?_
              refine arun_do rfl rfl rfl (ex_pick rfl pkAnd) ?_
              refine arun_do rfl rfl rfl (ex_move (eV (v := (Bo ((((x8.2 && (x13.1 == x8.1)) && (x13.2 == 0)) && (x14.2 == 2)) && (x24.Kind == (w64 (1 + (x25.toNat : Int))))))) rfl)) ?_
              refine arun_guard (v := (SL 5 c_api_Node x10.1)) (((((x8.2 && (x13.1 == x8.1)) && (x13.2 == 0)) && (x14.2 == 2)) && (x24.Kind == (w64 (1 + (x25.toNat : Int))))) == true) rfl rfl rfl (fun hc => ex_move (eV (v := (SL 5 c_api_Node x10.1)) rfl)) ?_
              refine arun_guard (v := (I x13.1)) (((((x8.2 && (x13.1 == x8.1)) && (x13.2 == 0)) && (x14.2 == 2)) && (x24.Kind == (w64 (1 + (x25.toNat : Int))))) == true) rfl rfl rfl (fun hc => ex_move (eV (v := (I x13.1)) rfl)) ?_
              obtain ⟨x26, hx26, h⟩ := bindS h
              refine arun_guard (v := (DP (c_api_Node x26))) (((((x8.2 && (x13.1 == x8.1)) && (x13.2 == 0)) && (x14.2 == 2)) && (x24.Kind == (w64 (1 + (x25.toNat : Int))))) == true) rfl rfl rfl (fun hc => tx_idxD (c := c_api_Node) (xs := x10.1) (i := x13.1) ce_api_Node Tryz.underlying25 s_38 (cond_of hc) (cond_of hc) (gd_of hc hx26)) ?_
              refine arun_guard (v := (DP (List.drop 3 (c_api_Node x26)))) (((((x8.2 && (x13.1 == x8.1)) && (x13.2 == 0)) && (x14.2 == 2)) && (x24.Kind == (w64 (1 + (x25.toNat : Int))))) == true) rfl rfl rfl (fun hc => ex_fieldAddrD (vs := (List.drop 3 (c_api_Node x26))) Tryz.underlying38 rfl s_9 (by decide) (cond_of hc) rfl) ?_
              refine arun_guard (v := (S x26.Body)) (((((x8.2 && (x13.1 == x8.1)) && (x13.2 == 0)) && (x14.2 == 2)) && (x24.Kind == (w64 (1 + (x25.toNat : Int))))) == true) rfl rfl rfl (fun hc => tx_ldD1 (v := (S x26.Body)) Tryz.underlying9 rfl (cond_of hc) rfl) ?_
              refine arun_guard (v := (Bo (x26.Body == []))) (((((x8.2 && (x13.1 == x8.1)) && (x13.2 == 0)) && (x14.2 == 2)) && (x24.Kind == (w64 (1 + (x25.toNat : Int))))) == true) rfl rfl rfl (fun hc => ex_bin (vx := (S x26.Body)) (vy := (S [])) (cond_of hc) rfl eqlS_ok) ?_
              refine arun_do rfl rfl rfl (ex_pick rfl pkAnd) ?_
              refine arun_do rfl rfl rfl (ex_move (eV (v := (Bo (((((x8.2 && (x13.1 == x8.1)) && (x13.2 == 0)) && (x14.2 == 2)) && (x24.Kind == (w64 (1 + (x25.toNat : Int))))) && (x26.Body == [])))) rfl)) ?_
              refine arun_guard (v := (I x22.2)) ((((((x8.2 && (x13.1 == x8.1)) && (x13.2 == 0)) && (x14.2 == 2)) && (x24.Kind == (w64 (1 + (x25.toNat : Int))))) && (x26.Body == [])) == true) rfl rfl rfl (fun hc => ex_move (eV (v := (I x22.2)) rfl)) ?_
              refine arun_guard (v := (Bo (x22.2 == 0))) ((((((x8.2 && (x13.1 == x8.1)) && (x13.2 == 0)) && (x14.2 == 2)) && (x24.Kind == (w64 (1 + (x25.toNat : Int))))) && (x26.Body == [])) == true) rfl rfl rfl (fun hc => ex_bin (vx := (I x22.2)) (vy := (I 0)) (cond_of hc) rfl eqlI_ok) ?_
              refine arun_do rfl rfl rfl (ex_pick rfl pkAnd) ?_
              refine arun_do rfl rfl rfl (ex_move (eV (v := (Bo ((((((x8.2 && (x13.1 == x8.1)) && (x13.2 == 0)) && (x14.2 == 2)) && (x24.Kind == (w64 (1 + (x25.toNat : Int))))) && (x26.Body == [])) && (x22.2 == 0)))) rfl)) ?_
              refine arun_guard (v := (SL 5 c_api_Node x22.1)) (((((((x8.2 && (x13.1 == x8.1)) && (x13.2 == 0)) && (x14.2 == 2)) && (x24.Kind == (w64 (1 + (x25.toNat : Int))))) && (x26.Body == [])) && (x22.2 == 0)) == true) rfl rfl rfl (fun hc => ex_move (eV (v := (SL 5 c_api_Node x22.1)) rfl)) ?_
              refine arun_guard (v := (SL 5 c_api_Node x5.1)) (((((((x8.2 && (x13.1 == x8.1)) && (x13.2 == 0)) && (x14.2 == 2)) && (x24.Kind == (w64 (1 + (x25.toNat : Int))))) && (x26.Body == [])) && (x22.2 == 0)) == true) rfl rfl rfl (fun hc => ex_move (eV (v := (SL 5 c_api_Node x5.1)) rfl)) ?_
              obtain ⟨x27, hx27, h⟩ := bindS h
              refine arun_guard (v := (Bo x27)) (((((((x8.2 && (x13.1 == x8.1)) && (x13.2 == 0)) && (x14.2 == 2)) && (x24.Kind == (w64 (1 + (x25.toNat : Int))))) && (x26.Body == [])) && (x22.2 == 0)) == true) rfl rfl rfl (fun hc => ex_call0 (vs := [(SL 5 c_api_Node x22.1), (SL 5 c_api_Node x5.1)]) (v := (Bo x27)) rfl en_13 (cargs (evs (cond_of hc) (evs (cond_of hc) evs_nil))) rfl (ok_ref11_Same x22.1 x5.1 x27 (gd_of hc hx27)) rfl) ?_
              refine arun_do rfl rfl rfl (ex_pick rfl pkAnd) ?_
              refine arun_do rfl rfl rfl (ex_move (eV (v := (Bo (((((((x8.2 && (x13.1 == x8.1)) && (x13.2 == 0)) && (x14.2 == 2)) && (x24.Kind == (w64 (1 + (x25.toNat : Int))))) && (x26.Body == [])) && (x22.2 == 0)) && x27))) rfl)) ?_
              refine arun_guard (v := (I x23.2)) ((((((((x8.2 && (x13.1 == x8.1)) && (x13.2 == 0)) && (x14.2 == 2)) && (x24.Kind == (w64 (1 + (x25.toNat : Int))))) && (x26.Body == [])) && (x22.2 == 0)) && x27) == true) rfl rfl rfl (fun hc => ex_move (eV (v := (I x23.2)) rfl)) ?_
              refine arun_guard (v := (Bo (x23.2 == 3))) ((((((((x8.2 && (x13.1 == x8.1)) && (x13.2 == 0)) && (x14.2 == 2)) && (x24.Kind == (w64 (1 + (x25.toNat : Int))))) && (x26.Body == [])) && (x22.2 == 0)) && x27) == true) rfl rfl rfl (fun hc => ex_bin (vx := (I x23.2)) (vy := (I 3)) (cond_of hc) rfl eqlI_ok) ?_
              refine arun_do rfl rfl rfl (ex_pick rfl pkAnd) ?_
              refine arun_do rfl rfl rfl (ex_assign (eV (v := (Bo ((((((((x8.2 && (x13.1 == x8.1)) && (x13.2 == 0)) && (x14.2 == 2)) && (x24.Kind == (w64 (1 + (x25.toNat : Int))))) && (x26.Body == [])) && (x22.2 == 0)) && x27) && (x23.2 == 3)))) rfl)) ?_
              refine arun_keepE [6] 0 0 (st' := ⟨173, 0, [(6, (Bo ((((((((x8.2 && (x13.1 == x8.1)) && (x13.2 == 0)) && (x14.2 == 2)) && (x24.Kind == (w64 (1 + (x25.toNat : Int))))) && (x26.Body == [])) && (x22.2 == 0)) && x27) && (x23.2 == 3))))], [], ⟨0, []⟩⟩) (by kernel_rfl) (by kernel_rfl) ?_
              show AWp _ _ _ _
              refine awp_ret ?_
              cases h
              exact ares1 (rtmp rfl (eV rfl))

end Go.Proofs
