/- Pure models of functions of the program, and that its code does what they say: palimplaw14 EditDrops. Written by a program. -/
import Derived.Test.YtbeefpabcndkcaaGreatDoorR14Z10
import Derived.Test.YtbeefpabcndkcaaGreatDoorR14Z15
import Derived.Test.YtbeefpabcndkcaaGreatDoorR14Z17
import Derived.Test.YtbeefpabcndkcaaGreatDoorR14Z7
import Derived.Test.YtbeefpabcndkcaaGreatDoorR14Z8
import Derived.Test.YtbeefpabcndkcaaGreatDoorR14Z9
import Derived.Test.YtbeefpabcndkcaaGreatDoorR14ZB
set_option maxRecDepth 20000
set_option maxHeartbeats 4000000
namespace Go.Proofs
open Go Go.Fhl
set_option linter.unusedVariables false
set_option linter.unusedSimpArgs false
noncomputable def M_law14_EditDrops_l1 (x5 : ((List G_api_Node) × G_palimpmade_Picks)) (x8 : (Int × Int)) (x9 : ((List G_api_Node) × Int)) (x13 : (Int × Int)) : Nat → Int → Option Bool
  | 0, _ => none
  | n1 + 1, v16 =>
  cond (decide (v16 < (x5.1.length : Int))) (Option.bind (gd ((v16 != x8.1) == true) (getI x9.1 v16)) fun (x18 : G_api_Node) => Option.bind (gd ((v16 != x8.1) == true) (getI x5.1 v16)) fun (x19 : G_api_Node) => Option.bind (gd (((v16 != x8.1) == true) && ((!decide (x18 = x19)) == false)) (getI x5.1 v16)) fun (x20 : G_api_Node) => Option.bind (gd ((((v16 != x8.1) == true) && ((!decide (x18 = x19)) == false)) && (((x20.Kind != 0) && (decide (v16 > 0))) == true)) (getI x5.1 v16)) fun (x21 : G_api_Node) => cond ((v16 != x8.1) && ((!decide (x18 = x19)) || (((x20.Kind != 0) && (decide (v16 > 0))) && (x21.Up == x8.1)))) (some false) ((M_law14_EditDrops_l1 x5 x8 x9 x13 n1) (w64 (v16 + 1)))) (Option.bind (gd ((((x8.2 == 0) && (decide (x8.1 > 0))) && (x13.2 == 2)) == true) (getI x9.1 x8.1)) fun (x23 : G_api_Node) => some ((((x8.2 == 0) && (decide (x8.1 > 0))) && (x13.2 == 2)) && (decide (x23 = (G_api_Node.mk 0 0 [] [] 0)))))
noncomputable def M_law14_EditDrops (t0 : (List UInt8)) (t1 : UInt8) : Option Bool :=
  Option.bind (M_law14_begun) fun (x1 : Bool) => cond (!x1) (some false) (cond (decide ((t0.length : Int) > 60)) (some true) (Option.bind (M_made_Made t0) fun (x4 : G_palimpmade_Picks) => Option.bind (M_made_Picks_Set x4 25) fun (x5 : ((List G_api_Node) × G_palimpmade_Picks)) => Option.bind (M_made_Made ([t1] : List UInt8)) fun (x6 : G_palimpmade_Picks) => Option.bind (M_made_Picks_Path x6 ) fun (x7 : (Str × G_palimpmade_Picks)) => Option.bind (M_ref11_Find x5.1 x7.1) fun (x8 : (Int × Int)) => Option.bind (M_edit_Drop x5.1 x7.1) fun (x9 : ((List G_api_Node) × Int)) => cond (x9.2 != 0) (Option.bind (M_ref11_Same x9.1 x5.1) fun (x11 : Bool) => Option.bind (gd (((((x11 == true) && (((x8.2 != 0) && (x9.2 == x8.2)) == false)) && ((x8.2 == 0) == true)) && (((x8.1 == 0) && (x9.2 == 4)) == false)) && (((decide (x8.1 > 0)) && (x9.2 == 6)) == true)) (M_ref11_Kids x5.1 x8.1)) fun (x12 : (List Int)) => some (x11 && (((x8.2 != 0) && (x9.2 == x8.2)) || ((x8.2 == 0) && (((x8.1 == 0) && (x9.2 == 4)) || (((decide (x8.1 > 0)) && (x9.2 == 6)) && (decide ((x12.length : Int) > 0)))))))) (Option.bind (M_ref11_Find x9.1 x7.1) fun (x13 : (Int × Int)) => Option.bind (gd (((x9.1.length : Int) != (x5.1.length : Int)) == false) (M_ref11_May x9.1)) fun (x14 : Bool) => cond (((x9.1.length : Int) != (x5.1.length : Int)) || (!x14)) (some false) (M_law14_EditDrops_l1 x5 x8 x9 x13 fuel 0))))
theorem ok_law14_EditDrops (t0 : (List UInt8)) (t1 : UInt8) (r : Bool) (h : M_law14_EditDrops t0 t1 = some r) : FFn Tryz.prog 5 [(SL 1 c8 t0), (U8 t1)] (Bo r) := by
  refine FFn.of_body (n := 154) Tryz.func5 rfl Tryz.ntmps5 rfl rfl rfl rfl ?_
  show AWp _ _ _ ⟨154, 0, [(0, (SL 1 c8 t0)), (1, (U8 t1))], [], ⟨0, []⟩⟩
  unfold M_law14_EditDrops at h
  refine awp_seq ?_
  refine awp_region ?_
  refine arun_do rfl rfl rfl (ex_assign (eV (v := (Bo false)) rfl)) ?_
  refine arun_keepE [0, 1] 0 0 (st' := ⟨154, 0, [(0, (SL 1 c8 t0)), (1, (U8 t1))], [], ⟨0, []⟩⟩) (by kernel_rfl) (by kernel_rfl) ?_
  show AWp _ _ _ _
  refine awp_seq ?_
  refine awp_seq ?_
  refine awp_region ?_
  obtain ⟨x1, hx1, h⟩ := bindS h
  refine arun_do rfl rfl rfl (ex_call0 (vs := []) (v := (Bo x1)) rfl en_7 (cargs evs_nil) rfl (ok_law14_begun  x1 hx1) rfl) ?_
  refine arun_do rfl rfl rfl (ex_un (vx := (Bo x1)) rfl notB_ok) ?_
  refine arun_keepE [0, 1, 15] 0 0 (st' := ⟨154, 0, [(0, (SL 1 c8 t0)), (1, (U8 t1)), (15, (Bo (!x1)))], [], ⟨0, []⟩⟩) (by kernel_rfl) (by kernel_rfl) ?_
  show AWp _ _ _ _
  rcases Bool.eq_false_or_eq_true (!x1) with hb2 | hb2
  · rw [condT hb2] at h
    refine awp_condT (boT hb2) ?_
    refine awp_seq ?_
    refine awp_region ?_
    refine arun_do rfl rfl rfl (ex_assign (eV (v := (Bo false)) rfl)) ?_
    refine arun_keepE [4] 0 0 (st' := ⟨154, 0, [(4, (Bo false))], [], ⟨0, []⟩⟩) (by kernel_rfl) (by kernel_rfl) ?_
    show AWp _ _ _ _
    refine awp_ret ?_
    cases h
    exact ares1 (rtmp rfl (eV rfl))
  · rw [condF hb2] at h
    refine awp_condF (boF hb2) ?_
    refine awp_skip ?_
    show AWp _ _ _ _
    refine awp_seq ?_
    refine awp_seq ?_
    refine awp_region ?_
    refine arun_do rfl rfl rfl (ex_move (eV (v := (SL 1 c8 t0)) rfl)) ?_
    refine arun_do rfl rfl rfl (tx_lenD (xs := t0) ce8 Tryz.underlying22 rfl) ?_
    refine arun_do rfl rfl rfl (ex_bin (vx := (I (t0.length : Int))) (vy := (I 60)) rfl rfl gtrI_ok) ?_
    refine arun_keepE [0, 1, 18] 0 0 (st' := ⟨154, 0, [(0, (SL 1 c8 t0)), (1, (U8 t1)), (18, (Bo (decide ((t0.length : Int) > 60))))], [], ⟨0, []⟩⟩) (by kernel_rfl) (by kernel_rfl) ?_
    show AWp _ _ _ _
    rcases Bool.eq_false_or_eq_true (decide ((t0.length : Int) > 60)) with hb3 | hb3
    · rw [condT hb3] at h
      refine awp_condT (boT hb3) ?_
      refine awp_seq ?_
      refine awp_region ?_
      refine arun_do rfl rfl rfl (ex_assign (eV (v := (Bo true)) rfl)) ?_
      refine arun_keepE [4] 0 0 (st' := ⟨154, 0, [(4, (Bo true))], [], ⟨0, []⟩⟩) (by kernel_rfl) (by kernel_rfl) ?_
      show AWp _ _ _ _
      refine awp_ret ?_
      cases h
      exact ares1 (rtmp rfl (eV rfl))
    · rw [condF hb3] at h
      refine awp_condF (boF hb3) ?_
      refine awp_skip ?_
      show AWp _ _ _ _
      refine awp_seq ?_
      refine awp_region ?_
      refine arun_do rfl rfl rfl (ex_move (eV (v := (SL 1 c8 t0)) rfl)) ?_
      obtain ⟨x4, hx4, h⟩ := bindS h
      refine arun_do rfl rfl rfl (ex_callNew (vs := [(SL 1 c8 t0)]) (k := 0) (b := ⟨1, (c_palimpmade_Picks x4), false⟩) (H' := ⟨1, [(0, ⟨1, (c_palimpmade_Picks x4), false⟩)]⟩) rfl en_8 (cargs (evs rfl evs_nil)) rfl (ok_made_Made t0 x4 hx4) rfl rfl rfl) ?_
      obtain ⟨x5, hx5, h⟩ := bindS h
      refine arun_do rfl rfl rfl (ex_call1 (vs := [(NP 0 0), (I 25)]) (vs' := [(NP 0 0), (I 25)]) (v := (SL 5 c_api_Node x5.1)) (n := 0) (b := ⟨1, (c_palimpmade_Picks x4), false⟩) (b' := ⟨1, (c_palimpmade_Picks x5.2), false⟩) (H' := ⟨1, [(0, ⟨1, (c_palimpmade_Picks x5.2), false⟩)]⟩) rfl en_9 (cargs (evs rfl (evs rfl evs_nil))) rfl rfl (.cons (.inr ⟨_, rfl, rfl⟩) (.cons (.inl ⟨rfl, rfl⟩) .nil)) (ok_made_Picks_Set x4 25 x5 hx5) rfl rfl) ?_
      refine arun_do rfl rfl rfl (ex_assign (eV (v := (SL 5 c_api_Node x5.1)) rfl)) ?_
      refine arun_keepE [1, 5] 0 0 (st' := ⟨154, 0, [(1, (U8 t1)), (5, (SL 5 c_api_Node x5.1))], [], ⟨0, []⟩⟩) (by kernel_rfl) (by kernel_rfl) ?_
      show AWp _ _ _ _
      refine awp_seq ?_
      refine awp_region ?_
      refine arun_do rfl rfl rfl (ex_move (eV (v := (U8 t1)) rfl)) ?_
      refine arun_do rfl rfl rfl (ex_buildSliceD (qs := [(0, (U8 t1))]) (cells := (([t1] : List UInt8).flatMap c8)) Tryz.underlying22 s_5 (by decide) (evp rfl evp_nil) rfl (by kernel_rfl) (by kernel_rfl) (by kernel_rfl)) ?_
      obtain ⟨x6, hx6, h⟩ := bindS h
      refine arun_do rfl rfl rfl (ex_callNew (vs := [(SL 1 c8 ([t1] : List UInt8))]) (k := 0) (b := ⟨1, (c_palimpmade_Picks x6), false⟩) (H' := ⟨1, [(0, ⟨1, (c_palimpmade_Picks x6), false⟩)]⟩) rfl en_8 (cargs (evs rfl evs_nil)) rfl (ok_made_Made ([t1] : List UInt8) x6 hx6) rfl rfl rfl) ?_
      obtain ⟨x7, hx7, h⟩ := bindS h
      refine arun_do rfl rfl rfl (ex_call1 (vs := [(NP 0 0)]) (vs' := [(NP 0 0)]) (v := (S x7.1)) (n := 0) (b := ⟨1, (c_palimpmade_Picks x6), false⟩) (b' := ⟨1, (c_palimpmade_Picks x7.2), false⟩) (H' := ⟨1, [(0, ⟨1, (c_palimpmade_Picks x7.2), false⟩)]⟩) rfl en_10 (cargs (evs rfl evs_nil)) rfl rfl (.cons (.inr ⟨_, rfl, rfl⟩) .nil) (ok_made_Picks_Path x6  x7 hx7) rfl rfl) ?_
      refine arun_do rfl rfl rfl (ex_assign (eV (v := (S x7.1)) rfl)) ?_
      refine arun_keepE [5, 6] 0 0 (st' := ⟨154, 0, [(5, (SL 5 c_api_Node x5.1)), (6, (S x7.1))], [], ⟨0, []⟩⟩) (by kernel_rfl) (by kernel_rfl) ?_
      show AWp _ _ _ _
      refine awp_seq ?_
      refine awp_region ?_
      refine arun_do rfl rfl rfl (ex_move (eV (v := (SL 5 c_api_Node x5.1)) rfl)) ?_
      refine arun_do rfl rfl rfl (ex_move (eV (v := (S x7.1)) rfl)) ?_
      obtain ⟨x8, hx8, h⟩ := bindS h
      refine arun_do rfl rfl rfl (ex_call0 (vs := [(SL 5 c_api_Node x5.1), (S x7.1)]) (v := (Value.tuple #[(I x8.1), (I x8.2)])) rfl en_11 (cargs (evs rfl (evs rfl evs_nil))) rfl (ok_ref11_Find x5.1 x7.1 x8 hx8) rfl) ?_
      refine arun_do rfl rfl rfl (ex_move (eV (v := (Value.tuple #[(I x8.1), (I x8.2)])) rfl)) ?_
      refine arun_do rfl rfl rfl (ex_extract (vx := (Value.tuple #[(I x8.1), (I x8.2)])) (v := (I x8.1)) rfl rfl) ?_
      refine arun_do rfl rfl rfl (ex_extract (vx := (Value.tuple #[(I x8.1), (I x8.2)])) (v := (I x8.2)) rfl rfl) ?_
      refine arun_do rfl rfl rfl (ex_assign (eV (v := (I x8.1)) rfl)) ?_
      refine arun_do rfl rfl rfl (ex_assign (eV (v := (I x8.2)) rfl)) ?_
      refine arun_keepE [5, 6, 7, 8] 0 0 (st' := ⟨154, 0, [(5, (SL 5 c_api_Node x5.1)), (6, (S x7.1)), (7, (I x8.1)), (8, (I x8.2))], [], ⟨0, []⟩⟩) (by kernel_rfl) (by kernel_rfl) ?_
      show AWp _ _ _ _
      refine awp_seq ?_
      refine awp_region ?_
      refine arun_do rfl rfl rfl (ex_move (eV (v := (SL 5 c_api_Node x5.1)) rfl)) ?_
      refine arun_do rfl rfl rfl (ex_move (eV (v := (S x7.1)) rfl)) ?_
      obtain ⟨x9, hx9, h⟩ := bindS h
      refine arun_do rfl rfl rfl (ex_call0 (vs := [(SL 5 c_api_Node x5.1), (S x7.1)]) (v := (Value.tuple #[(SL 5 c_api_Node x9.1), (I x9.2)])) rfl en_17 (cargs (evs rfl (evs rfl evs_nil))) rfl (ok_edit_Drop x5.1 x7.1 x9 hx9) rfl) ?_
      refine arun_do rfl rfl rfl (ex_move (eV (v := (Value.tuple #[(SL 5 c_api_Node x9.1), (I x9.2)])) rfl)) ?_
      refine arun_do rfl rfl rfl (ex_extract (vx := (Value.tuple #[(SL 5 c_api_Node x9.1), (I x9.2)])) (v := (SL 5 c_api_Node x9.1)) rfl rfl) ?_
      refine arun_do rfl rfl rfl (ex_extract (vx := (Value.tuple #[(SL 5 c_api_Node x9.1), (I x9.2)])) (v := (I x9.2)) rfl rfl) ?_
      refine arun_do rfl rfl rfl (ex_assign (eV (v := (SL 5 c_api_Node x9.1)) rfl)) ?_
      refine arun_do rfl rfl rfl (ex_assign (eV (v := (I x9.2)) rfl)) ?_
      refine arun_keepE [5, 6, 7, 8, 9, 10] 0 0 (st' := ⟨154, 0, [(5, (SL 5 c_api_Node x5.1)), (6, (S x7.1)), (7, (I x8.1)), (8, (I x8.2)), (9, (SL 5 c_api_Node x9.1)), (10, (I x9.2))], [], ⟨0, []⟩⟩) (by kernel_rfl) (by kernel_rfl) ?_
      show AWp _ _ _ _
      refine awp_seq ?_
      refine awp_seq ?_
      refine awp_region ?_
      refine arun_do rfl rfl rfl (ex_move (eV (v := (I x9.2)) rfl)) ?_
      refine arun_do rfl rfl rfl (ex_bin (vx := (I x9.2)) (vy := (I 0)) rfl rfl neqI_ok) ?_
      refine arun_keepE [5, 6, 7, 8, 9, 10, 39] 0 0 (st' := ⟨154, 0, [(5, (SL 5 c_api_Node x5.1)), (6, (S x7.1)), (7, (I x8.1)), (8, (I x8.2)), (9, (SL 5 c_api_Node x9.1)), (10, (I x9.2)), (39, (Bo (x9.2 != 0)))], [], ⟨0, []⟩⟩) (by kernel_rfl) (by kernel_rfl) ?_
      show AWp _ _ _ _
      rcases Bool.eq_false_or_eq_true (x9.2 != 0) with hb10 | hb10
      · rw [condT hb10] at h
        refine awp_condT (boT hb10) ?_
        refine awp_seq ?_
        refine awp_region ?_
        refine arun_do rfl rfl rfl (ex_move (eV (v := (SL 5 c_api_Node x9.1)) rfl)) ?_
        refine arun_do rfl rfl rfl (ex_move (eV (v := (SL 5 c_api_Node x5.1)) rfl)) ?_
        obtain ⟨x11, hx11, h⟩ := bindS h
        refine arun_do rfl rfl rfl (ex_call0 (vs := [(SL 5 c_api_Node x9.1), (SL 5 c_api_Node x5.1)]) (v := (Bo x11)) rfl en_13 (cargs (evs rfl (evs rfl evs_nil))) rfl (ok_ref11_Same x9.1 x5.1 x11 hx11) rfl) ?_
        refine arun_do rfl rfl rfl (ex_move (eV (v := (Bo x11)) rfl)) ?_
        refine arun_guard (v := (I x8.2)) (x11 == true) rfl rfl rfl (fun hc => ex_move (eV (v := (I x8.2)) rfl)) ?_
        refine arun_guard (v := (Bo (x8.2 != 0))) (x11 == true) rfl rfl rfl (fun hc => ex_bin (vx := (I x8.2)) (vy := (I 0)) (cond_of hc) rfl neqI_ok) ?_
        refine arun_guard (v := (Bo (x8.2 != 0))) (x11 == true) rfl rfl rfl (fun hc => ex_move (eV (v := (Bo (x8.2 != 0))) (cond_of hc))) ?_
        refine arun_guard (v := (I x9.2)) ((x11 == true) && ((x8.2 != 0) == true)) rfl rfl gv_nest (fun hc => ex_move (eV (v := (I x9.2)) rfl)) ?_
        refine arun_guard (v := (I x8.2)) ((x11 == true) && ((x8.2 != 0) == true)) rfl rfl gv_nest (fun hc => ex_move (eV (v := (I x8.2)) rfl)) ?_
        refine arun_guard (v := (Bo (x9.2 == x8.2))) ((x11 == true) && ((x8.2 != 0) == true)) rfl rfl gv_nest (fun hc => ex_bin (vx := (I x9.2)) (vy := (I x8.2)) (cond_of hc) (cond_of hc) eqlI_ok) ?_
        refine arun_guard (v := (Bo ((x8.2 != 0) && (x9.2 == x8.2)))) (x11 == true) rfl rfl rfl (fun hc => ex_pick (cond_of hc) (pkAndN hc)) ?_
        refine arun_guard (v := (Bo ((x8.2 != 0) && (x9.2 == x8.2)))) (x11 == true) rfl rfl rfl (fun hc => ex_move (eV (v := (Bo ((x8.2 != 0) && (x9.2 == x8.2)))) (cond_of hc))) ?_
        refine arun_guard (v := (I x8.2)) ((x11 == true) && (((x8.2 != 0) && (x9.2 == x8.2)) == false)) rfl rfl gv_nest (fun hc => ex_move (eV (v := (I x8.2)) rfl)) ?_
        refine arun_guard (v := (Bo (x8.2 == 0))) ((x11 == true) && (((x8.2 != 0) && (x9.2 == x8.2)) == false)) rfl rfl gv_nest (fun hc => ex_bin (vx := (I x8.2)) (vy := (I 0)) (cond_of hc) rfl eqlI_ok) ?_
        refine arun_guard (v := (Bo (x8.2 == 0))) ((x11 == true) && (((x8.2 != 0) && (x9.2 == x8.2)) == false)) rfl rfl gv_nest (fun hc => ex_move (eV (v := (Bo (x8.2 == 0))) (cond_of hc))) ?_
        refine arun_guard (v := (I x8.1)) (((x11 == true) && (((x8.2 != 0) && (x9.2 == x8.2)) == false)) && ((x8.2 == 0) == true)) rfl rfl gv_nest (fun hc => ex_move (eV (v := (I x8.1)) rfl)) ?_
        refine arun_guard (v := (Bo (x8.1 == 0))) (((x11 == true) && (((x8.2 != 0) && (x9.2 == x8.2)) == false)) && ((x8.2 == 0) == true)) rfl rfl gv_nest (fun hc => ex_bin (vx := (I x8.1)) (vy := (I 0)) (cond_of hc) rfl eqlI_ok) ?_
        refine arun_guard (v := (Bo (x8.1 == 0))) (((x11 == true) && (((x8.2 != 0) && (x9.2 == x8.2)) == false)) && ((x8.2 == 0) == true)) rfl rfl gv_nest (fun hc => ex_move (eV (v := (Bo (x8.1 == 0))) (cond_of hc))) ?_
        refine arun_guard (v := (I x9.2)) ((((x11 == true) && (((x8.2 != 0) && (x9.2 == x8.2)) == false)) && ((x8.2 == 0) == true)) && ((x8.1 == 0) == true)) rfl rfl gv_nest (fun hc => ex_move (eV (v := (I x9.2)) rfl)) ?_
        refine arun_guard (v := (Bo (x9.2 == 4))) ((((x11 == true) && (((x8.2 != 0) && (x9.2 == x8.2)) == false)) && ((x8.2 == 0) == true)) && ((x8.1 == 0) == true)) rfl rfl gv_nest (fun hc => ex_bin (vx := (I x9.2)) (vy := (I 4)) (cond_of hc) rfl eqlI_ok) ?_
        refine arun_guard (v := (Bo ((x8.1 == 0) && (x9.2 == 4)))) (((x11 == true) && (((x8.2 != 0) && (x9.2 == x8.2)) == false)) && ((x8.2 == 0) == true)) rfl rfl gv_nest (fun hc => ex_pick (cond_of hc) (pkAndN hc)) ?_
        refine arun_guard (v := (Bo ((x8.1 == 0) && (x9.2 == 4)))) (((x11 == true) && (((x8.2 != 0) && (x9.2 == x8.2)) == false)) && ((x8.2 == 0) == true)) rfl rfl gv_nest (fun hc => ex_move (eV (v := (Bo ((x8.1 == 0) && (x9.2 == 4)))) (cond_of hc))) ?_
        refine arun_guard (v := (I x8.1)) ((((x11 == true) && (((x8.2 != 0) && (x9.2 == x8.2)) == false)) && ((x8.2 == 0) == true)) && (((x8.1 == 0) && (x9.2 == 4)) == false)) rfl rfl gv_nest (fun hc => ex_move (eV (v := (I x8.1)) rfl)) ?_
        refine arun_guard (v := (Bo (decide (x8.1 > 0)))) ((((x11 == true) && (((x8.2 != 0) && (x9.2 == x8.2)) == false)) && ((x8.2 == 0) == true)) && (((x8.1 == 0) && (x9.2 == 4)) == false)) rfl rfl gv_nest (fun hc => ex_bin (vx := (I x8.1)) (vy := (I 0)) (cond_of hc) rfl gtrI_ok) ?_
        refine arun_guard (v := (Bo (decide (x8.1 > 0)))) ((((x11 == true) && (((x8.2 != 0) && (x9.2 == x8.2)) == false)) && ((x8.2 == 0) == true)) && (((x8.1 == 0) && (x9.2 == 4)) == false)) rfl rfl gv_nest (fun hc => ex_move (eV (v := (Bo (decide (x8.1 > 0)))) (cond_of hc))) ?_
        refine arun_guard (v := (I x9.2)) (((((x11 == true) && (((x8.2 != 0) && (x9.2 == x8.2)) == false)) && ((x8.2 == 0) == true)) && (((x8.1 == 0) && (x9.2 == 4)) == false)) && ((decide (x8.1 > 0)) == true)) rfl rfl gv_nest (fun hc => ex_move (eV (v := (I x9.2)) rfl)) ?_
        refine arun_guard (v := (Bo (x9.2 == 6))) (((((x11 == true) && (((x8.2 != 0) && (x9.2 == x8.2)) == false)) && ((x8.2 == 0) == true)) && (((x8.1 == 0) && (x9.2 == 4)) == false)) && ((decide (x8.1 > 0)) == true)) rfl rfl gv_nest (fun hc => ex_bin (vx := (I x9.2)) (vy := (I 6)) (cond_of hc) rfl eqlI_ok) ?_
        refine arun_guard (v := (Bo ((decide (x8.1 > 0)) && (x9.2 == 6)))) ((((x11 == true) && (((x8.2 != 0) && (x9.2 == x8.2)) == false)) && ((x8.2 == 0) == true)) && (((x8.1 == 0) && (x9.2 == 4)) == false)) rfl rfl gv_nest (fun hc => ex_pick (cond_of hc) (pkAndN hc)) ?_
        refine arun_guard (v := (Bo ((decide (x8.1 > 0)) && (x9.2 == 6)))) ((((x11 == true) && (((x8.2 != 0) && (x9.2 == x8.2)) == false)) && ((x8.2 == 0) == true)) && (((x8.1 == 0) && (x9.2 == 4)) == false)) rfl rfl gv_nest (fun hc => ex_move (eV (v := (Bo ((decide (x8.1 > 0)) && (x9.2 == 6)))) (cond_of hc))) ?_
        refine arun_guard (v := (SL 5 c_api_Node x5.1)) (((((x11 == true) && (((x8.2 != 0) && (x9.2 == x8.2)) == false)) && ((x8.2 == 0) == true)) && (((x8.1 == 0) && (x9.2 == 4)) == false)) && (((decide (x8.1 > 0)) && (x9.2 == 6)) == true)) rfl rfl gv_nest (fun hc => ex_move (eV (v := (SL 5 c_api_Node x5.1)) rfl)) ?_
        refine arun_guard (v := (I x8.1)) (((((x11 == true) && (((x8.2 != 0) && (x9.2 == x8.2)) == false)) && ((x8.2 == 0) == true)) && (((x8.1 == 0) && (x9.2 == 4)) == false)) && (((decide (x8.1 > 0)) && (x9.2 == 6)) == true)) rfl rfl gv_nest (fun hc => ex_move (eV (v := (I x8.1)) rfl)) ?_
        obtain ⟨x12, hx12, h⟩ := bindS h
        refine arun_guard (v := (SL 1 cI x12)) (((((x11 == true) && (((x8.2 != 0) && (x9.2 == x8.2)) == false)) && ((x8.2 == 0) == true)) && (((x8.1 == 0) && (x9.2 == 4)) == false)) && (((decide (x8.1 > 0)) && (x9.2 == 6)) == true)) rfl rfl gv_nest (fun hc => ex_call0 (vs := [(SL 5 c_api_Node x5.1), (I x8.1)]) (v := (SL 1 cI x12)) rfl en_18 (cargs (evs (cond_of hc) (evs (cond_of hc) evs_nil))) rfl (ok_ref11_Kids x5.1 x8.1 x12 (gd_of hc hx12)) rfl) ?_
        refine arun_guard (v := (I (x12.length : Int))) (((((x11 == true) && (((x8.2 != 0) && (x9.2 == x8.2)) == false)) && ((x8.2 == 0) == true)) && (((x8.1 == 0) && (x9.2 == 4)) == false)) && (((decide (x8.1 > 0)) && (x9.2 == 6)) == true)) rfl rfl gv_nest (fun hc => tx_lenD (xs := x12) ceI Tryz.underlying45 (cond_of hc)) ?_
        refine arun_guard (v := (Bo (decide ((x12.length : Int) > 0)))) (((((x11 == true) && (((x8.2 != 0) && (x9.2 == x8.2)) == false)) && ((x8.2 == 0) == true)) && (((x8.1 == 0) && (x9.2 == 4)) == false)) && (((decide (x8.1 > 0)) && (x9.2 == 6)) == true)) rfl rfl gv_nest (fun hc => ex_bin (vx := (I (x12.length : Int))) (vy := (I 0)) (cond_of hc) rfl gtrI_ok) ?_
        refine arun_guard (v := (Bo (((decide (x8.1 > 0)) && (x9.2 == 6)) && (decide ((x12.length : Int) > 0))))) ((((x11 == true) && (((x8.2 != 0) && (x9.2 == x8.2)) == false)) && ((x8.2 == 0) == true)) && (((x8.1 == 0) && (x9.2 == 4)) == false)) rfl rfl gv_nest (fun hc => ex_pick (cond_of hc) (pkAndN hc)) ?_
        refine arun_guard (v := (Bo (((x8.1 == 0) && (x9.2 == 4)) || (((decide (x8.1 > 0)) && (x9.2 == 6)) && (decide ((x12.length : Int) > 0)))))) (((x11 == true) && (((x8.2 != 0) && (x9.2 == x8.2)) == false)) && ((x8.2 == 0) == true)) rfl rfl gv_nest (fun hc => ex_pick (cond_of hc) (pkOrN hc)) ?_
        refine arun_guard (v := (Bo ((x8.2 == 0) && (((x8.1 == 0) && (x9.2 == 4)) || (((decide (x8.1 > 0)) && (x9.2 == 6)) && (decide ((x12.length : Int) > 0))))))) ((x11 == true) && (((x8.2 != 0) && (x9.2 == x8.2)) == false)) rfl rfl gv_nest (fun hc => ex_pick (cond_of hc) (pkAndN hc)) ?_
        refine arun_guard (v := (Bo (((x8.2 != 0) && (x9.2 == x8.2)) || ((x8.2 == 0) && (((x8.1 == 0) && (x9.2 == 4)) || (((decide (x8.1 > 0)) && (x9.2 == 6)) && (decide ((x12.length : Int) > 0)))))))) (x11 == true) rfl rfl rfl (fun hc => ex_pick (cond_of hc) (pkOrN hc)) ?_
        refine arun_do rfl rfl rfl (ex_pick rfl pkAnd) ?_
        refine arun_do rfl rfl rfl (ex_assign (eV (v := (Bo (x11 && (((x8.2 != 0) && (x9.2 == x8.2)) || ((x8.2 == 0) && (((x8.1 == 0) && (x9.2 == 4)) || (((decide (x8.1 > 0)) && (x9.2 == 6)) && (decide ((x12.length : Int) > 0))))))))) rfl)) ?_
        refine arun_keepE [4] 0 0 (st' := ⟨154, 0, [(4, (Bo (x11 && (((x8.2 != 0) && (x9.2 == x8.2)) || ((x8.2 == 0) && (((x8.1 == 0) && (x9.2 == 4)) || (((decide (x8.1 > 0)) && (x9.2 == 6)) && (decide ((x12.length : Int) > 0)))))))))], [], ⟨0, []⟩⟩) (by kernel_rfl) (by kernel_rfl) ?_
        show AWp _ _ _ _
        refine awp_ret ?_
        cases h
        exact ares1 (rtmp rfl (eV rfl))
      · rw [condF hb10] at h
        refine awp_condF (boF hb10) ?_
        refine awp_skip ?_
        show AWp _ _ _ _
        refine awp_seq ?_
        refine awp_region ?_
        refine arun_do rfl rfl rfl (ex_move (eV (v := (SL 5 c_api_Node x9.1)) rfl)) ?_
        refine arun_do rfl rfl rfl (ex_move (eV (v := (S x7.1)) rfl)) ?_
        obtain ⟨x13, hx13, h⟩ := bindS h
        refine arun_do rfl rfl rfl (ex_call0 (vs := [(SL 5 c_api_Node x9.1), (S x7.1)]) (v := (Value.tuple #[(I x13.1), (I x13.2)])) rfl en_11 (cargs (evs rfl (evs rfl evs_nil))) rfl (ok_ref11_Find x9.1 x7.1 x13 hx13) rfl) ?_
        refine arun_do rfl rfl rfl (ex_move (eV (v := (Value.tuple #[(I x13.1), (I x13.2)])) rfl)) ?_
        refine arun_do rfl rfl rfl (ex_extract (vx := (Value.tuple #[(I x13.1), (I x13.2)])) (v := (I x13.1)) rfl rfl) ?_
        refine arun_do rfl rfl rfl (ex_extract (vx := (Value.tuple #[(I x13.1), (I x13.2)])) (v := (I x13.2)) rfl rfl) ?_
        refine arun_do rfl rfl rfl (ex_assign (eV (v := (I x13.1)) rfl)) ?_
        refine arun_do rfl rfl rfl (ex_assign (eV (v := (I x13.2)) rfl)) ?_
        refine arun_keepE [5, 7, 8, 9, 12] 0 0 (st' := ⟨154, 0, [(5, (SL 5 c_api_Node x5.1)), (7, (I x8.1)), (8, (I x8.2)), (9, (SL 5 c_api_Node x9.1)), (12, (I x13.2))], [], ⟨0, []⟩⟩) (by kernel_rfl) (by kernel_rfl) ?_
        show AWp _ _ _ _
        refine awp_seq ?_
        refine awp_seq ?_
        refine awp_region ?_
        refine arun_do rfl rfl rfl (ex_move (eV (v := (SL 5 c_api_Node x9.1)) rfl)) ?_
        refine arun_do rfl rfl rfl (tx_lenD (xs := x9.1) ce_api_Node Tryz.underlying25 rfl) ?_
        refine arun_do rfl rfl rfl (ex_move (eV (v := (SL 5 c_api_Node x5.1)) rfl)) ?_
        refine arun_do rfl rfl rfl (tx_lenD (xs := x5.1) ce_api_Node Tryz.underlying25 rfl) ?_
        refine arun_do rfl rfl rfl (ex_bin (vx := (I (x9.1.length : Int))) (vy := (I (x5.1.length : Int))) rfl rfl neqI_ok) ?_
        refine arun_do rfl rfl rfl (ex_move (eV (v := (Bo ((x9.1.length : Int) != (x5.1.length : Int)))) rfl)) ?_
        refine arun_guard (v := (SL 5 c_api_Node x9.1)) (((x9.1.length : Int) != (x5.1.length : Int)) == false) rfl rfl rfl (fun hc => ex_move (eV (v := (SL 5 c_api_Node x9.1)) rfl)) ?_
        obtain ⟨x14, hx14, h⟩ := bindS h
        refine arun_guard (v := (Bo x14)) (((x9.1.length : Int) != (x5.1.length : Int)) == false) rfl rfl rfl (fun hc => ex_call0 (vs := [(SL 5 c_api_Node x9.1)]) (v := (Bo x14)) rfl en_14 (cargs (evs (cond_of hc) evs_nil)) rfl (ok_ref11_May x9.1 x14 (gd_of hc hx14)) rfl) ?_
        refine arun_guard (v := (Bo (!x14))) (((x9.1.length : Int) != (x5.1.length : Int)) == false) rfl rfl rfl (fun hc => ex_un (vx := (Bo x14)) (cond_of hc) notB_ok) ?_
        refine arun_do rfl rfl rfl (ex_pick rfl pkOr) ?_
        refine arun_keepE [5, 7, 8, 9, 12, 94] 0 0 (st' := ⟨154, 0, [(5, (SL 5 c_api_Node x5.1)), (7, (I x8.1)), (8, (I x8.2)), (9, (SL 5 c_api_Node x9.1)), (12, (I x13.2)), (94, (Bo (((x9.1.length : Int) != (x5.1.length : Int)) || (!x14))))], [], ⟨0, []⟩⟩) (by kernel_rfl) (by kernel_rfl) ?_
        show AWp _ _ _ _
        rcases Bool.eq_false_or_eq_true (((x9.1.length : Int) != (x5.1.length : Int)) || (!x14)) with hb15 | hb15
        · rw [condT hb15] at h
          refine awp_condT (boT hb15) ?_
          refine awp_seq ?_
          refine awp_region ?_
          refine arun_do rfl rfl rfl (ex_assign (eV (v := (Bo false)) rfl)) ?_
          refine arun_keepE [4] 0 0 (st' := ⟨154, 0, [(4, (Bo false))], [], ⟨0, []⟩⟩) (by kernel_rfl) (by kernel_rfl) ?_
          show AWp _ _ _ _
          refine awp_ret ?_
          cases h
          exact ares1 (rtmp rfl (eV rfl))
        · rw [condF hb15] at h
          refine awp_condF (boF hb15) ?_
          refine awp_skip ?_
          show AWp _ _ _ _
          refine awp_seq ?_
          refine awp_seq ?_
          refine awp_region ?_
          refine arun_do rfl rfl rfl (ex_assign (eV (v := (I 0)) rfl)) ?_
          refine arun_keepE [5, 7, 8, 9, 12, 13] 0 0 (st' := ⟨154, 0, [(5, (SL 5 c_api_Node x5.1)), (7, (I x8.1)), (8, (I x8.2)), (9, (SL 5 c_api_Node x9.1)), (12, (I x13.2)), (13, (I 0))], [], ⟨0, []⟩⟩) (by kernel_rfl) (by kernel_rfl) ?_
          show AWp _ _ _ _
          refine awp_block ?_
          refine awp_loop (fun n s => ∃ (v16 : Int), s = ⟨154, 0, [(5, (SL 5 c_api_Node x5.1)), (7, (I x8.1)), (8, (I x8.2)), (9, (SL 5 c_api_Node x9.1)), (12, (I x13.2)), (13, (I v16))], [], ⟨0, []⟩⟩ ∧ M_law14_EditDrops_l1 x5 x8 x9 x13 n v16 = some r) fuel (Exists.intro 0 (And.intro rfl h)) ?_
          rintro n s ⟨v16, rfl, h⟩ -
          cases n with
          | zero => cases h
          | succ n1 =>
            unfold M_law14_EditDrops_l1 at h
            refine awp_seq ?_
            refine awp_seq ?_
            refine awp_region ?_
            refine arun_do rfl rfl rfl (ex_move (eV (v := (I v16)) rfl)) ?_
            refine arun_do rfl rfl rfl (ex_move (eV (v := (SL 5 c_api_Node x5.1)) rfl)) ?_
            refine arun_do rfl rfl rfl (tx_lenD (xs := x5.1) ce_api_Node Tryz.underlying25 rfl) ?_
            refine arun_do rfl rfl rfl (ex_bin (vx := (I v16)) (vy := (I (x5.1.length : Int))) rfl rfl lssI_ok) ?_
            refine arun_keepE [5, 7, 8, 9, 12, 13, 98] 0 0 (st' := ⟨154, 0, [(5, (SL 5 c_api_Node x5.1)), (7, (I x8.1)), (8, (I x8.2)), (9, (SL 5 c_api_Node x9.1)), (12, (I x13.2)), (13, (I v16)), (98, (Bo (decide (v16 < (x5.1.length : Int)))))], [], ⟨0, []⟩⟩) (by kernel_rfl) (by kernel_rfl) ?_
            show AWp _ _ _ _
            rcases Bool.eq_false_or_eq_true (decide (v16 < (x5.1.length : Int))) with hb17 | hb17
            · rw [condT hb17] at h
              refine awp_condT (boT hb17) ?_
              refine awp_skip ?_
              show AWp _ _ _ _
              refine awp_seq ?_
              refine awp_block ?_
              refine awp_seq ?_
              obtain ⟨x18, hx18, h⟩ := bindS h
              obtain ⟨x19, hx19, h⟩ := bindS h
              obtain ⟨x20, hx20, h⟩ := bindS h
              obtain ⟨x21, hx21, h⟩ := bindS h
              refine awp_kn [5, 7, 8, 9, 12, 13, 135] 0 0 (st' := ⟨154, 0, [(5, (SL 5 c_api_Node x5.1)), (7, (I x8.1)), (8, (I x8.2)), (9, (SL 5 c_api_Node x9.1)), (12, (I x13.2)), (13, (I v16)), (135, (Bo ((v16 != x8.1) && ((!decide (x18 = x19)) || (((x20.Kind != 0) && (decide (v16 > 0))) && (x21.Up == x8.1))))))], [], ⟨0, []⟩⟩) (awp_draw (T := [(I v16), (I x8.1), (Bo (v16 != x8.1)), (Bo (v16 != x8.1)), (cond ((v16 != x8.1) == true) (SL 5 c_api_Node x9.1) skipV), (cond ((v16 != x8.1) == true) (I v16) skipV), (cond ((v16 != x8.1) == true) (DP (c_api_Node x18)) skipV), (cond ((v16 != x8.1) == true) (Value.agg (c_api_Node x18).toArray) skipV), (cond ((v16 != x8.1) == true) (SL 5 c_api_Node x5.1) skipV), (cond ((v16 != x8.1) == true) (I v16) skipV), (cond ((v16 != x8.1) == true) (DP (c_api_Node x19)) skipV), (cond ((v16 != x8.1) == true) (Value.agg (c_api_Node x19).toArray) skipV), (cond ((v16 != x8.1) == true) (Bo (!decide (x18 = x19))) skipV), (cond ((v16 != x8.1) == true) (Bo (!decide (x18 = x19))) skipV), (cond (((v16 != x8.1) == true) && ((!decide (x18 = x19)) == false)) (SL 5 c_api_Node x5.1) skipV), (cond (((v16 != x8.1) == true) && ((!decide (x18 = x19)) == false)) (I v16) skipV), (cond (((v16 != x8.1) == true) && ((!decide (x18 = x19)) == false)) (DP (c_api_Node x20)) skipV), (cond (((v16 != x8.1) == true) && ((!decide (x18 = x19)) == false)) (DP (List.drop 0 (c_api_Node x20))) skipV), (cond (((v16 != x8.1) == true) && ((!decide (x18 = x19)) == false)) (I x20.Kind) skipV), (cond (((v16 != x8.1) == true) && ((!decide (x18 = x19)) == false)) (Bo (x20.Kind != 0)) skipV), (cond (((v16 != x8.1) == true) && ((!decide (x18 = x19)) == false)) (Bo (x20.Kind != 0)) skipV), (cond ((((v16 != x8.1) == true) && ((!decide (x18 = x19)) == false)) && ((x20.Kind != 0) == true)) (I v16) skipV), (cond ((((v16 != x8.1) == true) && ((!decide (x18 = x19)) == false)) && ((x20.Kind != 0) == true)) (Bo (decide (v16 > 0))) skipV), (cond (((v16 != x8.1) == true) && ((!decide (x18 = x19)) == false)) (Bo ((x20.Kind != 0) && (decide (v16 > 0)))) skipV), (cond (((v16 != x8.1) == true) && ((!decide (x18 = x19)) == false)) (Bo ((x20.Kind != 0) && (decide (v16 > 0)))) skipV), (cond ((((v16 != x8.1) == true) && ((!decide (x18 = x19)) == false)) && (((x20.Kind != 0) && (decide (v16 > 0))) == true)) (SL 5 c_api_Node x5.1) skipV), (cond ((((v16 != x8.1) == true) && ((!decide (x18 = x19)) == false)) && (((x20.Kind != 0) && (decide (v16 > 0))) == true)) (I v16) skipV), (cond ((((v16 != x8.1) == true) && ((!decide (x18 = x19)) == false)) && (((x20.Kind != 0) && (decide (v16 > 0))) == true)) (DP (c_api_Node x21)) skipV), (cond ((((v16 != x8.1) == true) && ((!decide (x18 = x19)) == false)) && (((x20.Kind != 0) && (decide (v16 > 0))) == true)) (DP (List.drop 1 (c_api_Node x21))) skipV), (cond ((((v16 != x8.1) == true) && ((!decide (x18 = x19)) == false)) && (((x20.Kind != 0) && (decide (v16 > 0))) == true)) (I x21.Up) skipV), (cond ((((v16 != x8.1) == true) && ((!decide (x18 = x19)) == false)) && (((x20.Kind != 0) && (decide (v16 > 0))) == true)) (I x8.1) skipV), (cond ((((v16 != x8.1) == true) && ((!decide (x18 = x19)) == false)) && (((x20.Kind != 0) && (decide (v16 > 0))) == true)) (Bo (x21.Up == x8.1)) skipV), (cond (((v16 != x8.1) == true) && ((!decide (x18 = x19)) == false)) (Bo (((x20.Kind != 0) && (decide (v16 > 0))) && (x21.Up == x8.1))) skipV), (cond ((v16 != x8.1) == true) (Bo ((!decide (x18 = x19)) || (((x20.Kind != 0) && (decide (v16 > 0))) && (x21.Up == x8.1)))) skipV), (Bo ((v16 != x8.1) && ((!decide (x18 = x19)) || (((x20.Kind != 0) && (decide (v16 > 0))) && (x21.Up == x8.1)))))]) (LH := [([], ⟨0, []⟩)]) (D := [⟨[(13, none)], [], [0], false⟩, ⟨[(7, none)], [], [0], false⟩, ⟨[(101, some 0), (102, some 1)], [0, 1], [0], false⟩, ⟨[(103, some 2)], [0, 1, 2], [0], false⟩, ⟨[(9, none), (104, some 3)], [0, 1, 2, 3], [0], false⟩, ⟨[(13, none), (104, some 3)], [0, 1, 2, 3], [0], false⟩, ⟨[(105, some 4), (106, some 5), (104, some 3)], [0, 1, 2, 3, 4, 5], [0], false⟩, ⟨[(107, some 6), (104, some 3)], [0, 1, 2, 3, 4, 5, 6], [0], false⟩, ⟨[(5, none), (104, some 3)], [0, 1, 2, 3], [0], false⟩, ⟨[(13, none), (104, some 3)], [0, 1, 2, 3], [0], false⟩, ⟨[(109, some 8), (110, some 9), (104, some 3)], [0, 1, 2, 3, 8, 9], [0], false⟩, ⟨[(111, some 10), (104, some 3)], [0, 1, 2, 3, 8, 9, 10], [0], false⟩, ⟨[(108, some 7), (112, some 11), (104, some 3)], [0, 1, 2, 3, 4, 5, 6, 7, 8, 9, 10, 11], [0], false⟩, ⟨[(113, some 12), (104, some 3)], [0, 1, 2, 3, 4, 5, 6, 7, 8, 9, 10, 11, 12], [0], false⟩, ⟨[(5, none), (114, some 13)], [0, 1, 2, 3, 4, 5, 6, 7, 8, 9, 10, 11, 12, 13], [0], false⟩, ⟨[(13, none), (114, some 13)], [0, 1, 2, 3, 4, 5, 6, 7, 8, 9, 10, 11, 12, 13], [0], false⟩, ⟨[(115, some 14), (116, some 15), (114, some 13)], [0, 1, 2, 3, 4, 5, 6, 7, 8, 9, 10, 11, 12, 13, 14, 15], [0], false⟩, ⟨[(117, some 16), (114, some 13)], [0, 1, 2, 3, 4, 5, 6, 7, 8, 9, 10, 11, 12, 13, 14, 15, 16], [0], false⟩, ⟨[(118, some 17), (114, some 13)], [0, 1, 2, 3, 4, 5, 6, 7, 8, 9, 10, 11, 12, 13, 14, 15, 16, 17], [0], false⟩, ⟨[(119, some 18), (114, some 13)], [0, 1, 2, 3, 4, 5, 6, 7, 8, 9, 10, 11, 12, 13, 14, 15, 16, 17, 18], [0], false⟩, ⟨[(120, some 19), (114, some 13)], [0, 1, 2, 3, 4, 5, 6, 7, 8, 9, 10, 11, 12, 13, 14, 15, 16, 17, 18, 19], [0], false⟩, ⟨[(13, none), (121, some 20)], [0, 1, 2, 3, 4, 5, 6, 7, 8, 9, 10, 11, 12, 13, 14, 15, 16, 17, 18, 19, 20], [0], false⟩, ⟨[(122, some 21), (121, some 20)], [0, 1, 2, 3, 4, 5, 6, 7, 8, 9, 10, 11, 12, 13, 14, 15, 16, 17, 18, 19, 20, 21], [0], false⟩, ⟨[(121, some 20), (123, some 22), (114, some 13)], [0, 1, 2, 3, 4, 5, 6, 7, 8, 9, 10, 11, 12, 13, 14, 15, 16, 17, 18, 19, 20, 21, 22], [0], false⟩, ⟨[(124, some 23), (114, some 13)], [0, 1, 2, 3, 4, 5, 6, 7, 8, 9, 10, 11, 12, 13, 14, 15, 16, 17, 18, 19, 20, 21, 22, 23], [0], false⟩, ⟨[(5, none), (125, some 24)], [0, 1, 2, 3, 4, 5, 6, 7, 8, 9, 10, 11, 12, 13, 14, 15, 16, 17, 18, 19, 20, 21, 22, 23, 24], [0], false⟩, ⟨[(13, none), (125, some 24)], [0, 1, 2, 3, 4, 5, 6, 7, 8, 9, 10, 11, 12, 13, 14, 15, 16, 17, 18, 19, 20, 21, 22, 23, 24], [0], false⟩, ⟨[(126, some 25), (127, some 26), (125, some 24)], [0, 1, 2, 3, 4, 5, 6, 7, 8, 9, 10, 11, 12, 13, 14, 15, 16, 17, 18, 19, 20, 21, 22, 23, 24, 25, 26], [0], false⟩, ⟨[(128, some 27), (125, some 24)], [0, 1, 2, 3, 4, 5, 6, 7, 8, 9, 10, 11, 12, 13, 14, 15, 16, 17, 18, 19, 20, 21, 22, 23, 24, 25, 26, 27], [0], false⟩, ⟨[(129, some 28), (125, some 24)], [0, 1, 2, 3, 4, 5, 6, 7, 8, 9, 10, 11, 12, 13, 14, 15, 16, 17, 18, 19, 20, 21, 22, 23, 24, 25, 26, 27, 28], [0], false⟩, ⟨[(7, none), (125, some 24)], [0, 1, 2, 3, 4, 5, 6, 7, 8, 9, 10, 11, 12, 13, 14, 15, 16, 17, 18, 19, 20, 21, 22, 23, 24], [0], false⟩, ⟨[(130, some 29), (131, some 30), (125, some 24)], [0, 1, 2, 3, 4, 5, 6, 7, 8, 9, 10, 11, 12, 13, 14, 15, 16, 17, 18, 19, 20, 21, 22, 23, 24, 25, 26, 27, 28, 29, 30], [0], false⟩, ⟨[(125, some 24), (132, some 31), (114, some 13)], [0, 1, 2, 3, 4, 5, 6, 7, 8, 9, 10, 11, 12, 13, 14, 15, 16, 17, 18, 19, 20, 21, 22, 23, 24, 25, 26, 27, 28, 29, 30, 31], [0], false⟩, ⟨[(114, some 13), (133, some 32), (104, some 3)], [0, 1, 2, 3, 4, 5, 6, 7, 8, 9, 10, 11, 12, 13, 14, 15, 16, 17, 18, 19, 20, 21, 22, 23, 24, 25, 26, 27, 28, 29, 30, 31, 32], [0], false⟩, ⟨[(104, some 3), (134, some 33)], [0, 1, 2, 3, 4, 5, 6, 7, 8, 9, 10, 11, 12, 13, 14, 15, 16, 17, 18, 19, 20, 21, 22, 23, 24, 25, 26, 27, 28, 29, 30, 31, 32, 33], [0], false⟩]) (S := []) (plan := [0, 1, 2, 3, 4, 5, 6, 7, 8, 9, 10, 11, 12, 13, 14, 15, 16, 17, 18, 19, 20, 21, 22, 23, 24, 25, 26, 27, 28, 29, 30, 31, 32, 33, 34]) mo (by kernel_rfl) rfl rfl rfl (dcons (dstep1 (Tm := [(13, (I v16))]) (L := []) (H := ⟨0, []⟩) rfl rfl rfl rfl rfl (astep_do rfl (ex_move (eV (v := (I v16)) rfl)))) (dcons (dstep1 (Tm := [(7, (I x8.1))]) (L := []) (H := ⟨0, []⟩) rfl rfl rfl rfl rfl (astep_do rfl (ex_move (eV (v := (I x8.1)) rfl)))) (dcons (dstep1 (Tm := [(101, (I v16)), (102, (I x8.1))]) (L := []) (H := ⟨0, []⟩) rfl rfl rfl rfl rfl (astep_do rfl (ex_bin (vx := (I v16)) (vy := (I x8.1)) rfl rfl neqI_ok))) (dcons (dstep1 (Tm := [(103, (Bo (v16 != x8.1)))]) (L := []) (H := ⟨0, []⟩) rfl rfl rfl rfl rfl (astep_do rfl (ex_move (eV (v := (Bo (v16 != x8.1))) rfl)))) (dcons (dstep1 (Tm := [(9, (SL 5 c_api_Node x9.1)), (104, (Bo (v16 != x8.1)))]) (L := []) (H := ⟨0, []⟩) rfl rfl rfl rfl rfl (astep_guard (v := (SL 5 c_api_Node x9.1)) ((v16 != x8.1) == true) rfl (fun hc => ex_move (eV (v := (SL 5 c_api_Node x9.1)) rfl)))) (dcons (dstep1 (Tm := [(13, (I v16)), (104, (Bo (v16 != x8.1)))]) (L := []) (H := ⟨0, []⟩) rfl rfl rfl rfl rfl (astep_guard (v := (I v16)) ((v16 != x8.1) == true) rfl (fun hc => ex_move (eV (v := (I v16)) rfl)))) (dcons (dstep1 (Tm := [(105, (cond ((v16 != x8.1) == true) (SL 5 c_api_Node x9.1) skipV)), (106, (cond ((v16 != x8.1) == true) (I v16) skipV)), (104, (Bo (v16 != x8.1)))]) (L := []) (H := ⟨0, []⟩) rfl rfl rfl rfl rfl (astep_guard (v := (DP (c_api_Node x18))) ((v16 != x8.1) == true) rfl (fun hc => tx_idxD (c := c_api_Node) (xs := x9.1) (i := v16) ce_api_Node Tryz.underlying25 s_38 (cond_of hc) (cond_of hc) (gd_of hc hx18)))) (dcons (dstep1 (Tm := [(107, (cond ((v16 != x8.1) == true) (DP (c_api_Node x18)) skipV)), (104, (Bo (v16 != x8.1)))]) (L := []) (H := ⟨0, []⟩) rfl rfl rfl rfl rfl (astep_guard (v := (Value.agg (c_api_Node x18).toArray)) ((v16 != x8.1) == true) rfl (fun hc => tx_ldDA (vs := (c_api_Node x18)) Tryz.underlying38 rfl s_38 (by decide) (cond_of hc) (Nat.le_of_ble_eq_true rfl) rfl))) (dcons (dstep1 (Tm := [(5, (SL 5 c_api_Node x5.1)), (104, (Bo (v16 != x8.1)))]) (L := []) (H := ⟨0, []⟩) rfl rfl rfl rfl rfl (astep_guard (v := (SL 5 c_api_Node x5.1)) ((v16 != x8.1) == true) rfl (fun hc => ex_move (eV (v := (SL 5 c_api_Node x5.1)) rfl)))) (dcons (dstep1 (Tm := [(13, (I v16)), (104, (Bo (v16 != x8.1)))]) (L := []) (H := ⟨0, []⟩) rfl rfl rfl rfl rfl (astep_guard (v := (I v16)) ((v16 != x8.1) == true) rfl (fun hc => ex_move (eV (v := (I v16)) rfl)))) (dcons (dstep1 (Tm := [(109, (cond ((v16 != x8.1) == true) (SL 5 c_api_Node x5.1) skipV)), (110, (cond ((v16 != x8.1) == true) (I v16) skipV)), (104, (Bo (v16 != x8.1)))]) (L := []) (H := ⟨0, []⟩) rfl rfl rfl rfl rfl (astep_guard (v := (DP (c_api_Node x19))) ((v16 != x8.1) == true) rfl (fun hc => tx_idxD (c := c_api_Node) (xs := x5.1) (i := v16) ce_api_Node Tryz.underlying25 s_38 (cond_of hc) (cond_of hc) (gd_of hc hx19)))) (dcons (dstep1 (Tm := [(111, (cond ((v16 != x8.1) == true) (DP (c_api_Node x19)) skipV)), (104, (Bo (v16 != x8.1)))]) (L := []) (H := ⟨0, []⟩) rfl rfl rfl rfl rfl (astep_guard (v := (Value.agg (c_api_Node x19).toArray)) ((v16 != x8.1) == true) rfl (fun hc => tx_ldDA (vs := (c_api_Node x19)) Tryz.underlying38 rfl s_38 (by decide) (cond_of hc) (Nat.le_of_ble_eq_true rfl) rfl))) (dcons (dstep1 (Tm := [(108, (cond ((v16 != x8.1) == true) (Value.agg (c_api_Node x18).toArray) skipV)), (112, (cond ((v16 != x8.1) == true) (Value.agg (c_api_Node x19).toArray) skipV)), (104, (Bo (v16 != x8.1)))]) (L := []) (H := ⟨0, []⟩) rfl rfl rfl rfl rfl (astep_guard (v := (Bo (!decide (x18 = x19)))) ((v16 != x8.1) == true) rfl (fun hc => ex_bin (vx := (Value.agg (c_api_Node x18).toArray)) (vy := (Value.agg (c_api_Node x19).toArray)) (cond_of hc) (cond_of hc) neq_38))) (dcons (dstep1 (Tm := [(113, (cond ((v16 != x8.1) == true) (Bo (!decide (x18 = x19))) skipV)), (104, (Bo (v16 != x8.1)))]) (L := []) (H := ⟨0, []⟩) rfl rfl rfl rfl rfl (astep_guard (v := (Bo (!decide (x18 = x19)))) ((v16 != x8.1) == true) rfl (fun hc => ex_move (eV (v := (Bo (!decide (x18 = x19)))) (cond_of hc))))) (dcons (dstep1 (Tm := [(5, (SL 5 c_api_Node x5.1)), (114, (cond ((v16 != x8.1) == true) (Bo (!decide (x18 = x19))) skipV))]) (L := []) (H := ⟨0, []⟩) rfl rfl rfl rfl rfl (astep_guard (v := (SL 5 c_api_Node x5.1)) (((v16 != x8.1) == true) && ((!decide (x18 = x19)) == false)) gv_nest (fun hc => ex_move (eV (v := (SL 5 c_api_Node x5.1)) rfl)))) (dcons (dstep1 (Tm := [(13, (I v16)), (114, (cond ((v16 != x8.1) == true) (Bo (!decide (x18 = x19))) skipV))]) (L := []) (H := ⟨0, []⟩) rfl rfl rfl rfl rfl (astep_guard (v := (I v16)) (((v16 != x8.1) == true) && ((!decide (x18 = x19)) == false)) gv_nest (fun hc => ex_move (eV (v := (I v16)) rfl)))) (dcons (dstep1 (Tm := [(115, (cond (((v16 != x8.1) == true) && ((!decide (x18 = x19)) == false)) (SL 5 c_api_Node x5.1) skipV)), (116, (cond (((v16 != x8.1) == true) && ((!decide (x18 = x19)) == false)) (I v16) skipV)), (114, (cond ((v16 != x8.1) == true) (Bo (!decide (x18 = x19))) skipV))]) (L := []) (H := ⟨0, []⟩) rfl rfl rfl rfl rfl (astep_guard (v := (DP (c_api_Node x20))) (((v16 != x8.1) == true) && ((!decide (x18 = x19)) == false)) gv_nest (fun hc => tx_idxD (c := c_api_Node) (xs := x5.1) (i := v16) ce_api_Node Tryz.underlying25 s_38 (cond_of hc) (cond_of hc) (gd_of hc hx20)))) (dcons (dstep1 (Tm := [(117, (cond (((v16 != x8.1) == true) && ((!decide (x18 = x19)) == false)) (DP (c_api_Node x20)) skipV)), (114, (cond ((v16 != x8.1) == true) (Bo (!decide (x18 = x19))) skipV))]) (L := []) (H := ⟨0, []⟩) rfl rfl rfl rfl rfl (astep_guard (v := (DP (List.drop 0 (c_api_Node x20)))) (((v16 != x8.1) == true) && ((!decide (x18 = x19)) == false)) gv_nest (fun hc => ex_fieldAddrD (vs := (List.drop 0 (c_api_Node x20))) Tryz.underlying38 rfl s_3 (by decide) (cond_of hc) rfl))) (dcons (dstep1 (Tm := [(118, (cond (((v16 != x8.1) == true) && ((!decide (x18 = x19)) == false)) (DP (List.drop 0 (c_api_Node x20))) skipV)), (114, (cond ((v16 != x8.1) == true) (Bo (!decide (x18 = x19))) skipV))]) (L := []) (H := ⟨0, []⟩) rfl rfl rfl rfl rfl (astep_guard (v := (I x20.Kind)) (((v16 != x8.1) == true) && ((!decide (x18 = x19)) == false)) gv_nest (fun hc => tx_ldD1 (v := (I x20.Kind)) Tryz.underlying3 rfl (cond_of hc) rfl))) (dcons (dstep1 (Tm := [(119, (cond (((v16 != x8.1) == true) && ((!decide (x18 = x19)) == false)) (I x20.Kind) skipV)), (114, (cond ((v16 != x8.1) == true) (Bo (!decide (x18 = x19))) skipV))]) (L := []) (H := ⟨0, []⟩) rfl rfl rfl rfl rfl (astep_guard (v := (Bo (x20.Kind != 0))) (((v16 != x8.1) == true) && ((!decide (x18 = x19)) == false)) gv_nest (fun hc => ex_bin (vx := (I x20.Kind)) (vy := (I 0)) (cond_of hc) rfl neqI_ok))) (dcons (dstep1 (Tm := [(120, (cond (((v16 != x8.1) == true) && ((!decide (x18 = x19)) == false)) (Bo (x20.Kind != 0)) skipV)), (114, (cond ((v16 != x8.1) == true) (Bo (!decide (x18 = x19))) skipV))]) (L := []) (H := ⟨0, []⟩) rfl rfl rfl rfl rfl (astep_guard (v := (Bo (x20.Kind != 0))) (((v16 != x8.1) == true) && ((!decide (x18 = x19)) == false)) gv_nest (fun hc => ex_move (eV (v := (Bo (x20.Kind != 0))) (cond_of hc))))) (dcons (dstep1 (Tm := [(13, (I v16)), (121, (cond (((v16 != x8.1) == true) && ((!decide (x18 = x19)) == false)) (Bo (x20.Kind != 0)) skipV))]) (L := []) (H := ⟨0, []⟩) rfl rfl rfl rfl rfl (astep_guard (v := (I v16)) ((((v16 != x8.1) == true) && ((!decide (x18 = x19)) == false)) && ((x20.Kind != 0) == true)) gv_nest (fun hc => ex_move (eV (v := (I v16)) rfl)))) (dcons (dstep1 (Tm := [(122, (cond ((((v16 != x8.1) == true) && ((!decide (x18 = x19)) == false)) && ((x20.Kind != 0) == true)) (I v16) skipV)), (121, (cond (((v16 != x8.1) == true) && ((!decide (x18 = x19)) == false)) (Bo (x20.Kind != 0)) skipV))]) (L := []) (H := ⟨0, []⟩) rfl rfl rfl rfl rfl (astep_guard (v := (Bo (decide (v16 > 0)))) ((((v16 != x8.1) == true) && ((!decide (x18 = x19)) == false)) && ((x20.Kind != 0) == true)) gv_nest (fun hc => ex_bin (vx := (I v16)) (vy := (I 0)) (cond_of hc) rfl gtrI_ok))) (dcons (dstep1 (Tm := [(121, (cond (((v16 != x8.1) == true) && ((!decide (x18 = x19)) == false)) (Bo (x20.Kind != 0)) skipV)), (123, (cond ((((v16 != x8.1) == true) && ((!decide (x18 = x19)) == false)) && ((x20.Kind != 0) == true)) (Bo (decide (v16 > 0))) skipV)), (114, (cond ((v16 != x8.1) == true) (Bo (!decide (x18 = x19))) skipV))]) (L := []) (H := ⟨0, []⟩) rfl rfl rfl rfl rfl (astep_guard (v := (Bo ((x20.Kind != 0) && (decide (v16 > 0))))) (((v16 != x8.1) == true) && ((!decide (x18 = x19)) == false)) gv_nest (fun hc => ex_pick (cond_of hc) (pkAndN hc)))) (dcons (dstep1 (Tm := [(124, (cond (((v16 != x8.1) == true) && ((!decide (x18 = x19)) == false)) (Bo ((x20.Kind != 0) && (decide (v16 > 0)))) skipV)), (114, (cond ((v16 != x8.1) == true) (Bo (!decide (x18 = x19))) skipV))]) (L := []) (H := ⟨0, []⟩) rfl rfl rfl rfl rfl (astep_guard (v := (Bo ((x20.Kind != 0) && (decide (v16 > 0))))) (((v16 != x8.1) == true) && ((!decide (x18 = x19)) == false)) gv_nest (fun hc => ex_move (eV (v := (Bo ((x20.Kind != 0) && (decide (v16 > 0))))) (cond_of hc))))) (dcons (dstep1 (Tm := [(5, (SL 5 c_api_Node x5.1)), (125, (cond (((v16 != x8.1) == true) && ((!decide (x18 = x19)) == false)) (Bo ((x20.Kind != 0) && (decide (v16 > 0)))) skipV))]) (L := []) (H := ⟨0, []⟩) rfl rfl rfl rfl rfl (astep_guard (v := (SL 5 c_api_Node x5.1)) ((((v16 != x8.1) == true) && ((!decide (x18 = x19)) == false)) && (((x20.Kind != 0) && (decide (v16 > 0))) == true)) gv_nest (fun hc => ex_move (eV (v := (SL 5 c_api_Node x5.1)) rfl)))) (dcons (dstep1 (Tm := [(13, (I v16)), (125, (cond (((v16 != x8.1) == true) && ((!decide (x18 = x19)) == false)) (Bo ((x20.Kind != 0) && (decide (v16 > 0)))) skipV))]) (L := []) (H := ⟨0, []⟩) rfl rfl rfl rfl rfl (astep_guard (v := (I v16)) ((((v16 != x8.1) == true) && ((!decide (x18 = x19)) == false)) && (((x20.Kind != 0) && (decide (v16 > 0))) == true)) gv_nest (fun hc => ex_move (eV (v := (I v16)) rfl)))) (dcons (dstep1 (Tm := [(126, (cond ((((v16 != x8.1) == true) && ((!decide (x18 = x19)) == false)) && (((x20.Kind != 0) && (decide (v16 > 0))) == true)) (SL 5 c_api_Node x5.1) skipV)), (127, (cond ((((v16 != x8.1) == true) && ((!decide (x18 = x19)) == false)) && (((x20.Kind != 0) && (decide (v16 > 0))) == true)) (I v16) skipV)), (125, (cond (((v16 != x8.1) == true) && ((!decide (x18 = x19)) == false)) (Bo ((x20.Kind != 0) && (decide (v16 > 0)))) skipV))]) (L := []) (H := ⟨0, []⟩) rfl rfl rfl rfl rfl (astep_guard (v := (DP (c_api_Node x21))) ((((v16 != x8.1) == true) && ((!decide (x18 = x19)) == false)) && (((x20.Kind != 0) && (decide (v16 > 0))) == true)) gv_nest (fun hc => tx_idxD (c := c_api_Node) (xs := x5.1) (i := v16) ce_api_Node Tryz.underlying25 s_38 (cond_of hc) (cond_of hc) (gd_of hc hx21)))) (dcons (dstep1 (Tm := [(128, (cond ((((v16 != x8.1) == true) && ((!decide (x18 = x19)) == false)) && (((x20.Kind != 0) && (decide (v16 > 0))) == true)) (DP (c_api_Node x21)) skipV)), (125, (cond (((v16 != x8.1) == true) && ((!decide (x18 = x19)) == false)) (Bo ((x20.Kind != 0) && (decide (v16 > 0)))) skipV))]) (L := []) (H := ⟨0, []⟩) rfl rfl rfl rfl rfl (astep_guard (v := (DP (List.drop 1 (c_api_Node x21)))) ((((v16 != x8.1) == true) && ((!decide (x18 = x19)) == false)) && (((x20.Kind != 0) && (decide (v16 > 0))) == true)) gv_nest (fun hc => ex_fieldAddrD (vs := (List.drop 1 (c_api_Node x21))) Tryz.underlying38 rfl s_3 (by decide) (cond_of hc) rfl))) (dcons (dstep1 (Tm := [(129, (cond ((((v16 != x8.1) == true) && ((!decide (x18 = x19)) == false)) && (((x20.Kind != 0) && (decide (v16 > 0))) == true)) (DP (List.drop 1 (c_api_Node x21))) skipV)), (125, (cond (((v16 != x8.1) == true) && ((!decide (x18 = x19)) == false)) (Bo ((x20.Kind != 0) && (decide (v16 > 0)))) skipV))]) (L := []) (H := ⟨0, []⟩) rfl rfl rfl rfl rfl (astep_guard (v := (I x21.Up)) ((((v16 != x8.1) == true) && ((!decide (x18 = x19)) == false)) && (((x20.Kind != 0) && (decide (v16 > 0))) == true)) gv_nest (fun hc => tx_ldD1 (v := (I x21.Up)) Tryz.underlying3 rfl (cond_of hc) rfl))) (dcons (dstep1 (Tm := [(7, (I x8.1)), (125, (cond (((v16 != x8.1) == true) && ((!decide (x18 = x19)) == false)) (Bo ((x20.Kind != 0) && (decide (v16 > 0)))) skipV))]) (L := []) (H := ⟨0, []⟩) rfl rfl rfl rfl rfl (astep_guard (v := (I x8.1)) ((((v16 != x8.1) == true) && ((!decide (x18 = x19)) == false)) && (((x20.Kind != 0) && (decide (v16 > 0))) == true)) gv_nest (fun hc => ex_move (eV (v := (I x8.1)) rfl)))) (dcons (dstep1 (Tm := [(130, (cond ((((v16 != x8.1) == true) && ((!decide (x18 = x19)) == false)) && (((x20.Kind != 0) && (decide (v16 > 0))) == true)) (I x21.Up) skipV)), (131, (cond ((((v16 != x8.1) == true) && ((!decide (x18 = x19)) == false)) && (((x20.Kind != 0) && (decide (v16 > 0))) == true)) (I x8.1) skipV)), (125, (cond (((v16 != x8.1) == true) && ((!decide (x18 = x19)) == false)) (Bo ((x20.Kind != 0) && (decide (v16 > 0)))) skipV))]) (L := []) (H := ⟨0, []⟩) rfl rfl rfl rfl rfl (astep_guard (v := (Bo (x21.Up == x8.1))) ((((v16 != x8.1) == true) && ((!decide (x18 = x19)) == false)) && (((x20.Kind != 0) && (decide (v16 > 0))) == true)) gv_nest (fun hc => ex_bin (vx := (I x21.Up)) (vy := (I x8.1)) (cond_of hc) (cond_of hc) eqlI_ok))) (dcons (dstep1 (Tm := [(125, (cond (((v16 != x8.1) == true) && ((!decide (x18 = x19)) == false)) (Bo ((x20.Kind != 0) && (decide (v16 > 0)))) skipV)), (132, (cond ((((v16 != x8.1) == true) && ((!decide (x18 = x19)) == false)) && (((x20.Kind != 0) && (decide (v16 > 0))) == true)) (Bo (x21.Up == x8.1)) skipV)), (114, (cond ((v16 != x8.1) == true) (Bo (!decide (x18 = x19))) skipV))]) (L := []) (H := ⟨0, []⟩) rfl rfl rfl rfl rfl (astep_guard (v := (Bo (((x20.Kind != 0) && (decide (v16 > 0))) && (x21.Up == x8.1)))) (((v16 != x8.1) == true) && ((!decide (x18 = x19)) == false)) gv_nest (fun hc => ex_pick (cond_of hc) (pkAndN hc)))) (dcons (dstep1 (Tm := [(114, (cond ((v16 != x8.1) == true) (Bo (!decide (x18 = x19))) skipV)), (133, (cond (((v16 != x8.1) == true) && ((!decide (x18 = x19)) == false)) (Bo (((x20.Kind != 0) && (decide (v16 > 0))) && (x21.Up == x8.1))) skipV)), (104, (Bo (v16 != x8.1)))]) (L := []) (H := ⟨0, []⟩) rfl rfl rfl rfl rfl (astep_guard (v := (Bo ((!decide (x18 = x19)) || (((x20.Kind != 0) && (decide (v16 > 0))) && (x21.Up == x8.1))))) ((v16 != x8.1) == true) rfl (fun hc => ex_pick (cond_of hc) (pkOrN hc)))) (dcons (dstep1 (Tm := [(104, (Bo (v16 != x8.1))), (134, (cond ((v16 != x8.1) == true) (Bo ((!decide (x18 = x19)) || (((x20.Kind != 0) && (decide (v16 > 0))) && (x21.Up == x8.1)))) skipV))]) (L := []) (H := ⟨0, []⟩) rfl rfl rfl rfl rfl (astep_do rfl (ex_pick rfl pkAnd))) dnil))))))))))))))))))))))))))))))))))) ⟨rfl, rfl⟩) (by kernel_rfl) (by kernel_rfl) ?_
              show AWp _ _ _ _
              rcases Bool.eq_false_or_eq_true ((v16 != x8.1) && ((!decide (x18 = x19)) || (((x20.Kind != 0) && (decide (v16 > 0))) && (x21.Up == x8.1)))) with hb22 | hb22
              · rw [condT hb22] at h
                refine awp_condT (boT hb22) ?_
                refine awp_seq ?_
                refine awp_region ?_
                refine arun_do rfl rfl rfl (ex_assign (eV (v := (Bo false)) rfl)) ?_
                refine arun_keepE [4] 0 0 (st' := ⟨154, 0, [(4, (Bo false))], [], ⟨0, []⟩⟩) (by kernel_rfl) (by kernel_rfl) ?_
                show AWp _ _ _ _
                refine awp_ret ?_
                cases h
                exact ares1 (rtmp rfl (eV rfl))
              · rw [condF hb22] at h
                refine awp_condF (boF hb22) ?_
                refine awp_skip ?_
                show AWp _ _ _ _
                refine awp_region ?_
                refine arun_do rfl rfl rfl (ex_move (eV (v := (I v16)) rfl)) ?_
                refine arun_do rfl rfl rfl (ex_bin (vx := (I v16)) (vy := (I 1)) rfl rfl addI_ok) ?_
                refine arun_do rfl rfl rfl (ex_assign (eV (v := (I (w64 (v16 + 1)))) rfl)) ?_
                refine arun_keepE [5, 7, 8, 9, 12, 13] 0 0 (st' := ⟨154, 0, [(5, (SL 5 c_api_Node x5.1)), (7, (I x8.1)), (8, (I x8.2)), (9, (SL 5 c_api_Node x9.1)), (12, (I x13.2)), (13, (I (w64 (v16 + 1))))], [], ⟨0, []⟩⟩) (by kernel_rfl) (by kernel_rfl) ?_
                exact Exists.intro n1 (And.intro (Nat.lt_succ_self _) (Exists.intro (w64 (v16 + 1)) (And.intro rfl h)))
            · rw [condF hb17] at h
              refine awp_condF (boF hb17) ?_
              refine awp_exit ?_
              show AWp _ _ _ _
              refine awp_seq ?_
              refine awp_region ?_
              refine arun_do rfl rfl rfl (ex_move (eV (v := (I x8.2)) rfl)) ?_
              refine arun_do rfl rfl rfl (ex_bin (vx := (I x8.2)) (vy := (I 0)) rfl rfl eqlI_ok) ?_
              refine arun_do rfl rfl rfl (ex_move (eV (v := (Bo (x8.2 == 0))) rfl)) ?_
              refine arun_guard (v := (I x8.1)) ((x8.2 == 0) == true) rfl rfl rfl (fun hc => ex_move (eV (v := (I x8.1)) rfl)) ?_
              refine arun_guard (v := (Bo (decide (x8.1 > 0)))) ((x8.2 == 0) == true) rfl rfl rfl (fun hc => ex_bin (vx := (I x8.1)) (vy := (I 0)) (cond_of hc) rfl gtrI_ok) ?_
              refine arun_do rfl rfl rfl (ex_pick rfl pkAnd) ?_
              refine arun_do rfl rfl rfl (ex_move (eV (v := (Bo ((x8.2 == 0) && (decide (x8.1 > 0))))) rfl)) ?_
              refine arun_guard (v := (I x13.2)) (((x8.2 == 0) && (decide (x8.1 > 0))) == true) rfl rfl rfl (fun hc => ex_move (eV (v := (I x13.2)) rfl)) ?_
              refine arun_guard (v := (Bo (x13.2 == 2))) (((x8.2 == 0) && (decide (x8.1 > 0))) == true) rfl rfl rfl (fun hc => ex_bin (vx := (I x13.2)) (vy := (I 2)) (cond_of hc) rfl eqlI_ok) ?_
              refine arun_do rfl rfl rfl (ex_pick rfl pkAnd) ?_
              refine arun_do rfl rfl rfl (ex_move (eV (v := (Bo (((x8.2 == 0) && (decide (x8.1 > 0))) && (x13.2 == 2)))) rfl)) ?_
              refine arun_guard (v := (SL 5 c_api_Node x9.1)) ((((x8.2 == 0) && (decide (x8.1 > 0))) && (x13.2 == 2)) == true) rfl rfl rfl (fun hc => ex_move (eV (v := (SL 5 c_api_Node x9.1)) rfl)) ?_
              refine arun_guard (v := (I x8.1)) ((((x8.2 == 0) && (decide (x8.1 > 0))) && (x13.2 == 2)) == true) rfl rfl rfl (fun hc => ex_move (eV (v := (I x8.1)) rfl)) ?_
              obtain ⟨x23, hx23, h⟩ := bindS h
              refine arun_guard (v := (DP (c_api_Node x23))) ((((x8.2 == 0) && (decide (x8.1 > 0))) && (x13.2 == 2)) == true) rfl rfl rfl (fun hc => tx_idxD (c := c_api_Node) (xs := x9.1) (i := x8.1) ce_api_Node Tryz.underlying25 s_38 (cond_of hc) (cond_of hc) (gd_of hc hx23)) ?_
              refine arun_guard (v := (Value.agg (c_api_Node x23).toArray)) ((((x8.2 == 0) && (decide (x8.1 > 0))) && (x13.2 == 2)) == true) rfl rfl rfl (fun hc => tx_ldDA (vs := (c_api_Node x23)) Tryz.underlying38 rfl s_38 (by decide) (cond_of hc) (Nat.le_of_ble_eq_true rfl) rfl) ?_
              refine arun_guard (v := (Value.agg (c_api_Node (G_api_Node.mk 0 0 [] [] 0)).toArray)) ((((x8.2 == 0) && (decide (x8.1 > 0))) && (x13.2 == 2)) == true) rfl rfl rfl (fun hc => ex_build (qs := []) (v := (Value.agg (c_api_Node (G_api_Node.mk 0 0 [] [] 0)).toArray)) evp_nil (by kernel_rfl)) ?_
              refine arun_guard (v := (Bo (decide (x23 = (G_api_Node.mk 0 0 [] [] 0))))) ((((x8.2 == 0) && (decide (x8.1 > 0))) && (x13.2 == 2)) == true) rfl rfl rfl (fun hc => ex_bin (vx := (Value.agg (c_api_Node x23).toArray)) (vy := (Value.agg (c_api_Node (G_api_Node.mk 0 0 [] [] 0)).toArray)) (cond_of hc) (cond_of hc) eql_38) ?_
              refine arun_do rfl rfl rfl (ex_pick rfl pkAnd) ?_
              refine arun_do rfl rfl rfl (ex_assign (eV (v := (Bo ((((x8.2 == 0) && (decide (x8.1 > 0))) && (x13.2 == 2)) && (decide (x23 = (G_api_Node.mk 0 0 [] [] 0)))))) rfl)) ?_
              refine arun_keepE [4] 0 0 (st' := ⟨154, 0, [(4, (Bo ((((x8.2 == 0) && (decide (x8.1 > 0))) && (x13.2 == 2)) && (decide (x23 = (G_api_Node.mk 0 0 [] [] 0))))))], [], ⟨0, []⟩⟩) (by kernel_rfl) (by kernel_rfl) ?_
              show AWp _ _ _ _
              refine awp_ret ?_
              cases h
              exact ares1 (rtmp rfl (eV rfl))

end Go.Proofs
