/- Pure models of functions of the program, and that its code does what they say: palimplaw14 EditMoves. Written by a program. -/
import Derived.Test.YtbeefpabcndkcaaGreatDoorR14Z10
import Derived.Test.YtbeefpabcndkcaaGreatDoorR14Z15
import Derived.Test.YtbeefpabcndkcaaGreatDoorR14Z17
import Derived.Test.YtbeefpabcndkcaaGreatDoorR14Z6
import Derived.Test.YtbeefpabcndkcaaGreatDoorR14Z9
import Derived.Test.YtbeefpabcndkcaaGreatDoorR14ZB
set_option maxRecDepth 20000
set_option maxHeartbeats 4000000
namespace Go.Proofs
open Go Go.Fhl
set_option linter.unusedVariables false
set_option linter.unusedSimpArgs false
noncomputable def M_law14_EditMoves_l1 (x5 : ((List G_api_Node) × G_palimpmade_Picks)) (x7 : (Str × G_palimpmade_Picks)) (x8 : (Str × G_palimpmade_Picks)) (x9 : (Int × Int)) (x10 : ((List G_api_Node) × Int)) (x15 : (Int × Int)) (x16 : (Int × Int)) : Nat → Int → Option Bool
  | 0, _ => none
  | n1 + 1, v17 =>
  cond (decide (v17 < (x5.1.length : Int))) (Option.bind (gd ((v17 != x9.1) == true) (getI x10.1 v17)) fun (x19 : G_api_Node) => Option.bind (gd ((v17 != x9.1) == true) (getI x5.1 v17)) fun (x20 : G_api_Node) => cond ((v17 != x9.1) && (!decide (x19 = x20))) (some false) ((M_law14_EditMoves_l1 x5 x7 x8 x9 x10 x15 x16 n1) (w64 (v17 + 1)))) (Option.bind (M_edit_Move x10.1 x8.1 x7.1) fun (x22 : ((List G_api_Node) × Int)) => Option.bind (gd (((((x15.2 == 0) && (x15.1 == x9.1)) && (x16.2 == 2)) && (x22.2 == 0)) == true) (M_ref11_Same x22.1 x5.1)) fun (x23 : Bool) => some (((((x15.2 == 0) && (x15.1 == x9.1)) && (x16.2 == 2)) && (x22.2 == 0)) && x23))
noncomputable def M_law14_EditMoves (t0 : (List UInt8)) (t1 : (List UInt8)) : Option Bool :=
  Option.bind (M_law14_begun) fun (x1 : Bool) => cond (!x1) (some false) (cond ((decide ((t0.length : Int) > 60)) || (decide ((t1.length : Int) > 2))) (some true) (Option.bind (M_made_Made t0) fun (x4 : G_palimpmade_Picks) => Option.bind (M_made_Picks_Set x4 25) fun (x5 : ((List G_api_Node) × G_palimpmade_Picks)) => Option.bind (M_made_Made t1) fun (x6 : G_palimpmade_Picks) => Option.bind (M_made_Picks_Path x6 ) fun (x7 : (Str × G_palimpmade_Picks)) => Option.bind (M_made_Picks_Path x7.2 ) fun (x8 : (Str × G_palimpmade_Picks)) => Option.bind (M_ref11_Find x5.1 x7.1) fun (x9 : (Int × Int)) => Option.bind (M_edit_Move x5.1 x7.1 x8.1) fun (x10 : ((List G_api_Node) × Int)) => cond ((x10.2 != 0) || (x7.1 == x8.1)) (Option.bind (M_ref11_Same x10.1 x5.1) fun (x12 : Bool) => some x12) (Option.bind (M_ref11_May x10.1) fun (x13 : Bool) => cond (!x13) (some false) (Option.bind (M_ref11_Find x10.1 x8.1) fun (x15 : (Int × Int)) => Option.bind (M_ref11_Find x10.1 x7.1) fun (x16 : (Int × Int)) => M_law14_EditMoves_l1 x5 x7 x8 x9 x10 x15 x16 fuel 0))))
theorem ok_law14_EditMoves (t0 : (List UInt8)) (t1 : (List UInt8)) (r : Bool) (h : M_law14_EditMoves t0 t1 = some r) : FFn Tryz.prog 3 [(SL 1 c8 t0), (SL 1 c8 t1)] (Bo r) := by
  refine FFn.of_body (n := 124) Tryz.func3 rfl Tryz.ntmps3 rfl rfl rfl rfl ?_
  show AWp _ _ _ ⟨124, 0, [(0, (SL 1 c8 t0)), (1, (SL 1 c8 t1))], [], ⟨0, []⟩⟩
  unfold M_law14_EditMoves at h
  refine awp_seq ?_
  refine awp_region ?_
  refine arun_do rfl rfl rfl (ex_assign (eV (v := (Bo false)) rfl)) ?_
  refine arun_keepE [0, 1] 0 0 (st' := ⟨124, 0, [(0, (SL 1 c8 t0)), (1, (SL 1 c8 t1))], [], ⟨0, []⟩⟩) (by kernel_rfl) (by kernel_rfl) ?_
  show AWp _ _ _ _
  refine awp_seq ?_
  refine awp_seq ?_
  refine awp_region ?_
  obtain ⟨x1, hx1, h⟩ := bindS h
  refine arun_do rfl rfl rfl (ex_call0 (vs := []) (v := (Bo x1)) rfl en_7 (cargs evs_nil) rfl (ok_law14_begun  x1 hx1) rfl) ?_
  refine arun_do rfl rfl rfl (ex_un (vx := (Bo x1)) rfl notB_ok) ?_
  refine arun_keepE [0, 1, 21] 0 0 (st' := ⟨124, 0, [(0, (SL 1 c8 t0)), (1, (SL 1 c8 t1)), (21, (Bo (!x1)))], [], ⟨0, []⟩⟩) (by kernel_rfl) (by kernel_rfl) ?_
  show AWp _ _ _ _
  rcases Bool.eq_false_or_eq_true (!x1) with hb2 | hb2
  · rw [condT hb2] at h
    refine awp_condT (boT hb2) ?_
    refine awp_seq ?_
    refine awp_region ?_
    refine arun_do rfl rfl rfl (ex_assign (eV (v := (Bo false)) rfl)) ?_
    refine arun_keepE [4] 0 0 (st' := ⟨124, 0, [(4, (Bo false))], [], ⟨0, []⟩⟩) (by kernel_rfl) (by kernel_rfl) ?_
    show AWp _ _ _ _
    refine awp_ret ?_
    cases h
    exact ares1 (rtmp rfl (eV rfl))
  · rw [condF hb2] at h
    refine awp_condF (boF hb2) ?_
    refine awp_skip ?_
    show AWp _ _ _ _
    refine awp_seq ?_
    refine awp_seq ?_
    refine awp_region ?_
    refine arun_do rfl rfl rfl (ex_move (eV (v := (SL 1 c8 t0)) rfl)) ?_
    refine arun_do rfl rfl rfl (tx_lenD (xs := t0) ce8 Tryz.underlying22 rfl) ?_
    refine arun_do rfl rfl rfl (ex_bin (vx := (I (t0.length : Int))) (vy := (I 60)) rfl rfl gtrI_ok) ?_
    refine arun_do rfl rfl rfl (ex_move (eV (v := (Bo (decide ((t0.length : Int) > 60)))) rfl)) ?_
    refine arun_guard (v := (SL 1 c8 t1)) ((decide ((t0.length : Int) > 60)) == false) rfl rfl rfl (fun hc => ex_move (eV (v := (SL 1 c8 t1)) rfl)) ?_
    refine arun_guard (v := (I (t1.length : Int))) ((decide ((t0.length : Int) > 60)) == false) rfl rfl rfl (fun hc => tx_lenD (xs := t1) ce8 Tryz.underlying22 (cond_of hc)) ?_
    refine arun_guard (v := (Bo (decide ((t1.length : Int) > 2)))) ((decide ((t0.length : Int) > 60)) == false) rfl rfl rfl (fun hc => ex_bin (vx := (I (t1.length : Int))) (vy := (I 2)) (cond_of hc) rfl gtrI_ok) ?_
    refine arun_do rfl rfl rfl (ex_pick rfl pkOr) ?_
    refine arun_keepE [0, 1, 29] 0 0 (st' := ⟨124, 0, [(0, (SL 1 c8 t0)), (1, (SL 1 c8 t1)), (29, (Bo ((decide ((t0.length : Int) > 60)) || (decide ((t1.length : Int) > 2)))))], [], ⟨0, []⟩⟩) (by kernel_rfl) (by kernel_rfl) ?_
    show AWp _ _ _ _
    rcases Bool.eq_false_or_eq_true ((decide ((t0.length : Int) > 60)) || (decide ((t1.length : Int) > 2))) with hb3 | hb3
    · rw [condT hb3] at h
      refine awp_condT (boT hb3) ?_
      refine awp_seq ?_
      refine awp_region ?_
      refine arun_do rfl rfl rfl (ex_assign (eV (v := (Bo true)) rfl)) ?_
      refine arun_keepE [4] 0 0 (st' := ⟨124, 0, [(4, (Bo true))], [], ⟨0, []⟩⟩) (by kernel_rfl) (by kernel_rfl) ?_
      show AWp _ _ _ _
      refine awp_ret ?_
      cases h
      exact ares1 (rtmp rfl (eV rfl))
    · rw [condF hb3] at h
      refine awp_condF (boF hb3) ?_
      refine awp_skip ?_
      show AWp _ _ _ _
      refine awp_seq ?_
      refine awp_region ?_
      refine arun_do rfl rfl rfl (ex_move (eV (v := (SL 1 c8 t0)) rfl)) ?_
      obtain ⟨x4, hx4, h⟩ := bindS h
      refine arun_do rfl rfl rfl (ex_callNew (vs := [(SL 1 c8 t0)]) (k := 0) (b := ⟨1, (c_palimpmade_Picks x4), false⟩) (H' := ⟨1, [(0, ⟨1, (c_palimpmade_Picks x4), false⟩)]⟩) rfl en_8 (cargs (evs rfl evs_nil)) rfl (ok_made_Made t0 x4 hx4) rfl rfl rfl) ?_
      obtain ⟨x5, hx5, h⟩ := bindS h
      refine arun_do rfl rfl rfl (ex_call1 (vs := [(NP 0 0), (I 25)]) (vs' := [(NP 0 0), (I 25)]) (v := (SL 5 c_api_Node x5.1)) (n := 0) (b := ⟨1, (c_palimpmade_Picks x4), false⟩) (b' := ⟨1, (c_palimpmade_Picks x5.2), false⟩) (H' := ⟨1, [(0, ⟨1, (c_palimpmade_Picks x5.2), false⟩)]⟩) rfl en_9 (cargs (evs rfl (evs rfl evs_nil))) rfl rfl (.cons (.inr ⟨_, rfl, rfl⟩) (.cons (.inl ⟨rfl, rfl⟩) .nil)) (ok_made_Picks_Set x4 25 x5 hx5) rfl rfl) ?_
      refine arun_do rfl rfl rfl (ex_assign (eV (v := (SL 5 c_api_Node x5.1)) rfl)) ?_
      refine arun_keepE [1, 5] 0 0 (st' := ⟨124, 0, [(1, (SL 1 c8 t1)), (5, (SL 5 c_api_Node x5.1))], [], ⟨0, []⟩⟩) (by kernel_rfl) (by kernel_rfl) ?_
      show AWp _ _ _ _
      refine awp_seq ?_
      refine awp_region ?_
      refine arun_do rfl rfl rfl (ex_move (eV (v := (SL 1 c8 t1)) rfl)) ?_
      obtain ⟨x6, hx6, h⟩ := bindS h
      refine arun_do rfl rfl rfl (ex_callNew (vs := [(SL 1 c8 t1)]) (k := 0) (b := ⟨1, (c_palimpmade_Picks x6), false⟩) (H' := ⟨1, [(0, ⟨1, (c_palimpmade_Picks x6), false⟩)]⟩) rfl en_8 (cargs (evs rfl evs_nil)) rfl (ok_made_Made t1 x6 hx6) rfl rfl rfl) ?_
      refine arun_do rfl rfl rfl (ex_assign (eV (v := (NP 0 0)) rfl)) ?_
      refine arun_keepE [5, 6] 0 1 (st' := ⟨124, 0, [(5, (SL 5 c_api_Node x5.1)), (6, (NP 0 0))], [], ⟨1, [(0, ⟨1, (c_palimpmade_Picks x6), false⟩)]⟩⟩) (by kernel_rfl) (by kernel_rfl) ?_
      show AWp _ _ _ _
      refine awp_seq ?_
      refine awp_region ?_
      refine arun_do rfl rfl rfl (ex_move (eV (v := (NP 0 0)) rfl)) ?_
      obtain ⟨x7, hx7, h⟩ := bindS h
      refine arun_do rfl rfl rfl (ex_call1 (vs := [(NP 0 0)]) (vs' := [(NP 0 0)]) (v := (S x7.1)) (n := 0) (b := ⟨1, (c_palimpmade_Picks x6), false⟩) (b' := ⟨1, (c_palimpmade_Picks x7.2), false⟩) (H' := ⟨1, [(0, ⟨1, (c_palimpmade_Picks x7.2), false⟩)]⟩) rfl en_10 (cargs (evs rfl evs_nil)) rfl rfl (.cons (.inr ⟨_, rfl, rfl⟩) .nil) (ok_made_Picks_Path x6  x7 hx7) rfl rfl) ?_
      refine arun_do rfl rfl rfl (ex_move (eV (v := (NP 0 0)) rfl)) ?_
      obtain ⟨x8, hx8, h⟩ := bindS h
      refine arun_do rfl rfl rfl (ex_call1 (vs := [(NP 0 0)]) (vs' := [(NP 0 0)]) (v := (S x8.1)) (n := 0) (b := ⟨1, (c_palimpmade_Picks x7.2), false⟩) (b' := ⟨1, (c_palimpmade_Picks x8.2), false⟩) (H' := ⟨1, [(0, ⟨1, (c_palimpmade_Picks x8.2), false⟩)]⟩) rfl en_10 (cargs (evs rfl evs_nil)) rfl rfl (.cons (.inr ⟨_, rfl, rfl⟩) .nil) (ok_made_Picks_Path x7.2  x8 hx8) rfl rfl) ?_
      refine arun_do rfl rfl rfl (ex_assign (eV (v := (S x7.1)) rfl)) ?_
      refine arun_do rfl rfl rfl (ex_assign (eV (v := (S x8.1)) rfl)) ?_
      refine arun_keepE [5, 7, 8] 0 0 (st' := ⟨124, 0, [(5, (SL 5 c_api_Node x5.1)), (7, (S x7.1)), (8, (S x8.1))], [], ⟨0, []⟩⟩) (by kernel_rfl) (by kernel_rfl) ?_
      show AWp _ _ _ _
      refine awp_seq ?_
      refine awp_region ?_
      refine arun_do rfl rfl rfl (ex_move (eV (v := (SL 5 c_api_Node x5.1)) rfl)) ?_
      refine arun_do rfl rfl rfl (ex_move (eV (v := (S x7.1)) rfl)) ?_
      obtain ⟨x9, hx9, h⟩ := bindS h
      refine arun_do rfl rfl rfl (ex_call0 (vs := [(SL 5 c_api_Node x5.1), (S x7.1)]) (v := (Value.tuple #[(I x9.1), (I x9.2)])) rfl en_11 (cargs (evs rfl (evs rfl evs_nil))) rfl (ok_ref11_Find x5.1 x7.1 x9 hx9) rfl) ?_
      refine arun_do rfl rfl rfl (ex_move (eV (v := (Value.tuple #[(I x9.1), (I x9.2)])) rfl)) ?_
      refine arun_do rfl rfl rfl (ex_extract (vx := (Value.tuple #[(I x9.1), (I x9.2)])) (v := (I x9.1)) rfl rfl) ?_
      refine arun_do rfl rfl rfl (ex_extract (vx := (Value.tuple #[(I x9.1), (I x9.2)])) (v := (I x9.2)) rfl rfl) ?_
      refine arun_do rfl rfl rfl (ex_assign (eV (v := (I x9.1)) rfl)) ?_
      refine arun_do rfl rfl rfl (ex_assign (eV (v := (I x9.2)) rfl)) ?_
      refine arun_keepE [5, 7, 8, 9] 0 0 (st' := ⟨124, 0, [(5, (SL 5 c_api_Node x5.1)), (7, (S x7.1)), (8, (S x8.1)), (9, (I x9.1))], [], ⟨0, []⟩⟩) (by kernel_rfl) (by kernel_rfl) ?_
      show AWp _ _ _ _
      refine awp_seq ?_
      refine awp_region ?_
      refine arun_do rfl rfl rfl (ex_move (eV (v := (SL 5 c_api_Node x5.1)) rfl)) ?_
      refine arun_do rfl rfl rfl (ex_move (eV (v := (S x7.1)) rfl)) ?_
      refine arun_do rfl rfl rfl (ex_move (eV (v := (S x8.1)) rfl)) ?_
      obtain ⟨x10, hx10, h⟩ := bindS h
      refine arun_do rfl rfl rfl (ex_call0 (vs := [(SL 5 c_api_Node x5.1), (S x7.1), (S x8.1)]) (v := (Value.tuple #[(SL 5 c_api_Node x10.1), (I x10.2)])) rfl en_12 (cargs (evs rfl (evs rfl (evs rfl evs_nil)))) rfl (ok_edit_Move x5.1 x7.1 x8.1 x10 hx10) rfl) ?_
      refine arun_do rfl rfl rfl (ex_move (eV (v := (Value.tuple #[(SL 5 c_api_Node x10.1), (I x10.2)])) rfl)) ?_
      refine arun_do rfl rfl rfl (ex_extract (vx := (Value.tuple #[(SL 5 c_api_Node x10.1), (I x10.2)])) (v := (SL 5 c_api_Node x10.1)) rfl rfl) ?_
      refine arun_do rfl rfl rfl (ex_extract (vx := (Value.tuple #[(SL 5 c_api_Node x10.1), (I x10.2)])) (v := (I x10.2)) rfl rfl) ?_
      refine arun_do rfl rfl rfl (ex_assign (eV (v := (SL 5 c_api_Node x10.1)) rfl)) ?_
      refine arun_do rfl rfl rfl (ex_assign (eV (v := (I x10.2)) rfl)) ?_
      refine arun_keepE [5, 7, 8, 9, 11, 12] 0 0 (st' := ⟨124, 0, [(5, (SL 5 c_api_Node x5.1)), (7, (S x7.1)), (8, (S x8.1)), (9, (I x9.1)), (11, (SL 5 c_api_Node x10.1)), (12, (I x10.2))], [], ⟨0, []⟩⟩) (by kernel_rfl) (by kernel_rfl) ?_
      show AWp _ _ _ _
      refine awp_seq ?_
      refine awp_seq ?_
      refine awp_region ?_
      refine arun_do rfl rfl rfl (ex_move (eV (v := (I x10.2)) rfl)) ?_
      refine arun_do rfl rfl rfl (ex_bin (vx := (I x10.2)) (vy := (I 0)) rfl rfl neqI_ok) ?_
      refine arun_do rfl rfl rfl (ex_move (eV (v := (Bo (x10.2 != 0))) rfl)) ?_
      refine arun_guard (v := (S x7.1)) ((x10.2 != 0) == false) rfl rfl rfl (fun hc => ex_move (eV (v := (S x7.1)) rfl)) ?_
      refine arun_guard (v := (S x8.1)) ((x10.2 != 0) == false) rfl rfl rfl (fun hc => ex_move (eV (v := (S x8.1)) rfl)) ?_
      refine arun_guard (v := (Bo (x7.1 == x8.1))) ((x10.2 != 0) == false) rfl rfl rfl (fun hc => ex_bin (vx := (S x7.1)) (vy := (S x8.1)) (cond_of hc) (cond_of hc) eqlS_ok) ?_
      refine arun_do rfl rfl rfl (ex_pick rfl pkOr) ?_
      refine arun_keepE [5, 7, 8, 9, 11, 58] 0 0 (st' := ⟨124, 0, [(5, (SL 5 c_api_Node x5.1)), (7, (S x7.1)), (8, (S x8.1)), (9, (I x9.1)), (11, (SL 5 c_api_Node x10.1)), (58, (Bo ((x10.2 != 0) || (x7.1 == x8.1))))], [], ⟨0, []⟩⟩) (by kernel_rfl) (by kernel_rfl) ?_
      show AWp _ _ _ _
      rcases Bool.eq_false_or_eq_true ((x10.2 != 0) || (x7.1 == x8.1)) with hb11 | hb11
      · rw [condT hb11] at h
        refine awp_condT (boT hb11) ?_
        refine awp_seq ?_
        refine awp_region ?_
        refine arun_do rfl rfl rfl (ex_move (eV (v := (SL 5 c_api_Node x10.1)) rfl)) ?_
        refine arun_do rfl rfl rfl (ex_move (eV (v := (SL 5 c_api_Node x5.1)) rfl)) ?_
        obtain ⟨x12, hx12, h⟩ := bindS h
        refine arun_do rfl rfl rfl (ex_call0 (vs := [(SL 5 c_api_Node x10.1), (SL 5 c_api_Node x5.1)]) (v := (Bo x12)) rfl en_13 (cargs (evs rfl (evs rfl evs_nil))) rfl (ok_ref11_Same x10.1 x5.1 x12 hx12) rfl) ?_
        refine arun_do rfl rfl rfl (ex_assign (eV (v := (Bo x12)) rfl)) ?_
        refine arun_keepE [4] 0 0 (st' := ⟨124, 0, [(4, (Bo x12))], [], ⟨0, []⟩⟩) (by kernel_rfl) (by kernel_rfl) ?_
        show AWp _ _ _ _
        refine awp_ret ?_
        cases h
        exact ares1 (rtmp rfl (eV rfl))
      · rw [condF hb11] at h
        refine awp_condF (boF hb11) ?_
        refine awp_skip ?_
        show AWp _ _ _ _
        refine awp_seq ?_
        refine awp_seq ?_
        refine awp_region ?_
        refine arun_do rfl rfl rfl (ex_move (eV (v := (SL 5 c_api_Node x10.1)) rfl)) ?_
        obtain ⟨x13, hx13, h⟩ := bindS h
        refine arun_do rfl rfl rfl (ex_call0 (vs := [(SL 5 c_api_Node x10.1)]) (v := (Bo x13)) rfl en_14 (cargs (evs rfl evs_nil)) rfl (ok_ref11_May x10.1 x13 hx13) rfl) ?_
        refine arun_do rfl rfl rfl (ex_un (vx := (Bo x13)) rfl notB_ok) ?_
        refine arun_keepE [5, 7, 8, 9, 11, 64] 0 0 (st' := ⟨124, 0, [(5, (SL 5 c_api_Node x5.1)), (7, (S x7.1)), (8, (S x8.1)), (9, (I x9.1)), (11, (SL 5 c_api_Node x10.1)), (64, (Bo (!x13)))], [], ⟨0, []⟩⟩) (by kernel_rfl) (by kernel_rfl) ?_
        show AWp _ _ _ _
        rcases Bool.eq_false_or_eq_true (!x13) with hb14 | hb14
        · rw [condT hb14] at h
          refine awp_condT (boT hb14) ?_
          refine awp_seq ?_
          refine awp_region ?_
          refine arun_do rfl rfl rfl (ex_assign (eV (v := (Bo false)) rfl)) ?_
          refine arun_keepE [4] 0 0 (st' := ⟨124, 0, [(4, (Bo false))], [], ⟨0, []⟩⟩) (by kernel_rfl) (by kernel_rfl) ?_
          show AWp _ _ _ _
          refine awp_ret ?_
          cases h
          exact ares1 (rtmp rfl (eV rfl))
        · rw [condF hb14] at h
          refine awp_condF (boF hb14) ?_
          refine awp_skip ?_
          show AWp _ _ _ _
          refine awp_seq ?_
          refine awp_region ?_
          refine arun_do rfl rfl rfl (ex_move (eV (v := (SL 5 c_api_Node x10.1)) rfl)) ?_
          refine arun_do rfl rfl rfl (ex_move (eV (v := (S x8.1)) rfl)) ?_
          obtain ⟨x15, hx15, h⟩ := bindS h
          refine arun_do rfl rfl rfl (ex_call0 (vs := [(SL 5 c_api_Node x10.1), (S x8.1)]) (v := (Value.tuple #[(I x15.1), (I x15.2)])) rfl en_11 (cargs (evs rfl (evs rfl evs_nil))) rfl (ok_ref11_Find x10.1 x8.1 x15 hx15) rfl) ?_
          refine arun_do rfl rfl rfl (ex_move (eV (v := (Value.tuple #[(I x15.1), (I x15.2)])) rfl)) ?_
          refine arun_do rfl rfl rfl (ex_extract (vx := (Value.tuple #[(I x15.1), (I x15.2)])) (v := (I x15.1)) rfl rfl) ?_
          refine arun_do rfl rfl rfl (ex_extract (vx := (Value.tuple #[(I x15.1), (I x15.2)])) (v := (I x15.2)) rfl rfl) ?_
          refine arun_do rfl rfl rfl (ex_assign (eV (v := (I x15.1)) rfl)) ?_
          refine arun_do rfl rfl rfl (ex_assign (eV (v := (I x15.2)) rfl)) ?_
          refine arun_keepE [5, 7, 8, 9, 11, 13, 14] 0 0 (st' := ⟨124, 0, [(5, (SL 5 c_api_Node x5.1)), (7, (S x7.1)), (8, (S x8.1)), (9, (I x9.1)), (11, (SL 5 c_api_Node x10.1)), (13, (I x15.1)), (14, (I x15.2))], [], ⟨0, []⟩⟩) (by kernel_rfl) (by kernel_rfl) ?_
          show AWp _ _ _ _
          refine awp_seq ?_
          refine awp_region ?_
          refine arun_do rfl rfl rfl (ex_move (eV (v := (SL 5 c_api_Node x10.1)) rfl)) ?_
          refine arun_do rfl rfl rfl (ex_move (eV (v := (S x7.1)) rfl)) ?_
          obtain ⟨x16, hx16, h⟩ := bindS h
          refine arun_do rfl rfl rfl (ex_call0 (vs := [(SL 5 c_api_Node x10.1), (S x7.1)]) (v := (Value.tuple #[(I x16.1), (I x16.2)])) rfl en_11 (cargs (evs rfl (evs rfl evs_nil))) rfl (ok_ref11_Find x10.1 x7.1 x16 hx16) rfl) ?_
          refine arun_do rfl rfl rfl (ex_move (eV (v := (Value.tuple #[(I x16.1), (I x16.2)])) rfl)) ?_
          refine arun_do rfl rfl rfl (ex_extract (vx := (Value.tuple #[(I x16.1), (I x16.2)])) (v := (I x16.1)) rfl rfl) ?_
          refine arun_do rfl rfl rfl (ex_extract (vx := (Value.tuple #[(I x16.1), (I x16.2)])) (v := (I x16.2)) rfl rfl) ?_
          refine arun_do rfl rfl rfl (ex_assign (eV (v := (I x16.1)) rfl)) ?_
          refine arun_do rfl rfl rfl (ex_assign (eV (v := (I x16.2)) rfl)) ?_
          refine arun_keepE [5, 7, 8, 9, 11, 13, 14, 16] 0 0 (st' := ⟨124, 0, [(5, (SL 5 c_api_Node x5.1)), (7, (S x7.1)), (8, (S x8.1)), (9, (I x9.1)), (11, (SL 5 c_api_Node x10.1)), (13, (I x15.1)), (14, (I x15.2)), (16, (I x16.2))], [], ⟨0, []⟩⟩) (by kernel_rfl) (by kernel_rfl) ?_
          show AWp _ _ _ _
          refine awp_seq ?_
          refine awp_seq ?_
          refine awp_region ?_
          refine arun_do rfl rfl rfl (ex_assign (eV (v := (I 0)) rfl)) ?_
          refine arun_keepE [5, 7, 8, 9, 11, 13, 14, 16, 17] 0 0 (st' := ⟨124, 0, [(5, (SL 5 c_api_Node x5.1)), (7, (S x7.1)), (8, (S x8.1)), (9, (I x9.1)), (11, (SL 5 c_api_Node x10.1)), (13, (I x15.1)), (14, (I x15.2)), (16, (I x16.2)), (17, (I 0))], [], ⟨0, []⟩⟩) (by kernel_rfl) (by kernel_rfl) ?_
          show AWp _ _ _ _
          refine awp_block ?_
          refine awp_loop (fun n s => ∃ (v17 : Int), s = ⟨124, 0, [(5, (SL 5 c_api_Node x5.1)), (7, (S x7.1)), (8, (S x8.1)), (9, (I x9.1)), (11, (SL 5 c_api_Node x10.1)), (13, (I x15.1)), (14, (I x15.2)), (16, (I x16.2)), (17, (I v17))], [], ⟨0, []⟩⟩ ∧ M_law14_EditMoves_l1 x5 x7 x8 x9 x10 x15 x16 n v17 = some r) fuel (Exists.intro 0 (And.intro rfl h)) ?_
          rintro n s ⟨v17, rfl, h⟩ -
          cases n with
          | zero => cases h
          | succ n1 =>
            unfold M_law14_EditMoves_l1 at h
            refine awp_seq ?_
            refine awp_seq ?_
            refine awp_region ?_
            refine arun_do rfl rfl rfl (ex_move (eV (v := (I v17)) rfl)) ?_
            refine arun_do rfl rfl rfl (ex_move (eV (v := (SL 5 c_api_Node x5.1)) rfl)) ?_
            refine arun_do rfl rfl rfl (tx_lenD (xs := x5.1) ce_api_Node Tryz.underlying25 rfl) ?_
            refine arun_do rfl rfl rfl (ex_bin (vx := (I v17)) (vy := (I (x5.1.length : Int))) rfl rfl lssI_ok) ?_
            refine arun_keepE [5, 7, 8, 9, 11, 13, 14, 16, 17, 80] 0 0 (st' := ⟨124, 0, [(5, (SL 5 c_api_Node x5.1)), (7, (S x7.1)), (8, (S x8.1)), (9, (I x9.1)), (11, (SL 5 c_api_Node x10.1)), (13, (I x15.1)), (14, (I x15.2)), (16, (I x16.2)), (17, (I v17)), (80, (Bo (decide (v17 < (x5.1.length : Int)))))], [], ⟨0, []⟩⟩) (by kernel_rfl) (by kernel_rfl) ?_
            show AWp _ _ _ _
            rcases Bool.eq_false_or_eq_true (decide (v17 < (x5.1.length : Int))) with hb18 | hb18
            · rw [condT hb18] at h
              refine awp_condT (boT hb18) ?_
              refine awp_skip ?_
              show AWp _ _ _ _
              refine awp_seq ?_
              refine awp_block ?_
              refine awp_seq ?_
              obtain ⟨x19, hx19, h⟩ := bindS h
              obtain ⟨x20, hx20, h⟩ := bindS h
              refine awp_kn [5, 7, 8, 9, 11, 13, 14, 16, 17, 96] 0 0 (st' := ⟨124, 0, [(5, (SL 5 c_api_Node x5.1)), (7, (S x7.1)), (8, (S x8.1)), (9, (I x9.1)), (11, (SL 5 c_api_Node x10.1)), (13, (I x15.1)), (14, (I x15.2)), (16, (I x16.2)), (17, (I v17)), (96, (Bo ((v17 != x9.1) && (!decide (x19 = x20)))))], [], ⟨0, []⟩⟩) (awp_draw (T := [(I v17), (I x9.1), (Bo (v17 != x9.1)), (Bo (v17 != x9.1)), (cond ((v17 != x9.1) == true) (SL 5 c_api_Node x10.1) skipV), (cond ((v17 != x9.1) == true) (I v17) skipV), (cond ((v17 != x9.1) == true) (DP (c_api_Node x19)) skipV), (cond ((v17 != x9.1) == true) (Value.agg (c_api_Node x19).toArray) skipV), (cond ((v17 != x9.1) == true) (SL 5 c_api_Node x5.1) skipV), (cond ((v17 != x9.1) == true) (I v17) skipV), (cond ((v17 != x9.1) == true) (DP (c_api_Node x20)) skipV), (cond ((v17 != x9.1) == true) (Value.agg (c_api_Node x20).toArray) skipV), (cond ((v17 != x9.1) == true) (Bo (!decide (x19 = x20))) skipV), (Bo ((v17 != x9.1) && (!decide (x19 = x20))))]) (LH := [([], ⟨0, []⟩)]) (D := [⟨[(17, none)], [], [0], false⟩, ⟨[(9, none)], [], [0], false⟩, ⟨[(83, some 0), (84, some 1)], [0, 1], [0], false⟩, ⟨[(85, some 2)], [0, 1, 2], [0], false⟩, ⟨[(11, none), (86, some 3)], [0, 1, 2, 3], [0], false⟩, ⟨[(17, none), (86, some 3)], [0, 1, 2, 3], [0], false⟩, ⟨[(87, some 4), (88, some 5), (86, some 3)], [0, 1, 2, 3, 4, 5], [0], false⟩, ⟨[(89, some 6), (86, some 3)], [0, 1, 2, 3, 4, 5, 6], [0], false⟩, ⟨[(5, none), (86, some 3)], [0, 1, 2, 3], [0], false⟩, ⟨[(17, none), (86, some 3)], [0, 1, 2, 3], [0], false⟩, ⟨[(91, some 8), (92, some 9), (86, some 3)], [0, 1, 2, 3, 8, 9], [0], false⟩, ⟨[(93, some 10), (86, some 3)], [0, 1, 2, 3, 8, 9, 10], [0], false⟩, ⟨[(90, some 7), (94, some 11), (86, some 3)], [0, 1, 2, 3, 4, 5, 6, 7, 8, 9, 10, 11], [0], false⟩, ⟨[(86, some 3), (95, some 12)], [0, 1, 2, 3, 4, 5, 6, 7, 8, 9, 10, 11, 12], [0], false⟩]) (S := []) (plan := [0, 1, 2, 3, 4, 5, 6, 7, 8, 9, 10, 11, 12, 13]) mo (by kernel_rfl) rfl rfl rfl (dcons (dstep1 (Tm := [(17, (I v17))]) (L := []) (H := ⟨0, []⟩) rfl rfl rfl rfl rfl (astep_do rfl (ex_move (eV (v := (I v17)) rfl)))) (dcons (dstep1 (Tm := [(9, (I x9.1))]) (L := []) (H := ⟨0, []⟩) rfl rfl rfl rfl rfl (astep_do rfl (ex_move (eV (v := (I x9.1)) rfl)))) (dcons (dstep1 (Tm := [(83, (I v17)), (84, (I x9.1))]) (L := []) (H := ⟨0, []⟩) rfl rfl rfl rfl rfl (astep_do rfl (ex_bin (vx := (I v17)) (vy := (I x9.1)) rfl rfl neqI_ok))) (dcons (dstep1 (Tm := [(85, (Bo (v17 != x9.1)))]) (L := []) (H := ⟨0, []⟩) rfl rfl rfl rfl rfl (astep_do rfl (ex_move (eV (v := (Bo (v17 != x9.1))) rfl)))) (dcons (dstep1 (Tm := [(11, (SL 5 c_api_Node x10.1)), (86, (Bo (v17 != x9.1)))]) (L := []) (H := ⟨0, []⟩) rfl rfl rfl rfl rfl (astep_guard (v := (SL 5 c_api_Node x10.1)) ((v17 != x9.1) == true) rfl (fun hc => ex_move (eV (v := (SL 5 c_api_Node x10.1)) rfl)))) (dcons (dstep1 (Tm := [(17, (I v17)), (86, (Bo (v17 != x9.1)))]) (L := []) (H := ⟨0, []⟩) rfl rfl rfl rfl rfl (astep_guard (v := (I v17)) ((v17 != x9.1) == true) rfl (fun hc => ex_move (eV (v := (I v17)) rfl)))) (dcons (dstep1 (Tm := [(87, (cond ((v17 != x9.1) == true) (SL 5 c_api_Node x10.1) skipV)), (88, (cond ((v17 != x9.1) == true) (I v17) skipV)), (86, (Bo (v17 != x9.1)))]) (L := []) (H := ⟨0, []⟩) rfl rfl rfl rfl rfl (astep_guard (v := (DP (c_api_Node x19))) ((v17 != x9.1) == true) rfl (fun hc => tx_idxD (c := c_api_Node) (xs := x10.1) (i := v17) ce_api_Node Tryz.underlying25 s_38 (cond_of hc) (cond_of hc) (gd_of hc hx19)))) (dcons (dstep1 (Tm := [(89, (cond ((v17 != x9.1) == true) (DP (c_api_Node x19)) skipV)), (86, (Bo (v17 != x9.1)))]) (L := []) (H := ⟨0, []⟩) rfl rfl rfl rfl rfl (astep_guard (v := (Value.agg (c_api_Node x19).toArray)) ((v17 != x9.1) == true) rfl (fun hc => tx_ldDA (vs := (c_api_Node x19)) Tryz.underlying38 rfl s_38 (by decide) (cond_of hc) (Nat.le_of_ble_eq_true rfl) rfl))) (dcons (dstep1 (Tm := [(5, (SL 5 c_api_Node x5.1)), (86, (Bo (v17 != x9.1)))]) (L := []) (H := ⟨0, []⟩) rfl rfl rfl rfl rfl (astep_guard (v := (SL 5 c_api_Node x5.1)) ((v17 != x9.1) == true) rfl (fun hc => ex_move (eV (v := (SL 5 c_api_Node x5.1)) rfl)))) (dcons (dstep1 (Tm := [(17, (I v17)), (86, (Bo (v17 != x9.1)))]) (L := []) (H := ⟨0, []⟩) rfl rfl rfl rfl rfl (astep_guard (v := (I v17)) ((v17 != x9.1) == true) rfl (fun hc => ex_move (eV (v := (I v17)) rfl)))) (dcons (dstep1 (Tm := [(91, (cond ((v17 != x9.1) == true) (SL 5 c_api_Node x5.1) skipV)), (92, (cond ((v17 != x9.1) == true) (I v17) skipV)), (86, (Bo (v17 != x9.1)))]) (L := []) (H := ⟨0, []⟩) rfl rfl rfl rfl rfl (astep_guard (v := (DP (c_api_Node x20))) ((v17 != x9.1) == true) rfl (fun hc => tx_idxD (c := c_api_Node) (xs := x5.1) (i := v17) ce_api_Node Tryz.underlying25 s_38 (cond_of hc) (cond_of hc) (gd_of hc hx20)))) (dcons (dstep1 (Tm := [(93, (cond ((v17 != x9.1) == true) (DP (c_api_Node x20)) skipV)), (86, (Bo (v17 != x9.1)))]) (L := []) (H := ⟨0, []⟩) rfl rfl rfl rfl rfl (astep_guard (v := (Value.agg (c_api_Node x20).toArray)) ((v17 != x9.1) == true) rfl (fun hc => tx_ldDA (vs := (c_api_Node x20)) Tryz.underlying38 rfl s_38 (by decide) (cond_of hc) (Nat.le_of_ble_eq_true rfl) rfl))) (dcons (dstep1 (Tm := [(90, (cond ((v17 != x9.1) == true) (Value.agg (c_api_Node x19).toArray) skipV)), (94, (cond ((v17 != x9.1) == true) (Value.agg (c_api_Node x20).toArray) skipV)), (86, (Bo (v17 != x9.1)))]) (L := []) (H := ⟨0, []⟩) rfl rfl rfl rfl rfl (astep_guard (v := (Bo (!decide (x19 = x20)))) ((v17 != x9.1) == true) rfl (fun hc => ex_bin (vx := (Value.agg (c_api_Node x19).toArray)) (vy := (Value.agg (c_api_Node x20).toArray)) (cond_of hc) (cond_of hc) neq_38))) (dcons (dstep1 (Tm := [(86, (Bo (v17 != x9.1))), (95, (cond ((v17 != x9.1) == true) (Bo (!decide (x19 = x20))) skipV))]) (L := []) (H := ⟨0, []⟩) rfl rfl rfl rfl rfl (astep_do rfl (ex_pick rfl pkAnd))) dnil)))))))))))))) ⟨rfl, rfl⟩) (by kernel_rfl) (by kernel_rfl) ?_
              show AWp _ _ _ _
              rcases Bool.eq_false_or_eq_true ((v17 != x9.1) && (!decide (x19 = x20))) with hb21 | hb21
              · rw [condT hb21] at h
                refine awp_condT (boT hb21) ?_
                refine awp_seq ?_
                refine awp_region ?_
                refine arun_do rfl rfl rfl (ex_assign (eV (v := (Bo false)) rfl)) ?_
                refine arun_keepE [4] 0 0 (st' := ⟨124, 0, [(4, (Bo false))], [], ⟨0, []⟩⟩) (by kernel_rfl) (by kernel_rfl) ?_
                show AWp _ _ _ _
                refine awp_ret ?_
                cases h
                exact ares1 (rtmp rfl (eV rfl))
              · rw [condF hb21] at h
                refine awp_condF (boF hb21) ?_
                refine awp_skip ?_
                show AWp _ _ _ _
                refine awp_region ?_
                refine arun_do rfl rfl rfl (ex_move (eV (v := (I v17)) rfl)) ?_
                refine arun_do rfl rfl rfl (ex_bin (vx := (I v17)) (vy := (I 1)) rfl rfl addI_ok) ?_
                refine arun_do rfl rfl rfl (ex_assign (eV (v := (I (w64 (v17 + 1)))) rfl)) ?_
                refine arun_keepE [5, 7, 8, 9, 11, 13, 14, 16, 17] 0 0 (st' := ⟨124, 0, [(5, (SL 5 c_api_Node x5.1)), (7, (S x7.1)), (8, (S x8.1)), (9, (I x9.1)), (11, (SL 5 c_api_Node x10.1)), (13, (I x15.1)), (14, (I x15.2)), (16, (I x16.2)), (17, (I (w64 (v17 + 1))))], [], ⟨0, []⟩⟩) (by kernel_rfl) (by kernel_rfl) ?_
                exact Exists.intro n1 (And.intro (Nat.lt_succ_self _) (Exists.intro (w64 (v17 + 1)) (And.intro rfl h)))
            · rw [condF hb18] at h
              refine awp_condF (boF hb18) ?_
              refine awp_exit ?_
              show AWp _ _ _ _
              refine awp_seq ?_
              refine awp_region ?_
              refine arun_do rfl rfl rfl (ex_move (eV (v := (SL 5 c_api_Node x10.1)) rfl)) ?_
              refine arun_do rfl rfl rfl (ex_move (eV (v := (S x8.1)) rfl)) ?_
              refine arun_do rfl rfl rfl (ex_move (eV (v := (S x7.1)) rfl)) ?_
              obtain ⟨x22, hx22, h⟩ := bindS h
              refine arun_do rfl rfl rfl (ex_call0 (vs := [(SL 5 c_api_Node x10.1), (S x8.1), (S x7.1)]) (v := (Value.tuple #[(SL 5 c_api_Node x22.1), (I x22.2)])) rfl en_12 (cargs (evs rfl (evs rfl (evs rfl evs_nil)))) rfl (ok_edit_Move x10.1 x8.1 x7.1 x22 hx22) rfl) ?_
              refine arun_do rfl rfl rfl (ex_move (eV (v := (Value.tuple #[(SL 5 c_api_Node x22.1), (I x22.2)])) rfl)) ?_
              refine arun_do rfl rfl rfl (ex_extract (vx := (Value.tuple #[(SL 5 c_api_Node x22.1), (I x22.2)])) (v := (SL 5 c_api_Node x22.1)) rfl rfl) ?_
              refine arun_do rfl rfl rfl (ex_extract (vx := (Value.tuple #[(SL 5 c_api_Node x22.1), (I x22.2)])) (v := (I x22.2)) rfl rfl) ?_
              refine arun_do rfl rfl rfl (ex_assign (eV (v := (SL 5 c_api_Node x22.1)) rfl)) ?_
              refine arun_do rfl rfl rfl (ex_assign (eV (v := (I x22.2)) rfl)) ?_
              refine arun_keepE [5, 9, 13, 14, 16, 18, 19] 0 0 (st' := ⟨124, 0, [(5, (SL 5 c_api_Node x5.1)), (9, (I x9.1)), (13, (I x15.1)), (14, (I x15.2)), (16, (I x16.2)), (18, (SL 5 c_api_Node x22.1)), (19, (I x22.2))], [], ⟨0, []⟩⟩) (by kernel_rfl) (by kernel_rfl) ?_
              show AWp _ _ _ _
              refine awp_seq ?_
              refine awp_region ?_
              refine arun_do rfl rfl rfl (ex_move (eV (v := (I x15.2)) rfl)) ?_
              refine arun_do rfl rfl rfl (ex_bin (vx := (I x15.2)) (vy := (I 0)) rfl rfl eqlI_ok) ?_
              refine arun_do rfl rfl rfl (ex_move (eV (v := (Bo (x15.2 == 0))) rfl)) ?_
              refine arun_guard (v := (I x15.1)) ((x15.2 == 0) == true) rfl rfl rfl (fun hc => ex_move (eV (v := (I x15.1)) rfl)) ?_
              refine arun_guard (v := (I x9.1)) ((x15.2 == 0) == true) rfl rfl rfl (fun hc => ex_move (eV (v := (I x9.1)) rfl)) ?_
              refine arun_guard (v := (Bo (x15.1 == x9.1))) ((x15.2 == 0) == true) rfl rfl rfl (fun hc => ex_bin (vx := (I x15.1)) (vy := (I x9.1)) (cond_of hc) (cond_of hc) eqlI_ok) ?_
              refine arun_do rfl rfl rfl (ex_pick rfl pkAnd) ?_
              refine arun_do rfl rfl rfl (ex_move (eV (v := (Bo ((x15.2 == 0) && (x15.1 == x9.1)))) rfl)) ?_
              refine arun_guard (v := (I x16.2)) (((x15.2 == 0) && (x15.1 == x9.1)) == true) rfl rfl rfl (fun hc => ex_move (eV (v := (I x16.2)) rfl)) ?_
              refine arun_guard (v := (Bo (x16.2 == 2))) (((x15.2 == 0) && (x15.1 == x9.1)) == true) rfl rfl rfl (fun hc => ex_bin (vx := (I x16.2)) (vy := (I 2)) (cond_of hc) rfl eqlI_ok) ?_
              refine arun_do rfl rfl rfl (ex_pick rfl pkAnd) ?_
              refine arun_do rfl rfl rfl (ex_move (eV (v := (Bo (((x15.2 == 0) && (x15.1 == x9.1)) && (x16.2 == 2)))) rfl)) ?_
              refine arun_guard (v := (I x22.2)) ((((x15.2 == 0) && (x15.1 == x9.1)) && (x16.2 == 2)) == true) rfl rfl rfl (fun hc => ex_move (eV (v := (I x22.2)) rfl)) ?_
              refine arun_guard (v := (Bo (x22.2 == 0))) ((((x15.2 == 0) && (x15.1 == x9.1)) && (x16.2 == 2)) == true) rfl rfl rfl (fun hc => ex_bin (vx := (I x22.2)) (vy := (I 0)) (cond_of hc) rfl eqlI_ok) ?_
              refine arun_do rfl rfl rfl (ex_pick rfl pkAnd) ?_
              refine arun_do rfl rfl rfl (ex_move (eV (v := (Bo ((((x15.2 == 0) && (x15.1 == x9.1)) && (x16.2 == 2)) && (x22.2 == 0)))) rfl)) ?_
              refine arun_guard (v := (SL 5 c_api_Node x22.1)) (((((x15.2 == 0) && (x15.1 == x9.1)) && (x16.2 == 2)) && (x22.2 == 0)) == true) rfl rfl rfl (fun hc => ex_move (eV (v := (SL 5 c_api_Node x22.1)) rfl)) ?_
              refine arun_guard (v := (SL 5 c_api_Node x5.1)) (((((x15.2 == 0) && (x15.1 == x9.1)) && (x16.2 == 2)) && (x22.2 == 0)) == true) rfl rfl rfl (fun hc => ex_move (eV (v := (SL 5 c_api_Node x5.1)) rfl)) ?_
              obtain ⟨x23, hx23, h⟩ := bindS h
              refine arun_guard (v := (Bo x23)) (((((x15.2 == 0) && (x15.1 == x9.1)) && (x16.2 == 2)) && (x22.2 == 0)) == true) rfl rfl rfl (fun hc => ex_call0 (vs := [(SL 5 c_api_Node x22.1), (SL 5 c_api_Node x5.1)]) (v := (Bo x23)) rfl en_13 (cargs (evs (cond_of hc) (evs (cond_of hc) evs_nil))) rfl (ok_ref11_Same x22.1 x5.1 x23 (gd_of hc hx23)) rfl) ?_
              refine arun_do rfl rfl rfl (ex_pick rfl pkAnd) ?_
              refine arun_do rfl rfl rfl (ex_assign (eV (v := (Bo (((((x15.2 == 0) && (x15.1 == x9.1)) && (x16.2 == 2)) && (x22.2 == 0)) && x23))) rfl)) ?_
              refine arun_keepE [4] 0 0 (st' := ⟨124, 0, [(4, (Bo (((((x15.2 == 0) && (x15.1 == x9.1)) && (x16.2 == 2)) && (x22.2 == 0)) && x23)))], [], ⟨0, []⟩⟩) (by kernel_rfl) (by kernel_rfl) ?_
              show AWp _ _ _ _
              refine awp_ret ?_
              cases h
              exact ares1 (rtmp rfl (eV rfl))

end Go.Proofs
