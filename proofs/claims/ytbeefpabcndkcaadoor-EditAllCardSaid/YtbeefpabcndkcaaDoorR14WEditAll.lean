/- Pure models of functions of the program, and that its code does what they say: palimplaw14 EditAll. Written by a program. -/
import Derived.Test.YtbeefpabcndkcaaDoorR1410
import Derived.Test.YtbeefpabcndkcaaDoorR1412
import Derived.Test.YtbeefpabcndkcaaDoorR1413
import Derived.Test.YtbeefpabcndkcaaDoorR1415
import Derived.Test.YtbeefpabcndkcaaDoorR145
import Derived.Test.YtbeefpabcndkcaaDoorR146
import Derived.Test.YtbeefpabcndkcaaDoorR147
import Derived.Test.YtbeefpabcndkcaaDoorR149
import Derived.Test.YtbeefpabcndkcaaDoorR14B
set_option maxRecDepth 20000
set_option maxHeartbeats 4000000
namespace Go.Proofs
open Go Go.Fhl
set_option linter.unusedVariables false
set_option linter.unusedSimpArgs false
noncomputable def M_law14_EditAll_l1 (t2 : Str) (t3 : Str) (t4 : Int) (x5 : ((List G_api_Node) × G_palimpmade_Picks)) (x7 : (Str × G_palimpmade_Picks)) (x8 : (Str × G_palimpmade_Picks)) (x9 : (Str × G_palimpmade_Picks)) (x10 : (Str × G_palimpmade_Picks)) (x11 : (Int × G_palimpmade_Picks)) : Nat → Int → Option Bool
  | 0, _ => none
  | n1 + 1, v12 =>
  cond (decide (v12 < 4)) (Option.bind (getI ([t2, x7.1, x8.1, t2] : List Str) v12) fun (x14 : Str) => Option.bind (getI ([t4, (w64 (1 + x11.1)), 1, 2] : List Int) v12) fun (x15 : Int) => Option.bind (M_edit_Make x5.1 x14 x15) fun (x16 : ((List G_api_Node) × Int)) => Option.bind (getI ([t2, x7.1, x8.1, t2] : List Str) v12) fun (x17 : Str) => Option.bind (getI ([t4, (w64 (1 + x11.1)), 1, 2] : List Int) v12) fun (x18 : Int) => Option.bind (M_ref11_Make x5.1 x17 x18) fun (x19 : ((List G_api_Node) × Int)) => Option.bind (gd ((x16.2 != x19.2) == false) (M_ref11_Same x16.1 x19.1)) fun (x20 : Bool) => cond ((x16.2 != x19.2) || (!x20)) (some false) (Option.bind (getI ([t2, x7.1, x8.1, t2] : List Str) v12) fun (x22 : Str) => Option.bind (M_edit_Drop x5.1 x22) fun (x23 : ((List G_api_Node) × Int)) => Option.bind (getI ([t2, x7.1, x8.1, t2] : List Str) v12) fun (x24 : Str) => Option.bind (M_ref11_Drop x5.1 x24) fun (x25 : ((List G_api_Node) × Int)) => Option.bind (gd ((x23.2 != x25.2) == false) (M_ref11_Same x23.1 x25.1)) fun (x26 : Bool) => cond ((x23.2 != x25.2) || (!x26)) (some false) (Option.bind (getI ([t2, x7.1, x8.1, t2] : List Str) v12) fun (x28 : Str) => Option.bind (getI ([t3, x9.1, t3, x10.1] : List Str) v12) fun (x29 : Str) => Option.bind (M_edit_Move x5.1 x28 x29) fun (x30 : ((List G_api_Node) × Int)) => Option.bind (getI ([t2, x7.1, x8.1, t2] : List Str) v12) fun (x31 : Str) => Option.bind (getI ([t3, x9.1, t3, x10.1] : List Str) v12) fun (x32 : Str) => Option.bind (M_ref11_Move x5.1 x31 x32) fun (x33 : ((List G_api_Node) × Int)) => Option.bind (gd ((x30.2 != x33.2) == false) (M_ref11_Same x30.1 x33.1)) fun (x34 : Bool) => cond ((x30.2 != x33.2) || (!x34)) (some false) ((M_law14_EditAll_l1 t2 t3 t4 x5 x7 x8 x9 x10 x11 n1) (w64 (v12 + 1)))))) (some true)
noncomputable def M_law14_EditAll (t0 : (List UInt8)) (t1 : (List UInt8)) (t2 : Str) (t3 : Str) (t4 : Int) : Option Bool :=
  Option.bind (M_law14_begun) fun (x1 : Bool) => cond (!x1) (some false) (cond ((((decide ((t0.length : Int) > 60)) || (decide ((t1.length : Int) > 6))) || (decide ((t2.length : Int) > 80))) || (decide ((t3.length : Int) > 80))) (some true) (Option.bind (M_made_Made t0) fun (x4 : G_palimpmade_Picks) => Option.bind (M_made_Picks_Set x4 25) fun (x5 : ((List G_api_Node) × G_palimpmade_Picks)) => Option.bind (M_made_Made t1) fun (x6 : G_palimpmade_Picks) => Option.bind (M_made_Picks_Path x6 ) fun (x7 : (Str × G_palimpmade_Picks)) => Option.bind (M_made_Picks_Path x7.2 ) fun (x8 : (Str × G_palimpmade_Picks)) => Option.bind (M_made_Picks_Path x8.2 ) fun (x9 : (Str × G_palimpmade_Picks)) => Option.bind (M_made_Picks_Path x9.2 ) fun (x10 : (Str × G_palimpmade_Picks)) => Option.bind (M_made_Picks_Num x10.2 2) fun (x11 : (Int × G_palimpmade_Picks)) => M_law14_EditAll_l1 t2 t3 t4 x5 x7 x8 x9 x10 x11 fuel 0))
theorem ok_law14_EditAll (t0 : (List UInt8)) (t1 : (List UInt8)) (t2 : Str) (t3 : Str) (t4 : Int) (r : Bool) (h : M_law14_EditAll t0 t1 t2 t3 t4 = some r) : FFn Tryd.prog 3 [(SL 1 c8 t0), (SL 1 c8 t1), (S t2), (S t3), (I t4)] (Bo r) := by
  refine FFn.of_body (n := 166) Tryd.func3 rfl Tryd.ntmps3 rfl rfl rfl rfl ?_
  show AWp _ _ _ ⟨166, 0, [(0, (SL 1 c8 t0)), (1, (SL 1 c8 t1)), (2, (S t2)), (3, (S t3)), (4, (I t4))], [], ⟨0, []⟩⟩
  unfold M_law14_EditAll at h
  refine awp_seq ?_
  refine awp_region ?_
  refine arun_do rfl rfl rfl (ex_assign (eV (v := (Bo false)) rfl)) ?_
  refine arun_keepE [0, 1, 2, 3, 4] 0 0 (st' := ⟨166, 0, [(0, (SL 1 c8 t0)), (1, (SL 1 c8 t1)), (2, (S t2)), (3, (S t3)), (4, (I t4))], [], ⟨0, []⟩⟩) (by kernel_rfl) (by kernel_rfl) ?_
  show AWp _ _ _ _
  refine awp_seq ?_
  refine awp_seq ?_
  refine awp_region ?_
  obtain ⟨x1, hx1, h⟩ := bindS h
  refine arun_do rfl rfl rfl (ex_call0 (vs := []) (v := (Bo x1)) rfl en_7 (cargs evs_nil) rfl (ok_law14_begun  x1 hx1) rfl) ?_
  refine arun_do rfl rfl rfl (ex_un (vx := (Bo x1)) rfl notB_ok) ?_
  refine arun_keepE [0, 1, 2, 3, 4, 22] 0 0 (st' := ⟨166, 0, [(0, (SL 1 c8 t0)), (1, (SL 1 c8 t1)), (2, (S t2)), (3, (S t3)), (4, (I t4)), (22, (Bo (!x1)))], [], ⟨0, []⟩⟩) (by kernel_rfl) (by kernel_rfl) ?_
  show AWp _ _ _ _
  rcases Bool.eq_false_or_eq_true (!x1) with hb2 | hb2
  · rw [condT hb2] at h
    refine awp_condT (boT hb2) ?_
    refine awp_seq ?_
    refine awp_region ?_
    refine arun_do rfl rfl rfl (ex_assign (eV (v := (Bo false)) rfl)) ?_
    refine arun_keepE [10] 0 0 (st' := ⟨166, 0, [(10, (Bo false))], [], ⟨0, []⟩⟩) (by kernel_rfl) (by kernel_rfl) ?_
    show AWp _ _ _ _
    refine awp_ret ?_
    cases h
    exact ares1 (rtmp rfl (eV rfl))
  · rw [condF hb2] at h
    refine awp_condF (boF hb2) ?_
    refine awp_skip ?_
    show AWp _ _ _ _
    refine awp_seq ?_
    refine awp_seq ?_
    refine awp_region ?_
    refine arun_do rfl rfl rfl (ex_move (eV (v := (SL 1 c8 t0)) rfl)) ?_
    refine arun_do rfl rfl rfl (tx_lenD (xs := t0) ce8 Tryd.underlying22 rfl) ?_
    refine arun_do rfl rfl rfl (ex_bin (vx := (I (t0.length : Int))) (vy := (I 60)) rfl rfl gtrI_ok) ?_
    refine arun_do rfl rfl rfl (ex_move (eV (v := (Bo (decide ((t0.length : Int) > 60)))) rfl)) ?_
    refine arun_guard (v := (SL 1 c8 t1)) ((decide ((t0.length : Int) > 60)) == false) rfl rfl rfl (fun hc => ex_move (eV (v := (SL 1 c8 t1)) rfl)) ?_
    refine arun_guard (v := (I (t1.length : Int))) ((decide ((t0.length : Int) > 60)) == false) rfl rfl rfl (fun hc => tx_lenD (xs := t1) ce8 Tryd.underlying22 (cond_of hc)) ?_
    refine arun_guard (v := (Bo (decide ((t1.length : Int) > 6)))) ((decide ((t0.length : Int) > 60)) == false) rfl rfl rfl (fun hc => ex_bin (vx := (I (t1.length : Int))) (vy := (I 6)) (cond_of hc) rfl gtrI_ok) ?_
    refine arun_do rfl rfl rfl (ex_pick rfl pkOr) ?_
    refine arun_do rfl rfl rfl (ex_move (eV (v := (Bo ((decide ((t0.length : Int) > 60)) || (decide ((t1.length : Int) > 6))))) rfl)) ?_
    refine arun_guard (v := (S t2)) (((decide ((t0.length : Int) > 60)) || (decide ((t1.length : Int) > 6))) == false) rfl rfl rfl (fun hc => ex_move (eV (v := (S t2)) rfl)) ?_
    refine arun_guard (v := (I (t2.length : Int))) (((decide ((t0.length : Int) > 60)) || (decide ((t1.length : Int) > 6))) == false) rfl rfl rfl (fun hc => tx_lenS Tryd.underlying9 (cond_of hc)) ?_
    refine arun_guard (v := (Bo (decide ((t2.length : Int) > 80)))) (((decide ((t0.length : Int) > 60)) || (decide ((t1.length : Int) > 6))) == false) rfl rfl rfl (fun hc => ex_bin (vx := (I (t2.length : Int))) (vy := (I 80)) (cond_of hc) rfl gtrI_ok) ?_
    refine arun_do rfl rfl rfl (ex_pick rfl pkOr) ?_
    refine arun_do rfl rfl rfl (ex_move (eV (v := (Bo (((decide ((t0.length : Int) > 60)) || (decide ((t1.length : Int) > 6))) || (decide ((t2.length : Int) > 80))))) rfl)) ?_
    refine arun_guard (v := (S t3)) ((((decide ((t0.length : Int) > 60)) || (decide ((t1.length : Int) > 6))) || (decide ((t2.length : Int) > 80))) == false) rfl rfl rfl (fun hc => ex_move (eV (v := (S t3)) rfl)) ?_
    refine arun_guard (v := (I (t3.length : Int))) ((((decide ((t0.length : Int) > 60)) || (decide ((t1.length : Int) > 6))) || (decide ((t2.length : Int) > 80))) == false) rfl rfl rfl (fun hc => tx_lenS Tryd.underlying9 (cond_of hc)) ?_
    refine arun_guard (v := (Bo (decide ((t3.length : Int) > 80)))) ((((decide ((t0.length : Int) > 60)) || (decide ((t1.length : Int) > 6))) || (decide ((t2.length : Int) > 80))) == false) rfl rfl rfl (fun hc => ex_bin (vx := (I (t3.length : Int))) (vy := (I 80)) (cond_of hc) rfl gtrI_ok) ?_
    refine arun_do rfl rfl rfl (ex_pick rfl pkOr) ?_
    refine arun_keepE [0, 1, 2, 3, 4, 40] 0 0 (st' := ⟨166, 0, [(0, (SL 1 c8 t0)), (1, (SL 1 c8 t1)), (2, (S t2)), (3, (S t3)), (4, (I t4)), (40, (Bo ((((decide ((t0.length : Int) > 60)) || (decide ((t1.length : Int) > 6))) || (decide ((t2.length : Int) > 80))) || (decide ((t3.length : Int) > 80)))))], [], ⟨0, []⟩⟩) (by kernel_rfl) (by kernel_rfl) ?_
    show AWp _ _ _ _
    rcases Bool.eq_false_or_eq_true ((((decide ((t0.length : Int) > 60)) || (decide ((t1.length : Int) > 6))) || (decide ((t2.length : Int) > 80))) || (decide ((t3.length : Int) > 80))) with hb3 | hb3
    · rw [condT hb3] at h
      refine awp_condT (boT hb3) ?_
      refine awp_seq ?_
      refine awp_region ?_
      refine arun_do rfl rfl rfl (ex_assign (eV (v := (Bo true)) rfl)) ?_
      refine arun_keepE [10] 0 0 (st' := ⟨166, 0, [(10, (Bo true))], [], ⟨0, []⟩⟩) (by kernel_rfl) (by kernel_rfl) ?_
      show AWp _ _ _ _
      refine awp_ret ?_
      cases h
      exact ares1 (rtmp rfl (eV rfl))
    · rw [condF hb3] at h
      refine awp_condF (boF hb3) ?_
      refine awp_skip ?_
      show AWp _ _ _ _
      refine awp_seq ?_
      refine awp_region ?_
      refine arun_do rfl rfl rfl (ex_move (eV (v := (SL 1 c8 t0)) rfl)) ?_
      obtain ⟨x4, hx4, h⟩ := bindS h
      refine arun_do rfl rfl rfl (ex_callNew (vs := [(SL 1 c8 t0)]) (k := 0) (b := ⟨1, (c_palimpmade_Picks x4), false⟩) (H' := ⟨1, [(0, ⟨1, (c_palimpmade_Picks x4), false⟩)]⟩) rfl en_8 (cargs (evs rfl evs_nil)) rfl (ok_made_Made t0 x4 hx4) rfl rfl rfl) ?_
      obtain ⟨x5, hx5, h⟩ := bindS h
      refine arun_do rfl rfl rfl (ex_call1 (vs := [(NP 0 0), (I 25)]) (vs' := [(NP 0 0), (I 25)]) (v := (SL 5 c_api_Node x5.1)) (n := 0) (b := ⟨1, (c_palimpmade_Picks x4), false⟩) (b' := ⟨1, (c_palimpmade_Picks x5.2), false⟩) (H' := ⟨1, [(0, ⟨1, (c_palimpmade_Picks x5.2), false⟩)]⟩) rfl en_9 (cargs (evs rfl (evs rfl evs_nil))) rfl rfl (.cons (.inr ⟨_, rfl, rfl⟩) (.cons (.inl ⟨rfl, rfl⟩) .nil)) (ok_made_Picks_Set x4 25 x5 hx5) rfl rfl) ?_
      refine arun_do rfl rfl rfl (ex_assign (eV (v := (SL 5 c_api_Node x5.1)) rfl)) ?_
      refine arun_keepE [1, 2, 3, 4, 11] 0 0 (st' := ⟨166, 0, [(1, (SL 1 c8 t1)), (2, (S t2)), (3, (S t3)), (4, (I t4)), (11, (SL 5 c_api_Node x5.1))], [], ⟨0, []⟩⟩) (by kernel_rfl) (by kernel_rfl) ?_
      show AWp _ _ _ _
      refine awp_seq ?_
      refine awp_region ?_
      refine arun_do rfl rfl rfl (ex_move (eV (v := (SL 1 c8 t1)) rfl)) ?_
      obtain ⟨x6, hx6, h⟩ := bindS h
      refine arun_do rfl rfl rfl (ex_callNew (vs := [(SL 1 c8 t1)]) (k := 0) (b := ⟨1, (c_palimpmade_Picks x6), false⟩) (H' := ⟨1, [(0, ⟨1, (c_palimpmade_Picks x6), false⟩)]⟩) rfl en_8 (cargs (evs rfl evs_nil)) rfl (ok_made_Made t1 x6 hx6) rfl rfl rfl) ?_
      refine arun_do rfl rfl rfl (ex_assign (eV (v := (NP 0 0)) rfl)) ?_
      refine arun_keepE [2, 3, 4, 11, 12] 0 1 (st' := ⟨166, 0, [(2, (S t2)), (3, (S t3)), (4, (I t4)), (11, (SL 5 c_api_Node x5.1)), (12, (NP 0 0))], [], ⟨1, [(0, ⟨1, (c_palimpmade_Picks x6), false⟩)]⟩⟩) (by kernel_rfl) (by kernel_rfl) ?_
      show AWp _ _ _ _
      refine awp_seq ?_
      refine awp_region ?_
      refine arun_do rfl rfl rfl (ex_move (eV (v := (S t2)) rfl)) ?_
      refine arun_do rfl rfl rfl (ex_move (eV (v := (NP 0 0)) rfl)) ?_
      obtain ⟨x7, hx7, h⟩ := bindS h
      refine arun_do rfl rfl rfl (ex_call1 (vs := [(NP 0 0)]) (vs' := [(NP 0 0)]) (v := (S x7.1)) (n := 0) (b := ⟨1, (c_palimpmade_Picks x6), false⟩) (b' := ⟨1, (c_palimpmade_Picks x7.2), false⟩) (H' := ⟨1, [(0, ⟨1, (c_palimpmade_Picks x7.2), false⟩)]⟩) rfl en_10 (cargs (evs rfl evs_nil)) rfl rfl (.cons (.inr ⟨_, rfl, rfl⟩) .nil) (ok_made_Picks_Path x6  x7 hx7) rfl rfl) ?_
      refine arun_do rfl rfl rfl (ex_move (eV (v := (NP 0 0)) rfl)) ?_
      obtain ⟨x8, hx8, h⟩ := bindS h
      refine arun_do rfl rfl rfl (ex_call1 (vs := [(NP 0 0)]) (vs' := [(NP 0 0)]) (v := (S x8.1)) (n := 0) (b := ⟨1, (c_palimpmade_Picks x7.2), false⟩) (b' := ⟨1, (c_palimpmade_Picks x8.2), false⟩) (H' := ⟨1, [(0, ⟨1, (c_palimpmade_Picks x8.2), false⟩)]⟩) rfl en_10 (cargs (evs rfl evs_nil)) rfl rfl (.cons (.inr ⟨_, rfl, rfl⟩) .nil) (ok_made_Picks_Path x7.2  x8 hx8) rfl rfl) ?_
      refine arun_do rfl rfl rfl (ex_move (eV (v := (S t2)) rfl)) ?_
      refine arun_do rfl rfl rfl (ex_buildSliceD (qs := [(0, (S t2)), (1, (S x7.1)), (2, (S x8.1)), (3, (S t2))]) (cells := (([t2, x7.1, x8.1, t2] : List Str).flatMap cS)) Tryd.underlying30 s_9 (by decide) (evp rfl (evp rfl (evp rfl (evp rfl evp_nil)))) rfl (by kernel_rfl) (by kernel_rfl) (by kernel_rfl)) ?_
      refine arun_do rfl rfl rfl (ex_assign (eV (v := (SL 1 cS ([t2, x7.1, x8.1, t2] : List Str))) rfl)) ?_
      refine arun_keepE [3, 4, 11, 12, 13] 0 1 (st' := ⟨166, 0, [(3, (S t3)), (4, (I t4)), (11, (SL 5 c_api_Node x5.1)), (12, (NP 0 0)), (13, (SL 1 cS ([t2, x7.1, x8.1, t2] : List Str)))], [], ⟨1, [(0, ⟨1, (c_palimpmade_Picks x8.2), false⟩)]⟩⟩) (by kernel_rfl) (by kernel_rfl) ?_
      show AWp _ _ _ _
      refine awp_seq ?_
      refine awp_region ?_
      refine arun_do rfl rfl rfl (ex_move (eV (v := (S t3)) rfl)) ?_
      refine arun_do rfl rfl rfl (ex_move (eV (v := (NP 0 0)) rfl)) ?_
      obtain ⟨x9, hx9, h⟩ := bindS h
      refine arun_do rfl rfl rfl (ex_call1 (vs := [(NP 0 0)]) (vs' := [(NP 0 0)]) (v := (S x9.1)) (n := 0) (b := ⟨1, (c_palimpmade_Picks x8.2), false⟩) (b' := ⟨1, (c_palimpmade_Picks x9.2), false⟩) (H' := ⟨1, [(0, ⟨1, (c_palimpmade_Picks x9.2), false⟩)]⟩) rfl en_10 (cargs (evs rfl evs_nil)) rfl rfl (.cons (.inr ⟨_, rfl, rfl⟩) .nil) (ok_made_Picks_Path x8.2  x9 hx9) rfl rfl) ?_
      refine arun_do rfl rfl rfl (ex_move (eV (v := (S t3)) rfl)) ?_
      refine arun_do rfl rfl rfl (ex_move (eV (v := (NP 0 0)) rfl)) ?_
      obtain ⟨x10, hx10, h⟩ := bindS h
      refine arun_do rfl rfl rfl (ex_call1 (vs := [(NP 0 0)]) (vs' := [(NP 0 0)]) (v := (S x10.1)) (n := 0) (b := ⟨1, (c_palimpmade_Picks x9.2), false⟩) (b' := ⟨1, (c_palimpmade_Picks x10.2), false⟩) (H' := ⟨1, [(0, ⟨1, (c_palimpmade_Picks x10.2), false⟩)]⟩) rfl en_10 (cargs (evs rfl evs_nil)) rfl rfl (.cons (.inr ⟨_, rfl, rfl⟩) .nil) (ok_made_Picks_Path x9.2  x10 hx10) rfl rfl) ?_
      refine arun_do rfl rfl rfl (ex_buildSliceD (qs := [(0, (S t3)), (1, (S x9.1)), (2, (S t3)), (3, (S x10.1))]) (cells := (([t3, x9.1, t3, x10.1] : List Str).flatMap cS)) Tryd.underlying30 s_9 (by decide) (evp rfl (evp rfl (evp rfl (evp rfl evp_nil)))) rfl (by kernel_rfl) (by kernel_rfl) (by kernel_rfl)) ?_
      refine arun_do rfl rfl rfl (ex_assign (eV (v := (SL 1 cS ([t3, x9.1, t3, x10.1] : List Str))) rfl)) ?_
      refine arun_keepE [4, 11, 12, 13, 14] 0 1 (st' := ⟨166, 0, [(4, (I t4)), (11, (SL 5 c_api_Node x5.1)), (12, (NP 0 0)), (13, (SL 1 cS ([t2, x7.1, x8.1, t2] : List Str))), (14, (SL 1 cS ([t3, x9.1, t3, x10.1] : List Str)))], [], ⟨1, [(0, ⟨1, (c_palimpmade_Picks x10.2), false⟩)]⟩⟩) (by kernel_rfl) (by kernel_rfl) ?_
      show AWp _ _ _ _
      refine awp_seq ?_
      refine awp_region ?_
      refine arun_do rfl rfl rfl (ex_move (eV (v := (I t4)) rfl)) ?_
      refine arun_do rfl rfl rfl (ex_move (eV (v := (NP 0 0)) rfl)) ?_
      obtain ⟨x11, hx11, h⟩ := bindS h
      refine arun_do rfl rfl rfl (ex_call1 (vs := [(NP 0 0), (I 2)]) (vs' := [(NP 0 0), (I 2)]) (v := (I x11.1)) (n := 0) (b := ⟨1, (c_palimpmade_Picks x10.2), false⟩) (b' := ⟨1, (c_palimpmade_Picks x11.2), false⟩) (H' := ⟨1, [(0, ⟨1, (c_palimpmade_Picks x11.2), false⟩)]⟩) rfl en_11 (cargs (evs rfl (evs rfl evs_nil))) rfl rfl (.cons (.inr ⟨_, rfl, rfl⟩) (.cons (.inl ⟨rfl, rfl⟩) .nil)) (ok_made_Picks_Num x10.2 2 x11 hx11) rfl rfl) ?_
      refine arun_do rfl rfl rfl (ex_bin (vx := (I 1)) (vy := (I x11.1)) rfl rfl addI_ok) ?_
      refine arun_do rfl rfl rfl (ex_buildSliceD (qs := [(0, (I t4)), (1, (I (w64 (1 + x11.1)))), (2, (I 1)), (3, (I 2))]) (cells := (([t4, (w64 (1 + x11.1)), 1, 2] : List Int).flatMap cI)) Tryd.underlying32 s_3 (by decide) (evp rfl (evp rfl (evp rfl (evp rfl evp_nil)))) rfl (by kernel_rfl) (by kernel_rfl) (by kernel_rfl)) ?_
      refine arun_do rfl rfl rfl (ex_assign (eV (v := (SL 1 cI ([t4, (w64 (1 + x11.1)), 1, 2] : List Int))) rfl)) ?_
      refine arun_keepE [11, 13, 14, 15] 0 0 (st' := ⟨166, 0, [(11, (SL 5 c_api_Node x5.1)), (13, (SL 1 cS ([t2, x7.1, x8.1, t2] : List Str))), (14, (SL 1 cS ([t3, x9.1, t3, x10.1] : List Str))), (15, (SL 1 cI ([t4, (w64 (1 + x11.1)), 1, 2] : List Int)))], [], ⟨0, []⟩⟩) (by kernel_rfl) (by kernel_rfl) ?_
      show AWp _ _ _ _
      refine awp_seq ?_
      refine awp_seq ?_
      refine awp_region ?_
      refine arun_do rfl rfl rfl (ex_assign (eV (v := (I 0)) rfl)) ?_
      refine arun_keepE [11, 13, 14, 15, 16] 0 0 (st' := ⟨166, 0, [(11, (SL 5 c_api_Node x5.1)), (13, (SL 1 cS ([t2, x7.1, x8.1, t2] : List Str))), (14, (SL 1 cS ([t3, x9.1, t3, x10.1] : List Str))), (15, (SL 1 cI ([t4, (w64 (1 + x11.1)), 1, 2] : List Int))), (16, (I 0))], [], ⟨0, []⟩⟩) (by kernel_rfl) (by kernel_rfl) ?_
      show AWp _ _ _ _
      refine awp_block ?_
      refine awp_loop (fun n s => ∃ (v12 : Int), s = ⟨166, 0, [(11, (SL 5 c_api_Node x5.1)), (13, (SL 1 cS ([t2, x7.1, x8.1, t2] : List Str))), (14, (SL 1 cS ([t3, x9.1, t3, x10.1] : List Str))), (15, (SL 1 cI ([t4, (w64 (1 + x11.1)), 1, 2] : List Int))), (16, (I v12))], [], ⟨0, []⟩⟩ ∧ M_law14_EditAll_l1 t2 t3 t4 x5 x7 x8 x9 x10 x11 n v12 = some r) fuel (Exists.intro 0 (And.intro rfl h)) ?_
      rintro n s ⟨v12, rfl, h⟩ -
      cases n with
      | zero => cases h
      | succ n1 =>
        unfold M_law14_EditAll_l1 at h
        refine awp_seq ?_
        refine awp_seq ?_
        refine awp_region ?_
        refine arun_do rfl rfl rfl (ex_move (eV (v := (I v12)) rfl)) ?_
        refine arun_do rfl rfl rfl (ex_bin (vx := (I v12)) (vy := (I 4)) rfl rfl lssI_ok) ?_
        refine arun_keepE [11, 13, 14, 15, 16, 66] 0 0 (st' := ⟨166, 0, [(11, (SL 5 c_api_Node x5.1)), (13, (SL 1 cS ([t2, x7.1, x8.1, t2] : List Str))), (14, (SL 1 cS ([t3, x9.1, t3, x10.1] : List Str))), (15, (SL 1 cI ([t4, (w64 (1 + x11.1)), 1, 2] : List Int))), (16, (I v12)), (66, (Bo (decide (v12 < 4))))], [], ⟨0, []⟩⟩) (by kernel_rfl) (by kernel_rfl) ?_
        show AWp _ _ _ _
        rcases Bool.eq_false_or_eq_true (decide (v12 < 4)) with hb13 | hb13
        · rw [condT hb13] at h
          refine awp_condT (boT hb13) ?_
          refine awp_skip ?_
          show AWp _ _ _ _
          refine awp_seq ?_
          refine awp_block ?_
          refine awp_seq ?_
          obtain ⟨x14, hx14, h⟩ := bindS h
          obtain ⟨x15, hx15, h⟩ := bindS h
          obtain ⟨x16, hx16, h⟩ := bindS h
          refine awp_kn [11, 13, 14, 15, 16, 17, 18] 0 0 (st' := ⟨166, 0, [(11, (SL 5 c_api_Node x5.1)), (13, (SL 1 cS ([t2, x7.1, x8.1, t2] : List Str))), (14, (SL 1 cS ([t3, x9.1, t3, x10.1] : List Str))), (15, (SL 1 cI ([t4, (w64 (1 + x11.1)), 1, 2] : List Int))), (16, (I v12)), (17, (SL 5 c_api_Node x16.1)), (18, (I x16.2))], [], ⟨0, []⟩⟩) (awp_draw (T := [(SL 5 c_api_Node x5.1), (SL 1 cS ([t2, x7.1, x8.1, t2] : List Str)), (I v12), (DP (cS x14)), (S x14), (SL 1 cI ([t4, (w64 (1 + x11.1)), 1, 2] : List Int)), (I v12), (DP (cI x15)), (I x15), (Value.tuple #[(SL 5 c_api_Node x16.1), (I x16.2)]), (Value.tuple #[(SL 5 c_api_Node x16.1), (I x16.2)]), (SL 5 c_api_Node x16.1), (I x16.2), (SL 5 c_api_Node x16.1), (I x16.2)]) (LH := [([], ⟨0, []⟩)]) (D := [⟨[(11, none)], [], [0], false⟩, ⟨[(13, none)], [], [0], false⟩, ⟨[(16, none)], [], [0], false⟩, ⟨[(71, some 1), (72, some 2)], [1, 2], [0], false⟩, ⟨[(73, some 3)], [1, 2, 3], [0], false⟩, ⟨[(15, none)], [], [0], false⟩, ⟨[(16, none)], [], [0], false⟩, ⟨[(75, some 5), (76, some 6)], [5, 6], [0], false⟩, ⟨[(77, some 7)], [5, 6, 7], [0], false⟩, ⟨[(70, some 0), (74, some 4), (78, some 8)], [0, 1, 2, 3, 4, 5, 6, 7, 8], [0], false⟩, ⟨[(79, some 9)], [0, 1, 2, 3, 4, 5, 6, 7, 8, 9], [0], false⟩, ⟨[(69, some 10)], [0, 1, 2, 3, 4, 5, 6, 7, 8, 9, 10], [0], false⟩, ⟨[(69, some 10)], [0, 1, 2, 3, 4, 5, 6, 7, 8, 9, 10], [0], false⟩, ⟨[(80, some 11)], [0, 1, 2, 3, 4, 5, 6, 7, 8, 9, 10, 11], [0], false⟩, ⟨[(81, some 12)], [0, 1, 2, 3, 4, 5, 6, 7, 8, 9, 10, 11, 12, 13], [0], false⟩]) (S := []) (plan := [0, 1, 2, 3, 4, 5, 6, 7, 8, 9, 10, 11, 12, 13, 14]) mo (by kernel_rfl) rfl rfl rfl (dcons (dstep1 (Tm := [(11, (SL 5 c_api_Node x5.1))]) (L := []) (H := ⟨0, []⟩) rfl rfl rfl rfl rfl (astep_do rfl (ex_move (eV (v := (SL 5 c_api_Node x5.1)) rfl)))) (dcons (dstep1 (Tm := [(13, (SL 1 cS ([t2, x7.1, x8.1, t2] : List Str)))]) (L := []) (H := ⟨0, []⟩) rfl rfl rfl rfl rfl (astep_do rfl (ex_move (eV (v := (SL 1 cS ([t2, x7.1, x8.1, t2] : List Str))) rfl)))) (dcons (dstep1 (Tm := [(16, (I v12))]) (L := []) (H := ⟨0, []⟩) rfl rfl rfl rfl rfl (astep_do rfl (ex_move (eV (v := (I v12)) rfl)))) (dcons (dstep1 (Tm := [(71, (SL 1 cS ([t2, x7.1, x8.1, t2] : List Str))), (72, (I v12))]) (L := []) (H := ⟨0, []⟩) rfl rfl rfl rfl rfl (astep_do rfl (tx_idxD (c := cS) (xs := ([t2, x7.1, x8.1, t2] : List Str)) (i := v12) ceS Tryd.underlying30 s_9 rfl rfl hx14))) (dcons (dstep1 (Tm := [(73, (DP (cS x14)))]) (L := []) (H := ⟨0, []⟩) rfl rfl rfl rfl rfl (astep_do rfl (tx_ldD1 (v := (S x14)) Tryd.underlying9 rfl rfl rfl))) (dcons (dstep1 (Tm := [(15, (SL 1 cI ([t4, (w64 (1 + x11.1)), 1, 2] : List Int)))]) (L := []) (H := ⟨0, []⟩) rfl rfl rfl rfl rfl (astep_do rfl (ex_move (eV (v := (SL 1 cI ([t4, (w64 (1 + x11.1)), 1, 2] : List Int))) rfl)))) (dcons (dstep1 (Tm := [(16, (I v12))]) (L := []) (H := ⟨0, []⟩) rfl rfl rfl rfl rfl (astep_do rfl (ex_move (eV (v := (I v12)) rfl)))) (dcons (dstep1 (Tm := [(75, (SL 1 cI ([t4, (w64 (1 + x11.1)), 1, 2] : List Int))), (76, (I v12))]) (L := []) (H := ⟨0, []⟩) rfl rfl rfl rfl rfl (astep_do rfl (tx_idxD (c := cI) (xs := ([t4, (w64 (1 + x11.1)), 1, 2] : List Int)) (i := v12) ceI Tryd.underlying32 s_3 rfl rfl hx15))) (dcons (dstep1 (Tm := [(77, (DP (cI x15)))]) (L := []) (H := ⟨0, []⟩) rfl rfl rfl rfl rfl (astep_do rfl (tx_ldD1 (v := (I x15)) Tryd.underlying3 rfl rfl rfl))) (dcons (dstep1 (Tm := [(70, (SL 5 c_api_Node x5.1)), (74, (S x14)), (78, (I x15))]) (L := []) (H := ⟨0, []⟩) rfl rfl rfl rfl rfl (astep_do rfl (ex_call0 (vs := [(SL 5 c_api_Node x5.1), (S x14), (I x15)]) (v := (Value.tuple #[(SL 5 c_api_Node x16.1), (I x16.2)])) rfl en_12 (cargs (evs rfl (evs rfl (evs rfl evs_nil)))) rfl (ok_edit_Make x5.1 x14 x15 x16 hx16) rfl))) (dcons (dstep1 (Tm := [(79, (Value.tuple #[(SL 5 c_api_Node x16.1), (I x16.2)]))]) (L := []) (H := ⟨0, []⟩) rfl rfl rfl rfl rfl (astep_do rfl (ex_move (eV (v := (Value.tuple #[(SL 5 c_api_Node x16.1), (I x16.2)])) rfl)))) (dcons (dstep1 (Tm := [(69, (Value.tuple #[(SL 5 c_api_Node x16.1), (I x16.2)]))]) (L := []) (H := ⟨0, []⟩) rfl rfl rfl rfl rfl (astep_do rfl (ex_extract (vx := (Value.tuple #[(SL 5 c_api_Node x16.1), (I x16.2)])) (v := (SL 5 c_api_Node x16.1)) rfl rfl))) (dcons (dstep1 (Tm := [(69, (Value.tuple #[(SL 5 c_api_Node x16.1), (I x16.2)]))]) (L := []) (H := ⟨0, []⟩) rfl rfl rfl rfl rfl (astep_do rfl (ex_extract (vx := (Value.tuple #[(SL 5 c_api_Node x16.1), (I x16.2)])) (v := (I x16.2)) rfl rfl))) (dcons (dstep1 (Tm := [(80, (SL 5 c_api_Node x16.1))]) (L := []) (H := ⟨0, []⟩) rfl rfl rfl rfl rfl (astep_do rfl (ex_assign (eV (v := (SL 5 c_api_Node x16.1)) rfl)))) (dcons (dstep1 (Tm := [(81, (I x16.2))]) (L := []) (H := ⟨0, []⟩) rfl rfl rfl rfl rfl (astep_do rfl (ex_assign (eV (v := (I x16.2)) rfl)))) dnil))))))))))))))) ⟨rfl, rfl⟩) (by kernel_rfl) (by kernel_rfl) ?_
          show AWp _ _ _ _
          refine awp_seq ?_
          obtain ⟨x17, hx17, h⟩ := bindS h
          obtain ⟨x18, hx18, h⟩ := bindS h
          obtain ⟨x19, hx19, h⟩ := bindS h
          refine awp_kn [11, 13, 14, 15, 16, 17, 18, 19, 20] 0 0 (st' := ⟨166, 0, [(11, (SL 5 c_api_Node x5.1)), (13, (SL 1 cS ([t2, x7.1, x8.1, t2] : List Str))), (14, (SL 1 cS ([t3, x9.1, t3, x10.1] : List Str))), (15, (SL 1 cI ([t4, (w64 (1 + x11.1)), 1, 2] : List Int))), (16, (I v12)), (17, (SL 5 c_api_Node x16.1)), (18, (I x16.2)), (19, (SL 5 c_api_Node x19.1)), (20, (I x19.2))], [], ⟨0, []⟩⟩) (awp_draw (T := [(SL 5 c_api_Node x5.1), (SL 1 cS ([t2, x7.1, x8.1, t2] : List Str)), (I v12), (DP (cS x17)), (S x17), (SL 1 cI ([t4, (w64 (1 + x11.1)), 1, 2] : List Int)), (I v12), (DP (cI x18)), (I x18), (Value.tuple #[(SL 5 c_api_Node x19.1), (I x19.2)]), (Value.tuple #[(SL 5 c_api_Node x19.1), (I x19.2)]), (SL 5 c_api_Node x19.1), (I x19.2), (SL 5 c_api_Node x19.1), (I x19.2)]) (LH := [([], ⟨0, []⟩)]) (D := [⟨[(11, none)], [], [0], false⟩, ⟨[(13, none)], [], [0], false⟩, ⟨[(16, none)], [], [0], false⟩, ⟨[(84, some 1), (85, some 2)], [1, 2], [0], false⟩, ⟨[(86, some 3)], [1, 2, 3], [0], false⟩, ⟨[(15, none)], [], [0], false⟩, ⟨[(16, none)], [], [0], false⟩, ⟨[(88, some 5), (89, some 6)], [5, 6], [0], false⟩, ⟨[(90, some 7)], [5, 6, 7], [0], false⟩, ⟨[(83, some 0), (87, some 4), (91, some 8)], [0, 1, 2, 3, 4, 5, 6, 7, 8], [0], false⟩, ⟨[(92, some 9)], [0, 1, 2, 3, 4, 5, 6, 7, 8, 9], [0], false⟩, ⟨[(82, some 10)], [0, 1, 2, 3, 4, 5, 6, 7, 8, 9, 10], [0], false⟩, ⟨[(82, some 10)], [0, 1, 2, 3, 4, 5, 6, 7, 8, 9, 10], [0], false⟩, ⟨[(93, some 11)], [0, 1, 2, 3, 4, 5, 6, 7, 8, 9, 10, 11], [0], false⟩, ⟨[(94, some 12)], [0, 1, 2, 3, 4, 5, 6, 7, 8, 9, 10, 11, 12, 13], [0], false⟩]) (S := []) (plan := [0, 1, 2, 3, 4, 5, 6, 7, 8, 9, 10, 11, 12, 13, 14]) mo (by kernel_rfl) rfl rfl rfl (dcons (dstep1 (Tm := [(11, (SL 5 c_api_Node x5.1))]) (L := []) (H := ⟨0, []⟩) rfl rfl rfl rfl rfl (astep_do rfl (ex_move (eV (v := (SL 5 c_api_Node x5.1)) rfl)))) (dcons (dstep1 (Tm := [(13, (SL 1 cS ([t2, x7.1, x8.1, t2] : List Str)))]) (L := []) (H := ⟨0, []⟩) rfl rfl rfl rfl rfl (astep_do rfl (ex_move (eV (v := (SL 1 cS ([t2, x7.1, x8.1, t2] : List Str))) rfl)))) (dcons (dstep1 (Tm := [(16, (I v12))]) (L := []) (H := ⟨0, []⟩) rfl rfl rfl rfl rfl (astep_do rfl (ex_move (eV (v := (I v12)) rfl)))) (dcons (dstep1 (Tm := [(84, (SL 1 cS ([t2, x7.1, x8.1, t2] : List Str))), (85, (I v12))]) (L := []) (H := ⟨0, []⟩) rfl rfl rfl rfl rfl (astep_do rfl (tx_idxD (c := cS) (xs := ([t2, x7.1, x8.1, t2] : List Str)) (i := v12) ceS Tryd.underlying30 s_9 rfl rfl hx17))) (dcons (dstep1 (Tm := [(86, (DP (cS x17)))]) (L := []) (H := ⟨0, []⟩) rfl rfl rfl rfl rfl (astep_do rfl (tx_ldD1 (v := (S x17)) Tryd.underlying9 rfl rfl rfl))) (dcons (dstep1 (Tm := [(15, (SL 1 cI ([t4, (w64 (1 + x11.1)), 1, 2] : List Int)))]) (L := []) (H := ⟨0, []⟩) rfl rfl rfl rfl rfl (astep_do rfl (ex_move (eV (v := (SL 1 cI ([t4, (w64 (1 + x11.1)), 1, 2] : List Int))) rfl)))) (dcons (dstep1 (Tm := [(16, (I v12))]) (L := []) (H := ⟨0, []⟩) rfl rfl rfl rfl rfl (astep_do rfl (ex_move (eV (v := (I v12)) rfl)))) (dcons (dstep1 (Tm := [(88, (SL 1 cI ([t4, (w64 (1 + x11.1)), 1, 2] : List Int))), (89, (I v12))]) (L := []) (H := ⟨0, []⟩) rfl rfl rfl rfl rfl (astep_do rfl (tx_idxD (c := cI) (xs := ([t4, (w64 (1 + x11.1)), 1, 2] : List Int)) (i := v12) ceI Tryd.underlying32 s_3 rfl rfl hx18))) (dcons (dstep1 (Tm := [(90, (DP (cI x18)))]) (L := []) (H := ⟨0, []⟩) rfl rfl rfl rfl rfl (astep_do rfl (tx_ldD1 (v := (I x18)) Tryd.underlying3 rfl rfl rfl))) (dcons (dstep1 (Tm := [(83, (SL 5 c_api_Node x5.1)), (87, (S x17)), (91, (I x18))]) (L := []) (H := ⟨0, []⟩) rfl rfl rfl rfl rfl (astep_do rfl (ex_call0 (vs := [(SL 5 c_api_Node x5.1), (S x17), (I x18)]) (v := (Value.tuple #[(SL 5 c_api_Node x19.1), (I x19.2)])) rfl en_13 (cargs (evs rfl (evs rfl (evs rfl evs_nil)))) rfl (ok_ref11_Make x5.1 x17 x18 x19 hx19) rfl))) (dcons (dstep1 (Tm := [(92, (Value.tuple #[(SL 5 c_api_Node x19.1), (I x19.2)]))]) (L := []) (H := ⟨0, []⟩) rfl rfl rfl rfl rfl (astep_do rfl (ex_move (eV (v := (Value.tuple #[(SL 5 c_api_Node x19.1), (I x19.2)])) rfl)))) (dcons (dstep1 (Tm := [(82, (Value.tuple #[(SL 5 c_api_Node x19.1), (I x19.2)]))]) (L := []) (H := ⟨0, []⟩) rfl rfl rfl rfl rfl (astep_do rfl (ex_extract (vx := (Value.tuple #[(SL 5 c_api_Node x19.1), (I x19.2)])) (v := (SL 5 c_api_Node x19.1)) rfl rfl))) (dcons (dstep1 (Tm := [(82, (Value.tuple #[(SL 5 c_api_Node x19.1), (I x19.2)]))]) (L := []) (H := ⟨0, []⟩) rfl rfl rfl rfl rfl (astep_do rfl (ex_extract (vx := (Value.tuple #[(SL 5 c_api_Node x19.1), (I x19.2)])) (v := (I x19.2)) rfl rfl))) (dcons (dstep1 (Tm := [(93, (SL 5 c_api_Node x19.1))]) (L := []) (H := ⟨0, []⟩) rfl rfl rfl rfl rfl (astep_do rfl (ex_assign (eV (v := (SL 5 c_api_Node x19.1)) rfl)))) (dcons (dstep1 (Tm := [(94, (I x19.2))]) (L := []) (H := ⟨0, []⟩) rfl rfl rfl rfl rfl (astep_do rfl (ex_assign (eV (v := (I x19.2)) rfl)))) dnil))))))))))))))) ⟨rfl, rfl⟩) (by kernel_rfl) (by kernel_rfl) ?_
          show AWp _ _ _ _
          refine awp_seq ?_
          refine awp_seq ?_
          refine awp_region ?_
          refine arun_do rfl rfl rfl (ex_move (eV (v := (I x16.2)) rfl)) ?_
          refine arun_do rfl rfl rfl (ex_move (eV (v := (I x19.2)) rfl)) ?_
          refine arun_do rfl rfl rfl (ex_bin (vx := (I x16.2)) (vy := (I x19.2)) rfl rfl neqI_ok) ?_
          refine arun_do rfl rfl rfl (ex_move (eV (v := (Bo (x16.2 != x19.2))) rfl)) ?_
          refine arun_guard (v := (SL 5 c_api_Node x16.1)) ((x16.2 != x19.2) == false) rfl rfl rfl (fun hc => ex_move (eV (v := (SL 5 c_api_Node x16.1)) rfl)) ?_
          refine arun_guard (v := (SL 5 c_api_Node x19.1)) ((x16.2 != x19.2) == false) rfl rfl rfl (fun hc => ex_move (eV (v := (SL 5 c_api_Node x19.1)) rfl)) ?_
          obtain ⟨x20, hx20, h⟩ := bindS h
          refine arun_guard (v := (Bo x20)) ((x16.2 != x19.2) == false) rfl rfl rfl (fun hc => ex_call0 (vs := [(SL 5 c_api_Node x16.1), (SL 5 c_api_Node x19.1)]) (v := (Bo x20)) rfl en_14 (cargs (evs (cond_of hc) (evs (cond_of hc) evs_nil))) rfl (ok_ref11_Same x16.1 x19.1 x20 (gd_of hc hx20)) rfl) ?_
          refine arun_guard (v := (Bo (!x20))) ((x16.2 != x19.2) == false) rfl rfl rfl (fun hc => ex_un (vx := (Bo x20)) (cond_of hc) notB_ok) ?_
          refine arun_do rfl rfl rfl (ex_pick rfl pkOr) ?_
          refine arun_keepE [11, 13, 14, 15, 16, 103] 0 0 (st' := ⟨166, 0, [(11, (SL 5 c_api_Node x5.1)), (13, (SL 1 cS ([t2, x7.1, x8.1, t2] : List Str))), (14, (SL 1 cS ([t3, x9.1, t3, x10.1] : List Str))), (15, (SL 1 cI ([t4, (w64 (1 + x11.1)), 1, 2] : List Int))), (16, (I v12)), (103, (Bo ((x16.2 != x19.2) || (!x20))))], [], ⟨0, []⟩⟩) (by kernel_rfl) (by kernel_rfl) ?_
          show AWp _ _ _ _
          rcases Bool.eq_false_or_eq_true ((x16.2 != x19.2) || (!x20)) with hb21 | hb21
          · rw [condT hb21] at h
            refine awp_condT (boT hb21) ?_
            refine awp_seq ?_
            refine awp_region ?_
            refine arun_do rfl rfl rfl (ex_assign (eV (v := (Bo false)) rfl)) ?_
            refine arun_keepE [10] 0 0 (st' := ⟨166, 0, [(10, (Bo false))], [], ⟨0, []⟩⟩) (by kernel_rfl) (by kernel_rfl) ?_
            show AWp _ _ _ _
            refine awp_ret ?_
            cases h
            exact ares1 (rtmp rfl (eV rfl))
          · rw [condF hb21] at h
            refine awp_condF (boF hb21) ?_
            refine awp_skip ?_
            show AWp _ _ _ _
            refine awp_seq ?_
            refine awp_region ?_
            refine arun_do rfl rfl rfl (ex_move (eV (v := (SL 5 c_api_Node x5.1)) rfl)) ?_
            refine arun_do rfl rfl rfl (ex_move (eV (v := (SL 1 cS ([t2, x7.1, x8.1, t2] : List Str))) rfl)) ?_
            refine arun_do rfl rfl rfl (ex_move (eV (v := (I v12)) rfl)) ?_
            obtain ⟨x22, hx22, h⟩ := bindS h
            refine arun_do rfl rfl rfl (tx_idxD (c := cS) (xs := ([t2, x7.1, x8.1, t2] : List Str)) (i := v12) ceS Tryd.underlying30 s_9 rfl rfl hx22) ?_
            refine arun_do rfl rfl rfl (tx_ldD1 (v := (S x22)) Tryd.underlying9 rfl rfl rfl) ?_
            obtain ⟨x23, hx23, h⟩ := bindS h
            refine arun_do rfl rfl rfl (ex_call0 (vs := [(SL 5 c_api_Node x5.1), (S x22)]) (v := (Value.tuple #[(SL 5 c_api_Node x23.1), (I x23.2)])) rfl en_15 (cargs (evs rfl (evs rfl evs_nil))) rfl (ok_edit_Drop x5.1 x22 x23 hx23) rfl) ?_
            refine arun_do rfl rfl rfl (ex_move (eV (v := (Value.tuple #[(SL 5 c_api_Node x23.1), (I x23.2)])) rfl)) ?_
            refine arun_do rfl rfl rfl (ex_extract (vx := (Value.tuple #[(SL 5 c_api_Node x23.1), (I x23.2)])) (v := (SL 5 c_api_Node x23.1)) rfl rfl) ?_
            refine arun_do rfl rfl rfl (ex_extract (vx := (Value.tuple #[(SL 5 c_api_Node x23.1), (I x23.2)])) (v := (I x23.2)) rfl rfl) ?_
            refine arun_do rfl rfl rfl (ex_assign (eV (v := (SL 5 c_api_Node x23.1)) rfl)) ?_
            refine arun_do rfl rfl rfl (ex_assign (eV (v := (I x23.2)) rfl)) ?_
            refine arun_keepE [11, 13, 14, 15, 16, 17, 18] 0 0 (st' := ⟨166, 0, [(11, (SL 5 c_api_Node x5.1)), (13, (SL 1 cS ([t2, x7.1, x8.1, t2] : List Str))), (14, (SL 1 cS ([t3, x9.1, t3, x10.1] : List Str))), (15, (SL 1 cI ([t4, (w64 (1 + x11.1)), 1, 2] : List Int))), (16, (I v12)), (17, (SL 5 c_api_Node x23.1)), (18, (I x23.2))], [], ⟨0, []⟩⟩) (by kernel_rfl) (by kernel_rfl) ?_
            show AWp _ _ _ _
            refine awp_seq ?_
            refine awp_region ?_
            refine arun_do rfl rfl rfl (ex_move (eV (v := (SL 5 c_api_Node x5.1)) rfl)) ?_
            refine arun_do rfl rfl rfl (ex_move (eV (v := (SL 1 cS ([t2, x7.1, x8.1, t2] : List Str))) rfl)) ?_
            refine arun_do rfl rfl rfl (ex_move (eV (v := (I v12)) rfl)) ?_
            obtain ⟨x24, hx24, h⟩ := bindS h
            refine arun_do rfl rfl rfl (tx_idxD (c := cS) (xs := ([t2, x7.1, x8.1, t2] : List Str)) (i := v12) ceS Tryd.underlying30 s_9 rfl rfl hx24) ?_
            refine arun_do rfl rfl rfl (tx_ldD1 (v := (S x24)) Tryd.underlying9 rfl rfl rfl) ?_
            obtain ⟨x25, hx25, h⟩ := bindS h
            refine arun_do rfl rfl rfl (ex_call0 (vs := [(SL 5 c_api_Node x5.1), (S x24)]) (v := (Value.tuple #[(SL 5 c_api_Node x25.1), (I x25.2)])) rfl en_16 (cargs (evs rfl (evs rfl evs_nil))) rfl (ok_ref11_Drop x5.1 x24 x25 hx25) rfl) ?_
            refine arun_do rfl rfl rfl (ex_move (eV (v := (Value.tuple #[(SL 5 c_api_Node x25.1), (I x25.2)])) rfl)) ?_
            refine arun_do rfl rfl rfl (ex_extract (vx := (Value.tuple #[(SL 5 c_api_Node x25.1), (I x25.2)])) (v := (SL 5 c_api_Node x25.1)) rfl rfl) ?_
            refine arun_do rfl rfl rfl (ex_extract (vx := (Value.tuple #[(SL 5 c_api_Node x25.1), (I x25.2)])) (v := (I x25.2)) rfl rfl) ?_
            refine arun_do rfl rfl rfl (ex_assign (eV (v := (SL 5 c_api_Node x25.1)) rfl)) ?_
            refine arun_do rfl rfl rfl (ex_assign (eV (v := (I x25.2)) rfl)) ?_
            refine arun_keepE [11, 13, 14, 15, 16, 17, 18, 19, 20] 0 0 (st' := ⟨166, 0, [(11, (SL 5 c_api_Node x5.1)), (13, (SL 1 cS ([t2, x7.1, x8.1, t2] : List Str))), (14, (SL 1 cS ([t3, x9.1, t3, x10.1] : List Str))), (15, (SL 1 cI ([t4, (w64 (1 + x11.1)), 1, 2] : List Int))), (16, (I v12)), (17, (SL 5 c_api_Node x23.1)), (18, (I x23.2)), (19, (SL 5 c_api_Node x25.1)), (20, (I x25.2))], [], ⟨0, []⟩⟩) (by kernel_rfl) (by kernel_rfl) ?_
            show AWp _ _ _ _
            refine awp_seq ?_
            refine awp_seq ?_
            refine awp_region ?_
            refine arun_do rfl rfl rfl (ex_move (eV (v := (I x23.2)) rfl)) ?_
            refine arun_do rfl rfl rfl (ex_move (eV (v := (I x25.2)) rfl)) ?_
            refine arun_do rfl rfl rfl (ex_bin (vx := (I x23.2)) (vy := (I x25.2)) rfl rfl neqI_ok) ?_
            refine arun_do rfl rfl rfl (ex_move (eV (v := (Bo (x23.2 != x25.2))) rfl)) ?_
            refine arun_guard (v := (SL 5 c_api_Node x23.1)) ((x23.2 != x25.2) == false) rfl rfl rfl (fun hc => ex_move (eV (v := (SL 5 c_api_Node x23.1)) rfl)) ?_
            refine arun_guard (v := (SL 5 c_api_Node x25.1)) ((x23.2 != x25.2) == false) rfl rfl rfl (fun hc => ex_move (eV (v := (SL 5 c_api_Node x25.1)) rfl)) ?_
            obtain ⟨x26, hx26, h⟩ := bindS h
            refine arun_guard (v := (Bo x26)) ((x23.2 != x25.2) == false) rfl rfl rfl (fun hc => ex_call0 (vs := [(SL 5 c_api_Node x23.1), (SL 5 c_api_Node x25.1)]) (v := (Bo x26)) rfl en_14 (cargs (evs (cond_of hc) (evs (cond_of hc) evs_nil))) rfl (ok_ref11_Same x23.1 x25.1 x26 (gd_of hc hx26)) rfl) ?_
            refine arun_guard (v := (Bo (!x26))) ((x23.2 != x25.2) == false) rfl rfl rfl (fun hc => ex_un (vx := (Bo x26)) (cond_of hc) notB_ok) ?_
            refine arun_do rfl rfl rfl (ex_pick rfl pkOr) ?_
            refine arun_keepE [11, 13, 14, 15, 16, 130] 0 0 (st' := ⟨166, 0, [(11, (SL 5 c_api_Node x5.1)), (13, (SL 1 cS ([t2, x7.1, x8.1, t2] : List Str))), (14, (SL 1 cS ([t3, x9.1, t3, x10.1] : List Str))), (15, (SL 1 cI ([t4, (w64 (1 + x11.1)), 1, 2] : List Int))), (16, (I v12)), (130, (Bo ((x23.2 != x25.2) || (!x26))))], [], ⟨0, []⟩⟩) (by kernel_rfl) (by kernel_rfl) ?_
            show AWp _ _ _ _
            rcases Bool.eq_false_or_eq_true ((x23.2 != x25.2) || (!x26)) with hb27 | hb27
            · rw [condT hb27] at h
              refine awp_condT (boT hb27) ?_
              refine awp_seq ?_
              refine awp_region ?_
              refine arun_do rfl rfl rfl (ex_assign (eV (v := (Bo false)) rfl)) ?_
              refine arun_keepE [10] 0 0 (st' := ⟨166, 0, [(10, (Bo false))], [], ⟨0, []⟩⟩) (by kernel_rfl) (by kernel_rfl) ?_
              show AWp _ _ _ _
              refine awp_ret ?_
              cases h
              exact ares1 (rtmp rfl (eV rfl))
            · rw [condF hb27] at h
              refine awp_condF (boF hb27) ?_
              refine awp_skip ?_
              show AWp _ _ _ _
              refine awp_seq ?_
              obtain ⟨x28, hx28, h⟩ := bindS h
              obtain ⟨x29, hx29, h⟩ := bindS h
              obtain ⟨x30, hx30, h⟩ := bindS h
              refine awp_kn [11, 13, 14, 15, 16, 17, 18] 0 0 (st' := ⟨166, 0, [(11, (SL 5 c_api_Node x5.1)), (13, (SL 1 cS ([t2, x7.1, x8.1, t2] : List Str))), (14, (SL 1 cS ([t3, x9.1, t3, x10.1] : List Str))), (15, (SL 1 cI ([t4, (w64 (1 + x11.1)), 1, 2] : List Int))), (16, (I v12)), (17, (SL 5 c_api_Node x30.1)), (18, (I x30.2))], [], ⟨0, []⟩⟩) (awp_draw (T := [(SL 5 c_api_Node x5.1), (SL 1 cS ([t2, x7.1, x8.1, t2] : List Str)), (I v12), (DP (cS x28)), (S x28), (SL 1 cS ([t3, x9.1, t3, x10.1] : List Str)), (I v12), (DP (cS x29)), (S x29), (Value.tuple #[(SL 5 c_api_Node x30.1), (I x30.2)]), (Value.tuple #[(SL 5 c_api_Node x30.1), (I x30.2)]), (SL 5 c_api_Node x30.1), (I x30.2), (SL 5 c_api_Node x30.1), (I x30.2)]) (LH := [([], ⟨0, []⟩)]) (D := [⟨[(11, none)], [], [0], false⟩, ⟨[(13, none)], [], [0], false⟩, ⟨[(16, none)], [], [0], false⟩, ⟨[(133, some 1), (134, some 2)], [1, 2], [0], false⟩, ⟨[(135, some 3)], [1, 2, 3], [0], false⟩, ⟨[(14, none)], [], [0], false⟩, ⟨[(16, none)], [], [0], false⟩, ⟨[(137, some 5), (138, some 6)], [5, 6], [0], false⟩, ⟨[(139, some 7)], [5, 6, 7], [0], false⟩, ⟨[(132, some 0), (136, some 4), (140, some 8)], [0, 1, 2, 3, 4, 5, 6, 7, 8], [0], false⟩, ⟨[(141, some 9)], [0, 1, 2, 3, 4, 5, 6, 7, 8, 9], [0], false⟩, ⟨[(131, some 10)], [0, 1, 2, 3, 4, 5, 6, 7, 8, 9, 10], [0], false⟩, ⟨[(131, some 10)], [0, 1, 2, 3, 4, 5, 6, 7, 8, 9, 10], [0], false⟩, ⟨[(142, some 11)], [0, 1, 2, 3, 4, 5, 6, 7, 8, 9, 10, 11], [0], false⟩, ⟨[(143, some 12)], [0, 1, 2, 3, 4, 5, 6, 7, 8, 9, 10, 11, 12, 13], [0], false⟩]) (S := []) (plan := [0, 1, 2, 3, 4, 5, 6, 7, 8, 9, 10, 11, 12, 13, 14]) mo (by kernel_rfl) rfl rfl rfl (dcons (dstep1 (Tm := [(11, (SL 5 c_api_Node x5.1))]) (L := []) (H := ⟨0, []⟩) rfl rfl rfl rfl rfl (astep_do rfl (ex_move (eV (v := (SL 5 c_api_Node x5.1)) rfl)))) (dcons (dstep1 (Tm := [(13, (SL 1 cS ([t2, x7.1, x8.1, t2] : List Str)))]) (L := []) (H := ⟨0, []⟩) rfl rfl rfl rfl rfl (astep_do rfl (ex_move (eV (v := (SL 1 cS ([t2, x7.1, x8.1, t2] : List Str))) rfl)))) (dcons (dstep1 (Tm := [(16, (I v12))]) (L := []) (H := ⟨0, []⟩) rfl rfl rfl rfl rfl (astep_do rfl (ex_move (eV (v := (I v12)) rfl)))) (dcons (dstep1 (Tm := [(133, (SL 1 cS ([t2, x7.1, x8.1, t2] : List Str))), (134, (I v12))]) (L := []) (H := ⟨0, []⟩) rfl rfl rfl rfl rfl (astep_do rfl (tx_idxD (c := cS) (xs := ([t2, x7.1, x8.1, t2] : List Str)) (i := v12) ceS Tryd.underlying30 s_9 rfl rfl hx28))) (dcons (dstep1 (Tm := [(135, (DP (cS x28)))]) (L := []) (H := ⟨0, []⟩) rfl rfl rfl rfl rfl (astep_do rfl (tx_ldD1 (v := (S x28)) Tryd.underlying9 rfl rfl rfl))) (dcons (dstep1 (Tm := [(14, (SL 1 cS ([t3, x9.1, t3, x10.1] : List Str)))]) (L := []) (H := ⟨0, []⟩) rfl rfl rfl rfl rfl (astep_do rfl (ex_move (eV (v := (SL 1 cS ([t3, x9.1, t3, x10.1] : List Str))) rfl)))) (dcons (dstep1 (Tm := [(16, (I v12))]) (L := []) (H := ⟨0, []⟩) rfl rfl rfl rfl rfl (astep_do rfl (ex_move (eV (v := (I v12)) rfl)))) (dcons (dstep1 (Tm := [(137, (SL 1 cS ([t3, x9.1, t3, x10.1] : List Str))), (138, (I v12))]) (L := []) (H := ⟨0, []⟩) rfl rfl rfl rfl rfl (astep_do rfl (tx_idxD (c := cS) (xs := ([t3, x9.1, t3, x10.1] : List Str)) (i := v12) ceS Tryd.underlying30 s_9 rfl rfl hx29))) (dcons (dstep1 (Tm := [(139, (DP (cS x29)))]) (L := []) (H := ⟨0, []⟩) rfl rfl rfl rfl rfl (astep_do rfl (tx_ldD1 (v := (S x29)) Tryd.underlying9 rfl rfl rfl))) (dcons (dstep1 (Tm := [(132, (SL 5 c_api_Node x5.1)), (136, (S x28)), (140, (S x29))]) (L := []) (H := ⟨0, []⟩) rfl rfl rfl rfl rfl (astep_do rfl (ex_call0 (vs := [(SL 5 c_api_Node x5.1), (S x28), (S x29)]) (v := (Value.tuple #[(SL 5 c_api_Node x30.1), (I x30.2)])) rfl en_17 (cargs (evs rfl (evs rfl (evs rfl evs_nil)))) rfl (ok_edit_Move x5.1 x28 x29 x30 hx30) rfl))) (dcons (dstep1 (Tm := [(141, (Value.tuple #[(SL 5 c_api_Node x30.1), (I x30.2)]))]) (L := []) (H := ⟨0, []⟩) rfl rfl rfl rfl rfl (astep_do rfl (ex_move (eV (v := (Value.tuple #[(SL 5 c_api_Node x30.1), (I x30.2)])) rfl)))) (dcons (dstep1 (Tm := [(131, (Value.tuple #[(SL 5 c_api_Node x30.1), (I x30.2)]))]) (L := []) (H := ⟨0, []⟩) rfl rfl rfl rfl rfl (astep_do rfl (ex_extract (vx := (Value.tuple #[(SL 5 c_api_Node x30.1), (I x30.2)])) (v := (SL 5 c_api_Node x30.1)) rfl rfl))) (dcons (dstep1 (Tm := [(131, (Value.tuple #[(SL 5 c_api_Node x30.1), (I x30.2)]))]) (L := []) (H := ⟨0, []⟩) rfl rfl rfl rfl rfl (astep_do rfl (ex_extract (vx := (Value.tuple #[(SL 5 c_api_Node x30.1), (I x30.2)])) (v := (I x30.2)) rfl rfl))) (dcons (dstep1 (Tm := [(142, (SL 5 c_api_Node x30.1))]) (L := []) (H := ⟨0, []⟩) rfl rfl rfl rfl rfl (astep_do rfl (ex_assign (eV (v := (SL 5 c_api_Node x30.1)) rfl)))) (dcons (dstep1 (Tm := [(143, (I x30.2))]) (L := []) (H := ⟨0, []⟩) rfl rfl rfl rfl rfl (astep_do rfl (ex_assign (eV (v := (I x30.2)) rfl)))) dnil))))))))))))))) ⟨rfl, rfl⟩) (by kernel_rfl) (by kernel_rfl) ?_
              show AWp _ _ _ _
              refine awp_seq ?_
              obtain ⟨x31, hx31, h⟩ := bindS h
              obtain ⟨x32, hx32, h⟩ := bindS h
              obtain ⟨x33, hx33, h⟩ := bindS h
              refine awp_kn [11, 13, 14, 15, 16, 17, 18, 19, 20] 0 0 (st' := ⟨166, 0, [(11, (SL 5 c_api_Node x5.1)), (13, (SL 1 cS ([t2, x7.1, x8.1, t2] : List Str))), (14, (SL 1 cS ([t3, x9.1, t3, x10.1] : List Str))), (15, (SL 1 cI ([t4, (w64 (1 + x11.1)), 1, 2] : List Int))), (16, (I v12)), (17, (SL 5 c_api_Node x30.1)), (18, (I x30.2)), (19, (SL 5 c_api_Node x33.1)), (20, (I x33.2))], [], ⟨0, []⟩⟩) (awp_draw (T := [(SL 5 c_api_Node x5.1), (SL 1 cS ([t2, x7.1, x8.1, t2] : List Str)), (I v12), (DP (cS x31)), (S x31), (SL 1 cS ([t3, x9.1, t3, x10.1] : List Str)), (I v12), (DP (cS x32)), (S x32), (Value.tuple #[(SL 5 c_api_Node x33.1), (I x33.2)]), (Value.tuple #[(SL 5 c_api_Node x33.1), (I x33.2)]), (SL 5 c_api_Node x33.1), (I x33.2), (SL 5 c_api_Node x33.1), (I x33.2)]) (LH := [([], ⟨0, []⟩)]) (D := [⟨[(11, none)], [], [0], false⟩, ⟨[(13, none)], [], [0], false⟩, ⟨[(16, none)], [], [0], false⟩, ⟨[(146, some 1), (147, some 2)], [1, 2], [0], false⟩, ⟨[(148, some 3)], [1, 2, 3], [0], false⟩, ⟨[(14, none)], [], [0], false⟩, ⟨[(16, none)], [], [0], false⟩, ⟨[(150, some 5), (151, some 6)], [5, 6], [0], false⟩, ⟨[(152, some 7)], [5, 6, 7], [0], false⟩, ⟨[(145, some 0), (149, some 4), (153, some 8)], [0, 1, 2, 3, 4, 5, 6, 7, 8], [0], false⟩, ⟨[(154, some 9)], [0, 1, 2, 3, 4, 5, 6, 7, 8, 9], [0], false⟩, ⟨[(144, some 10)], [0, 1, 2, 3, 4, 5, 6, 7, 8, 9, 10], [0], false⟩, ⟨[(144, some 10)], [0, 1, 2, 3, 4, 5, 6, 7, 8, 9, 10], [0], false⟩, ⟨[(155, some 11)], [0, 1, 2, 3, 4, 5, 6, 7, 8, 9, 10, 11], [0], false⟩, ⟨[(156, some 12)], [0, 1, 2, 3, 4, 5, 6, 7, 8, 9, 10, 11, 12, 13], [0], false⟩]) (S := []) (plan := [0, 1, 2, 3, 4, 5, 6, 7, 8, 9, 10, 11, 12, 13, 14]) mo (by kernel_rfl) rfl rfl rfl (dcons (dstep1 (Tm := [(11, (SL 5 c_api_Node x5.1))]) (L := []) (H := ⟨0, []⟩) rfl rfl rfl rfl rfl (astep_do rfl (ex_move (eV (v := (SL 5 c_api_Node x5.1)) rfl)))) (dcons (dstep1 (Tm := [(13, (SL 1 cS ([t2, x7.1, x8.1, t2] : List Str)))]) (L := []) (H := ⟨0, []⟩) rfl rfl rfl rfl rfl (astep_do rfl (ex_move (eV (v := (SL 1 cS ([t2, x7.1, x8.1, t2] : List Str))) rfl)))) (dcons (dstep1 (Tm := [(16, (I v12))]) (L := []) (H := ⟨0, []⟩) rfl rfl rfl rfl rfl (astep_do rfl (ex_move (eV (v := (I v12)) rfl)))) (dcons (dstep1 (Tm := [(146, (SL 1 cS ([t2, x7.1, x8.1, t2] : List Str))), (147, (I v12))]) (L := []) (H := ⟨0, []⟩) rfl rfl rfl rfl rfl (astep_do rfl (tx_idxD (c := cS) (xs := ([t2, x7.1, x8.1, t2] : List Str)) (i := v12) ceS Tryd.underlying30 s_9 rfl rfl hx31))) (dcons (dstep1 (Tm := [(148, (DP (cS x31)))]) (L := []) (H := ⟨0, []⟩) rfl rfl rfl rfl rfl (astep_do rfl (tx_ldD1 (v := (S x31)) Tryd.underlying9 rfl rfl rfl))) (dcons (dstep1 (Tm := [(14, (SL 1 cS ([t3, x9.1, t3, x10.1] : List Str)))]) (L := []) (H := ⟨0, []⟩) rfl rfl rfl rfl rfl (astep_do rfl (ex_move (eV (v := (SL 1 cS ([t3, x9.1, t3, x10.1] : List Str))) rfl)))) (dcons (dstep1 (Tm := [(16, (I v12))]) (L := []) (H := ⟨0, []⟩) rfl rfl rfl rfl rfl (astep_do rfl (ex_move (eV (v := (I v12)) rfl)))) (dcons (dstep1 (Tm := [(150, (SL 1 cS ([t3, x9.1, t3, x10.1] : List Str))), (151, (I v12))]) (L := []) (H := ⟨0, []⟩) rfl rfl rfl rfl rfl (astep_do rfl (tx_idxD (c := cS) (xs := ([t3, x9.1, t3, x10.1] : List Str)) (i := v12) ceS Tryd.underlying30 s_9 rfl rfl hx32))) (dcons (dstep1 (Tm := [(152, (DP (cS x32)))]) (L := []) (H := ⟨0, []⟩) rfl rfl rfl rfl rfl (astep_do rfl (tx_ldD1 (v := (S x32)) Tryd.underlying9 rfl rfl rfl))) (dcons (dstep1 (Tm := [(145, (SL 5 c_api_Node x5.1)), (149, (S x31)), (153, (S x32))]) (L := []) (H := ⟨0, []⟩) rfl rfl rfl rfl rfl (astep_do rfl (ex_call0 (vs := [(SL 5 c_api_Node x5.1), (S x31), (S x32)]) (v := (Value.tuple #[(SL 5 c_api_Node x33.1), (I x33.2)])) rfl en_18 (cargs (evs rfl (evs rfl (evs rfl evs_nil)))) rfl (ok_ref11_Move x5.1 x31 x32 x33 hx33) rfl))) (dcons (dstep1 (Tm := [(154, (Value.tuple #[(SL 5 c_api_Node x33.1), (I x33.2)]))]) (L := []) (H := ⟨0, []⟩) rfl rfl rfl rfl rfl (astep_do rfl (ex_move (eV (v := (Value.tuple #[(SL 5 c_api_Node x33.1), (I x33.2)])) rfl)))) (dcons (dstep1 (Tm := [(144, (Value.tuple #[(SL 5 c_api_Node x33.1), (I x33.2)]))]) (L := []) (H := ⟨0, []⟩) rfl rfl rfl rfl rfl (astep_do rfl (ex_extract (vx := (Value.tuple #[(SL 5 c_api_Node x33.1), (I x33.2)])) (v := (SL 5 c_api_Node x33.1)) rfl rfl))) (dcons (dstep1 (Tm := [(144, (Value.tuple #[(SL 5 c_api_Node x33.1), (I x33.2)]))]) (L := []) (H := ⟨0, []⟩) rfl rfl rfl rfl rfl (astep_do rfl (ex_extract (vx := (Value.tuple #[(SL 5 c_api_Node x33.1), (I x33.2)])) (v := (I x33.2)) rfl rfl))) (dcons (dstep1 (Tm := [(155, (SL 5 c_api_Node x33.1))]) (L := []) (H := ⟨0, []⟩) rfl rfl rfl rfl rfl (astep_do rfl (ex_assign (eV (v := (SL 5 c_api_Node x33.1)) rfl)))) (dcons (dstep1 (Tm := [(156, (I x33.2))]) (L := []) (H := ⟨0, []⟩) rfl rfl rfl rfl rfl (astep_do rfl (ex_assign (eV (v := (I x33.2)) rfl)))) dnil))))))))))))))) ⟨rfl, rfl⟩) (by kernel_rfl) (by kernel_rfl) ?_
              show AWp _ _ _ _
              refine awp_seq ?_
              refine awp_region ?_
              refine arun_do rfl rfl rfl (ex_move (eV (v := (I x30.2)) rfl)) ?_
              refine arun_do rfl rfl rfl (ex_move (eV (v := (I x33.2)) rfl)) ?_
              refine arun_do rfl rfl rfl (ex_bin (vx := (I x30.2)) (vy := (I x33.2)) rfl rfl neqI_ok) ?_
              refine arun_do rfl rfl rfl (ex_move (eV (v := (Bo (x30.2 != x33.2))) rfl)) ?_
              refine arun_guard (v := (SL 5 c_api_Node x30.1)) ((x30.2 != x33.2) == false) rfl rfl rfl (fun hc => ex_move (eV (v := (SL 5 c_api_Node x30.1)) rfl)) ?_
              refine arun_guard (v := (SL 5 c_api_Node x33.1)) ((x30.2 != x33.2) == false) rfl rfl rfl (fun hc => ex_move (eV (v := (SL 5 c_api_Node x33.1)) rfl)) ?_
              obtain ⟨x34, hx34, h⟩ := bindS h
              refine arun_guard (v := (Bo x34)) ((x30.2 != x33.2) == false) rfl rfl rfl (fun hc => ex_call0 (vs := [(SL 5 c_api_Node x30.1), (SL 5 c_api_Node x33.1)]) (v := (Bo x34)) rfl en_14 (cargs (evs (cond_of hc) (evs (cond_of hc) evs_nil))) rfl (ok_ref11_Same x30.1 x33.1 x34 (gd_of hc hx34)) rfl) ?_
              refine arun_guard (v := (Bo (!x34))) ((x30.2 != x33.2) == false) rfl rfl rfl (fun hc => ex_un (vx := (Bo x34)) (cond_of hc) notB_ok) ?_
              refine arun_do rfl rfl rfl (ex_pick rfl pkOr) ?_
              refine arun_keepE [11, 13, 14, 15, 16, 165] 0 0 (st' := ⟨166, 0, [(11, (SL 5 c_api_Node x5.1)), (13, (SL 1 cS ([t2, x7.1, x8.1, t2] : List Str))), (14, (SL 1 cS ([t3, x9.1, t3, x10.1] : List Str))), (15, (SL 1 cI ([t4, (w64 (1 + x11.1)), 1, 2] : List Int))), (16, (I v12)), (165, (Bo ((x30.2 != x33.2) || (!x34))))], [], ⟨0, []⟩⟩) (by kernel_rfl) (by kernel_rfl) ?_
              show AWp _ _ _ _
              rcases Bool.eq_false_or_eq_true ((x30.2 != x33.2) || (!x34)) with hb35 | hb35
              · rw [condT hb35] at h
                refine awp_condT (boT hb35) ?_
                refine awp_seq ?_
                refine awp_region ?_
                refine arun_do rfl rfl rfl (ex_assign (eV (v := (Bo false)) rfl)) ?_
                refine arun_keepE [10] 0 0 (st' := ⟨166, 0, [(10, (Bo false))], [], ⟨0, []⟩⟩) (by kernel_rfl) (by kernel_rfl) ?_
                show AWp _ _ _ _
                refine awp_ret ?_
                cases h
                exact ares1 (rtmp rfl (eV rfl))
              · rw [condF hb35] at h
                refine awp_condF (boF hb35) ?_
                refine awp_skip ?_
                show AWp _ _ _ _
                refine awp_region ?_
                refine arun_do rfl rfl rfl (ex_move (eV (v := (I v12)) rfl)) ?_
                refine arun_do rfl rfl rfl (ex_bin (vx := (I v12)) (vy := (I 1)) rfl rfl addI_ok) ?_
                refine arun_do rfl rfl rfl (ex_assign (eV (v := (I (w64 (v12 + 1)))) rfl)) ?_
                refine arun_keepE [11, 13, 14, 15, 16] 0 0 (st' := ⟨166, 0, [(11, (SL 5 c_api_Node x5.1)), (13, (SL 1 cS ([t2, x7.1, x8.1, t2] : List Str))), (14, (SL 1 cS ([t3, x9.1, t3, x10.1] : List Str))), (15, (SL 1 cI ([t4, (w64 (1 + x11.1)), 1, 2] : List Int))), (16, (I (w64 (v12 + 1))))], [], ⟨0, []⟩⟩) (by kernel_rfl) (by kernel_rfl) ?_
                exact Exists.intro n1 (And.intro (Nat.lt_succ_self _) (Exists.intro (w64 (v12 + 1)) (And.intro rfl h)))
        · rw [condF hb13] at h
          refine awp_condF (boF hb13) ?_
          refine awp_exit ?_
          show AWp _ _ _ _
          refine awp_seq ?_
          refine awp_region ?_
          refine arun_do rfl rfl rfl (ex_assign (eV (v := (Bo true)) rfl)) ?_
          refine arun_keepE [10] 0 0 (st' := ⟨166, 0, [(10, (Bo true))], [], ⟨0, []⟩⟩) (by kernel_rfl) (by kernel_rfl) ?_
          show AWp _ _ _ _
          refine awp_ret ?_
          cases h
          exact ares1 (rtmp rfl (eV rfl))

end Go.Proofs
