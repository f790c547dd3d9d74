/- Pure models of functions of the program, and that its code does what they say: palimplaw13 WalkAll. Written by a program. -/
import Derived.Test.YtmadpkhcdgpglaaGreatDoorR13Z1
import Derived.Test.YtmadpkhcdgpglaaGreatDoorR13Z11
import Derived.Test.YtmadpkhcdgpglaaGreatDoorR13Z13
import Derived.Test.YtmadpkhcdgpglaaGreatDoorR13Z14
import Derived.Test.YtmadpkhcdgpglaaGreatDoorR13Z6
import Derived.Test.YtmadpkhcdgpglaaGreatDoorR13Z7
import Derived.Test.YtmadpkhcdgpglaaGreatDoorR13Z8
import Derived.Test.YtmadpkhcdgpglaaGreatDoorR13Z9
import Derived.Test.YtmadpkhcdgpglaaGreatDoorR13ZB
set_option maxRecDepth 20000
set_option maxHeartbeats 4000000
namespace Go.Proofs
open Go Go.Fhl
set_option linter.unusedVariables false
set_option linter.unusedSimpArgs false
noncomputable def M_law13_WalkAll_l2 (c_1 : (Int → Option Bool)) (t2 : Str) (t3 : Int) (t4 : Int) (x5 : ((List G_api_Node) × G_palimpmade_Picks)) (x7 : ((List G_api_Node) × G_palimpmade_Picks)) (x9 : (Str × G_palimpmade_Picks)) (x10 : (Str × G_palimpmade_Picks)) (v11 : Int) : Nat → Int → Option Bool
  | 0, _ => none
  | n2 + 1, v13 =>
  cond (decide (v13 < 2)) (Option.bind (getI ([x5.1, x7.1] : List (List G_api_Node)) v13) fun (x15 : (List G_api_Node)) => Option.bind (getI ([t2, x9.1, x10.1, ([97, 47, 98] : Str), ([97] : Str)] : List Str) v11) fun (x16 : Str) => Option.bind (M_walk_Find x15 x16) fun (x17 : (Int × Int)) => Option.bind (getI ([x5.1, x7.1] : List (List G_api_Node)) v13) fun (x18 : (List G_api_Node)) => Option.bind (getI ([t2, x9.1, x10.1, ([97, 47, 98] : Str), ([97] : Str)] : List Str) v11) fun (x19 : Str) => Option.bind (M_ref11_Find x18 x19) fun (x20 : (Int × Int)) => Option.bind (getI ([x5.1, x7.1] : List (List G_api_Node)) v13) fun (x21 : (List G_api_Node)) => Option.bind (getI ([t2, x9.1, x10.1, ([97, 47, 98] : Str), ([97] : Str)] : List Str) v11) fun (x22 : Str) => Option.bind (M_walk_Place x21 x22) fun (x23 : (Int × Str × Int)) => Option.bind (getI ([x5.1, x7.1] : List (List G_api_Node)) v13) fun (x24 : (List G_api_Node)) => Option.bind (getI ([t2, x9.1, x10.1, ([97, 47, 98] : Str), ([97] : Str)] : List Str) v11) fun (x25 : Str) => Option.bind (M_ref11_Place x24 x25) fun (x26 : (Int × Str × Int)) => cond (((((x17.1 != x20.1) || (x17.2 != x20.2)) || (x23.1 != x26.1)) || (x23.2.1 != x26.2.1)) || (x23.2.2 != x26.2.2)) (some false) ((M_law13_WalkAll_l2 c_1 t2 t3 t4 x5 x7 x9 x10 v11 n2) (w64 (v13 + 1)))) (c_1 (w64 (v11 + 1)))
noncomputable def M_law13_WalkAll_l4 (c_1 : (Int → Option Bool)) (c_3 : (Int → Option Bool)) (t3 : Int) (t4 : Int) (x5 : ((List G_api_Node) × G_palimpmade_Picks)) (v28 : Int) : Nat → Int → Option Bool
  | 0, _ => none
  | n4 + 1, v37 =>
  cond (decide (v37 < 9)) (Option.bind (M_walk_Within x5.1 v28 v37) fun (x39 : Bool) => Option.bind (M_ref11_Within x5.1 v28 v37) fun (x40 : Bool) => cond (x39 != x40) (some false) ((M_law13_WalkAll_l4 c_1 c_3 t3 t4 x5 v28 n4) (w64 (v37 + 1)))) (c_3 (w64 (v28 + 1)))
noncomputable def M_law13_WalkAll_l3 (c_1 : (Int → Option Bool)) (t3 : Int) (t4 : Int) (x5 : ((List G_api_Node) × G_palimpmade_Picks)) : Nat → Int → Option Bool
  | 0, _ => none
  | n3 + 1, v28 =>
  cond (decide (v28 < 10)) (Option.bind (M_walk_Way x5.1 v28) fun (x30 : (Str × Bool)) => Option.bind (M_ref11_Way x5.1 v28) fun (x31 : (Str × Bool)) => Option.bind (gd (((x30.1 != x31.1) || (x30.2 != x31.2)) == false) (M_walk_Within x5.1 v28 t3)) fun (x32 : Bool) => Option.bind (gd (((x30.1 != x31.1) || (x30.2 != x31.2)) == false) (M_ref11_Within x5.1 v28 t3)) fun (x33 : Bool) => Option.bind (gd ((((x30.1 != x31.1) || (x30.2 != x31.2)) || (x32 != x33)) == false) (M_walk_Within x5.1 t4 v28)) fun (x34 : Bool) => Option.bind (gd ((((x30.1 != x31.1) || (x30.2 != x31.2)) || (x32 != x33)) == false) (M_ref11_Within x5.1 t4 v28)) fun (x35 : Bool) => cond ((((x30.1 != x31.1) || (x30.2 != x31.2)) || (x32 != x33)) || (x34 != x35)) (some false) (M_law13_WalkAll_l4 c_1 (M_law13_WalkAll_l3 c_1 t3 t4 x5 n3) t3 t4 x5 v28 fuel 0)) (some true)
noncomputable def M_law13_WalkAll_l1 (t2 : Str) (t3 : Int) (t4 : Int) (x5 : ((List G_api_Node) × G_palimpmade_Picks)) (x7 : ((List G_api_Node) × G_palimpmade_Picks)) (x9 : (Str × G_palimpmade_Picks)) (x10 : (Str × G_palimpmade_Picks)) : Nat → Int → Option Bool
  | 0, _ => none
  | n1 + 1, v11 =>
  cond (decide (v11 < (([t2, x9.1, x10.1, ([97, 47, 98] : Str), ([97] : Str)] : List Str).length : Int))) (M_law13_WalkAll_l2 (M_law13_WalkAll_l1 t2 t3 t4 x5 x7 x9 x10 n1) t2 t3 t4 x5 x7 x9 x10 v11 fuel 0) (M_law13_WalkAll_l3 (M_law13_WalkAll_l1 t2 t3 t4 x5 x7 x9 x10 n1) t3 t4 x5 fuel (-1))
noncomputable def M_law13_WalkAll (t0 : (List UInt8)) (t1 : (List UInt8)) (t2 : Str) (t3 : Int) (t4 : Int) : Option Bool :=
  Option.bind (M_law13_begun) fun (x1 : Bool) => cond (!x1) (some false) (cond (((decide ((t0.length : Int) > 60)) || (decide ((t1.length : Int) > 2))) || (decide ((t2.length : Int) > 80))) (some true) (Option.bind (M_made_Made t0) fun (x4 : G_palimpmade_Picks) => Option.bind (M_made_Picks_Set x4 25) fun (x5 : ((List G_api_Node) × G_palimpmade_Picks)) => Option.bind (M_made_Made t0) fun (x6 : G_palimpmade_Picks) => Option.bind (M_made_Picks_Torn x6 15) fun (x7 : ((List G_api_Node) × G_palimpmade_Picks)) => Option.bind (M_made_Made t1) fun (x8 : G_palimpmade_Picks) => Option.bind (M_made_Picks_Path x8 ) fun (x9 : (Str × G_palimpmade_Picks)) => Option.bind (M_made_Picks_Path x9.2 ) fun (x10 : (Str × G_palimpmade_Picks)) => M_law13_WalkAll_l1 t2 t3 t4 x5 x7 x9 x10 fuel 0))
theorem ok_law13_WalkAll (t0 : (List UInt8)) (t1 : (List UInt8)) (t2 : Str) (t3 : Int) (t4 : Int) (r : Bool) (h : M_law13_WalkAll t0 t1 t2 t3 t4 = some r) : FFn Tryz.prog 3 [(SL 1 c8 t0), (SL 1 c8 t1), (S t2), (I t3), (I t4)] (Bo r) := by
  refine FFn.of_body (n := 208) Tryz.func3 rfl Tryz.ntmps3 rfl rfl rfl rfl ?_
  show AWp _ _ _ ⟨208, 0, [(0, (SL 1 c8 t0)), (1, (SL 1 c8 t1)), (2, (S t2)), (3, (I t3)), (4, (I t4))], [], ⟨0, []⟩⟩
  unfold M_law13_WalkAll at h
  refine awp_seq ?_
  refine awp_region ?_
  refine arun_do rfl rfl rfl (ex_assign (eV (v := (Bo false)) rfl)) ?_
  refine arun_keepE [0, 1, 2, 3, 4] 0 0 (st' := ⟨208, 0, [(0, (SL 1 c8 t0)), (1, (SL 1 c8 t1)), (2, (S t2)), (3, (I t3)), (4, (I t4))], [], ⟨0, []⟩⟩) (by kernel_rfl) (by kernel_rfl) ?_
  show AWp _ _ _ _
  refine awp_seq ?_
  refine awp_seq ?_
  refine awp_region ?_
  obtain ⟨x1, hx1, h⟩ := bindS h
  refine arun_do rfl rfl rfl (ex_call0 (vs := []) (v := (Bo x1)) rfl en_4 (cargs evs_nil) rfl (ok_law13_begun  x1 hx1) rfl) ?_
  refine arun_do rfl rfl rfl (ex_un (vx := (Bo x1)) rfl notB_ok) ?_
  refine arun_keepE [0, 1, 2, 3, 4, 35] 0 0 (st' := ⟨208, 0, [(0, (SL 1 c8 t0)), (1, (SL 1 c8 t1)), (2, (S t2)), (3, (I t3)), (4, (I t4)), (35, (Bo (!x1)))], [], ⟨0, []⟩⟩) (by kernel_rfl) (by kernel_rfl) ?_
  show AWp _ _ _ _
  rcases Bool.eq_false_or_eq_true (!x1) with hb2 | hb2
  · rw [condT hb2] at h
    refine awp_condT (boT hb2) ?_
    refine awp_seq ?_
    refine awp_region ?_
    refine arun_do rfl rfl rfl (ex_assign (eV (v := (Bo false)) rfl)) ?_
    refine arun_keepE [10] 0 0 (st' := ⟨208, 0, [(10, (Bo false))], [], ⟨0, []⟩⟩) (by kernel_rfl) (by kernel_rfl) ?_
    show AWp _ _ _ _
    refine awp_ret ?_
    cases h
    exact ares1 (rtmp rfl (eV rfl))
  · rw [condF hb2] at h
    refine awp_condF (boF hb2) ?_
    refine awp_skip ?_
    show AWp _ _ _ _
    refine awp_seq ?_
    refine awp_seq ?_
    refine awp_region ?_
    refine arun_do rfl rfl rfl (ex_move (eV (v := (SL 1 c8 t0)) rfl)) ?_
    refine arun_do rfl rfl rfl (tx_lenD (xs := t0) ce8 Tryz.underlying22 rfl) ?_
    refine arun_do rfl rfl rfl (ex_bin (vx := (I (t0.length : Int))) (vy := (I 60)) rfl rfl gtrI_ok) ?_
    refine arun_do rfl rfl rfl (ex_move (eV (v := (Bo (decide ((t0.length : Int) > 60)))) rfl)) ?_
    refine arun_guard (v := (SL 1 c8 t1)) ((decide ((t0.length : Int) > 60)) == false) rfl rfl rfl (fun hc => ex_move (eV (v := (SL 1 c8 t1)) rfl)) ?_
    refine arun_guard (v := (I (t1.length : Int))) ((decide ((t0.length : Int) > 60)) == false) rfl rfl rfl (fun hc => tx_lenD (xs := t1) ce8 Tryz.underlying22 (cond_of hc)) ?_
    refine arun_guard (v := (Bo (decide ((t1.length : Int) > 2)))) ((decide ((t0.length : Int) > 60)) == false) rfl rfl rfl (fun hc => ex_bin (vx := (I (t1.length : Int))) (vy := (I 2)) (cond_of hc) rfl gtrI_ok) ?_
    refine arun_do rfl rfl rfl (ex_pick rfl pkOr) ?_
    refine arun_do rfl rfl rfl (ex_move (eV (v := (Bo ((decide ((t0.length : Int) > 60)) || (decide ((t1.length : Int) > 2))))) rfl)) ?_
    refine arun_guard (v := (S t2)) (((decide ((t0.length : Int) > 60)) || (decide ((t1.length : Int) > 2))) == false) rfl rfl rfl (fun hc => ex_move (eV (v := (S t2)) rfl)) ?_
    refine arun_guard (v := (I (t2.length : Int))) (((decide ((t0.length : Int) > 60)) || (decide ((t1.length : Int) > 2))) == false) rfl rfl rfl (fun hc => tx_lenS Tryz.underlying9 (cond_of hc)) ?_
    refine arun_guard (v := (Bo (decide ((t2.length : Int) > 80)))) (((decide ((t0.length : Int) > 60)) || (decide ((t1.length : Int) > 2))) == false) rfl rfl rfl (fun hc => ex_bin (vx := (I (t2.length : Int))) (vy := (I 80)) (cond_of hc) rfl gtrI_ok) ?_
    refine arun_do rfl rfl rfl (ex_pick rfl pkOr) ?_
    refine arun_keepE [0, 1, 2, 3, 4, 48] 0 0 (st' := ⟨208, 0, [(0, (SL 1 c8 t0)), (1, (SL 1 c8 t1)), (2, (S t2)), (3, (I t3)), (4, (I t4)), (48, (Bo (((decide ((t0.length : Int) > 60)) || (decide ((t1.length : Int) > 2))) || (decide ((t2.length : Int) > 80)))))], [], ⟨0, []⟩⟩) (by kernel_rfl) (by kernel_rfl) ?_
    show AWp _ _ _ _
    rcases Bool.eq_false_or_eq_true (((decide ((t0.length : Int) > 60)) || (decide ((t1.length : Int) > 2))) || (decide ((t2.length : Int) > 80))) with hb3 | hb3
    · rw [condT hb3] at h
      refine awp_condT (boT hb3) ?_
      refine awp_seq ?_
      refine awp_region ?_
      refine arun_do rfl rfl rfl (ex_assign (eV (v := (Bo true)) rfl)) ?_
      refine arun_keepE [10] 0 0 (st' := ⟨208, 0, [(10, (Bo true))], [], ⟨0, []⟩⟩) (by kernel_rfl) (by kernel_rfl) ?_
      show AWp _ _ _ _
      refine awp_ret ?_
      cases h
      exact ares1 (rtmp rfl (eV rfl))
    · rw [condF hb3] at h
      refine awp_condF (boF hb3) ?_
      refine awp_skip ?_
      show AWp _ _ _ _
      refine awp_seq ?_
      refine awp_region ?_
      refine arun_do rfl rfl rfl (ex_move (eV (v := (SL 1 c8 t0)) rfl)) ?_
      obtain ⟨x4, hx4, h⟩ := bindS h
      refine arun_do rfl rfl rfl (ex_callNew (vs := [(SL 1 c8 t0)]) (k := 0) (b := ⟨1, (c_palimpmade_Picks x4), false⟩) (H' := ⟨1, [(0, ⟨1, (c_palimpmade_Picks x4), false⟩)]⟩) rfl en_5 (cargs (evs rfl evs_nil)) rfl (ok_made_Made t0 x4 hx4) rfl rfl rfl) ?_
      obtain ⟨x5, hx5, h⟩ := bindS h
      refine arun_do rfl rfl rfl (ex_call1 (vs := [(NP 0 0), (I 25)]) (vs' := [(NP 0 0), (I 25)]) (v := (SL 5 c_api_Node x5.1)) (n := 0) (b := ⟨1, (c_palimpmade_Picks x4), false⟩) (b' := ⟨1, (c_palimpmade_Picks x5.2), false⟩) (H' := ⟨1, [(0, ⟨1, (c_palimpmade_Picks x5.2), false⟩)]⟩) rfl en_6 (cargs (evs rfl (evs rfl evs_nil))) rfl rfl (.cons (.inr ⟨_, rfl, rfl⟩) (.cons (.inl ⟨rfl, rfl⟩) .nil)) (ok_made_Picks_Set x4 25 x5 hx5) rfl rfl) ?_
      refine arun_do rfl rfl rfl (ex_move (eV (v := (SL 1 c8 t0)) rfl)) ?_
      obtain ⟨x6, hx6, h⟩ := bindS h
      refine arun_do rfl rfl rfl (ex_callNew (vs := [(SL 1 c8 t0)]) (k := 1) (b := ⟨1, (c_palimpmade_Picks x6), false⟩) (H' := ⟨2, [(1, ⟨1, (c_palimpmade_Picks x6), false⟩), (0, ⟨1, (c_palimpmade_Picks x5.2), false⟩)]⟩) rfl en_5 (cargs (evs rfl evs_nil)) rfl (ok_made_Made t0 x6 hx6) rfl rfl rfl) ?_
      obtain ⟨x7, hx7, h⟩ := bindS h
      refine arun_do rfl rfl rfl (ex_call1 (vs := [(NP 1 0), (I 15)]) (vs' := [(NP 0 0), (I 15)]) (v := (SL 5 c_api_Node x7.1)) (n := 1) (b := ⟨1, (c_palimpmade_Picks x6), false⟩) (b' := ⟨1, (c_palimpmade_Picks x7.2), false⟩) (H' := ⟨2, [(1, ⟨1, (c_palimpmade_Picks x7.2), false⟩), (0, ⟨1, (c_palimpmade_Picks x5.2), false⟩)]⟩) rfl en_7 (cargs (evs rfl (evs rfl evs_nil))) rfl rfl (.cons (.inr ⟨_, rfl, rfl⟩) (.cons (.inl ⟨rfl, rfl⟩) .nil)) (ok_made_Picks_Torn x6 15 x7 hx7) rfl rfl) ?_
      refine arun_do rfl rfl rfl (ex_assign (eV (v := (SL 5 c_api_Node x5.1)) rfl)) ?_
      refine arun_do rfl rfl rfl (ex_assign (eV (v := (SL 5 c_api_Node x7.1)) rfl)) ?_
      refine arun_keepE [1, 2, 3, 4, 11, 12] 0 0 (st' := ⟨208, 0, [(1, (SL 1 c8 t1)), (2, (S t2)), (3, (I t3)), (4, (I t4)), (11, (SL 5 c_api_Node x5.1)), (12, (SL 5 c_api_Node x7.1))], [], ⟨0, []⟩⟩) (by kernel_rfl) (by kernel_rfl) ?_
      show AWp _ _ _ _
      refine awp_seq ?_
      refine awp_region ?_
      refine arun_do rfl rfl rfl (ex_move (eV (v := (SL 1 c8 t1)) rfl)) ?_
      obtain ⟨x8, hx8, h⟩ := bindS h
      refine arun_do rfl rfl rfl (ex_callNew (vs := [(SL 1 c8 t1)]) (k := 0) (b := ⟨1, (c_palimpmade_Picks x8), false⟩) (H' := ⟨1, [(0, ⟨1, (c_palimpmade_Picks x8), false⟩)]⟩) rfl en_5 (cargs (evs rfl evs_nil)) rfl (ok_made_Made t1 x8 hx8) rfl rfl rfl) ?_
      refine arun_do rfl rfl rfl (ex_assign (eV (v := (NP 0 0)) rfl)) ?_
      refine arun_keepE [2, 3, 4, 11, 12, 13] 0 1 (st' := ⟨208, 0, [(2, (S t2)), (3, (I t3)), (4, (I t4)), (11, (SL 5 c_api_Node x5.1)), (12, (SL 5 c_api_Node x7.1)), (13, (NP 0 0))], [], ⟨1, [(0, ⟨1, (c_palimpmade_Picks x8), false⟩)]⟩⟩) (by kernel_rfl) (by kernel_rfl) ?_
      show AWp _ _ _ _
      refine awp_seq ?_
      refine awp_region ?_
      refine arun_do rfl rfl rfl (ex_move (eV (v := (S t2)) rfl)) ?_
      refine arun_do rfl rfl rfl (ex_move (eV (v := (NP 0 0)) rfl)) ?_
      obtain ⟨x9, hx9, h⟩ := bindS h
      refine arun_do rfl rfl rfl (ex_call1 (vs := [(NP 0 0)]) (vs' := [(NP 0 0)]) (v := (S x9.1)) (n := 0) (b := ⟨1, (c_palimpmade_Picks x8), false⟩) (b' := ⟨1, (c_palimpmade_Picks x9.2), false⟩) (H' := ⟨1, [(0, ⟨1, (c_palimpmade_Picks x9.2), false⟩)]⟩) rfl en_8 (cargs (evs rfl evs_nil)) rfl rfl (.cons (.inr ⟨_, rfl, rfl⟩) .nil) (ok_made_Picks_Path x8  x9 hx9) rfl rfl) ?_
      refine arun_do rfl rfl rfl (ex_move (eV (v := (NP 0 0)) rfl)) ?_
      obtain ⟨x10, hx10, h⟩ := bindS h
      refine arun_do rfl rfl rfl (ex_call1 (vs := [(NP 0 0)]) (vs' := [(NP 0 0)]) (v := (S x10.1)) (n := 0) (b := ⟨1, (c_palimpmade_Picks x9.2), false⟩) (b' := ⟨1, (c_palimpmade_Picks x10.2), false⟩) (H' := ⟨1, [(0, ⟨1, (c_palimpmade_Picks x10.2), false⟩)]⟩) rfl en_8 (cargs (evs rfl evs_nil)) rfl rfl (.cons (.inr ⟨_, rfl, rfl⟩) .nil) (ok_made_Picks_Path x9.2  x10 hx10) rfl rfl) ?_
      refine arun_do rfl rfl rfl (ex_buildSliceD (qs := [(0, (S t2)), (1, (S x9.1)), (2, (S x10.1)), (3, (S ([97, 47, 98] : Str))), (4, (S ([97] : Str)))]) (cells := (([t2, x9.1, x10.1, ([97, 47, 98] : Str), ([97] : Str)] : List Str).flatMap cS)) Tryz.underlying30 s_9 (by decide) (evp rfl (evp rfl (evp rfl (evp rfl (evp rfl evp_nil))))) rfl (by kernel_rfl) (by kernel_rfl) (by kernel_rfl)) ?_
      refine arun_do rfl rfl rfl (ex_assign (eV (v := (SL 1 cS ([t2, x9.1, x10.1, ([97, 47, 98] : Str), ([97] : Str)] : List Str))) rfl)) ?_
      refine arun_keepE [3, 4, 11, 12, 14] 0 0 (st' := ⟨208, 0, [(3, (I t3)), (4, (I t4)), (11, (SL 5 c_api_Node x5.1)), (12, (SL 5 c_api_Node x7.1)), (14, (SL 1 cS ([t2, x9.1, x10.1, ([97, 47, 98] : Str), ([97] : Str)] : List Str)))], [], ⟨0, []⟩⟩) (by kernel_rfl) (by kernel_rfl) ?_
      show AWp _ _ _ _
      refine awp_seq ?_
      refine awp_region ?_
      refine arun_do rfl rfl rfl (ex_move (eV (v := (SL 5 c_api_Node x5.1)) rfl)) ?_
      refine arun_do rfl rfl rfl (ex_move (eV (v := (SL 5 c_api_Node x7.1)) rfl)) ?_
      refine arun_do rfl rfl rfl (ex_buildSliceD (qs := [(0, (SL 5 c_api_Node x5.1)), (1, (SL 5 c_api_Node x7.1))]) (cells := (([x5.1, x7.1] : List (List G_api_Node)).flatMap (cL 5 c_api_Node))) Tryz.underlying31 s_25 (by decide) (evp rfl (evp rfl evp_nil)) rfl (by kernel_rfl) (by kernel_rfl) (by kernel_rfl)) ?_
      refine arun_do rfl rfl rfl (ex_assign (eV (v := (SL 1 (cL 5 c_api_Node) ([x5.1, x7.1] : List (List G_api_Node)))) rfl)) ?_
      refine arun_keepE [3, 4, 11, 14, 15] 0 0 (st' := ⟨208, 0, [(3, (I t3)), (4, (I t4)), (11, (SL 5 c_api_Node x5.1)), (14, (SL 1 cS ([t2, x9.1, x10.1, ([97, 47, 98] : Str), ([97] : Str)] : List Str))), (15, (SL 1 (cL 5 c_api_Node) ([x5.1, x7.1] : List (List G_api_Node))))], [], ⟨0, []⟩⟩) (by kernel_rfl) (by kernel_rfl) ?_
      show AWp _ _ _ _
      refine awp_seq ?_
      refine awp_seq ?_
      refine awp_region ?_
      refine arun_do rfl rfl rfl (ex_assign (eV (v := (I 0)) rfl)) ?_
      refine arun_keepE [3, 4, 11, 14, 15, 16] 0 0 (st' := ⟨208, 0, [(3, (I t3)), (4, (I t4)), (11, (SL 5 c_api_Node x5.1)), (14, (SL 1 cS ([t2, x9.1, x10.1, ([97, 47, 98] : Str), ([97] : Str)] : List Str))), (15, (SL 1 (cL 5 c_api_Node) ([x5.1, x7.1] : List (List G_api_Node)))), (16, (I 0))], [], ⟨0, []⟩⟩) (by kernel_rfl) (by kernel_rfl) ?_
      show AWp _ _ _ _
      refine awp_block ?_
      refine awp_loop (fun n s => ∃ (v11 : Int), s = ⟨208, 0, [(3, (I t3)), (4, (I t4)), (11, (SL 5 c_api_Node x5.1)), (14, (SL 1 cS ([t2, x9.1, x10.1, ([97, 47, 98] : Str), ([97] : Str)] : List Str))), (15, (SL 1 (cL 5 c_api_Node) ([x5.1, x7.1] : List (List G_api_Node)))), (16, (I v11))], [], ⟨0, []⟩⟩ ∧ M_law13_WalkAll_l1 t2 t3 t4 x5 x7 x9 x10 n v11 = some r) fuel (Exists.intro 0 (And.intro rfl h)) ?_
      rintro n s ⟨v11, rfl, h⟩ -
      cases n with
      | zero => cases h
      | succ n1 =>
        unfold M_law13_WalkAll_l1 at h
        refine awp_seq ?_
        refine awp_seq ?_
        refine awp_region ?_
        refine arun_do rfl rfl rfl (ex_move (eV (v := (I v11)) rfl)) ?_
        refine arun_do rfl rfl rfl (ex_move (eV (v := (SL 1 cS ([t2, x9.1, x10.1, ([97, 47, 98] : Str), ([97] : Str)] : List Str))) rfl)) ?_
        refine arun_do rfl rfl rfl (tx_lenD (xs := ([t2, x9.1, x10.1, ([97, 47, 98] : Str), ([97] : Str)] : List Str)) ceS Tryz.underlying30 rfl) ?_
        refine arun_do rfl rfl rfl (ex_bin (vx := (I v11)) (vy := (I (([t2, x9.1, x10.1, ([97, 47, 98] : Str), ([97] : Str)] : List Str).length : Int))) rfl rfl lssI_ok) ?_
        refine arun_keepE [3, 4, 11, 14, 15, 16, 69] 0 0 (st' := ⟨208, 0, [(3, (I t3)), (4, (I t4)), (11, (SL 5 c_api_Node x5.1)), (14, (SL 1 cS ([t2, x9.1, x10.1, ([97, 47, 98] : Str), ([97] : Str)] : List Str))), (15, (SL 1 (cL 5 c_api_Node) ([x5.1, x7.1] : List (List G_api_Node)))), (16, (I v11)), (69, (Bo (decide (v11 < (([t2, x9.1, x10.1, ([97, 47, 98] : Str), ([97] : Str)] : List Str).length : Int)))))], [], ⟨0, []⟩⟩) (by kernel_rfl) (by kernel_rfl) ?_
        show AWp _ _ _ _
        rcases Bool.eq_false_or_eq_true (decide (v11 < (([t2, x9.1, x10.1, ([97, 47, 98] : Str), ([97] : Str)] : List Str).length : Int))) with hb12 | hb12
        · rw [condT hb12] at h
          refine awp_condT (boT hb12) ?_
          refine awp_skip ?_
          show AWp _ _ _ _
          refine awp_seq ?_
          refine awp_block ?_
          refine awp_seq ?_
          refine awp_region ?_
          refine arun_do rfl rfl rfl (ex_assign (eV (v := (I 0)) rfl)) ?_
          refine arun_keepE [3, 4, 11, 14, 15, 16, 17] 0 0 (st' := ⟨208, 0, [(3, (I t3)), (4, (I t4)), (11, (SL 5 c_api_Node x5.1)), (14, (SL 1 cS ([t2, x9.1, x10.1, ([97, 47, 98] : Str), ([97] : Str)] : List Str))), (15, (SL 1 (cL 5 c_api_Node) ([x5.1, x7.1] : List (List G_api_Node)))), (16, (I v11)), (17, (I 0))], [], ⟨0, []⟩⟩) (by kernel_rfl) (by kernel_rfl) ?_
          show AWp _ _ _ _
          refine awp_block ?_
          refine awp_loop (fun n s => ∃ (v13 : Int), s = ⟨208, 0, [(3, (I t3)), (4, (I t4)), (11, (SL 5 c_api_Node x5.1)), (14, (SL 1 cS ([t2, x9.1, x10.1, ([97, 47, 98] : Str), ([97] : Str)] : List Str))), (15, (SL 1 (cL 5 c_api_Node) ([x5.1, x7.1] : List (List G_api_Node)))), (16, (I v11)), (17, (I v13))], [], ⟨0, []⟩⟩ ∧ M_law13_WalkAll_l2 (M_law13_WalkAll_l1 t2 t3 t4 x5 x7 x9 x10 n1) t2 t3 t4 x5 x7 x9 x10 v11 n v13 = some r) fuel (Exists.intro 0 (And.intro rfl h)) ?_
          rintro n s ⟨v13, rfl, h⟩ -
          cases n with
          | zero => cases h
          | succ n2 =>
            unfold M_law13_WalkAll_l2 at h
            refine awp_seq ?_
            refine awp_seq ?_
            refine awp_region ?_
            refine arun_do rfl rfl rfl (ex_move (eV (v := (I v13)) rfl)) ?_
            refine arun_do rfl rfl rfl (ex_bin (vx := (I v13)) (vy := (I 2)) rfl rfl lssI_ok) ?_
            refine arun_keepE [3, 4, 11, 14, 15, 16, 17, 73] 0 0 (st' := ⟨208, 0, [(3, (I t3)), (4, (I t4)), (11, (SL 5 c_api_Node x5.1)), (14, (SL 1 cS ([t2, x9.1, x10.1, ([97, 47, 98] : Str), ([97] : Str)] : List Str))), (15, (SL 1 (cL 5 c_api_Node) ([x5.1, x7.1] : List (List G_api_Node)))), (16, (I v11)), (17, (I v13)), (73, (Bo (decide (v13 < 2))))], [], ⟨0, []⟩⟩) (by kernel_rfl) (by kernel_rfl) ?_
            show AWp _ _ _ _
            rcases Bool.eq_false_or_eq_true (decide (v13 < 2)) with hb14 | hb14
            · rw [condT hb14] at h
              refine awp_condT (boT hb14) ?_
              refine awp_skip ?_
              show AWp _ _ _ _
              refine awp_seq ?_
              refine awp_block ?_
              refine awp_seq ?_
              obtain ⟨x15, hx15, h⟩ := bindS h
              obtain ⟨x16, hx16, h⟩ := bindS h
              obtain ⟨x17, hx17, h⟩ := bindS h
              refine awp_kn [3, 4, 11, 14, 15, 16, 17, 18, 19] 0 0 (st' := ⟨208, 0, [(3, (I t3)), (4, (I t4)), (11, (SL 5 c_api_Node x5.1)), (14, (SL 1 cS ([t2, x9.1, x10.1, ([97, 47, 98] : Str), ([97] : Str)] : List Str))), (15, (SL 1 (cL 5 c_api_Node) ([x5.1, x7.1] : List (List G_api_Node)))), (16, (I v11)), (17, (I v13)), (18, (I x17.1)), (19, (I x17.2))], [], ⟨0, []⟩⟩) (awp_draw (T := [(SL 1 (cL 5 c_api_Node) ([x5.1, x7.1] : List (List G_api_Node))), (I v13), (DP ((cL 5 c_api_Node) x15)), (SL 5 c_api_Node x15), (SL 1 cS ([t2, x9.1, x10.1, ([97, 47, 98] : Str), ([97] : Str)] : List Str)), (I v11), (DP (cS x16)), (S x16), (Value.tuple #[(I x17.1), (I x17.2)]), (Value.tuple #[(I x17.1), (I x17.2)]), (I x17.1), (I x17.2), (I x17.1), (I x17.2)]) (LH := [([], ⟨0, []⟩)]) (D := [⟨[(15, none)], [], [0], false⟩, ⟨[(17, none)], [], [0], false⟩, ⟨[(77, some 0), (78, some 1)], [0, 1], [0], false⟩, ⟨[(79, some 2)], [0, 1, 2], [0], false⟩, ⟨[(14, none)], [], [0], false⟩, ⟨[(16, none)], [], [0], false⟩, ⟨[(81, some 4), (82, some 5)], [4, 5], [0], false⟩, ⟨[(83, some 6)], [4, 5, 6], [0], false⟩, ⟨[(80, some 3), (84, some 7)], [0, 1, 2, 3, 4, 5, 6, 7], [0], false⟩, ⟨[(85, some 8)], [0, 1, 2, 3, 4, 5, 6, 7, 8], [0], false⟩, ⟨[(76, some 9)], [0, 1, 2, 3, 4, 5, 6, 7, 8, 9], [0], false⟩, ⟨[(76, some 9)], [0, 1, 2, 3, 4, 5, 6, 7, 8, 9], [0], false⟩, ⟨[(86, some 10)], [0, 1, 2, 3, 4, 5, 6, 7, 8, 9, 10], [0], false⟩, ⟨[(87, some 11)], [0, 1, 2, 3, 4, 5, 6, 7, 8, 9, 10, 11, 12], [0], false⟩]) (S := []) (plan := [0, 1, 2, 3, 4, 5, 6, 7, 8, 9, 10, 11, 12, 13]) mo (by kernel_rfl) rfl rfl rfl (dcons (dstep1 (Tm := [(15, (SL 1 (cL 5 c_api_Node) ([x5.1, x7.1] : List (List G_api_Node))))]) (L := []) (H := ⟨0, []⟩) rfl rfl rfl rfl rfl (astep_do rfl (ex_move (eV (v := (SL 1 (cL 5 c_api_Node) ([x5.1, x7.1] : List (List G_api_Node)))) rfl)))) (dcons (dstep1 (Tm := [(17, (I v13))]) (L := []) (H := ⟨0, []⟩) rfl rfl rfl rfl rfl (astep_do rfl (ex_move (eV (v := (I v13)) rfl)))) (dcons (dstep1 (Tm := [(77, (SL 1 (cL 5 c_api_Node) ([x5.1, x7.1] : List (List G_api_Node)))), (78, (I v13))]) (L := []) (H := ⟨0, []⟩) rfl rfl rfl rfl rfl (astep_do rfl (tx_idxD (c := (cL 5 c_api_Node)) (xs := ([x5.1, x7.1] : List (List G_api_Node))) (i := v13) ceL Tryz.underlying31 s_25 rfl rfl hx15))) (dcons (dstep1 (Tm := [(79, (DP ((cL 5 c_api_Node) x15)))]) (L := []) (H := ⟨0, []⟩) rfl rfl rfl rfl rfl (astep_do rfl (tx_ldD1 (v := (SL 5 c_api_Node x15)) Tryz.underlying25 rfl rfl rfl))) (dcons (dstep1 (Tm := [(14, (SL 1 cS ([t2, x9.1, x10.1, ([97, 47, 98] : Str), ([97] : Str)] : List Str)))]) (L := []) (H := ⟨0, []⟩) rfl rfl rfl rfl rfl (astep_do rfl (ex_move (eV (v := (SL 1 cS ([t2, x9.1, x10.1, ([97, 47, 98] : Str), ([97] : Str)] : List Str))) rfl)))) (dcons (dstep1 (Tm := [(16, (I v11))]) (L := []) (H := ⟨0, []⟩) rfl rfl rfl rfl rfl (astep_do rfl (ex_move (eV (v := (I v11)) rfl)))) (dcons (dstep1 (Tm := [(81, (SL 1 cS ([t2, x9.1, x10.1, ([97, 47, 98] : Str), ([97] : Str)] : List Str))), (82, (I v11))]) (L := []) (H := ⟨0, []⟩) rfl rfl rfl rfl rfl (astep_do rfl (tx_idxD (c := cS) (xs := ([t2, x9.1, x10.1, ([97, 47, 98] : Str), ([97] : Str)] : List Str)) (i := v11) ceS Tryz.underlying30 s_9 rfl rfl hx16))) (dcons (dstep1 (Tm := [(83, (DP (cS x16)))]) (L := []) (H := ⟨0, []⟩) rfl rfl rfl rfl rfl (astep_do rfl (tx_ldD1 (v := (S x16)) Tryz.underlying9 rfl rfl rfl))) (dcons (dstep1 (Tm := [(80, (SL 5 c_api_Node x15)), (84, (S x16))]) (L := []) (H := ⟨0, []⟩) rfl rfl rfl rfl rfl (astep_do rfl (ex_call0 (vs := [(SL 5 c_api_Node x15), (S x16)]) (v := (Value.tuple #[(I x17.1), (I x17.2)])) rfl en_9 (cargs (evs rfl (evs rfl evs_nil))) rfl (ok_walk_Find x15 x16 x17 hx17) rfl))) (dcons (dstep1 (Tm := [(85, (Value.tuple #[(I x17.1), (I x17.2)]))]) (L := []) (H := ⟨0, []⟩) rfl rfl rfl rfl rfl (astep_do rfl (ex_move (eV (v := (Value.tuple #[(I x17.1), (I x17.2)])) rfl)))) (dcons (dstep1 (Tm := [(76, (Value.tuple #[(I x17.1), (I x17.2)]))]) (L := []) (H := ⟨0, []⟩) rfl rfl rfl rfl rfl (astep_do rfl (ex_extract (vx := (Value.tuple #[(I x17.1), (I x17.2)])) (v := (I x17.1)) rfl rfl))) (dcons (dstep1 (Tm := [(76, (Value.tuple #[(I x17.1), (I x17.2)]))]) (L := []) (H := ⟨0, []⟩) rfl rfl rfl rfl rfl (astep_do rfl (ex_extract (vx := (Value.tuple #[(I x17.1), (I x17.2)])) (v := (I x17.2)) rfl rfl))) (dcons (dstep1 (Tm := [(86, (I x17.1))]) (L := []) (H := ⟨0, []⟩) rfl rfl rfl rfl rfl (astep_do rfl (ex_assign (eV (v := (I x17.1)) rfl)))) (dcons (dstep1 (Tm := [(87, (I x17.2))]) (L := []) (H := ⟨0, []⟩) rfl rfl rfl rfl rfl (astep_do rfl (ex_assign (eV (v := (I x17.2)) rfl)))) dnil)))))))))))))) ⟨rfl, rfl⟩) (by kernel_rfl) (by kernel_rfl) ?_
              show AWp _ _ _ _
              refine awp_seq ?_
              obtain ⟨x18, hx18, h⟩ := bindS h
              obtain ⟨x19, hx19, h⟩ := bindS h
              obtain ⟨x20, hx20, h⟩ := bindS h
              refine awp_kn [3, 4, 11, 14, 15, 16, 17, 18, 19, 20, 21] 0 0 (st' := ⟨208, 0, [(3, (I t3)), (4, (I t4)), (11, (SL 5 c_api_Node x5.1)), (14, (SL 1 cS ([t2, x9.1, x10.1, ([97, 47, 98] : Str), ([97] : Str)] : List Str))), (15, (SL 1 (cL 5 c_api_Node) ([x5.1, x7.1] : List (List G_api_Node)))), (16, (I v11)), (17, (I v13)), (18, (I x17.1)), (19, (I x17.2)), (20, (I x20.1)), (21, (I x20.2))], [], ⟨0, []⟩⟩) (awp_draw (T := [(SL 1 (cL 5 c_api_Node) ([x5.1, x7.1] : List (List G_api_Node))), (I v13), (DP ((cL 5 c_api_Node) x18)), (SL 5 c_api_Node x18), (SL 1 cS ([t2, x9.1, x10.1, ([97, 47, 98] : Str), ([97] : Str)] : List Str)), (I v11), (DP (cS x19)), (S x19), (Value.tuple #[(I x20.1), (I x20.2)]), (Value.tuple #[(I x20.1), (I x20.2)]), (I x20.1), (I x20.2), (I x20.1), (I x20.2)]) (LH := [([], ⟨0, []⟩)]) (D := [⟨[(15, none)], [], [0], false⟩, ⟨[(17, none)], [], [0], false⟩, ⟨[(89, some 0), (90, some 1)], [0, 1], [0], false⟩, ⟨[(91, some 2)], [0, 1, 2], [0], false⟩, ⟨[(14, none)], [], [0], false⟩, ⟨[(16, none)], [], [0], false⟩, ⟨[(93, some 4), (94, some 5)], [4, 5], [0], false⟩, ⟨[(95, some 6)], [4, 5, 6], [0], false⟩, ⟨[(92, some 3), (96, some 7)], [0, 1, 2, 3, 4, 5, 6, 7], [0], false⟩, ⟨[(97, some 8)], [0, 1, 2, 3, 4, 5, 6, 7, 8], [0], false⟩, ⟨[(88, some 9)], [0, 1, 2, 3, 4, 5, 6, 7, 8, 9], [0], false⟩, ⟨[(88, some 9)], [0, 1, 2, 3, 4, 5, 6, 7, 8, 9], [0], false⟩, ⟨[(98, some 10)], [0, 1, 2, 3, 4, 5, 6, 7, 8, 9, 10], [0], false⟩, ⟨[(99, some 11)], [0, 1, 2, 3, 4, 5, 6, 7, 8, 9, 10, 11, 12], [0], false⟩]) (S := []) (plan := [0, 1, 2, 3, 4, 5, 6, 7, 8, 9, 10, 11, 12, 13]) mo (by kernel_rfl) rfl rfl rfl (dcons (dstep1 (Tm := [(15, (SL 1 (cL 5 c_api_Node) ([x5.1, x7.1] : List (List G_api_Node))))]) (L := []) (H := ⟨0, []⟩) rfl rfl rfl rfl rfl (astep_do rfl (ex_move (eV (v := (SL 1 (cL 5 c_api_Node) ([x5.1, x7.1] : List (List G_api_Node)))) rfl)))) (dcons (dstep1 (Tm := [(17, (I v13))]) (L := []) (H := ⟨0, []⟩) rfl rfl rfl rfl rfl (astep_do rfl (ex_move (eV (v := (I v13)) rfl)))) (dcons (dstep1 (Tm := [(89, (SL 1 (cL 5 c_api_Node) ([x5.1, x7.1] : List (List G_api_Node)))), (90, (I v13))]) (L := []) (H := ⟨0, []⟩) rfl rfl rfl rfl rfl (astep_do rfl (tx_idxD (c := (cL 5 c_api_Node)) (xs := ([x5.1, x7.1] : List (List G_api_Node))) (i := v13) ceL Tryz.underlying31 s_25 rfl rfl hx18))) (dcons (dstep1 (Tm := [(91, (DP ((cL 5 c_api_Node) x18)))]) (L := []) (H := ⟨0, []⟩) rfl rfl rfl rfl rfl (astep_do rfl (tx_ldD1 (v := (SL 5 c_api_Node x18)) Tryz.underlying25 rfl rfl rfl))) (dcons (dstep1 (Tm := [(14, (SL 1 cS ([t2, x9.1, x10.1, ([97, 47, 98] : Str), ([97] : Str)] : List Str)))]) (L := []) (H := ⟨0, []⟩) rfl rfl rfl rfl rfl (astep_do rfl (ex_move (eV (v := (SL 1 cS ([t2, x9.1, x10.1, ([97, 47, 98] : Str), ([97] : Str)] : List Str))) rfl)))) (dcons (dstep1 (Tm := [(16, (I v11))]) (L := []) (H := ⟨0, []⟩) rfl rfl rfl rfl rfl (astep_do rfl (ex_move (eV (v := (I v11)) rfl)))) (dcons (dstep1 (Tm := [(93, (SL 1 cS ([t2, x9.1, x10.1, ([97, 47, 98] : Str), ([97] : Str)] : List Str))), (94, (I v11))]) (L := []) (H := ⟨0, []⟩) rfl rfl rfl rfl rfl (astep_do rfl (tx_idxD (c := cS) (xs := ([t2, x9.1, x10.1, ([97, 47, 98] : Str), ([97] : Str)] : List Str)) (i := v11) ceS Tryz.underlying30 s_9 rfl rfl hx19))) (dcons (dstep1 (Tm := [(95, (DP (cS x19)))]) (L := []) (H := ⟨0, []⟩) rfl rfl rfl rfl rfl (astep_do rfl (tx_ldD1 (v := (S x19)) Tryz.underlying9 rfl rfl rfl))) (dcons (dstep1 (Tm := [(92, (SL 5 c_api_Node x18)), (96, (S x19))]) (L := []) (H := ⟨0, []⟩) rfl rfl rfl rfl rfl (astep_do rfl (ex_call0 (vs := [(SL 5 c_api_Node x18), (S x19)]) (v := (Value.tuple #[(I x20.1), (I x20.2)])) rfl en_10 (cargs (evs rfl (evs rfl evs_nil))) rfl (ok_ref11_Find x18 x19 x20 hx20) rfl))) (dcons (dstep1 (Tm := [(97, (Value.tuple #[(I x20.1), (I x20.2)]))]) (L := []) (H := ⟨0, []⟩) rfl rfl rfl rfl rfl (astep_do rfl (ex_move (eV (v := (Value.tuple #[(I x20.1), (I x20.2)])) rfl)))) (dcons (dstep1 (Tm := [(88, (Value.tuple #[(I x20.1), (I x20.2)]))]) (L := []) (H := ⟨0, []⟩) rfl rfl rfl rfl rfl (astep_do rfl (ex_extract (vx := (Value.tuple #[(I x20.1), (I x20.2)])) (v := (I x20.1)) rfl rfl))) (dcons (dstep1 (Tm := [(88, (Value.tuple #[(I x20.1), (I x20.2)]))]) (L := []) (H := ⟨0, []⟩) rfl rfl rfl rfl rfl (astep_do rfl (ex_extract (vx := (Value.tuple #[(I x20.1), (I x20.2)])) (v := (I x20.2)) rfl rfl))) (dcons (dstep1 (Tm := [(98, (I x20.1))]) (L := []) (H := ⟨0, []⟩) rfl rfl rfl rfl rfl (astep_do rfl (ex_assign (eV (v := (I x20.1)) rfl)))) (dcons (dstep1 (Tm := [(99, (I x20.2))]) (L := []) (H := ⟨0, []⟩) rfl rfl rfl rfl rfl (astep_do rfl (ex_assign (eV (v := (I x20.2)) rfl)))) dnil)))))))))))))) ⟨rfl, rfl⟩) (by kernel_rfl) (by kernel_rfl) ?_
              show AWp _ _ _ _
              refine awp_seq ?_
              obtain ⟨x21, hx21, h⟩ := bindS h
              obtain ⟨x22, hx22, h⟩ := bindS h
              obtain ⟨x23, hx23, h⟩ := bindS h
              refine awp_kn [3, 4, 11, 14, 15, 16, 17, 18, 19, 20, 21, 22, 23, 24] 0 0 (st' := ⟨208, 0, [(3, (I t3)), (4, (I t4)), (11, (SL 5 c_api_Node x5.1)), (14, (SL 1 cS ([t2, x9.1, x10.1, ([97, 47, 98] : Str), ([97] : Str)] : List Str))), (15, (SL 1 (cL 5 c_api_Node) ([x5.1, x7.1] : List (List G_api_Node)))), (16, (I v11)), (17, (I v13)), (18, (I x17.1)), (19, (I x17.2)), (20, (I x20.1)), (21, (I x20.2)), (22, (I x23.1)), (23, (S x23.2.1)), (24, (I x23.2.2))], [], ⟨0, []⟩⟩) (awp_draw (T := [(SL 1 (cL 5 c_api_Node) ([x5.1, x7.1] : List (List G_api_Node))), (I v13), (DP ((cL 5 c_api_Node) x21)), (SL 5 c_api_Node x21), (SL 1 cS ([t2, x9.1, x10.1, ([97, 47, 98] : Str), ([97] : Str)] : List Str)), (I v11), (DP (cS x22)), (S x22), (Value.tuple #[(I x23.1), (S x23.2.1), (I x23.2.2)]), (Value.tuple #[(I x23.1), (S x23.2.1), (I x23.2.2)]), (I x23.1), (S x23.2.1), (I x23.2.2), (I x23.1), (S x23.2.1), (I x23.2.2)]) (LH := [([], ⟨0, []⟩)]) (D := [⟨[(15, none)], [], [0], false⟩, ⟨[(17, none)], [], [0], false⟩, ⟨[(101, some 0), (102, some 1)], [0, 1], [0], false⟩, ⟨[(103, some 2)], [0, 1, 2], [0], false⟩, ⟨[(14, none)], [], [0], false⟩, ⟨[(16, none)], [], [0], false⟩, ⟨[(105, some 4), (106, some 5)], [4, 5], [0], false⟩, ⟨[(107, some 6)], [4, 5, 6], [0], false⟩, ⟨[(104, some 3), (108, some 7)], [0, 1, 2, 3, 4, 5, 6, 7], [0], false⟩, ⟨[(109, some 8)], [0, 1, 2, 3, 4, 5, 6, 7, 8], [0], false⟩, ⟨[(100, some 9)], [0, 1, 2, 3, 4, 5, 6, 7, 8, 9], [0], false⟩, ⟨[(100, some 9)], [0, 1, 2, 3, 4, 5, 6, 7, 8, 9], [0], false⟩, ⟨[(100, some 9)], [0, 1, 2, 3, 4, 5, 6, 7, 8, 9], [0], false⟩, ⟨[(110, some 10)], [0, 1, 2, 3, 4, 5, 6, 7, 8, 9, 10], [0], false⟩, ⟨[(111, some 11)], [0, 1, 2, 3, 4, 5, 6, 7, 8, 9, 10, 11, 13], [0], false⟩, ⟨[(112, some 12)], [0, 1, 2, 3, 4, 5, 6, 7, 8, 9, 10, 11, 12, 13, 14], [0], false⟩]) (S := []) (plan := [0, 1, 2, 3, 4, 5, 6, 7, 8, 9, 10, 11, 12, 13, 14, 15]) mo (by kernel_rfl) rfl rfl rfl (dcons (dstep1 (Tm := [(15, (SL 1 (cL 5 c_api_Node) ([x5.1, x7.1] : List (List G_api_Node))))]) (L := []) (H := ⟨0, []⟩) rfl rfl rfl rfl rfl (astep_do rfl (ex_move (eV (v := (SL 1 (cL 5 c_api_Node) ([x5.1, x7.1] : List (List G_api_Node)))) rfl)))) (dcons (dstep1 (Tm := [(17, (I v13))]) (L := []) (H := ⟨0, []⟩) rfl rfl rfl rfl rfl (astep_do rfl (ex_move (eV (v := (I v13)) rfl)))) (dcons (dstep1 (Tm := [(101, (SL 1 (cL 5 c_api_Node) ([x5.1, x7.1] : List (List G_api_Node)))), (102, (I v13))]) (L := []) (H := ⟨0, []⟩) rfl rfl rfl rfl rfl (astep_do rfl (tx_idxD (c := (cL 5 c_api_Node)) (xs := ([x5.1, x7.1] : List (List G_api_Node))) (i := v13) ceL Tryz.underlying31 s_25 rfl rfl hx21))) (dcons (dstep1 (Tm := [(103, (DP ((cL 5 c_api_Node) x21)))]) (L := []) (H := ⟨0, []⟩) rfl rfl rfl rfl rfl (astep_do rfl (tx_ldD1 (v := (SL 5 c_api_Node x21)) Tryz.underlying25 rfl rfl rfl))) (dcons (dstep1 (Tm := [(14, (SL 1 cS ([t2, x9.1, x10.1, ([97, 47, 98] : Str), ([97] : Str)] : List Str)))]) (L := []) (H := ⟨0, []⟩) rfl rfl rfl rfl rfl (astep_do rfl (ex_move (eV (v := (SL 1 cS ([t2, x9.1, x10.1, ([97, 47, 98] : Str), ([97] : Str)] : List Str))) rfl)))) (dcons (dstep1 (Tm := [(16, (I v11))]) (L := []) (H := ⟨0, []⟩) rfl rfl rfl rfl rfl (astep_do rfl (ex_move (eV (v := (I v11)) rfl)))) (dcons (dstep1 (Tm := [(105, (SL 1 cS ([t2, x9.1, x10.1, ([97, 47, 98] : Str), ([97] : Str)] : List Str))), (106, (I v11))]) (L := []) (H := ⟨0, []⟩) rfl rfl rfl rfl rfl (astep_do rfl (tx_idxD (c := cS) (xs := ([t2, x9.1, x10.1, ([97, 47, 98] : Str), ([97] : Str)] : List Str)) (i := v11) ceS Tryz.underlying30 s_9 rfl rfl hx22))) (dcons (dstep1 (Tm := [(107, (DP (cS x22)))]) (L := []) (H := ⟨0, []⟩) rfl rfl rfl rfl rfl (astep_do rfl (tx_ldD1 (v := (S x22)) Tryz.underlying9 rfl rfl rfl))) (dcons (dstep1 (Tm := [(104, (SL 5 c_api_Node x21)), (108, (S x22))]) (L := []) (H := ⟨0, []⟩) rfl rfl rfl rfl rfl (astep_do rfl (ex_call0 (vs := [(SL 5 c_api_Node x21), (S x22)]) (v := (Value.tuple #[(I x23.1), (S x23.2.1), (I x23.2.2)])) rfl en_11 (cargs (evs rfl (evs rfl evs_nil))) rfl (ok_walk_Place x21 x22 x23 hx23) rfl))) (dcons (dstep1 (Tm := [(109, (Value.tuple #[(I x23.1), (S x23.2.1), (I x23.2.2)]))]) (L := []) (H := ⟨0, []⟩) rfl rfl rfl rfl rfl (astep_do rfl (ex_move (eV (v := (Value.tuple #[(I x23.1), (S x23.2.1), (I x23.2.2)])) rfl)))) (dcons (dstep1 (Tm := [(100, (Value.tuple #[(I x23.1), (S x23.2.1), (I x23.2.2)]))]) (L := []) (H := ⟨0, []⟩) rfl rfl rfl rfl rfl (astep_do rfl (ex_extract (vx := (Value.tuple #[(I x23.1), (S x23.2.1), (I x23.2.2)])) (v := (I x23.1)) rfl rfl))) (dcons (dstep1 (Tm := [(100, (Value.tuple #[(I x23.1), (S x23.2.1), (I x23.2.2)]))]) (L := []) (H := ⟨0, []⟩) rfl rfl rfl rfl rfl (astep_do rfl (ex_extract (vx := (Value.tuple #[(I x23.1), (S x23.2.1), (I x23.2.2)])) (v := (S x23.2.1)) rfl rfl))) (dcons (dstep1 (Tm := [(100, (Value.tuple #[(I x23.1), (S x23.2.1), (I x23.2.2)]))]) (L := []) (H := ⟨0, []⟩) rfl rfl rfl rfl rfl (astep_do rfl (ex_extract (vx := (Value.tuple #[(I x23.1), (S x23.2.1), (I x23.2.2)])) (v := (I x23.2.2)) rfl rfl))) (dcons (dstep1 (Tm := [(110, (I x23.1))]) (L := []) (H := ⟨0, []⟩) rfl rfl rfl rfl rfl (astep_do rfl (ex_assign (eV (v := (I x23.1)) rfl)))) (dcons (dstep1 (Tm := [(111, (S x23.2.1))]) (L := []) (H := ⟨0, []⟩) rfl rfl rfl rfl rfl (astep_do rfl (ex_assign (eV (v := (S x23.2.1)) rfl)))) (dcons (dstep1 (Tm := [(112, (I x23.2.2))]) (L := []) (H := ⟨0, []⟩) rfl rfl rfl rfl rfl (astep_do rfl (ex_assign (eV (v := (I x23.2.2)) rfl)))) dnil)))))))))))))))) ⟨rfl, rfl⟩) (by kernel_rfl) (by kernel_rfl) ?_
              show AWp _ _ _ _
              refine awp_seq ?_
              obtain ⟨x24, hx24, h⟩ := bindS h
              obtain ⟨x25, hx25, h⟩ := bindS h
              obtain ⟨x26, hx26, h⟩ := bindS h
              refine awp_kn [3, 4, 11, 14, 15, 16, 17, 18, 19, 20, 21, 22, 23, 24, 25, 26, 27] 0 0 (st' := ⟨208, 0, [(3, (I t3)), (4, (I t4)), (11, (SL 5 c_api_Node x5.1)), (14, (SL 1 cS ([t2, x9.1, x10.1, ([97, 47, 98] : Str), ([97] : Str)] : List Str))), (15, (SL 1 (cL 5 c_api_Node) ([x5.1, x7.1] : List (List G_api_Node)))), (16, (I v11)), (17, (I v13)), (18, (I x17.1)), (19, (I x17.2)), (20, (I x20.1)), (21, (I x20.2)), (22, (I x23.1)), (23, (S x23.2.1)), (24, (I x23.2.2)), (25, (I x26.1)), (26, (S x26.2.1)), (27, (I x26.2.2))], [], ⟨0, []⟩⟩) (awp_draw (T := [(SL 1 (cL 5 c_api_Node) ([x5.1, x7.1] : List (List G_api_Node))), (I v13), (DP ((cL 5 c_api_Node) x24)), (SL 5 c_api_Node x24), (SL 1 cS ([t2, x9.1, x10.1, ([97, 47, 98] : Str), ([97] : Str)] : List Str)), (I v11), (DP (cS x25)), (S x25), (Value.tuple #[(I x26.1), (S x26.2.1), (I x26.2.2)]), (Value.tuple #[(I x26.1), (S x26.2.1), (I x26.2.2)]), (I x26.1), (S x26.2.1), (I x26.2.2), (I x26.1), (S x26.2.1), (I x26.2.2)]) (LH := [([], ⟨0, []⟩)]) (D := [⟨[(15, none)], [], [0], false⟩, ⟨[(17, none)], [], [0], false⟩, ⟨[(114, some 0), (115, some 1)], [0, 1], [0], false⟩, ⟨[(116, some 2)], [0, 1, 2], [0], false⟩, ⟨[(14, none)], [], [0], false⟩, ⟨[(16, none)], [], [0], false⟩, ⟨[(118, some 4), (119, some 5)], [4, 5], [0], false⟩, ⟨[(120, some 6)], [4, 5, 6], [0], false⟩, ⟨[(117, some 3), (121, some 7)], [0, 1, 2, 3, 4, 5, 6, 7], [0], false⟩, ⟨[(122, some 8)], [0, 1, 2, 3, 4, 5, 6, 7, 8], [0], false⟩, ⟨[(113, some 9)], [0, 1, 2, 3, 4, 5, 6, 7, 8, 9], [0], false⟩, ⟨[(113, some 9)], [0, 1, 2, 3, 4, 5, 6, 7, 8, 9], [0], false⟩, ⟨[(113, some 9)], [0, 1, 2, 3, 4, 5, 6, 7, 8, 9], [0], false⟩, ⟨[(123, some 10)], [0, 1, 2, 3, 4, 5, 6, 7, 8, 9, 10], [0], false⟩, ⟨[(124, some 11)], [0, 1, 2, 3, 4, 5, 6, 7, 8, 9, 10, 11, 13], [0], false⟩, ⟨[(125, some 12)], [0, 1, 2, 3, 4, 5, 6, 7, 8, 9, 10, 11, 12, 13, 14], [0], false⟩]) (S := []) (plan := [0, 1, 2, 3, 4, 5, 6, 7, 8, 9, 10, 11, 12, 13, 14, 15]) mo (by kernel_rfl) rfl rfl rfl (dcons (dstep1 (Tm := [(15, (SL 1 (cL 5 c_api_Node) ([x5.1, x7.1] : List (List G_api_Node))))]) (L := []) (H := ⟨0, []⟩) rfl rfl rfl rfl rfl (astep_do rfl (ex_move (eV (v := (SL 1 (cL 5 c_api_Node) ([x5.1, x7.1] : List (List G_api_Node)))) rfl)))) (dcons (dstep1 (Tm := [(17, (I v13))]) (L := []) (H := ⟨0, []⟩) rfl rfl rfl rfl rfl (astep_do rfl (ex_move (eV (v := (I v13)) rfl)))) (dcons (dstep1 (Tm := [(114, (SL 1 (cL 5 c_api_Node) ([x5.1, x7.1] : List (List G_api_Node)))), (115, (I v13))]) (L := []) (H := ⟨0, []⟩) rfl rfl rfl rfl rfl (astep_do rfl (tx_idxD (c := (cL 5 c_api_Node)) (xs := ([x5.1, x7.1] : List (List G_api_Node))) (i := v13) ceL Tryz.underlying31 s_25 rfl rfl hx24))) (dcons (dstep1 (Tm := [(116, (DP ((cL 5 c_api_Node) x24)))]) (L := []) (H := ⟨0, []⟩) rfl rfl rfl rfl rfl (astep_do rfl (tx_ldD1 (v := (SL 5 c_api_Node x24)) Tryz.underlying25 rfl rfl rfl))) (dcons (dstep1 (Tm := [(14, (SL 1 cS ([t2, x9.1, x10.1, ([97, 47, 98] : Str), ([97] : Str)] : List Str)))]) (L := []) (H := ⟨0, []⟩) rfl rfl rfl rfl rfl (astep_do rfl (ex_move (eV (v := (SL 1 cS ([t2, x9.1, x10.1, ([97, 47, 98] : Str), ([97] : Str)] : List Str))) rfl)))) (dcons (dstep1 (Tm := [(16, (I v11))]) (L := []) (H := ⟨0, []⟩) rfl rfl rfl rfl rfl (astep_do rfl (ex_move (eV (v := (I v11)) rfl)))) (dcons (dstep1 (Tm := [(118, (SL 1 cS ([t2, x9.1, x10.1, ([97, 47, 98] : Str), ([97] : Str)] : List Str))), (119, (I v11))]) (L := []) (H := ⟨0, []⟩) rfl rfl rfl rfl rfl (astep_do rfl (tx_idxD (c := cS) (xs := ([t2, x9.1, x10.1, ([97, 47, 98] : Str), ([97] : Str)] : List Str)) (i := v11) ceS Tryz.underlying30 s_9 rfl rfl hx25))) (dcons (dstep1 (Tm := [(120, (DP (cS x25)))]) (L := []) (H := ⟨0, []⟩) rfl rfl rfl rfl rfl (astep_do rfl (tx_ldD1 (v := (S x25)) Tryz.underlying9 rfl rfl rfl))) (dcons (dstep1 (Tm := [(117, (SL 5 c_api_Node x24)), (121, (S x25))]) (L := []) (H := ⟨0, []⟩) rfl rfl rfl rfl rfl (astep_do rfl (ex_call0 (vs := [(SL 5 c_api_Node x24), (S x25)]) (v := (Value.tuple #[(I x26.1), (S x26.2.1), (I x26.2.2)])) rfl en_12 (cargs (evs rfl (evs rfl evs_nil))) rfl (ok_ref11_Place x24 x25 x26 hx26) rfl))) (dcons (dstep1 (Tm := [(122, (Value.tuple #[(I x26.1), (S x26.2.1), (I x26.2.2)]))]) (L := []) (H := ⟨0, []⟩) rfl rfl rfl rfl rfl (astep_do rfl (ex_move (eV (v := (Value.tuple #[(I x26.1), (S x26.2.1), (I x26.2.2)])) rfl)))) (dcons (dstep1 (Tm := [(113, (Value.tuple #[(I x26.1), (S x26.2.1), (I x26.2.2)]))]) (L := []) (H := ⟨0, []⟩) rfl rfl rfl rfl rfl (astep_do rfl (ex_extract (vx := (Value.tuple #[(I x26.1), (S x26.2.1), (I x26.2.2)])) (v := (I x26.1)) rfl rfl))) (dcons (dstep1 (Tm := [(113, (Value.tuple #[(I x26.1), (S x26.2.1), (I x26.2.2)]))]) (L := []) (H := ⟨0, []⟩) rfl rfl rfl rfl rfl (astep_do rfl (ex_extract (vx := (Value.tuple #[(I x26.1), (S x26.2.1), (I x26.2.2)])) (v := (S x26.2.1)) rfl rfl))) (dcons (dstep1 (Tm := [(113, (Value.tuple #[(I x26.1), (S x26.2.1), (I x26.2.2)]))]) (L := []) (H := ⟨0, []⟩) rfl rfl rfl rfl rfl (astep_do rfl (ex_extract (vx := (Value.tuple #[(I x26.1), (S x26.2.1), (I x26.2.2)])) (v := (I x26.2.2)) rfl rfl))) (dcons (dstep1 (Tm := [(123, (I x26.1))]) (L := []) (H := ⟨0, []⟩) rfl rfl rfl rfl rfl (astep_do rfl (ex_assign (eV (v := (I x26.1)) rfl)))) (dcons (dstep1 (Tm := [(124, (S x26.2.1))]) (L := []) (H := ⟨0, []⟩) rfl rfl rfl rfl rfl (astep_do rfl (ex_assign (eV (v := (S x26.2.1)) rfl)))) (dcons (dstep1 (Tm := [(125, (I x26.2.2))]) (L := []) (H := ⟨0, []⟩) rfl rfl rfl rfl rfl (astep_do rfl (ex_assign (eV (v := (I x26.2.2)) rfl)))) dnil)))))))))))))))) ⟨rfl, rfl⟩) (by kernel_rfl) (by kernel_rfl) ?_
              show AWp _ _ _ _
              refine awp_seq ?_
              refine awp_region ?_
              refine arun_do rfl rfl rfl (ex_move (eV (v := (I x17.1)) rfl)) ?_
              refine arun_do rfl rfl rfl (ex_move (eV (v := (I x20.1)) rfl)) ?_
              refine arun_do rfl rfl rfl (ex_bin (vx := (I x17.1)) (vy := (I x20.1)) rfl rfl neqI_ok) ?_
              refine arun_do rfl rfl rfl (ex_move (eV (v := (Bo (x17.1 != x20.1))) rfl)) ?_
              refine arun_guard (v := (I x17.2)) ((x17.1 != x20.1) == false) rfl rfl rfl (fun hc => ex_move (eV (v := (I x17.2)) rfl)) ?_
              refine arun_guard (v := (I x20.2)) ((x17.1 != x20.1) == false) rfl rfl rfl (fun hc => ex_move (eV (v := (I x20.2)) rfl)) ?_
              refine arun_guard (v := (Bo (x17.2 != x20.2))) ((x17.1 != x20.1) == false) rfl rfl rfl (fun hc => ex_bin (vx := (I x17.2)) (vy := (I x20.2)) (cond_of hc) (cond_of hc) neqI_ok) ?_
              refine arun_do rfl rfl rfl (ex_pick rfl pkOr) ?_
              refine arun_do rfl rfl rfl (ex_move (eV (v := (Bo ((x17.1 != x20.1) || (x17.2 != x20.2)))) rfl)) ?_
              refine arun_guard (v := (I x23.1)) (((x17.1 != x20.1) || (x17.2 != x20.2)) == false) rfl rfl rfl (fun hc => ex_move (eV (v := (I x23.1)) rfl)) ?_
              refine arun_guard (v := (I x26.1)) (((x17.1 != x20.1) || (x17.2 != x20.2)) == false) rfl rfl rfl (fun hc => ex_move (eV (v := (I x26.1)) rfl)) ?_
              refine arun_guard (v := (Bo (x23.1 != x26.1))) (((x17.1 != x20.1) || (x17.2 != x20.2)) == false) rfl rfl rfl (fun hc => ex_bin (vx := (I x23.1)) (vy := (I x26.1)) (cond_of hc) (cond_of hc) neqI_ok) ?_
              refine arun_do rfl rfl rfl (ex_pick rfl pkOr) ?_
              refine arun_do rfl rfl rfl (ex_move (eV (v := (Bo (((x17.1 != x20.1) || (x17.2 != x20.2)) || (x23.1 != x26.1)))) rfl)) ?_
              refine arun_guard (v := (S x23.2.1)) ((((x17.1 != x20.1) || (x17.2 != x20.2)) || (x23.1 != x26.1)) == false) rfl rfl rfl (fun hc => ex_move (eV (v := (S x23.2.1)) rfl)) ?_
              refine arun_guard (v := (S x26.2.1)) ((((x17.1 != x20.1) || (x17.2 != x20.2)) || (x23.1 != x26.1)) == false) rfl rfl rfl (fun hc => ex_move (eV (v := (S x26.2.1)) rfl)) ?_
              refine arun_guard (v := (Bo (x23.2.1 != x26.2.1))) ((((x17.1 != x20.1) || (x17.2 != x20.2)) || (x23.1 != x26.1)) == false) rfl rfl rfl (fun hc => ex_bin (vx := (S x23.2.1)) (vy := (S x26.2.1)) (cond_of hc) (cond_of hc) neqS_ok) ?_
              refine arun_do rfl rfl rfl (ex_pick rfl pkOr) ?_
              refine arun_do rfl rfl rfl (ex_move (eV (v := (Bo ((((x17.1 != x20.1) || (x17.2 != x20.2)) || (x23.1 != x26.1)) || (x23.2.1 != x26.2.1)))) rfl)) ?_
              refine arun_guard (v := (I x23.2.2)) (((((x17.1 != x20.1) || (x17.2 != x20.2)) || (x23.1 != x26.1)) || (x23.2.1 != x26.2.1)) == false) rfl rfl rfl (fun hc => ex_move (eV (v := (I x23.2.2)) rfl)) ?_
              refine arun_guard (v := (I x26.2.2)) (((((x17.1 != x20.1) || (x17.2 != x20.2)) || (x23.1 != x26.1)) || (x23.2.1 != x26.2.1)) == false) rfl rfl rfl (fun hc => ex_move (eV (v := (I x26.2.2)) rfl)) ?_
              refine arun_guard (v := (Bo (x23.2.2 != x26.2.2))) (((((x17.1 != x20.1) || (x17.2 != x20.2)) || (x23.1 != x26.1)) || (x23.2.1 != x26.2.1)) == false) rfl rfl rfl (fun hc => ex_bin (vx := (I x23.2.2)) (vy := (I x26.2.2)) (cond_of hc) (cond_of hc) neqI_ok) ?_
              refine arun_do rfl rfl rfl (ex_pick rfl pkOr) ?_
              refine arun_keepE [3, 4, 11, 14, 15, 16, 17, 148] 0 0 (st' := ⟨208, 0, [(3, (I t3)), (4, (I t4)), (11, (SL 5 c_api_Node x5.1)), (14, (SL 1 cS ([t2, x9.1, x10.1, ([97, 47, 98] : Str), ([97] : Str)] : List Str))), (15, (SL 1 (cL 5 c_api_Node) ([x5.1, x7.1] : List (List G_api_Node)))), (16, (I v11)), (17, (I v13)), (148, (Bo (((((x17.1 != x20.1) || (x17.2 != x20.2)) || (x23.1 != x26.1)) || (x23.2.1 != x26.2.1)) || (x23.2.2 != x26.2.2))))], [], ⟨0, []⟩⟩) (by kernel_rfl) (by kernel_rfl) ?_
              show AWp _ _ _ _
              rcases Bool.eq_false_or_eq_true (((((x17.1 != x20.1) || (x17.2 != x20.2)) || (x23.1 != x26.1)) || (x23.2.1 != x26.2.1)) || (x23.2.2 != x26.2.2)) with hb27 | hb27
              · rw [condT hb27] at h
                refine awp_condT (boT hb27) ?_
                refine awp_seq ?_
                refine awp_region ?_
                refine arun_do rfl rfl rfl (ex_assign (eV (v := (Bo false)) rfl)) ?_
                refine arun_keepE [10] 0 0 (st' := ⟨208, 0, [(10, (Bo false))], [], ⟨0, []⟩⟩) (by kernel_rfl) (by kernel_rfl) ?_
                show AWp _ _ _ _
                refine awp_ret ?_
                cases h
                exact ares1 (rtmp rfl (eV rfl))
              · rw [condF hb27] at h
                refine awp_condF (boF hb27) ?_
                refine awp_skip ?_
                show AWp _ _ _ _
                refine awp_region ?_
                refine arun_do rfl rfl rfl (ex_move (eV (v := (I v13)) rfl)) ?_
                refine arun_do rfl rfl rfl (ex_bin (vx := (I v13)) (vy := (I 1)) rfl rfl addI_ok) ?_
                refine arun_do rfl rfl rfl (ex_assign (eV (v := (I (w64 (v13 + 1)))) rfl)) ?_
                refine arun_keepE [3, 4, 11, 14, 15, 16, 17] 0 0 (st' := ⟨208, 0, [(3, (I t3)), (4, (I t4)), (11, (SL 5 c_api_Node x5.1)), (14, (SL 1 cS ([t2, x9.1, x10.1, ([97, 47, 98] : Str), ([97] : Str)] : List Str))), (15, (SL 1 (cL 5 c_api_Node) ([x5.1, x7.1] : List (List G_api_Node)))), (16, (I v11)), (17, (I (w64 (v13 + 1))))], [], ⟨0, []⟩⟩) (by kernel_rfl) (by kernel_rfl) ?_
                exact Exists.intro n2 (And.intro (Nat.lt_succ_self _) (Exists.intro (w64 (v13 + 1)) (And.intro rfl h)))
            · rw [condF hb14] at h
              refine awp_condF (boF hb14) ?_
              refine awp_exit ?_
              show AWp _ _ _ _
              refine awp_region ?_
              refine arun_do rfl rfl rfl (ex_move (eV (v := (I v11)) rfl)) ?_
              refine arun_do rfl rfl rfl (ex_bin (vx := (I v11)) (vy := (I 1)) rfl rfl addI_ok) ?_
              refine arun_do rfl rfl rfl (ex_assign (eV (v := (I (w64 (v11 + 1)))) rfl)) ?_
              refine arun_keepE [3, 4, 11, 14, 15, 16] 0 0 (st' := ⟨208, 0, [(3, (I t3)), (4, (I t4)), (11, (SL 5 c_api_Node x5.1)), (14, (SL 1 cS ([t2, x9.1, x10.1, ([97, 47, 98] : Str), ([97] : Str)] : List Str))), (15, (SL 1 (cL 5 c_api_Node) ([x5.1, x7.1] : List (List G_api_Node)))), (16, (I (w64 (v11 + 1))))], [], ⟨0, []⟩⟩) (by kernel_rfl) (by kernel_rfl) ?_
              exact Exists.intro n1 (And.intro (Nat.lt_succ_self _) (Exists.intro (w64 (v11 + 1)) (And.intro rfl h)))
        · rw [condF hb12] at h
          refine awp_condF (boF hb12) ?_
          refine awp_exit ?_
          show AWp _ _ _ _
          refine awp_seq ?_
          refine awp_seq ?_
          refine awp_region ?_
          refine arun_do rfl rfl rfl (ex_assign (eV (v := (I (-1))) rfl)) ?_
          refine arun_keepE [3, 4, 11, 28] 0 0 (st' := ⟨208, 0, [(3, (I t3)), (4, (I t4)), (11, (SL 5 c_api_Node x5.1)), (28, (I (-1)))], [], ⟨0, []⟩⟩) (by kernel_rfl) (by kernel_rfl) ?_
          show AWp _ _ _ _
          refine awp_block ?_
          refine awp_loop (fun n s => ∃ (v28 : Int), s = ⟨208, 0, [(3, (I t3)), (4, (I t4)), (11, (SL 5 c_api_Node x5.1)), (28, (I v28))], [], ⟨0, []⟩⟩ ∧ M_law13_WalkAll_l3 (M_law13_WalkAll_l1 t2 t3 t4 x5 x7 x9 x10 n1) t3 t4 x5 n v28 = some r) fuel (Exists.intro (-1) (And.intro rfl h)) ?_
          rintro n s ⟨v28, rfl, h⟩ -
          cases n with
          | zero => cases h
          | succ n3 =>
            unfold M_law13_WalkAll_l3 at h
            refine awp_seq ?_
            refine awp_seq ?_
            refine awp_region ?_
            refine arun_do rfl rfl rfl (ex_move (eV (v := (I v28)) rfl)) ?_
            refine arun_do rfl rfl rfl (ex_bin (vx := (I v28)) (vy := (I 10)) rfl rfl lssI_ok) ?_
            refine arun_keepE [3, 4, 11, 28, 150] 0 0 (st' := ⟨208, 0, [(3, (I t3)), (4, (I t4)), (11, (SL 5 c_api_Node x5.1)), (28, (I v28)), (150, (Bo (decide (v28 < 10))))], [], ⟨0, []⟩⟩) (by kernel_rfl) (by kernel_rfl) ?_
            show AWp _ _ _ _
            rcases Bool.eq_false_or_eq_true (decide (v28 < 10)) with hb29 | hb29
            · rw [condT hb29] at h
              refine awp_condT (boT hb29) ?_
              refine awp_skip ?_
              show AWp _ _ _ _
              refine awp_seq ?_
              refine awp_block ?_
              refine awp_seq ?_
              refine awp_region ?_
              refine arun_do rfl rfl rfl (ex_move (eV (v := (SL 5 c_api_Node x5.1)) rfl)) ?_
              refine arun_do rfl rfl rfl (ex_move (eV (v := (I v28)) rfl)) ?_
              obtain ⟨x30, hx30, h⟩ := bindS h
              refine arun_do rfl rfl rfl (ex_call0 (vs := [(SL 5 c_api_Node x5.1), (I v28)]) (v := (Value.tuple #[(S x30.1), (Bo x30.2)])) rfl en_13 (cargs (evs rfl (evs rfl evs_nil))) rfl (ok_walk_Way x5.1 v28 x30 hx30) rfl) ?_
              refine arun_do rfl rfl rfl (ex_move (eV (v := (Value.tuple #[(S x30.1), (Bo x30.2)])) rfl)) ?_
              refine arun_do rfl rfl rfl (ex_extract (vx := (Value.tuple #[(S x30.1), (Bo x30.2)])) (v := (S x30.1)) rfl rfl) ?_
              refine arun_do rfl rfl rfl (ex_extract (vx := (Value.tuple #[(S x30.1), (Bo x30.2)])) (v := (Bo x30.2)) rfl rfl) ?_
              refine arun_do rfl rfl rfl (ex_assign (eV (v := (S x30.1)) rfl)) ?_
              refine arun_do rfl rfl rfl (ex_assign (eV (v := (Bo x30.2)) rfl)) ?_
              refine arun_keepE [3, 4, 11, 28, 29, 30] 0 0 (st' := ⟨208, 0, [(3, (I t3)), (4, (I t4)), (11, (SL 5 c_api_Node x5.1)), (28, (I v28)), (29, (S x30.1)), (30, (Bo x30.2))], [], ⟨0, []⟩⟩) (by kernel_rfl) (by kernel_rfl) ?_
              show AWp _ _ _ _
              refine awp_seq ?_
              refine awp_region ?_
              refine arun_do rfl rfl rfl (ex_move (eV (v := (SL 5 c_api_Node x5.1)) rfl)) ?_
              refine arun_do rfl rfl rfl (ex_move (eV (v := (I v28)) rfl)) ?_
              obtain ⟨x31, hx31, h⟩ := bindS h
              refine arun_do rfl rfl rfl (ex_call0 (vs := [(SL 5 c_api_Node x5.1), (I v28)]) (v := (Value.tuple #[(S x31.1), (Bo x31.2)])) rfl en_14 (cargs (evs rfl (evs rfl evs_nil))) rfl (ok_ref11_Way x5.1 v28 x31 hx31) rfl) ?_
              refine arun_do rfl rfl rfl (ex_move (eV (v := (Value.tuple #[(S x31.1), (Bo x31.2)])) rfl)) ?_
              refine arun_do rfl rfl rfl (ex_extract (vx := (Value.tuple #[(S x31.1), (Bo x31.2)])) (v := (S x31.1)) rfl rfl) ?_
              refine arun_do rfl rfl rfl (ex_extract (vx := (Value.tuple #[(S x31.1), (Bo x31.2)])) (v := (Bo x31.2)) rfl rfl) ?_
              refine arun_do rfl rfl rfl (ex_assign (eV (v := (S x31.1)) rfl)) ?_
              refine arun_do rfl rfl rfl (ex_assign (eV (v := (Bo x31.2)) rfl)) ?_
              refine arun_keepE [3, 4, 11, 28, 29, 30, 31, 32] 0 0 (st' := ⟨208, 0, [(3, (I t3)), (4, (I t4)), (11, (SL 5 c_api_Node x5.1)), (28, (I v28)), (29, (S x30.1)), (30, (Bo x30.2)), (31, (S x31.1)), (32, (Bo x31.2))], [], ⟨0, []⟩⟩) (by kernel_rfl) (by kernel_rfl) ?_
              show AWp _ _ _ _
              refine awp_seq ?_
              refine awp_seq ?_
              refine awp_region ?_
              refine arun_do rfl rfl rfl (ex_move (eV (v := (S x30.1)) rfl)) ?_
              refine arun_do rfl rfl rfl (ex_move (eV (v := (S x31.1)) rfl)) ?_
              refine arun_do rfl rfl rfl (ex_bin (vx := (S x30.1)) (vy := (S x31.1)) rfl rfl neqS_ok) ?_
              refine arun_do rfl rfl rfl (ex_move (eV (v := (Bo (x30.1 != x31.1))) rfl)) ?_
              refine arun_guard (v := (Bo x30.2)) ((x30.1 != x31.1) == false) rfl rfl rfl (fun hc => ex_move (eV (v := (Bo x30.2)) rfl)) ?_
              refine arun_guard (v := (Bo x31.2)) ((x30.1 != x31.1) == false) rfl rfl rfl (fun hc => ex_move (eV (v := (Bo x31.2)) rfl)) ?_
              refine arun_guard (v := (Bo (x30.2 != x31.2))) ((x30.1 != x31.1) == false) rfl rfl rfl (fun hc => ex_bin (vx := (Bo x30.2)) (vy := (Bo x31.2)) (cond_of hc) (cond_of hc) (neqB_ok Tryz.underlying4)) ?_
              refine arun_do rfl rfl rfl (ex_pick rfl pkOr) ?_
              refine arun_do rfl rfl rfl (ex_move (eV (v := (Bo ((x30.1 != x31.1) || (x30.2 != x31.2)))) rfl)) ?_
              refine arun_guard (v := (SL 5 c_api_Node x5.1)) (((x30.1 != x31.1) || (x30.2 != x31.2)) == false) rfl rfl rfl (fun hc => ex_move (eV (v := (SL 5 c_api_Node x5.1)) rfl)) ?_
              refine arun_guard (v := (I v28)) (((x30.1 != x31.1) || (x30.2 != x31.2)) == false) rfl rfl rfl (fun hc => ex_move (eV (v := (I v28)) rfl)) ?_
              refine arun_guard (v := (I t3)) (((x30.1 != x31.1) || (x30.2 != x31.2)) == false) rfl rfl rfl (fun hc => ex_move (eV (v := (I t3)) rfl)) ?_
              obtain ⟨x32, hx32, h⟩ := bindS h
              refine arun_guard (v := (Bo x32)) (((x30.1 != x31.1) || (x30.2 != x31.2)) == false) rfl rfl rfl (fun hc => ex_call0 (vs := [(SL 5 c_api_Node x5.1), (I v28), (I t3)]) (v := (Bo x32)) rfl en_15 (cargs (evs (cond_of hc) (evs (cond_of hc) (evs (cond_of hc) evs_nil)))) rfl (ok_walk_Within x5.1 v28 t3 x32 (gd_of hc hx32)) rfl) ?_
              refine arun_guard (v := (SL 5 c_api_Node x5.1)) (((x30.1 != x31.1) || (x30.2 != x31.2)) == false) rfl rfl rfl (fun hc => ex_move (eV (v := (SL 5 c_api_Node x5.1)) rfl)) ?_
              refine arun_guard (v := (I v28)) (((x30.1 != x31.1) || (x30.2 != x31.2)) == false) rfl rfl rfl (fun hc => ex_move (eV (v := (I v28)) rfl)) ?_
              refine arun_guard (v := (I t3)) (((x30.1 != x31.1) || (x30.2 != x31.2)) == false) rfl rfl rfl (fun hc => ex_move (eV (v := (I t3)) rfl)) ?_
              obtain ⟨x33, hx33, h⟩ := bindS h
              refine arun_guard (v := (Bo x33)) (((x30.1 != x31.1) || (x30.2 != x31.2)) == false) rfl rfl rfl (fun hc => ex_call0 (vs := [(SL 5 c_api_Node x5.1), (I v28), (I t3)]) (v := (Bo x33)) rfl en_16 (cargs (evs (cond_of hc) (evs (cond_of hc) (evs (cond_of hc) evs_nil)))) rfl (ok_ref11_Within x5.1 v28 t3 x33 (gd_of hc hx33)) rfl) ?_
              refine arun_guard (v := (Bo (x32 != x33))) (((x30.1 != x31.1) || (x30.2 != x31.2)) == false) rfl rfl rfl (fun hc => ex_bin (vx := (Bo x32)) (vy := (Bo x33)) (cond_of hc) (cond_of hc) (neqB_ok Tryz.underlying4)) ?_
              refine arun_do rfl rfl rfl (ex_pick rfl pkOr) ?_
              refine arun_do rfl rfl rfl (ex_move (eV (v := (Bo (((x30.1 != x31.1) || (x30.2 != x31.2)) || (x32 != x33)))) rfl)) ?_
              refine arun_guard (v := (SL 5 c_api_Node x5.1)) ((((x30.1 != x31.1) || (x30.2 != x31.2)) || (x32 != x33)) == false) rfl rfl rfl (fun hc => ex_move (eV (v := (SL 5 c_api_Node x5.1)) rfl)) ?_
              refine arun_guard (v := (I t4)) ((((x30.1 != x31.1) || (x30.2 != x31.2)) || (x32 != x33)) == false) rfl rfl rfl (fun hc => ex_move (eV (v := (I t4)) rfl)) ?_
              refine arun_guard (v := (I v28)) ((((x30.1 != x31.1) || (x30.2 != x31.2)) || (x32 != x33)) == false) rfl rfl rfl (fun hc => ex_move (eV (v := (I v28)) rfl)) ?_
              obtain ⟨x34, hx34, h⟩ := bindS h
              refine arun_guard (v := (Bo x34)) ((((x30.1 != x31.1) || (x30.2 != x31.2)) || (x32 != x33)) == false) rfl rfl rfl (fun hc => ex_call0 (vs := [(SL 5 c_api_Node x5.1), (I t4), (I v28)]) (v := (Bo x34)) rfl en_15 (cargs (evs (cond_of hc) (evs (cond_of hc) (evs (cond_of hc) evs_nil)))) rfl (ok_walk_Within x5.1 t4 v28 x34 (gd_of hc hx34)) rfl) ?_
              refine arun_guard (v := (SL 5 c_api_Node x5.1)) ((((x30.1 != x31.1) || (x30.2 != x31.2)) || (x32 != x33)) == false) rfl rfl rfl (fun hc => ex_move (eV (v := (SL 5 c_api_Node x5.1)) rfl)) ?_
              refine arun_guard (v := (I t4)) ((((x30.1 != x31.1) || (x30.2 != x31.2)) || (x32 != x33)) == false) rfl rfl rfl (fun hc => ex_move (eV (v := (I t4)) rfl)) ?_
              refine arun_guard (v := (I v28)) ((((x30.1 != x31.1) || (x30.2 != x31.2)) || (x32 != x33)) == false) rfl rfl rfl (fun hc => ex_move (eV (v := (I v28)) rfl)) ?_
              obtain ⟨x35, hx35, h⟩ := bindS h
              refine arun_guard (v := (Bo x35)) ((((x30.1 != x31.1) || (x30.2 != x31.2)) || (x32 != x33)) == false) rfl rfl rfl (fun hc => ex_call0 (vs := [(SL 5 c_api_Node x5.1), (I t4), (I v28)]) (v := (Bo x35)) rfl en_16 (cargs (evs (cond_of hc) (evs (cond_of hc) (evs (cond_of hc) evs_nil)))) rfl (ok_ref11_Within x5.1 t4 v28 x35 (gd_of hc hx35)) rfl) ?_
              refine arun_guard (v := (Bo (x34 != x35))) ((((x30.1 != x31.1) || (x30.2 != x31.2)) || (x32 != x33)) == false) rfl rfl rfl (fun hc => ex_bin (vx := (Bo x34)) (vy := (Bo x35)) (cond_of hc) (cond_of hc) (neqB_ok Tryz.underlying4)) ?_
              refine arun_do rfl rfl rfl (ex_pick rfl pkOr) ?_
              refine arun_keepE [3, 4, 11, 28, 194] 0 0 (st' := ⟨208, 0, [(3, (I t3)), (4, (I t4)), (11, (SL 5 c_api_Node x5.1)), (28, (I v28)), (194, (Bo ((((x30.1 != x31.1) || (x30.2 != x31.2)) || (x32 != x33)) || (x34 != x35))))], [], ⟨0, []⟩⟩) (by kernel_rfl) (by kernel_rfl) ?_
              show AWp _ _ _ _
              rcases Bool.eq_false_or_eq_true ((((x30.1 != x31.1) || (x30.2 != x31.2)) || (x32 != x33)) || (x34 != x35)) with hb36 | hb36
              · rw [condT hb36] at h
                refine awp_condT (boT hb36) ?_
                refine awp_seq ?_
                refine awp_region ?_
                refine arun_do rfl rfl rfl (ex_assign (eV (v := (Bo false)) rfl)) ?_
                refine arun_keepE [10] 0 0 (st' := ⟨208, 0, [(10, (Bo false))], [], ⟨0, []⟩⟩) (by kernel_rfl) (by kernel_rfl) ?_
                show AWp _ _ _ _
                refine awp_ret ?_
                cases h
                exact ares1 (rtmp rfl (eV rfl))
              · rw [condF hb36] at h
                refine awp_condF (boF hb36) ?_
                refine awp_skip ?_
                show AWp _ _ _ _
                refine awp_seq ?_
                refine awp_region ?_
                refine arun_do rfl rfl rfl (ex_assign (eV (v := (I 0)) rfl)) ?_
                refine arun_keepE [3, 4, 11, 28, 33] 0 0 (st' := ⟨208, 0, [(3, (I t3)), (4, (I t4)), (11, (SL 5 c_api_Node x5.1)), (28, (I v28)), (33, (I 0))], [], ⟨0, []⟩⟩) (by kernel_rfl) (by kernel_rfl) ?_
                show AWp _ _ _ _
                refine awp_block ?_
                refine awp_loop (fun n s => ∃ (v37 : Int), s = ⟨208, 0, [(3, (I t3)), (4, (I t4)), (11, (SL 5 c_api_Node x5.1)), (28, (I v28)), (33, (I v37))], [], ⟨0, []⟩⟩ ∧ M_law13_WalkAll_l4 (M_law13_WalkAll_l1 t2 t3 t4 x5 x7 x9 x10 n1) (M_law13_WalkAll_l3 (M_law13_WalkAll_l1 t2 t3 t4 x5 x7 x9 x10 n1) t3 t4 x5 n3) t3 t4 x5 v28 n v37 = some r) fuel (Exists.intro 0 (And.intro rfl h)) ?_
                rintro n s ⟨v37, rfl, h⟩ -
                cases n with
                | zero => cases h
                | succ n4 =>
                  unfold M_law13_WalkAll_l4 at h
                  refine awp_seq ?_
                  refine awp_seq ?_
                  refine awp_region ?_
                  refine arun_do rfl rfl rfl (ex_move (eV (v := (I v37)) rfl)) ?_
                  refine arun_do rfl rfl rfl (ex_bin (vx := (I v37)) (vy := (I 9)) rfl rfl lssI_ok) ?_
                  refine arun_keepE [3, 4, 11, 28, 33, 196] 0 0 (st' := ⟨208, 0, [(3, (I t3)), (4, (I t4)), (11, (SL 5 c_api_Node x5.1)), (28, (I v28)), (33, (I v37)), (196, (Bo (decide (v37 < 9))))], [], ⟨0, []⟩⟩) (by kernel_rfl) (by kernel_rfl) ?_
                  show AWp _ _ _ _
                  rcases Bool.eq_false_or_eq_true (decide (v37 < 9)) with hb38 | hb38
                  · rw [condT hb38] at h
                    refine awp_condT (boT hb38) ?_
                    refine awp_skip ?_
                    show AWp _ _ _ _
                    refine awp_seq ?_
                    refine awp_block ?_
                    refine awp_seq ?_
                    refine awp_region ?_
                    refine arun_do rfl rfl rfl (ex_move (eV (v := (SL 5 c_api_Node x5.1)) rfl)) ?_
                    refine arun_do rfl rfl rfl (ex_move (eV (v := (I v28)) rfl)) ?_
                    refine arun_do rfl rfl rfl (ex_move (eV (v := (I v37)) rfl)) ?_
                    obtain ⟨x39, hx39, h⟩ := bindS h
                    refine arun_do rfl rfl rfl (ex_call0 (vs := [(SL 5 c_api_Node x5.1), (I v28), (I v37)]) (v := (Bo x39)) rfl en_15 (cargs (evs rfl (evs rfl (evs rfl evs_nil)))) rfl (ok_walk_Within x5.1 v28 v37 x39 hx39) rfl) ?_
                    refine arun_do rfl rfl rfl (ex_move (eV (v := (SL 5 c_api_Node x5.1)) rfl)) ?_
                    refine arun_do rfl rfl rfl (ex_move (eV (v := (I v28)) rfl)) ?_
                    refine arun_do rfl rfl rfl (ex_move (eV (v := (I v37)) rfl)) ?_
                    obtain ⟨x40, hx40, h⟩ := bindS h
                    refine arun_do rfl rfl rfl (ex_call0 (vs := [(SL 5 c_api_Node x5.1), (I v28), (I v37)]) (v := (Bo x40)) rfl en_16 (cargs (evs rfl (evs rfl (evs rfl evs_nil)))) rfl (ok_ref11_Within x5.1 v28 v37 x40 hx40) rfl) ?_
                    refine arun_do rfl rfl rfl (ex_bin (vx := (Bo x39)) (vy := (Bo x40)) rfl rfl (neqB_ok Tryz.underlying4)) ?_
                    refine arun_keepE [3, 4, 11, 28, 33, 207] 0 0 (st' := ⟨208, 0, [(3, (I t3)), (4, (I t4)), (11, (SL 5 c_api_Node x5.1)), (28, (I v28)), (33, (I v37)), (207, (Bo (x39 != x40)))], [], ⟨0, []⟩⟩) (by kernel_rfl) (by kernel_rfl) ?_
                    show AWp _ _ _ _
                    rcases Bool.eq_false_or_eq_true (x39 != x40) with hb41 | hb41
                    · rw [condT hb41] at h
                      refine awp_condT (boT hb41) ?_
                      refine awp_seq ?_
                      refine awp_region ?_
                      refine arun_do rfl rfl rfl (ex_assign (eV (v := (Bo false)) rfl)) ?_
                      refine arun_keepE [10] 0 0 (st' := ⟨208, 0, [(10, (Bo false))], [], ⟨0, []⟩⟩) (by kernel_rfl) (by kernel_rfl) ?_
                      show AWp _ _ _ _
                      refine awp_ret ?_
                      cases h
                      exact ares1 (rtmp rfl (eV rfl))
                    · rw [condF hb41] at h
                      refine awp_condF (boF hb41) ?_
                      refine awp_skip ?_
                      show AWp _ _ _ _
                      refine awp_region ?_
                      refine arun_do rfl rfl rfl (ex_move (eV (v := (I v37)) rfl)) ?_
                      refine arun_do rfl rfl rfl (ex_bin (vx := (I v37)) (vy := (I 1)) rfl rfl addI_ok) ?_
                      refine arun_do rfl rfl rfl (ex_assign (eV (v := (I (w64 (v37 + 1)))) rfl)) ?_
                      refine arun_keepE [3, 4, 11, 28, 33] 0 0 (st' := ⟨208, 0, [(3, (I t3)), (4, (I t4)), (11, (SL 5 c_api_Node x5.1)), (28, (I v28)), (33, (I (w64 (v37 + 1))))], [], ⟨0, []⟩⟩) (by kernel_rfl) (by kernel_rfl) ?_
                      exact Exists.intro n4 (And.intro (Nat.lt_succ_self _) (Exists.intro (w64 (v37 + 1)) (And.intro rfl h)))
                  · rw [condF hb38] at h
                    refine awp_condF (boF hb38) ?_
                    refine awp_exit ?_
                    show AWp _ _ _ _
                    refine awp_region ?_
                    refine arun_do rfl rfl rfl (ex_move (eV (v := (I v28)) rfl)) ?_
                    refine arun_do rfl rfl rfl (ex_bin (vx := (I v28)) (vy := (I 1)) rfl rfl addI_ok) ?_
                    refine arun_do rfl rfl rfl (ex_assign (eV (v := (I (w64 (v28 + 1)))) rfl)) ?_
                    refine arun_keepE [3, 4, 11, 28] 0 0 (st' := ⟨208, 0, [(3, (I t3)), (4, (I t4)), (11, (SL 5 c_api_Node x5.1)), (28, (I (w64 (v28 + 1))))], [], ⟨0, []⟩⟩) (by kernel_rfl) (by kernel_rfl) ?_
                    exact Exists.intro n3 (And.intro (Nat.lt_succ_self _) (Exists.intro (w64 (v28 + 1)) (And.intro rfl h)))
            · rw [condF hb29] at h
              refine awp_condF (boF hb29) ?_
              refine awp_exit ?_
              show AWp _ _ _ _
              refine awp_seq ?_
              refine awp_region ?_
              refine arun_do rfl rfl rfl (ex_assign (eV (v := (Bo true)) rfl)) ?_
              refine arun_keepE [10] 0 0 (st' := ⟨208, 0, [(10, (Bo true))], [], ⟨0, []⟩⟩) (by kernel_rfl) (by kernel_rfl) ?_
              show AWp _ _ _ _
              refine awp_ret ?_
              cases h
              exact ares1 (rtmp rfl (eV rfl))

end Go.Proofs
