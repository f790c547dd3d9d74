/- Pure models of functions of the program, and that its code does what they say: palimplaw14 EditOld. Written by a program. -/
import Derived.Test.YtlcclhkbmkmfkaaDoorREO10
import Derived.Test.YtlcclhkbmkmfkaaDoorREO11
import Derived.Test.YtlcclhkbmkmfkaaDoorREO15
import Derived.Test.YtlcclhkbmkmfkaaDoorREO5
import Derived.Test.YtlcclhkbmkmfkaaDoorREO6
import Derived.Test.YtlcclhkbmkmfkaaDoorREO7
import Derived.Test.YtlcclhkbmkmfkaaDoorREO9
import Derived.Test.YtlcclhkbmkmfkaaDoorREOB
set_option maxRecDepth 20000
set_option maxHeartbeats 4000000
namespace Go.Proofs
open Go Go.Fhl
set_option linter.unusedVariables false
set_option linter.unusedSimpArgs false
noncomputable def M_law14_EditOld_l1 (x5 : ((List G_api_Node) × G_palimpmade_Picks)) (x6 : List G_api_Node) : Nat → Int → List G_api_Node → List G_api_Node → List G_api_Node → Option Bool
  | 0, _, _, _, _ => none
  | n1 + 1, v13, v14, v15, v16 =>
  cond (decide (v13 < (x5.1.length : Int))) (Option.bind (getI v14 v13) fun (x18 : G_api_Node) => Option.bind (setI v14 v13 (G_api_Node.mk 3 0 [] [] 0)) fun (x19 : List G_api_Node) => Option.bind (getI v15 v13) fun (x20 : G_api_Node) => Option.bind (setI v15 v13 (G_api_Node.mk 1 0 [] [] 0)) fun (x21 : List G_api_Node) => Option.bind (getI v16 v13) fun (x22 : G_api_Node) => Option.bind (setI v16 v13 (G_api_Node.mk 0 9 [] [] 0)) fun (x23 : List G_api_Node) => (M_law14_EditOld_l1 x5 x6 n1) (w64 (v13 + 1)) x19 x21 x23) (Option.bind (M_ref11_Same x5.1 x6) fun (x24 : Bool) => Option.bind (gd (x24 == true) (getI v14 0)) fun (x25 : G_api_Node) => Option.bind (gd ((x24 && (x25.Kind == 3)) == true) (getI v15 0)) fun (x26 : G_api_Node) => Option.bind (gd (((x24 && (x25.Kind == 3)) && (x26.Kind == 1)) == true) (getI v16 0)) fun (x27 : G_api_Node) => some (((x24 && (x25.Kind == 3)) && (x26.Kind == 1)) && (x27.Up == 9)))
noncomputable def M_law14_EditOld (t0 : (List UInt8)) (t1 : (List UInt8)) : Option Bool :=
  Option.bind (M_law14_begun) fun (x1 : Bool) => cond (!x1) (some false) (cond ((decide ((t0.length : Int) > 60)) || (decide ((t1.length : Int) > 6))) (some true) (Option.bind (M_made_Made t0) fun (x4 : G_palimpmade_Picks) => Option.bind (M_made_Picks_Set x4 25) fun (x5 : ((List G_api_Node) × G_palimpmade_Picks)) => Option.bind (appL 56 ([] : List G_api_Node) x5.1) fun (x6 : List G_api_Node) => Option.bind (M_made_Made t1) fun (x7 : G_palimpmade_Picks) => Option.bind (M_made_Picks_Edit x7 1) fun (x8 : (G_api_Step × G_palimpmade_Picks)) => Option.bind (M_edit_Make x5.1 x8.1.Path 1) fun (x9 : ((List G_api_Node) × Int)) => Option.bind (M_edit_Drop x5.1 x8.1.Path) fun (x10 : ((List G_api_Node) × Int)) => Option.bind (M_edit_Move x5.1 x8.1.Path x8.1.To) fun (x11 : ((List G_api_Node) × Int)) => cond (((((x9.1.length : Nat) : Int) != (x5.1.length : Int)) || (((x10.1.length : Nat) : Int) != (x5.1.length : Int))) || (((x11.1.length : Nat) : Int) != (x5.1.length : Int))) (some false) (M_law14_EditOld_l1 x5 x6 fuel 0 x9.1 x10.1 x11.1)))
theorem ok_law14_EditOld (t0 : (List UInt8)) (t1 : (List UInt8)) (r : Bool) (h : M_law14_EditOld t0 t1 = some r) : FFn Tryd.prog 3 [(SL 1 c8 t0), (SL 1 c8 t1)] (Bo r) := by
  refine FFn.of_body (n := 118) Tryd.func3 rfl Tryd.ntmps3 rfl rfl rfl rfl ?_
  show AWp _ _ _ ⟨118, 0, [(0, (SL 1 c8 t0)), (1, (SL 1 c8 t1))], [], ⟨0, []⟩⟩
  unfold M_law14_EditOld at h
  refine awp_seq ?_
  refine awp_region ?_
  refine arun_do rfl rfl rfl (ex_assign (eV (v := (Bo false)) rfl)) ?_
  refine arun_keepE [0, 1] 0 0 (st' := ⟨118, 0, [(0, (SL 1 c8 t0)), (1, (SL 1 c8 t1))], [], ⟨0, []⟩⟩) (by kernel_rfl) (by kernel_rfl) ?_
  show AWp _ _ _ _
  refine awp_seq ?_
  refine awp_seq ?_
  refine awp_region ?_
  obtain ⟨x1, hx1, h⟩ := bindS h
  refine arun_do rfl rfl rfl (ex_call0 (vs := []) (v := (Bo x1)) rfl en_4 (cargs evs_nil) rfl (ok_law14_begun  x1 hx1) rfl) ?_
  refine arun_do rfl rfl rfl (ex_un (vx := (Bo x1)) rfl notB_ok) ?_
  refine arun_keepE [0, 1, 16] 0 0 (st' := ⟨118, 0, [(0, (SL 1 c8 t0)), (1, (SL 1 c8 t1)), (16, (Bo (!x1)))], [], ⟨0, []⟩⟩) (by kernel_rfl) (by kernel_rfl) ?_
  show AWp _ _ _ _
  rcases Bool.eq_false_or_eq_true (!x1) with hb2 | hb2
  · rw [condT hb2] at h
    refine awp_condT (boT hb2) ?_
    refine awp_seq ?_
    refine awp_region ?_
    refine arun_do rfl rfl rfl (ex_assign (eV (v := (Bo false)) rfl)) ?_
    refine arun_keepE [4] 0 0 (st' := ⟨118, 0, [(4, (Bo false))], [], ⟨0, []⟩⟩) (by kernel_rfl) (by kernel_rfl) ?_
    show AWp _ _ _ _
    refine awp_ret ?_
    cases h
    exact ares1 (rtmp rfl (eV rfl))
  · rw [condF hb2] at h
    refine awp_condF (boF hb2) ?_
    refine awp_skip ?_
    show AWp _ _ _ _
    refine awp_seq ?_
    refine awp_seq ?_
    refine awp_region ?_
    refine arun_do rfl rfl rfl (ex_move (eV (v := (SL 1 c8 t0)) rfl)) ?_
    refine arun_do rfl rfl rfl (tx_lenD (xs := t0) ce8 Tryd.underlying22 rfl) ?_
    refine arun_do rfl rfl rfl (ex_bin (vx := (I (t0.length : Int))) (vy := (I 60)) rfl rfl gtrI_ok) ?_
    refine arun_do rfl rfl rfl (ex_move (eV (v := (Bo (decide ((t0.length : Int) > 60)))) rfl)) ?_
    refine arun_guard (v := (SL 1 c8 t1)) ((decide ((t0.length : Int) > 60)) == false) rfl rfl rfl (fun hc => ex_move (eV (v := (SL 1 c8 t1)) rfl)) ?_
    refine arun_guard (v := (I (t1.length : Int))) ((decide ((t0.length : Int) > 60)) == false) rfl rfl rfl (fun hc => tx_lenD (xs := t1) ce8 Tryd.underlying22 (cond_of hc)) ?_
    refine arun_guard (v := (Bo (decide ((t1.length : Int) > 6)))) ((decide ((t0.length : Int) > 60)) == false) rfl rfl rfl (fun hc => ex_bin (vx := (I (t1.length : Int))) (vy := (I 6)) (cond_of hc) rfl gtrI_ok) ?_
    refine arun_do rfl rfl rfl (ex_pick rfl pkOr) ?_
    refine arun_keepE [0, 1, 24] 0 0 (st' := ⟨118, 0, [(0, (SL 1 c8 t0)), (1, (SL 1 c8 t1)), (24, (Bo ((decide ((t0.length : Int) > 60)) || (decide ((t1.length : Int) > 6)))))], [], ⟨0, []⟩⟩) (by kernel_rfl) (by kernel_rfl) ?_
    show AWp _ _ _ _
    rcases Bool.eq_false_or_eq_true ((decide ((t0.length : Int) > 60)) || (decide ((t1.length : Int) > 6))) with hb3 | hb3
    · rw [condT hb3] at h
      refine awp_condT (boT hb3) ?_
      refine awp_seq ?_
      refine awp_region ?_
      refine arun_do rfl rfl rfl (ex_assign (eV (v := (Bo true)) rfl)) ?_
      refine arun_keepE [4] 0 0 (st' := ⟨118, 0, [(4, (Bo true))], [], ⟨0, []⟩⟩) (by kernel_rfl) (by kernel_rfl) ?_
      show AWp _ _ _ _
      refine awp_ret ?_
      cases h
      exact ares1 (rtmp rfl (eV rfl))
    · rw [condF hb3] at h
      refine awp_condF (boF hb3) ?_
      refine awp_skip ?_
      show AWp _ _ _ _
      refine awp_seq ?_
      refine awp_region ?_
      refine arun_do rfl rfl rfl (ex_move (eV (v := (SL 1 c8 t0)) rfl)) ?_
      obtain ⟨x4, hx4, h⟩ := bindS h
      refine arun_do rfl rfl rfl (ex_callNew (vs := [(SL 1 c8 t0)]) (k := 0) (b := ⟨1, (c_palimpmade_Picks x4), false⟩) (H' := ⟨1, [(0, ⟨1, (c_palimpmade_Picks x4), false⟩)]⟩) rfl en_5 (cargs (evs rfl evs_nil)) rfl (ok_made_Made t0 x4 hx4) rfl rfl rfl) ?_
      obtain ⟨x5, hx5, h⟩ := bindS h
      refine arun_do rfl rfl rfl (ex_call1 (vs := [(NP 0 0), (I 25)]) (vs' := [(NP 0 0), (I 25)]) (v := (SL 5 c_api_Node x5.1)) (n := 0) (b := ⟨1, (c_palimpmade_Picks x4), false⟩) (b' := ⟨1, (c_palimpmade_Picks x5.2), false⟩) (H' := ⟨1, [(0, ⟨1, (c_palimpmade_Picks x5.2), false⟩)]⟩) rfl en_6 (cargs (evs rfl (evs rfl evs_nil))) rfl rfl (.cons (.inr ⟨_, rfl, rfl⟩) (.cons (.inl ⟨rfl, rfl⟩) .nil)) (ok_made_Picks_Set x4 25 x5 hx5) rfl rfl) ?_
      refine arun_do rfl rfl rfl (ex_assign (eV (v := (SL 5 c_api_Node x5.1)) rfl)) ?_
      refine arun_keepE [1, 5] 0 0 (st' := ⟨118, 0, [(1, (SL 1 c8 t1)), (5, (SL 5 c_api_Node x5.1))], [], ⟨0, []⟩⟩) (by kernel_rfl) (by kernel_rfl) ?_
      show AWp _ _ _ _
      refine awp_seq ?_
      refine awp_region ?_
      refine arun_do rfl rfl rfl (ex_buildSliceG (k := 0) (qs := []) (cells := (([] : List G_api_Node).flatMap c_api_Node)) (H' := ⟨1, [(0, ⟨5, (([] : List G_api_Node).flatMap c_api_Node), true⟩)]⟩) Tryd.underlying25 s_39 (by decide) (by decide) evp_nil rfl (by kernel_rfl) (by kernel_rfl) (by kernel_rfl) rfl rfl) ?_
      refine arun_do rfl rfl rfl (ex_move (eV (v := (SL 5 c_api_Node x5.1)) rfl)) ?_
      obtain ⟨x6, hx6, h⟩ := bindS h
      refine arun_do rfl rfl rfl (tx_appG (c := c_api_Node) (xs := []) (H' := ⟨1, [(0, ⟨5, ((x6).flatMap c_api_Node), true⟩)]⟩) ce_api_Node e_39 rfl rfl rfl (tsrcD (ys := x5.1) ce_api_Node Tryd.underlying25 s_39 Tryd.underlying25 rfl) hx6 rfl) ?_
      refine arun_do rfl rfl rfl (ex_assign (eV (v := (GV 0 x6.length)) rfl)) ?_
      refine arun_keepE [1, 5, 6] 0 1 (st' := ⟨118, 0, [(1, (SL 1 c8 t1)), (5, (SL 5 c_api_Node x5.1)), (6, (GV 0 x6.length))], [], ⟨1, [(0, ⟨5, ((x6).flatMap c_api_Node), true⟩)]⟩⟩) (by kernel_rfl) (by kernel_rfl) ?_
      show AWp _ _ _ _
      refine awp_seq ?_
      refine awp_region ?_
      refine arun_do rfl rfl rfl (ex_move (eV (v := (SL 1 c8 t1)) rfl)) ?_
      obtain ⟨x7, hx7, h⟩ := bindS h
      refine arun_do rfl rfl rfl (ex_callNew (vs := [(SL 1 c8 t1)]) (k := 1) (b := ⟨1, (c_palimpmade_Picks x7), false⟩) (H' := ⟨2, [(1, ⟨1, (c_palimpmade_Picks x7), false⟩), (0, ⟨5, ((x6).flatMap c_api_Node), true⟩)]⟩) rfl en_5 (cargs (evs rfl evs_nil)) rfl (ok_made_Made t1 x7 hx7) rfl rfl rfl) ?_
      obtain ⟨x8, hx8, h⟩ := bindS h
      refine arun_do rfl rfl rfl (ex_call1 (vs := [(NP 1 0), (I 1)]) (vs' := [(NP 0 0), (I 1)]) (v := (Value.agg (c_api_Step x8.1).toArray)) (n := 1) (b := ⟨1, (c_palimpmade_Picks x7), false⟩) (b' := ⟨1, (c_palimpmade_Picks x8.2), false⟩) (H' := ⟨2, [(1, ⟨1, (c_palimpmade_Picks x8.2), false⟩), (0, ⟨5, ((x6).flatMap c_api_Node), true⟩)]⟩) rfl en_7 (cargs (evs rfl (evs rfl evs_nil))) rfl rfl (.cons (.inr ⟨_, rfl, rfl⟩) (.cons (.inl ⟨rfl, rfl⟩) .nil)) (ok_made_Picks_Edit x7 1 x8 hx8) rfl rfl) ?_
      refine arun_do rfl rfl rfl (ex_allocW (k := 0) (zs := (c_api_Step (G_api_Step.mk 0 0 0 0 0 [] [] [] []))) (L' := [(c_api_Step (G_api_Step.mk 0 0 0 0 0 [] [] [] []))]) z_31 rfl (by repeat (first | exact trivial | refine ⟨.inl rfl, ?_⟩ | refine ⟨.inr ⟨rfl, _, rfl⟩, ?_⟩)) rfl rfl) ?_
      refine arun_do0 rfl rfl (ex_storeL (vy := (Value.agg (c_api_Step x8.1).toArray)) (cs := (c_api_Step (G_api_Step.mk 0 0 0 0 0 [] [] [] []))) (vs := (c_api_Step x8.1)) (L' := [(c_api_Step x8.1)]) rfl (eV (v := (Value.agg (c_api_Step x8.1).toArray)) rfl) rfl s_31 rfl (Nat.le_of_ble_eq_true rfl) (by kernel_rfl)) ?_
      refine arun_keepE [5, 6, 7] 1 1 (st' := ⟨118, 0, [(5, (SL 5 c_api_Node x5.1)), (6, (GV 0 x6.length)), (7, (LP 0 0))], [(c_api_Step x8.1)], ⟨1, [(0, ⟨5, ((x6).flatMap c_api_Node), true⟩)]⟩⟩) (by kernel_rfl) (by kernel_rfl) ?_
      show AWp _ _ _ _
      refine awp_seq ?_
      refine awp_region ?_
      refine arun_do rfl rfl rfl (ex_move (eV (v := (SL 5 c_api_Node x5.1)) rfl)) ?_
      refine arun_do rfl rfl rfl (ex_fieldAddr (v := (LP 0 5)) Tryd.underlying31 rfl s_9 (by decide) rfl rfl) ?_
      refine arun_do rfl rfl rfl (tx_ldL1 (v := (S x8.1.Path)) Tryd.underlying9 rfl rfl rfl rfl) ?_
      obtain ⟨x9, hx9, h⟩ := bindS h
      refine arun_do rfl rfl rfl (ex_callOw2 (vs := [(SL 5 c_api_Node x5.1), (S x8.1.Path), (I 1)]) (k := 1) (len := x9.1.length) (m := x9.2) (b := ⟨5, ((x9.1).flatMap c_api_Node), true⟩) (H' := ⟨2, [(1, ⟨5, ((x9.1).flatMap c_api_Node), true⟩), (0, ⟨5, ((x6).flatMap c_api_Node), true⟩)]⟩) rfl en_8 (cargs (evs rfl (evs rfl (evs rfl evs_nil)))) rfl (okw_edit_Make x5.1 x8.1.Path 1 x9 hx9) rfl rfl) ?_
      refine arun_do rfl rfl rfl (ex_move (eV (v := (Value.tuple #[(GV 1 x9.1.length), (I x9.2)])) rfl)) ?_
      refine arun_do rfl rfl rfl (ex_extract (vx := (Value.tuple #[(GV 1 x9.1.length), (I x9.2)])) (v := (GV 1 x9.1.length)) rfl rfl) ?_
      refine arun_do rfl rfl rfl (ex_extract (vx := (Value.tuple #[(GV 1 x9.1.length), (I x9.2)])) (v := (I x9.2)) rfl rfl) ?_
      refine arun_do rfl rfl rfl (ex_assign (eV (v := (GV 1 x9.1.length)) rfl)) ?_
      refine arun_do rfl rfl rfl (ex_assign (eV (v := (I x9.2)) rfl)) ?_
      refine arun_keepE [5, 6, 7, 8] 1 2 (st' := ⟨118, 0, [(5, (SL 5 c_api_Node x5.1)), (6, (GV 0 x6.length)), (7, (LP 0 0)), (8, (GV 1 x9.1.length))], [(c_api_Step x8.1)], ⟨2, [(1, ⟨5, ((x9.1).flatMap c_api_Node), true⟩), (0, ⟨5, ((x6).flatMap c_api_Node), true⟩)]⟩⟩) (by kernel_rfl) (by kernel_rfl) ?_
      show AWp _ _ _ _
      refine awp_seq ?_
      refine awp_region ?_
      refine arun_do rfl rfl rfl (ex_move (eV (v := (SL 5 c_api_Node x5.1)) rfl)) ?_
      refine arun_do rfl rfl rfl (ex_fieldAddr (v := (LP 0 5)) Tryd.underlying31 rfl s_9 (by decide) rfl rfl) ?_
      refine arun_do rfl rfl rfl (tx_ldL1 (v := (S x8.1.Path)) Tryd.underlying9 rfl rfl rfl rfl) ?_
      obtain ⟨x10, hx10, h⟩ := bindS h
      refine arun_do rfl rfl rfl (ex_callOw2 (vs := [(SL 5 c_api_Node x5.1), (S x8.1.Path)]) (k := 2) (len := x10.1.length) (m := x10.2) (b := ⟨5, ((x10.1).flatMap c_api_Node), true⟩) (H' := ⟨3, [(2, ⟨5, ((x10.1).flatMap c_api_Node), true⟩), (1, ⟨5, ((x9.1).flatMap c_api_Node), true⟩), (0, ⟨5, ((x6).flatMap c_api_Node), true⟩)]⟩) rfl en_9 (cargs (evs rfl (evs rfl evs_nil))) rfl (okw_edit_Drop x5.1 x8.1.Path x10 hx10) rfl rfl) ?_
      refine arun_do rfl rfl rfl (ex_move (eV (v := (Value.tuple #[(GV 2 x10.1.length), (I x10.2)])) rfl)) ?_
      refine arun_do rfl rfl rfl (ex_extract (vx := (Value.tuple #[(GV 2 x10.1.length), (I x10.2)])) (v := (GV 2 x10.1.length)) rfl rfl) ?_
      refine arun_do rfl rfl rfl (ex_extract (vx := (Value.tuple #[(GV 2 x10.1.length), (I x10.2)])) (v := (I x10.2)) rfl rfl) ?_
      refine arun_do rfl rfl rfl (ex_assign (eV (v := (GV 2 x10.1.length)) rfl)) ?_
      refine arun_do rfl rfl rfl (ex_assign (eV (v := (I x10.2)) rfl)) ?_
      refine arun_keepE [5, 6, 7, 8, 10] 1 3 (st' := ⟨118, 0, [(5, (SL 5 c_api_Node x5.1)), (6, (GV 0 x6.length)), (7, (LP 0 0)), (8, (GV 1 x9.1.length)), (10, (GV 2 x10.1.length))], [(c_api_Step x8.1)], ⟨3, [(2, ⟨5, ((x10.1).flatMap c_api_Node), true⟩), (1, ⟨5, ((x9.1).flatMap c_api_Node), true⟩), (0, ⟨5, ((x6).flatMap c_api_Node), true⟩)]⟩⟩) (by kernel_rfl) (by kernel_rfl) ?_
      show AWp _ _ _ _
      refine awp_seq ?_
      refine awp_region ?_
      refine arun_do rfl rfl rfl (ex_move (eV (v := (SL 5 c_api_Node x5.1)) rfl)) ?_
      refine arun_do rfl rfl rfl (ex_fieldAddr (v := (LP 0 5)) Tryd.underlying31 rfl s_9 (by decide) rfl rfl) ?_
      refine arun_do rfl rfl rfl (tx_ldL1 (v := (S x8.1.Path)) Tryd.underlying9 rfl rfl rfl rfl) ?_
      refine arun_do rfl rfl rfl (ex_fieldAddr (v := (LP 0 6)) Tryd.underlying31 rfl s_9 (by decide) rfl rfl) ?_
      refine arun_do rfl rfl rfl (tx_ldL1 (v := (S x8.1.To)) Tryd.underlying9 rfl rfl rfl rfl) ?_
      obtain ⟨x11, hx11, h⟩ := bindS h
      refine arun_do rfl rfl rfl (ex_callOw2 (vs := [(SL 5 c_api_Node x5.1), (S x8.1.Path), (S x8.1.To)]) (k := 3) (len := x11.1.length) (m := x11.2) (b := ⟨5, ((x11.1).flatMap c_api_Node), true⟩) (H' := ⟨4, [(3, ⟨5, ((x11.1).flatMap c_api_Node), true⟩), (2, ⟨5, ((x10.1).flatMap c_api_Node), true⟩), (1, ⟨5, ((x9.1).flatMap c_api_Node), true⟩), (0, ⟨5, ((x6).flatMap c_api_Node), true⟩)]⟩) rfl en_10 (cargs (evs rfl (evs rfl (evs rfl evs_nil)))) rfl (okw_edit_Move x5.1 x8.1.Path x8.1.To x11 hx11) rfl rfl) ?_
      refine arun_do rfl rfl rfl (ex_move (eV (v := (Value.tuple #[(GV 3 x11.1.length), (I x11.2)])) rfl)) ?_
      refine arun_do rfl rfl rfl (ex_extract (vx := (Value.tuple #[(GV 3 x11.1.length), (I x11.2)])) (v := (GV 3 x11.1.length)) rfl rfl) ?_
      refine arun_do rfl rfl rfl (ex_extract (vx := (Value.tuple #[(GV 3 x11.1.length), (I x11.2)])) (v := (I x11.2)) rfl rfl) ?_
      refine arun_do rfl rfl rfl (ex_assign (eV (v := (GV 3 x11.1.length)) rfl)) ?_
      refine arun_do rfl rfl rfl (ex_assign (eV (v := (I x11.2)) rfl)) ?_
      refine arun_keepE [5, 6, 8, 10, 12] 0 4 (st' := ⟨118, 0, [(5, (SL 5 c_api_Node x5.1)), (6, (GV 0 x6.length)), (8, (GV 1 x9.1.length)), (10, (GV 2 x10.1.length)), (12, (GV 3 x11.1.length))], [], ⟨4, [(3, ⟨5, ((x11.1).flatMap c_api_Node), true⟩), (2, ⟨5, ((x10.1).flatMap c_api_Node), true⟩), (1, ⟨5, ((x9.1).flatMap c_api_Node), true⟩), (0, ⟨5, ((x6).flatMap c_api_Node), true⟩)]⟩⟩) (by kernel_rfl) (by kernel_rfl) ?_
      show AWp _ _ _ _
      refine awp_seq ?_
      refine awp_seq ?_
      refine awp_region ?_
      refine arun_do rfl rfl rfl (ex_move (eV (v := (GV 1 x9.1.length)) rfl)) ?_
      refine arun_do rfl rfl rfl (ex_lenN (n := x9.1.length) Tryd.underlying25 rfl) ?_
      refine arun_do rfl rfl rfl (ex_move (eV (v := (SL 5 c_api_Node x5.1)) rfl)) ?_
      refine arun_do rfl rfl rfl (tx_lenD (xs := x5.1) ce_api_Node Tryd.underlying25 rfl) ?_
      refine arun_do rfl rfl rfl (ex_bin (vx := (I ((x9.1.length : Nat) : Int))) (vy := (I (x5.1.length : Int))) rfl rfl neqI_ok) ?_
      refine arun_do rfl rfl rfl (ex_move (eV (v := (Bo (((x9.1.length : Nat) : Int) != (x5.1.length : Int)))) rfl)) ?_
      refine arun_guard (v := (GV 2 x10.1.length)) ((((x9.1.length : Nat) : Int) != (x5.1.length : Int)) == false) rfl rfl rfl (fun hc => ex_move (eV (v := (GV 2 x10.1.length)) rfl)) ?_
      refine arun_guard (v := (I ((x10.1.length : Nat) : Int))) ((((x9.1.length : Nat) : Int) != (x5.1.length : Int)) == false) rfl rfl rfl (fun hc => ex_lenN (n := x10.1.length) Tryd.underlying25 (cond_of hc)) ?_
      refine arun_guard (v := (SL 5 c_api_Node x5.1)) ((((x9.1.length : Nat) : Int) != (x5.1.length : Int)) == false) rfl rfl rfl (fun hc => ex_move (eV (v := (SL 5 c_api_Node x5.1)) rfl)) ?_
      refine arun_guard (v := (I (x5.1.length : Int))) ((((x9.1.length : Nat) : Int) != (x5.1.length : Int)) == false) rfl rfl rfl (fun hc => tx_lenD (xs := x5.1) ce_api_Node Tryd.underlying25 (cond_of hc)) ?_
      refine arun_guard (v := (Bo (((x10.1.length : Nat) : Int) != (x5.1.length : Int)))) ((((x9.1.length : Nat) : Int) != (x5.1.length : Int)) == false) rfl rfl rfl (fun hc => ex_bin (vx := (I ((x10.1.length : Nat) : Int))) (vy := (I (x5.1.length : Int))) (cond_of hc) (cond_of hc) neqI_ok) ?_
      refine arun_do rfl rfl rfl (ex_pick rfl pkOr) ?_
      refine arun_do rfl rfl rfl (ex_move (eV (v := (Bo ((((x9.1.length : Nat) : Int) != (x5.1.length : Int)) || (((x10.1.length : Nat) : Int) != (x5.1.length : Int))))) rfl)) ?_
      refine arun_guard (v := (GV 3 x11.1.length)) (((((x9.1.length : Nat) : Int) != (x5.1.length : Int)) || (((x10.1.length : Nat) : Int) != (x5.1.length : Int))) == false) rfl rfl rfl (fun hc => ex_move (eV (v := (GV 3 x11.1.length)) rfl)) ?_
      refine arun_guard (v := (I ((x11.1.length : Nat) : Int))) (((((x9.1.length : Nat) : Int) != (x5.1.length : Int)) || (((x10.1.length : Nat) : Int) != (x5.1.length : Int))) == false) rfl rfl rfl (fun hc => ex_lenN (n := x11.1.length) Tryd.underlying25 (cond_of hc)) ?_
      refine arun_guard (v := (SL 5 c_api_Node x5.1)) (((((x9.1.length : Nat) : Int) != (x5.1.length : Int)) || (((x10.1.length : Nat) : Int) != (x5.1.length : Int))) == false) rfl rfl rfl (fun hc => ex_move (eV (v := (SL 5 c_api_Node x5.1)) rfl)) ?_
      refine arun_guard (v := (I (x5.1.length : Int))) (((((x9.1.length : Nat) : Int) != (x5.1.length : Int)) || (((x10.1.length : Nat) : Int) != (x5.1.length : Int))) == false) rfl rfl rfl (fun hc => tx_lenD (xs := x5.1) ce_api_Node Tryd.underlying25 (cond_of hc)) ?_
      refine arun_guard (v := (Bo (((x11.1.length : Nat) : Int) != (x5.1.length : Int)))) (((((x9.1.length : Nat) : Int) != (x5.1.length : Int)) || (((x10.1.length : Nat) : Int) != (x5.1.length : Int))) == false) rfl rfl rfl (fun hc => ex_bin (vx := (I ((x11.1.length : Nat) : Int))) (vy := (I (x5.1.length : Int))) (cond_of hc) (cond_of hc) neqI_ok) ?_
      refine arun_do rfl rfl rfl (ex_pick rfl pkOr) ?_
      refine arun_keepE [5, 6, 8, 10, 12, 75] 0 4 (st' := ⟨118, 0, [(5, (SL 5 c_api_Node x5.1)), (6, (GV 0 x6.length)), (8, (GV 1 x9.1.length)), (10, (GV 2 x10.1.length)), (12, (GV 3 x11.1.length)), (75, (Bo (((((x9.1.length : Nat) : Int) != (x5.1.length : Int)) || (((x10.1.length : Nat) : Int) != (x5.1.length : Int))) || (((x11.1.length : Nat) : Int) != (x5.1.length : Int)))))], [], ⟨4, [(3, ⟨5, ((x11.1).flatMap c_api_Node), true⟩), (2, ⟨5, ((x10.1).flatMap c_api_Node), true⟩), (1, ⟨5, ((x9.1).flatMap c_api_Node), true⟩), (0, ⟨5, ((x6).flatMap c_api_Node), true⟩)]⟩⟩) (by kernel_rfl) (by kernel_rfl) ?_
      show AWp _ _ _ _
      rcases Bool.eq_false_or_eq_true (((((x9.1.length : Nat) : Int) != (x5.1.length : Int)) || (((x10.1.length : Nat) : Int) != (x5.1.length : Int))) || (((x11.1.length : Nat) : Int) != (x5.1.length : Int))) with hb12 | hb12
      · rw [condT hb12] at h
        refine awp_condT (boT hb12) ?_
        refine awp_seq ?_
        refine awp_region ?_
        refine arun_do rfl rfl rfl (ex_assign (eV (v := (Bo false)) rfl)) ?_
        refine arun_keepE [4] 0 0 (st' := ⟨118, 0, [(4, (Bo false))], [], ⟨0, []⟩⟩) (by kernel_rfl) (by kernel_rfl) ?_
        show AWp _ _ _ _
        refine awp_ret ?_
        cases h
        exact ares1 (rtmp rfl (eV rfl))
      · rw [condF hb12] at h
        refine awp_condF (boF hb12) ?_
        refine awp_skip ?_
        show AWp _ _ _ _
        refine awp_seq ?_
        refine awp_seq ?_
        refine awp_region ?_
        refine arun_do rfl rfl rfl (ex_assign (eV (v := (I 0)) rfl)) ?_
        refine arun_keepE [5, 6, 8, 10, 12, 14] 0 4 (st' := ⟨118, 0, [(5, (SL 5 c_api_Node x5.1)), (6, (GV 0 x6.length)), (8, (GV 1 x9.1.length)), (10, (GV 2 x10.1.length)), (12, (GV 3 x11.1.length)), (14, (I 0))], [], ⟨4, [(3, ⟨5, ((x11.1).flatMap c_api_Node), true⟩), (2, ⟨5, ((x10.1).flatMap c_api_Node), true⟩), (1, ⟨5, ((x9.1).flatMap c_api_Node), true⟩), (0, ⟨5, ((x6).flatMap c_api_Node), true⟩)]⟩⟩) (by kernel_rfl) (by kernel_rfl) ?_
        show AWp _ _ _ _
        refine awp_block ?_
        refine awp_loop (fun n s => ∃ (v13 : Int) (v14 : List G_api_Node) (v15 : List G_api_Node) (v16 : List G_api_Node), s = ⟨118, 0, [(5, (SL 5 c_api_Node x5.1)), (6, (GV 0 x6.length)), (8, (GV 1 v14.length)), (10, (GV 2 v15.length)), (12, (GV 3 v16.length)), (14, (I v13))], [], ⟨4, [(3, ⟨5, ((v16).flatMap c_api_Node), true⟩), (2, ⟨5, ((v15).flatMap c_api_Node), true⟩), (1, ⟨5, ((v14).flatMap c_api_Node), true⟩), (0, ⟨5, ((x6).flatMap c_api_Node), true⟩)]⟩⟩ ∧ M_law14_EditOld_l1 x5 x6 n v13 v14 v15 v16 = some r) fuel (Exists.intro 0 (Exists.intro x9.1 (Exists.intro x10.1 (Exists.intro x11.1 (And.intro rfl h))))) ?_
        rintro n s ⟨v13, v14, v15, v16, rfl, h⟩ -
        cases n with
        | zero => cases h
        | succ n1 =>
          unfold M_law14_EditOld_l1 at h
          refine awp_seq ?_
          refine awp_seq ?_
          refine awp_region ?_
          refine arun_do rfl rfl rfl (ex_move (eV (v := (I v13)) rfl)) ?_
          refine arun_do rfl rfl rfl (ex_move (eV (v := (SL 5 c_api_Node x5.1)) rfl)) ?_
          refine arun_do rfl rfl rfl (tx_lenD (xs := x5.1) ce_api_Node Tryd.underlying25 rfl) ?_
          refine arun_do rfl rfl rfl (ex_bin (vx := (I v13)) (vy := (I (x5.1.length : Int))) rfl rfl lssI_ok) ?_
          refine arun_keepE [5, 6, 8, 10, 12, 14, 79] 0 4 (st' := ⟨118, 0, [(5, (SL 5 c_api_Node x5.1)), (6, (GV 0 x6.length)), (8, (GV 1 v14.length)), (10, (GV 2 v15.length)), (12, (GV 3 v16.length)), (14, (I v13)), (79, (Bo (decide (v13 < (x5.1.length : Int)))))], [], ⟨4, [(3, ⟨5, ((v16).flatMap c_api_Node), true⟩), (2, ⟨5, ((v15).flatMap c_api_Node), true⟩), (1, ⟨5, ((v14).flatMap c_api_Node), true⟩), (0, ⟨5, ((x6).flatMap c_api_Node), true⟩)]⟩⟩) (by kernel_rfl) (by kernel_rfl) ?_
          show AWp _ _ _ _
          rcases Bool.eq_false_or_eq_true (decide (v13 < (x5.1.length : Int))) with hb17 | hb17
          · rw [condT hb17] at h
            refine awp_condT (boT hb17) ?_
            refine awp_skip ?_
            show AWp _ _ _ _
            refine awp_seq ?_
            refine awp_block ?_
            refine awp_region ?_
            refine arun_do rfl rfl rfl (ex_move (eV (v := (GV 1 v14.length)) rfl)) ?_
            refine arun_do rfl rfl rfl (ex_move (eV (v := (I v13)) rfl)) ?_
            refine arun_do rfl rfl rfl (ex_move (eV (v := (GV 2 v15.length)) rfl)) ?_
            refine arun_do rfl rfl rfl (ex_move (eV (v := (I v13)) rfl)) ?_
            refine arun_do rfl rfl rfl (ex_move (eV (v := (GV 3 v16.length)) rfl)) ?_
            refine arun_do rfl rfl rfl (ex_move (eV (v := (I v13)) rfl)) ?_
            refine arun_do rfl rfl rfl (ex_build (qs := [(0, (I 3))]) (v := (Value.agg (c_api_Node (G_api_Node.mk 3 0 [] [] 0)).toArray)) (evp rfl evp_nil) (by kernel_rfl)) ?_
            refine arun_do rfl rfl rfl (ex_build (qs := [(0, (I 1))]) (v := (Value.agg (c_api_Node (G_api_Node.mk 1 0 [] [] 0)).toArray)) (evp rfl evp_nil) (by kernel_rfl)) ?_
            refine arun_do rfl rfl rfl (ex_build (qs := [(1, (I 9))]) (v := (Value.agg (c_api_Node (G_api_Node.mk 0 9 [] [] 0)).toArray)) (evp rfl evp_nil) (by kernel_rfl)) ?_
            obtain ⟨x18, hx18, h⟩ := bindS h
            refine arun_do rfl rfl rfl (tx_idxG (c := c_api_Node) (xs := v14) (i := v13) ce_api_Node Tryd.underlying25 s_39 rfl rfl rfl rfl hx18) ?_
            obtain ⟨x19, hx19, h⟩ := bindS h
            refine arun_do0 rfl rfl (tx_stG (c := c_api_Node) (xs := v14) (e := (G_api_Node.mk 3 0 [] [] 0)) (H' := ⟨4, [(3, ⟨5, ((v16).flatMap c_api_Node), true⟩), (2, ⟨5, ((v15).flatMap c_api_Node), true⟩), (1, ⟨5, ((x19).flatMap c_api_Node), true⟩), (0, ⟨5, ((x6).flatMap c_api_Node), true⟩)]⟩) ce_api_Node s_39 rfl (eV (v := (Value.agg (c_api_Node (G_api_Node.mk 3 0 [] [] 0)).toArray)) rfl) rfl rfl hx19 rfl) ?_
            refine arun_fewer (T' := [(5, (SL 5 c_api_Node x5.1)), (6, (GV 0 x6.length)), (8, (GV 1 x19.length)), (10, (GV 2 v15.length)), (12, (GV 3 v16.length)), (14, (I v13)), (79, (Bo (decide (v13 < (x5.1.length : Int))))), (82, (GV 1 x19.length)), (83, (I v13)), (84, (GV 2 v15.length)), (85, (I v13)), (86, (GV 3 v16.length)), (87, (I v13)), (88, (Value.agg (c_api_Node (G_api_Node.mk 3 0 [] [] 0)).toArray)), (89, (Value.agg (c_api_Node (G_api_Node.mk 1 0 [] [] 0)).toArray)), (90, (Value.agg (c_api_Node (G_api_Node.mk 0 9 [] [] 0)).toArray))]) (ReT.keep (v := (SL 5 c_api_Node x5.1)) rfl (ReT.keep (v := (GV 0 x6.length)) rfl (ReT.gv rfl (setI_len hx19) (ReT.keep (v := (GV 2 v15.length)) rfl (ReT.keep (v := (GV 3 v16.length)) rfl (ReT.keep (v := (I v13)) rfl (ReT.keep (v := (Bo (decide (v13 < (x5.1.length : Int))))) rfl (ReT.gv rfl (setI_len hx19) (ReT.keep (v := (I v13)) rfl (ReT.keep (v := (GV 2 v15.length)) rfl (ReT.keep (v := (I v13)) rfl (ReT.keep (v := (GV 3 v16.length)) rfl (ReT.keep (v := (I v13)) rfl (ReT.keep (v := (Value.agg (c_api_Node (G_api_Node.mk 3 0 [] [] 0)).toArray)) rfl (ReT.keep (v := (Value.agg (c_api_Node (G_api_Node.mk 1 0 [] [] 0)).toArray)) rfl (ReT.keep (v := (Value.agg (c_api_Node (G_api_Node.mk 0 9 [] [] 0)).toArray)) rfl ReT.nil)))))))))))))))) ?_
            obtain ⟨x20, hx20, h⟩ := bindS h
            refine arun_do rfl rfl rfl (tx_idxG (c := c_api_Node) (xs := v15) (i := v13) ce_api_Node Tryd.underlying25 s_39 rfl rfl rfl rfl hx20) ?_
            obtain ⟨x21, hx21, h⟩ := bindS h
            refine arun_do0 rfl rfl (tx_stG (c := c_api_Node) (xs := v15) (e := (G_api_Node.mk 1 0 [] [] 0)) (H' := ⟨4, [(3, ⟨5, ((v16).flatMap c_api_Node), true⟩), (2, ⟨5, ((x21).flatMap c_api_Node), true⟩), (1, ⟨5, ((x19).flatMap c_api_Node), true⟩), (0, ⟨5, ((x6).flatMap c_api_Node), true⟩)]⟩) ce_api_Node s_39 rfl (eV (v := (Value.agg (c_api_Node (G_api_Node.mk 1 0 [] [] 0)).toArray)) rfl) rfl rfl hx21 rfl) ?_
            refine arun_fewer (T' := [(5, (SL 5 c_api_Node x5.1)), (6, (GV 0 x6.length)), (8, (GV 1 x19.length)), (10, (GV 2 x21.length)), (12, (GV 3 v16.length)), (14, (I v13)), (79, (Bo (decide (v13 < (x5.1.length : Int))))), (82, (GV 1 x19.length)), (83, (I v13)), (84, (GV 2 x21.length)), (85, (I v13)), (86, (GV 3 v16.length)), (87, (I v13)), (88, (Value.agg (c_api_Node (G_api_Node.mk 3 0 [] [] 0)).toArray)), (89, (Value.agg (c_api_Node (G_api_Node.mk 1 0 [] [] 0)).toArray)), (90, (Value.agg (c_api_Node (G_api_Node.mk 0 9 [] [] 0)).toArray))]) (ReT.keep (v := (SL 5 c_api_Node x5.1)) rfl (ReT.keep (v := (GV 0 x6.length)) rfl (ReT.keep (v := (GV 1 x19.length)) rfl (ReT.gv rfl (setI_len hx21) (ReT.keep (v := (GV 3 v16.length)) rfl (ReT.keep (v := (I v13)) rfl (ReT.keep (v := (Bo (decide (v13 < (x5.1.length : Int))))) rfl (ReT.keep (v := (GV 1 x19.length)) rfl (ReT.keep (v := (I v13)) rfl (ReT.gv rfl (setI_len hx21) (ReT.keep (v := (I v13)) rfl (ReT.keep (v := (GV 3 v16.length)) rfl (ReT.keep (v := (I v13)) rfl (ReT.keep (v := (Value.agg (c_api_Node (G_api_Node.mk 3 0 [] [] 0)).toArray)) rfl (ReT.keep (v := (Value.agg (c_api_Node (G_api_Node.mk 1 0 [] [] 0)).toArray)) rfl (ReT.keep (v := (Value.agg (c_api_Node (G_api_Node.mk 0 9 [] [] 0)).toArray)) rfl ReT.nil)))))))))))))))) ?_
            obtain ⟨x22, hx22, h⟩ := bindS h
            refine arun_do rfl rfl rfl (tx_idxG (c := c_api_Node) (xs := v16) (i := v13) ce_api_Node Tryd.underlying25 s_39 rfl rfl rfl rfl hx22) ?_
            obtain ⟨x23, hx23, h⟩ := bindS h
            refine arun_do0 rfl rfl (tx_stG (c := c_api_Node) (xs := v16) (e := (G_api_Node.mk 0 9 [] [] 0)) (H' := ⟨4, [(3, ⟨5, ((x23).flatMap c_api_Node), true⟩), (2, ⟨5, ((x21).flatMap c_api_Node), true⟩), (1, ⟨5, ((x19).flatMap c_api_Node), true⟩), (0, ⟨5, ((x6).flatMap c_api_Node), true⟩)]⟩) ce_api_Node s_39 rfl (eV (v := (Value.agg (c_api_Node (G_api_Node.mk 0 9 [] [] 0)).toArray)) rfl) rfl rfl hx23 rfl) ?_
            refine arun_fewer (T' := [(5, (SL 5 c_api_Node x5.1)), (6, (GV 0 x6.length)), (8, (GV 1 x19.length)), (10, (GV 2 x21.length)), (12, (GV 3 x23.length)), (14, (I v13)), (79, (Bo (decide (v13 < (x5.1.length : Int))))), (82, (GV 1 x19.length)), (83, (I v13)), (84, (GV 2 x21.length)), (85, (I v13)), (86, (GV 3 x23.length)), (87, (I v13)), (88, (Value.agg (c_api_Node (G_api_Node.mk 3 0 [] [] 0)).toArray)), (89, (Value.agg (c_api_Node (G_api_Node.mk 1 0 [] [] 0)).toArray)), (90, (Value.agg (c_api_Node (G_api_Node.mk 0 9 [] [] 0)).toArray))]) (ReT.keep (v := (SL 5 c_api_Node x5.1)) rfl (ReT.keep (v := (GV 0 x6.length)) rfl (ReT.keep (v := (GV 1 x19.length)) rfl (ReT.keep (v := (GV 2 x21.length)) rfl (ReT.gv rfl (setI_len hx23) (ReT.keep (v := (I v13)) rfl (ReT.keep (v := (Bo (decide (v13 < (x5.1.length : Int))))) rfl (ReT.keep (v := (GV 1 x19.length)) rfl (ReT.keep (v := (I v13)) rfl (ReT.keep (v := (GV 2 x21.length)) rfl (ReT.keep (v := (I v13)) rfl (ReT.gv rfl (setI_len hx23) (ReT.keep (v := (I v13)) rfl (ReT.keep (v := (Value.agg (c_api_Node (G_api_Node.mk 3 0 [] [] 0)).toArray)) rfl (ReT.keep (v := (Value.agg (c_api_Node (G_api_Node.mk 1 0 [] [] 0)).toArray)) rfl (ReT.keep (v := (Value.agg (c_api_Node (G_api_Node.mk 0 9 [] [] 0)).toArray)) rfl ReT.nil)))))))))))))))) ?_
            refine arun_keepE [5, 6, 8, 10, 12, 14] 0 4 (st' := ⟨118, 0, [(5, (SL 5 c_api_Node x5.1)), (6, (GV 0 x6.length)), (8, (GV 1 x19.length)), (10, (GV 2 x21.length)), (12, (GV 3 x23.length)), (14, (I v13))], [], ⟨4, [(3, ⟨5, ((x23).flatMap c_api_Node), true⟩), (2, ⟨5, ((x21).flatMap c_api_Node), true⟩), (1, ⟨5, ((x19).flatMap c_api_Node), true⟩), (0, ⟨5, ((x6).flatMap c_api_Node), true⟩)]⟩⟩) (by kernel_rfl) (by kernel_rfl) ?_
            show AWp _ _ _ _
            refine awp_region ?_
            refine arun_do rfl rfl rfl (ex_move (eV (v := (I v13)) rfl)) ?_
            refine arun_do rfl rfl rfl (ex_bin (vx := (I v13)) (vy := (I 1)) rfl rfl addI_ok) ?_
            refine arun_do rfl rfl rfl (ex_assign (eV (v := (I (w64 (v13 + 1)))) rfl)) ?_
            refine arun_keepE [5, 6, 8, 10, 12, 14] 0 4 (st' := ⟨118, 0, [(5, (SL 5 c_api_Node x5.1)), (6, (GV 0 x6.length)), (8, (GV 1 x19.length)), (10, (GV 2 x21.length)), (12, (GV 3 x23.length)), (14, (I (w64 (v13 + 1))))], [], ⟨4, [(3, ⟨5, ((x23).flatMap c_api_Node), true⟩), (2, ⟨5, ((x21).flatMap c_api_Node), true⟩), (1, ⟨5, ((x19).flatMap c_api_Node), true⟩), (0, ⟨5, ((x6).flatMap c_api_Node), true⟩)]⟩⟩) (by kernel_rfl) (by kernel_rfl) ?_
            exact Exists.intro n1 (And.intro (Nat.lt_succ_self _) (Exists.intro (w64 (v13 + 1)) (Exists.intro x19 (Exists.intro x21 (Exists.intro x23 (And.intro rfl h))))))
          · rw [condF hb17] at h
            refine awp_condF (boF hb17) ?_
            refine awp_exit ?_
            show AWp _ _ _ _
            refine awp_seq ?_
            refine awp_region ?_
            refine arun_do rfl rfl rfl (ex_move (eV (v := (SL 5 c_api_Node x5.1)) rfl)) ?_
            refine arun_do rfl rfl rfl (ex_move (eV (v := (GV 0 x6.length)) rfl)) ?_
            refine arun_freeze 0 (bk := ⟨5, ((x6).flatMap c_api_Node), true⟩) (T' := [(5, (SL 5 c_api_Node x5.1)), (6, (SL 5 c_api_Node x6)), (8, (GV 1 v14.length)), (10, (GV 2 v15.length)), (12, (GV 3 v16.length)), (14, (I v13)), (79, (Bo (decide (v13 < (x5.1.length : Int))))), (94, (SL 5 c_api_Node x5.1)), (95, (SL 5 c_api_Node x6))]) (L' := []) rfl (FzT.keep (v := (SL 5 c_api_Node x5.1)) rfl (fzG ce_api_Node rfl rfl (FzT.keep (v := (GV 1 v14.length)) rfl (FzT.keep (v := (GV 2 v15.length)) rfl (FzT.keep (v := (GV 3 v16.length)) rfl (FzT.keep (v := (I v13)) rfl (FzT.keep (v := (Bo (decide (v13 < (x5.1.length : Int))))) rfl (FzT.keep (v := (SL 5 c_api_Node x5.1)) rfl (fzG ce_api_Node rfl rfl FzT.nil))))))))) (FzL.refl _) ?_
            show ARun _ _ _ _ _ ⟨118, 0, [(5, (SL 5 c_api_Node x5.1)), (6, (SL 5 c_api_Node x6)), (8, (GV 1 v14.length)), (10, (GV 2 v15.length)), (12, (GV 3 v16.length)), (14, (I v13)), (79, (Bo (decide (v13 < (x5.1.length : Int))))), (94, (SL 5 c_api_Node x5.1)), (95, (SL 5 c_api_Node x6))], [], ⟨4, [(3, ⟨5, ((v16).flatMap c_api_Node), true⟩), (2, ⟨5, ((v15).flatMap c_api_Node), true⟩), (1, ⟨5, ((v14).flatMap c_api_Node), true⟩)]⟩⟩
            obtain ⟨x24, hx24, h⟩ := bindS h
            refine arun_do rfl rfl rfl (ex_call0 (vs := [(SL 5 c_api_Node x5.1), (SL 5 c_api_Node x6)]) (v := (Bo x24)) rfl en_11 (cargs (evs rfl (evs rfl evs_nil))) rfl (ok_ref11_Same x5.1 x6 x24 hx24) rfl) ?_
            refine arun_do rfl rfl rfl (ex_move (eV (v := (Bo x24)) rfl)) ?_
            refine arun_guard (v := (GV 1 v14.length)) (x24 == true) rfl rfl rfl (fun hc => ex_move (eV (v := (GV 1 v14.length)) rfl)) ?_
            obtain ⟨x25, hx25, h⟩ := bindS h
            refine arun_guard (v := (GP 1 ((0 : Int).toNat * 5) (List.flatMap c_api_Node v14).length)) (x24 == true) rfl rfl rfl (fun hc => tx_idxG (c := c_api_Node) (xs := v14) (i := 0) ce_api_Node Tryd.underlying25 s_39 (cond_of hc) rfl rfl rfl (gd_of hc hx25)) ?_
            refine arun_guard (v := (GP 1 (((0 : Int).toNat * 5) + 0) (List.flatMap c_api_Node v14).length)) (x24 == true) rfl rfl rfl (fun hc => ex_fieldAddr (v := (GP 1 (((0 : Int).toNat * 5) + 0) (List.flatMap c_api_Node v14).length)) Tryd.underlying39 rfl s_3 (by decide) (cond_of hc) rfl) ?_
            refine arun_guard (v := (I x25.Kind)) (x24 == true) rfl rfl rfl (fun hc => tx_ldG (v := (I x25.Kind)) (s := 5) (cond_of hc) rfl (part_elem (off := 0) (v := (I x25.Kind)) ce_api_Node (gd_of hc hx25) Tryd.underlying3 rfl (by decide) rfl)) ?_
            refine arun_guard (v := (Bo (x25.Kind == 3))) (x24 == true) rfl rfl rfl (fun hc => ex_bin (vx := (I x25.Kind)) (vy := (I 3)) (cond_of hc) rfl eqlI_ok) ?_
            refine arun_do rfl rfl rfl (ex_pick rfl pkAnd) ?_
            refine arun_do rfl rfl rfl (ex_move (eV (v := (Bo (x24 && (x25.Kind == 3)))) rfl)) ?_
            refine arun_guard (v := (GV 2 v15.length)) ((x24 && (x25.Kind == 3)) == true) rfl rfl rfl (fun hc => ex_move (eV (v := (GV 2 v15.length)) rfl)) ?_
            obtain ⟨x26, hx26, h⟩ := bindS h
            refine arun_guard (v := (GP 2 ((0 : Int).toNat * 5) (List.flatMap c_api_Node v15).length)) ((x24 && (x25.Kind == 3)) == true) rfl rfl rfl (fun hc => tx_idxG (c := c_api_Node) (xs := v15) (i := 0) ce_api_Node Tryd.underlying25 s_39 (cond_of hc) rfl rfl rfl (gd_of hc hx26)) ?_
            refine arun_guard (v := (GP 2 (((0 : Int).toNat * 5) + 0) (List.flatMap c_api_Node v15).length)) ((x24 && (x25.Kind == 3)) == true) rfl rfl rfl (fun hc => ex_fieldAddr (v := (GP 2 (((0 : Int).toNat * 5) + 0) (List.flatMap c_api_Node v15).length)) Tryd.underlying39 rfl s_3 (by decide) (cond_of hc) rfl) ?_
            refine arun_guard (v := (I x26.Kind)) ((x24 && (x25.Kind == 3)) == true) rfl rfl rfl (fun hc => tx_ldG (v := (I x26.Kind)) (s := 5) (cond_of hc) rfl (part_elem (off := 0) (v := (I x26.Kind)) ce_api_Node (gd_of hc hx26) Tryd.underlying3 rfl (by decide) rfl)) ?_
            refine arun_guard (v := (Bo (x26.Kind == 1))) ((x24 && (x25.Kind == 3)) == true) rfl rfl rfl (fun hc => ex_bin (vx := (I x26.Kind)) (vy := (I 1)) (cond_of hc) rfl eqlI_ok) ?_
            refine arun_do rfl rfl rfl (ex_pick rfl pkAnd) ?_
            refine arun_do rfl rfl rfl (ex_move (eV (v := (Bo ((x24 && (x25.Kind == 3)) && (x26.Kind == 1)))) rfl)) ?_
            refine arun_guard (v := (GV 3 v16.length)) (((x24 && (x25.Kind == 3)) && (x26.Kind == 1)) == true) rfl rfl rfl (fun hc => ex_move (eV (v := (GV 3 v16.length)) rfl)) ?_
            obtain ⟨x27, hx27, h⟩ := bindS h
            refine arun_guard (v := (GP 3 ((0 : Int).toNat * 5) (List.flatMap c_api_Node v16).length)) (((x24 && (x25.Kind == 3)) && (x26.Kind == 1)) == true) rfl rfl rfl (fun hc => tx_idxG (c := c_api_Node) (xs := v16) (i := 0) ce_api_Node Tryd.underlying25 s_39 (cond_of hc) rfl rfl rfl (gd_of hc hx27)) ?_
            refine arun_guard (v := (GP 3 (((0 : Int).toNat * 5) + 1) (List.flatMap c_api_Node v16).length)) (((x24 && (x25.Kind == 3)) && (x26.Kind == 1)) == true) rfl rfl rfl (fun hc => ex_fieldAddr (v := (GP 3 (((0 : Int).toNat * 5) + 1) (List.flatMap c_api_Node v16).length)) Tryd.underlying39 rfl s_3 (by decide) (cond_of hc) rfl) ?_
            refine arun_guard (v := (I x27.Up)) (((x24 && (x25.Kind == 3)) && (x26.Kind == 1)) == true) rfl rfl rfl (fun hc => tx_ldG (v := (I x27.Up)) (s := 5) (cond_of hc) rfl (part_elem (off := 1) (v := (I x27.Up)) ce_api_Node (gd_of hc hx27) Tryd.underlying3 rfl (by decide) rfl)) ?_
            refine arun_guard (v := (Bo (x27.Up == 9))) (((x24 && (x25.Kind == 3)) && (x26.Kind == 1)) == true) rfl rfl rfl (fun hc => ex_bin (vx := (I x27.Up)) (vy := (I 9)) (cond_of hc) rfl eqlI_ok) ?_
            refine arun_do rfl rfl rfl (ex_pick rfl pkAnd) ?_
            refine arun_do rfl rfl rfl (ex_assign (eV (v := (Bo (((x24 && (x25.Kind == 3)) && (x26.Kind == 1)) && (x27.Up == 9)))) rfl)) ?_
            refine arun_keepE [4] 0 0 (st' := ⟨118, 0, [(4, (Bo (((x24 && (x25.Kind == 3)) && (x26.Kind == 1)) && (x27.Up == 9))))], [], ⟨0, []⟩⟩) (by kernel_rfl) (by kernel_rfl) ?_
            show AWp _ _ _ _
            refine awp_ret ?_
            cases h
            exact ares1 (rtmp rfl (eV rfl))

end Go.Proofs
