/- Pure models of functions of the program, and that its code does what they say: palimplaw13 WalkIn. Written by a program. -/
import Derived.Test.YtmadpkhcdgpglaaDoorR1313
import Derived.Test.YtmadpkhcdgpglaaDoorR138
import Derived.Test.YtmadpkhcdgpglaaDoorR13B
set_option maxRecDepth 20000
set_option maxHeartbeats 4000000
namespace Go.Proofs
open Go Go.Fhl
set_option linter.unusedVariables false
set_option linter.unusedSimpArgs false
noncomputable def M_law13_WalkIn_l3 (c_1 : (Int → Option Bool)) (c_2 : (Int → Option Bool)) (x5 : ((List G_api_Node) × G_palimpmade_Picks)) (v6 : Int) (v13 : Int) (x15 : Bool) : Nat → Int → Option Bool
  | 0, _ => none
  | n3 + 1, v21 =>
  cond (x15 && (decide (v21 < (x5.1.length : Int)))) (Option.bind (M_walk_Within x5.1 v13 v21) fun (x23 : Bool) => Option.bind (M_walk_Within x5.1 v6 v21) fun (x24 : Bool) => Option.bind (gd (((x23 && (!x24)) == false) && ((x24 && (!x23)) == true)) (M_walk_Within x5.1 v21 v13)) fun (x25 : Bool) => cond ((x23 && (!x24)) || ((x24 && (!x23)) && (!x25))) (some false) ((M_law13_WalkIn_l3 c_1 c_2 x5 v6 v13 x15 n3) (w64 (v21 + 1)))) (c_2 (w64 (v13 + 1)))
noncomputable def M_law13_WalkIn_l2 (c_1 : (Int → Option Bool)) (x5 : ((List G_api_Node) × G_palimpmade_Picks)) (v6 : Int) : Nat → Int → Option Bool
  | 0, _ => none
  | n2 + 1, v13 =>
  cond (decide (v13 < (x5.1.length : Int))) (Option.bind (M_walk_Within x5.1 v6 v13) fun (x15 : Bool) => Option.bind (gd ((x15 && (v6 != v13)) == true) (M_walk_Within x5.1 v13 v6)) fun (x16 : Bool) => Option.bind (gd (((x15 && (v6 != v13)) == true) && (x16 == false)) (getI x5.1 v13)) fun (x17 : G_api_Node) => Option.bind (gd (((x15 && (v6 != v13)) == true) && ((x16 || (x17.Kind != 2)) == false)) (getI x5.1 v6)) fun (x18 : G_api_Node) => Option.bind (gd (((x15 && (v6 != v13)) == true) && ((x16 || (x17.Kind != 2)) == false)) (M_walk_Within x5.1 x18.Up v13)) fun (x19 : Bool) => cond ((x15 && (v6 != v13)) && ((x16 || (x17.Kind != 2)) || (!x19))) (some false) (M_law13_WalkIn_l3 c_1 (M_law13_WalkIn_l2 c_1 x5 v6 n2) x5 v6 v13 x15 fuel 0)) (c_1 (w64 (v6 + 1)))
noncomputable def M_law13_WalkIn_l1 (x5 : ((List G_api_Node) × G_palimpmade_Picks)) : Nat → Int → Option Bool
  | 0, _ => none
  | n1 + 1, v6 =>
  cond (decide (v6 < (x5.1.length : Int))) (Option.bind (M_walk_Within x5.1 v6 v6) fun (x8 : Bool) => Option.bind (getI x5.1 v6) fun (x9 : G_api_Node) => Option.bind (gd ((x8 != (x9.Kind != 0)) == false) (M_walk_Within x5.1 v6 0)) fun (x10 : Bool) => Option.bind (gd ((x8 != (x9.Kind != 0)) == false) (getI x5.1 v6)) fun (x11 : G_api_Node) => cond ((x8 != (x9.Kind != 0)) || (x10 != (x11.Kind != 0))) (some false) (M_law13_WalkIn_l2 (M_law13_WalkIn_l1 x5 n1) x5 v6 fuel 0)) (some true)
noncomputable def M_law13_WalkIn (t0 : (List UInt8)) : Option Bool :=
  Option.bind (M_law13_begun) fun (x1 : Bool) => cond (!x1) (some false) (cond (decide ((t0.length : Int) > 60)) (some true) (Option.bind (M_made_Made t0) fun (x4 : G_palimpmade_Picks) => Option.bind (M_made_Picks_Set x4 25) fun (x5 : ((List G_api_Node) × G_palimpmade_Picks)) => M_law13_WalkIn_l1 x5 fuel 0))
theorem ok_law13_WalkIn (t0 : (List UInt8)) (r : Bool) (h : M_law13_WalkIn t0 = some r) : FFn Tryd.prog 6 [(SL 1 c8 t0)] (Bo r) := by
  refine FFn.of_body (n := 124) Tryd.func6 rfl Tryd.ntmps6 rfl rfl rfl rfl ?_
  show AWp _ _ _ ⟨124, 0, [(0, (SL 1 c8 t0))], [], ⟨0, []⟩⟩
  unfold M_law13_WalkIn at h
  refine awp_seq ?_
  refine awp_region ?_
  refine arun_do rfl rfl rfl (ex_assign (eV (v := (Bo false)) rfl)) ?_
  refine arun_keepE [0] 0 0 (st' := ⟨124, 0, [(0, (SL 1 c8 t0))], [], ⟨0, []⟩⟩) (by kernel_rfl) (by kernel_rfl) ?_
  show AWp _ _ _ _
  refine awp_seq ?_
  refine awp_seq ?_
  refine awp_region ?_
  obtain ⟨x1, hx1, h⟩ := bindS h
  refine arun_do rfl rfl rfl (ex_call0 (vs := []) (v := (Bo x1)) rfl en_7 (cargs evs_nil) rfl (ok_law13_begun  x1 hx1) rfl) ?_
  refine arun_do rfl rfl rfl (ex_un (vx := (Bo x1)) rfl notB_ok) ?_
  refine arun_keepE [0, 11] 0 0 (st' := ⟨124, 0, [(0, (SL 1 c8 t0)), (11, (Bo (!x1)))], [], ⟨0, []⟩⟩) (by kernel_rfl) (by kernel_rfl) ?_
  show AWp _ _ _ _
  rcases Bool.eq_false_or_eq_true (!x1) with hb2 | hb2
  · rw [condT hb2] at h
    refine awp_condT (boT hb2) ?_
    refine awp_seq ?_
    refine awp_region ?_
    refine arun_do rfl rfl rfl (ex_assign (eV (v := (Bo false)) rfl)) ?_
    refine arun_keepE [2] 0 0 (st' := ⟨124, 0, [(2, (Bo false))], [], ⟨0, []⟩⟩) (by kernel_rfl) (by kernel_rfl) ?_
    show AWp _ _ _ _
    refine awp_ret ?_
    cases h
    exact ares1 (rtmp rfl (eV rfl))
  · rw [condF hb2] at h
    refine awp_condF (boF hb2) ?_
    refine awp_skip ?_
    show AWp _ _ _ _
    refine awp_seq ?_
    refine awp_seq ?_
    refine awp_region ?_
    refine arun_do rfl rfl rfl (ex_move (eV (v := (SL 1 c8 t0)) rfl)) ?_
    refine arun_do rfl rfl rfl (tx_lenD (xs := t0) ce8 Tryd.underlying22 rfl) ?_
    refine arun_do rfl rfl rfl (ex_bin (vx := (I (t0.length : Int))) (vy := (I 60)) rfl rfl gtrI_ok) ?_
    refine arun_keepE [0, 14] 0 0 (st' := ⟨124, 0, [(0, (SL 1 c8 t0)), (14, (Bo (decide ((t0.length : Int) > 60))))], [], ⟨0, []⟩⟩) (by kernel_rfl) (by kernel_rfl) ?_
    show AWp _ _ _ _
    rcases Bool.eq_false_or_eq_true (decide ((t0.length : Int) > 60)) with hb3 | hb3
    · rw [condT hb3] at h
      refine awp_condT (boT hb3) ?_
      refine awp_seq ?_
      refine awp_region ?_
      refine arun_do rfl rfl rfl (ex_assign (eV (v := (Bo true)) rfl)) ?_
      refine arun_keepE [2] 0 0 (st' := ⟨124, 0, [(2, (Bo true))], [], ⟨0, []⟩⟩) (by kernel_rfl) (by kernel_rfl) ?_
      show AWp _ _ _ _
      refine awp_ret ?_
      cases h
      exact ares1 (rtmp rfl (eV rfl))
    · rw [condF hb3] at h
      refine awp_condF (boF hb3) ?_
      refine awp_skip ?_
      show AWp _ _ _ _
      refine awp_seq ?_
      refine awp_region ?_
      refine arun_do rfl rfl rfl (ex_move (eV (v := (SL 1 c8 t0)) rfl)) ?_
      obtain ⟨x4, hx4, h⟩ := bindS h
      refine arun_do rfl rfl rfl (ex_callNew (vs := [(SL 1 c8 t0)]) (k := 0) (b := ⟨1, (c_palimpmade_Picks x4), false⟩) (H' := ⟨1, [(0, ⟨1, (c_palimpmade_Picks x4), false⟩)]⟩) rfl en_8 (cargs (evs rfl evs_nil)) rfl (ok_made_Made t0 x4 hx4) rfl rfl rfl) ?_
      obtain ⟨x5, hx5, h⟩ := bindS h
      refine arun_do rfl rfl rfl (ex_call1 (vs := [(NP 0 0), (I 25)]) (vs' := [(NP 0 0), (I 25)]) (v := (SL 5 c_api_Node x5.1)) (n := 0) (b := ⟨1, (c_palimpmade_Picks x4), false⟩) (b' := ⟨1, (c_palimpmade_Picks x5.2), false⟩) (H' := ⟨1, [(0, ⟨1, (c_palimpmade_Picks x5.2), false⟩)]⟩) rfl en_9 (cargs (evs rfl (evs rfl evs_nil))) rfl rfl (.cons (.inr ⟨_, rfl, rfl⟩) (.cons (.inl ⟨rfl, rfl⟩) .nil)) (ok_made_Picks_Set x4 25 x5 hx5) rfl rfl) ?_
      refine arun_do rfl rfl rfl (ex_assign (eV (v := (SL 5 c_api_Node x5.1)) rfl)) ?_
      refine arun_keepE [3] 0 0 (st' := ⟨124, 0, [(3, (SL 5 c_api_Node x5.1))], [], ⟨0, []⟩⟩) (by kernel_rfl) (by kernel_rfl) ?_
      show AWp _ _ _ _
      refine awp_seq ?_
      refine awp_seq ?_
      refine awp_region ?_
      refine arun_do rfl rfl rfl (ex_assign (eV (v := (I 0)) rfl)) ?_
      refine arun_keepE [3, 4] 0 0 (st' := ⟨124, 0, [(3, (SL 5 c_api_Node x5.1)), (4, (I 0))], [], ⟨0, []⟩⟩) (by kernel_rfl) (by kernel_rfl) ?_
      show AWp _ _ _ _
      refine awp_block ?_
      refine awp_loop (fun n s => ∃ (v6 : Int), s = ⟨124, 0, [(3, (SL 5 c_api_Node x5.1)), (4, (I v6))], [], ⟨0, []⟩⟩ ∧ M_law13_WalkIn_l1 x5 n v6 = some r) fuel (Exists.intro 0 (And.intro rfl h)) ?_
      rintro n s ⟨v6, rfl, h⟩ -
      cases n with
      | zero => cases h
      | succ n1 =>
        unfold M_law13_WalkIn_l1 at h
        refine awp_seq ?_
        refine awp_seq ?_
        refine awp_region ?_
        refine arun_do rfl rfl rfl (ex_move (eV (v := (I v6)) rfl)) ?_
        refine arun_do rfl rfl rfl (ex_move (eV (v := (SL 5 c_api_Node x5.1)) rfl)) ?_
        refine arun_do rfl rfl rfl (tx_lenD (xs := x5.1) ce_api_Node Tryd.underlying25 rfl) ?_
        refine arun_do rfl rfl rfl (ex_bin (vx := (I v6)) (vy := (I (x5.1.length : Int))) rfl rfl lssI_ok) ?_
        refine arun_keepE [3, 4, 21] 0 0 (st' := ⟨124, 0, [(3, (SL 5 c_api_Node x5.1)), (4, (I v6)), (21, (Bo (decide (v6 < (x5.1.length : Int)))))], [], ⟨0, []⟩⟩) (by kernel_rfl) (by kernel_rfl) ?_
        show AWp _ _ _ _
        rcases Bool.eq_false_or_eq_true (decide (v6 < (x5.1.length : Int))) with hb7 | hb7
        · rw [condT hb7] at h
          refine awp_condT (boT hb7) ?_
          refine awp_skip ?_
          show AWp _ _ _ _
          refine awp_seq ?_
          refine awp_block ?_
          refine awp_seq ?_
          refine awp_seq ?_
          obtain ⟨x8, hx8, h⟩ := bindS h
          obtain ⟨x9, hx9, h⟩ := bindS h
          obtain ⟨x10, hx10, h⟩ := bindS h
          obtain ⟨x11, hx11, h⟩ := bindS h
          refine awp_kn [3, 4, 46] 0 0 (st' := ⟨124, 0, [(3, (SL 5 c_api_Node x5.1)), (4, (I v6)), (46, (Bo ((x8 != (x9.Kind != 0)) || (x10 != (x11.Kind != 0)))))], [], ⟨0, []⟩⟩) (awp_draw (T := [(SL 5 c_api_Node x5.1), (I v6), (I v6), (Bo x8), (SL 5 c_api_Node x5.1), (I v6), (DP (c_api_Node x9)), (DP (List.drop 0 (c_api_Node x9))), (I x9.Kind), (Bo (x9.Kind != 0)), (Bo (x8 != (x9.Kind != 0))), (Bo (x8 != (x9.Kind != 0))), (cond ((x8 != (x9.Kind != 0)) == false) (SL 5 c_api_Node x5.1) skipV), (cond ((x8 != (x9.Kind != 0)) == false) (I v6) skipV), (cond ((x8 != (x9.Kind != 0)) == false) (Bo x10) skipV), (cond ((x8 != (x9.Kind != 0)) == false) (SL 5 c_api_Node x5.1) skipV), (cond ((x8 != (x9.Kind != 0)) == false) (I v6) skipV), (cond ((x8 != (x9.Kind != 0)) == false) (DP (c_api_Node x11)) skipV), (cond ((x8 != (x9.Kind != 0)) == false) (DP (List.drop 0 (c_api_Node x11))) skipV), (cond ((x8 != (x9.Kind != 0)) == false) (I x11.Kind) skipV), (cond ((x8 != (x9.Kind != 0)) == false) (Bo (x11.Kind != 0)) skipV), (cond ((x8 != (x9.Kind != 0)) == false) (Bo (x10 != (x11.Kind != 0))) skipV), (Bo ((x8 != (x9.Kind != 0)) || (x10 != (x11.Kind != 0))))]) (LH := [([], ⟨0, []⟩)]) (D := [⟨[(3, none)], [], [0], false⟩, ⟨[(4, none)], [], [0], false⟩, ⟨[(4, none)], [], [0], false⟩, ⟨[(24, some 0), (25, some 1), (26, some 2)], [0, 1, 2], [0], false⟩, ⟨[(3, none)], [], [0], false⟩, ⟨[(4, none)], [], [0], false⟩, ⟨[(28, some 4), (29, some 5)], [4, 5], [0], false⟩, ⟨[(30, some 6)], [4, 5, 6], [0], false⟩, ⟨[(31, some 7)], [4, 5, 6, 7], [0], false⟩, ⟨[(32, some 8)], [4, 5, 6, 7, 8], [0], false⟩, ⟨[(27, some 3), (33, some 9)], [0, 1, 2, 3, 4, 5, 6, 7, 8, 9], [0], false⟩, ⟨[(34, some 10)], [0, 1, 2, 3, 4, 5, 6, 7, 8, 9, 10], [0], false⟩, ⟨[(3, none), (35, some 11)], [0, 1, 2, 3, 4, 5, 6, 7, 8, 9, 10, 11], [0], false⟩, ⟨[(4, none), (35, some 11)], [0, 1, 2, 3, 4, 5, 6, 7, 8, 9, 10, 11], [0], false⟩, ⟨[(36, some 12), (37, some 13), (35, some 11)], [0, 1, 2, 3, 4, 5, 6, 7, 8, 9, 10, 11, 12, 13], [0], false⟩, ⟨[(3, none), (35, some 11)], [0, 1, 2, 3, 4, 5, 6, 7, 8, 9, 10, 11], [0], false⟩, ⟨[(4, none), (35, some 11)], [0, 1, 2, 3, 4, 5, 6, 7, 8, 9, 10, 11], [0], false⟩, ⟨[(39, some 15), (40, some 16), (35, some 11)], [0, 1, 2, 3, 4, 5, 6, 7, 8, 9, 10, 11, 15, 16], [0], false⟩, ⟨[(41, some 17), (35, some 11)], [0, 1, 2, 3, 4, 5, 6, 7, 8, 9, 10, 11, 15, 16, 17], [0], false⟩, ⟨[(42, some 18), (35, some 11)], [0, 1, 2, 3, 4, 5, 6, 7, 8, 9, 10, 11, 15, 16, 17, 18], [0], false⟩, ⟨[(43, some 19), (35, some 11)], [0, 1, 2, 3, 4, 5, 6, 7, 8, 9, 10, 11, 15, 16, 17, 18, 19], [0], false⟩, ⟨[(38, some 14), (44, some 20), (35, some 11)], [0, 1, 2, 3, 4, 5, 6, 7, 8, 9, 10, 11, 12, 13, 14, 15, 16, 17, 18, 19, 20], [0], false⟩, ⟨[(35, some 11), (45, some 21)], [0, 1, 2, 3, 4, 5, 6, 7, 8, 9, 10, 11, 12, 13, 14, 15, 16, 17, 18, 19, 20, 21], [0], false⟩]) (S := []) (plan := [0, 1, 2, 3, 4, 5, 6, 7, 8, 9, 10, 11, 12, 13, 14, 15, 16, 17, 18, 19, 20, 21, 22]) mo (by kernel_rfl) rfl rfl rfl (dcons (dstep1 (Tm := [(3, (SL 5 c_api_Node x5.1))]) (L := []) (H := ⟨0, []⟩) rfl rfl rfl rfl rfl (astep_do rfl (ex_move (eV (v := (SL 5 c_api_Node x5.1)) rfl)))) (dcons (dstep1 (Tm := [(4, (I v6))]) (L := []) (H := ⟨0, []⟩) rfl rfl rfl rfl rfl (astep_do rfl (ex_move (eV (v := (I v6)) rfl)))) (dcons (dstep1 (Tm := [(4, (I v6))]) (L := []) (H := ⟨0, []⟩) rfl rfl rfl rfl rfl (astep_do rfl (ex_move (eV (v := (I v6)) rfl)))) (dcons (dstep1 (Tm := [(24, (SL 5 c_api_Node x5.1)), (25, (I v6)), (26, (I v6))]) (L := []) (H := ⟨0, []⟩) rfl rfl rfl rfl rfl (astep_do rfl (ex_call0 (vs := [(SL 5 c_api_Node x5.1), (I v6), (I v6)]) (v := (Bo x8)) rfl en_12 (cargs (evs rfl (evs rfl (evs rfl evs_nil)))) rfl (ok_walk_Within x5.1 v6 v6 x8 hx8) rfl))) (dcons (dstep1 (Tm := [(3, (SL 5 c_api_Node x5.1))]) (L := []) (H := ⟨0, []⟩) rfl rfl rfl rfl rfl (astep_do rfl (ex_move (eV (v := (SL 5 c_api_Node x5.1)) rfl)))) (dcons (dstep1 (Tm := [(4, (I v6))]) (L := []) (H := ⟨0, []⟩) rfl rfl rfl rfl rfl (astep_do rfl (ex_move (eV (v := (I v6)) rfl)))) (dcons (dstep1 (Tm := [(28, (SL 5 c_api_Node x5.1)), (29, (I v6))]) (L := []) (H := ⟨0, []⟩) rfl rfl rfl rfl rfl (astep_do rfl (tx_idxD (c := c_api_Node) (xs := x5.1) (i := v6) ce_api_Node Tryd.underlying25 s_32 rfl rfl hx9))) (dcons (dstep1 (Tm := [(30, (DP (c_api_Node x9)))]) (L := []) (H := ⟨0, []⟩) rfl rfl rfl rfl rfl (astep_do rfl (ex_fieldAddrD (vs := (List.drop 0 (c_api_Node x9))) Tryd.underlying32 rfl s_3 (by decide) rfl rfl))) (dcons (dstep1 (Tm := [(31, (DP (List.drop 0 (c_api_Node x9))))]) (L := []) (H := ⟨0, []⟩) rfl rfl rfl rfl rfl (astep_do rfl (tx_ldD1 (v := (I x9.Kind)) Tryd.underlying3 rfl rfl rfl))) (dcons (dstep1 (Tm := [(32, (I x9.Kind))]) (L := []) (H := ⟨0, []⟩) rfl rfl rfl rfl rfl (astep_do rfl (ex_bin (vx := (I x9.Kind)) (vy := (I 0)) rfl rfl neqI_ok))) (dcons (dstep1 (Tm := [(27, (Bo x8)), (33, (Bo (x9.Kind != 0)))]) (L := []) (H := ⟨0, []⟩) rfl rfl rfl rfl rfl (astep_do rfl (ex_bin (vx := (Bo x8)) (vy := (Bo (x9.Kind != 0))) rfl rfl (neqB_ok Tryd.underlying4)))) (dcons (dstep1 (Tm := [(34, (Bo (x8 != (x9.Kind != 0))))]) (L := []) (H := ⟨0, []⟩) rfl rfl rfl rfl rfl (astep_do rfl (ex_move (eV (v := (Bo (x8 != (x9.Kind != 0)))) rfl)))) (dcons (dstep1 (Tm := [(3, (SL 5 c_api_Node x5.1)), (35, (Bo (x8 != (x9.Kind != 0))))]) (L := []) (H := ⟨0, []⟩) rfl rfl rfl rfl rfl (astep_guard (v := (SL 5 c_api_Node x5.1)) ((x8 != (x9.Kind != 0)) == false) rfl (fun hc => ex_move (eV (v := (SL 5 c_api_Node x5.1)) rfl)))) (dcons (dstep1 (Tm := [(4, (I v6)), (35, (Bo (x8 != (x9.Kind != 0))))]) (L := []) (H := ⟨0, []⟩) rfl rfl rfl rfl rfl (astep_guard (v := (I v6)) ((x8 != (x9.Kind != 0)) == false) rfl (fun hc => ex_move (eV (v := (I v6)) rfl)))) (dcons (dstep1 (Tm := [(36, (cond ((x8 != (x9.Kind != 0)) == false) (SL 5 c_api_Node x5.1) skipV)), (37, (cond ((x8 != (x9.Kind != 0)) == false) (I v6) skipV)), (35, (Bo (x8 != (x9.Kind != 0))))]) (L := []) (H := ⟨0, []⟩) rfl rfl rfl rfl rfl (astep_guard (v := (Bo x10)) ((x8 != (x9.Kind != 0)) == false) rfl (fun hc => ex_call0 (vs := [(SL 5 c_api_Node x5.1), (I v6), (I 0)]) (v := (Bo x10)) rfl en_12 (cargs (evs (cond_of hc) (evs (cond_of hc) (evs rfl evs_nil)))) rfl (ok_walk_Within x5.1 v6 0 x10 (gd_of hc hx10)) rfl))) (dcons (dstep1 (Tm := [(3, (SL 5 c_api_Node x5.1)), (35, (Bo (x8 != (x9.Kind != 0))))]) (L := []) (H := ⟨0, []⟩) rfl rfl rfl rfl rfl (astep_guard (v := (SL 5 c_api_Node x5.1)) ((x8 != (x9.Kind != 0)) == false) rfl (fun hc => ex_move (eV (v := (SL 5 c_api_Node x5.1)) rfl)))) (dcons (dstep1 (Tm := [(4, (I v6)), (35, (Bo (x8 != (x9.Kind != 0))))]) (L := []) (H := ⟨0, []⟩) rfl rfl rfl rfl rfl (astep_guard (v := (I v6)) ((x8 != (x9.Kind != 0)) == false) rfl (fun hc => ex_move (eV (v := (I v6)) rfl)))) (dcons (dstep1 (Tm := [(39, (cond ((x8 != (x9.Kind != 0)) == false) (SL 5 c_api_Node x5.1) skipV)), (40, (cond ((x8 != (x9.Kind != 0)) == false) (I v6) skipV)), (35, (Bo (x8 != (x9.Kind != 0))))]) (L := []) (H := ⟨0, []⟩) rfl rfl rfl rfl rfl (astep_guard (v := (DP (c_api_Node x11))) ((x8 != (x9.Kind != 0)) == false) rfl (fun hc => tx_idxD (c := c_api_Node) (xs := x5.1) (i := v6) ce_api_Node Tryd.underlying25 s_32 (cond_of hc) (cond_of hc) (gd_of hc hx11)))) (dcons (dstep1 (Tm := [(41, (cond ((x8 != (x9.Kind != 0)) == false) (DP (c_api_Node x11)) skipV)), (35, (Bo (x8 != (x9.Kind != 0))))]) (L := []) (H := ⟨0, []⟩) rfl rfl rfl rfl rfl (astep_guard (v := (DP (List.drop 0 (c_api_Node x11)))) ((x8 != (x9.Kind != 0)) == false) rfl (fun hc => ex_fieldAddrD (vs := (List.drop 0 (c_api_Node x11))) Tryd.underlying32 rfl s_3 (by decide) (cond_of hc) rfl))) (dcons (dstep1 (Tm := [(42, (cond ((x8 != (x9.Kind != 0)) == false) (DP (List.drop 0 (c_api_Node x11))) skipV)), (35, (Bo (x8 != (x9.Kind != 0))))]) (L := []) (H := ⟨0, []⟩) rfl rfl rfl rfl rfl (astep_guard (v := (I x11.Kind)) ((x8 != (x9.Kind != 0)) == false) rfl (fun hc => tx_ldD1 (v := (I x11.Kind)) Tryd.underlying3 rfl (cond_of hc) rfl))) (dcons (dstep1 (Tm := [(43, (cond ((x8 != (x9.Kind != 0)) == false) (I x11.Kind) skipV)), (35, (Bo (x8 != (x9.Kind != 0))))]) (L := []) (H := ⟨0, []⟩) rfl rfl rfl rfl rfl (astep_guard (v := (Bo (x11.Kind != 0))) ((x8 != (x9.Kind != 0)) == false) rfl (fun hc => ex_bin (vx := (I x11.Kind)) (vy := (I 0)) (cond_of hc) rfl neqI_ok))) (dcons (dstep1 (Tm := [(38, (cond ((x8 != (x9.Kind != 0)) == false) (Bo x10) skipV)), (44, (cond ((x8 != (x9.Kind != 0)) == false) (Bo (x11.Kind != 0)) skipV)), (35, (Bo (x8 != (x9.Kind != 0))))]) (L := []) (H := ⟨0, []⟩) rfl rfl rfl rfl rfl (astep_guard (v := (Bo (x10 != (x11.Kind != 0)))) ((x8 != (x9.Kind != 0)) == false) rfl (fun hc => ex_bin (vx := (Bo x10)) (vy := (Bo (x11.Kind != 0))) (cond_of hc) (cond_of hc) (neqB_ok Tryd.underlying4)))) (dcons (dstep1 (Tm := [(35, (Bo (x8 != (x9.Kind != 0)))), (45, (cond ((x8 != (x9.Kind != 0)) == false) (Bo (x10 != (x11.Kind != 0))) skipV))]) (L := []) (H := ⟨0, []⟩) rfl rfl rfl rfl rfl (astep_do rfl (ex_pick rfl pkOr))) dnil))))))))))))))))))))))) ⟨rfl, rfl⟩) (by kernel_rfl) (by kernel_rfl) ?_
          show AWp _ _ _ _
          rcases Bool.eq_false_or_eq_true ((x8 != (x9.Kind != 0)) || (x10 != (x11.Kind != 0))) with hb12 | hb12
          · rw [condT hb12] at h
            refine awp_condT (boT hb12) ?_
            refine awp_seq ?_
            refine awp_region ?_
            refine arun_do rfl rfl rfl (ex_assign (eV (v := (Bo false)) rfl)) ?_
            refine arun_keepE [2] 0 0 (st' := ⟨124, 0, [(2, (Bo false))], [], ⟨0, []⟩⟩) (by kernel_rfl) (by kernel_rfl) ?_
            show AWp _ _ _ _
            refine awp_ret ?_
            cases h
            exact ares1 (rtmp rfl (eV rfl))
          · rw [condF hb12] at h
            refine awp_condF (boF hb12) ?_
            refine awp_skip ?_
            show AWp _ _ _ _
            refine awp_seq ?_
            refine awp_region ?_
            refine arun_do rfl rfl rfl (ex_assign (eV (v := (I 0)) rfl)) ?_
            refine arun_keepE [3, 4, 5] 0 0 (st' := ⟨124, 0, [(3, (SL 5 c_api_Node x5.1)), (4, (I v6)), (5, (I 0))], [], ⟨0, []⟩⟩) (by kernel_rfl) (by kernel_rfl) ?_
            show AWp _ _ _ _
            refine awp_block ?_
            refine awp_loop (fun n s => ∃ (v13 : Int), s = ⟨124, 0, [(3, (SL 5 c_api_Node x5.1)), (4, (I v6)), (5, (I v13))], [], ⟨0, []⟩⟩ ∧ M_law13_WalkIn_l2 (M_law13_WalkIn_l1 x5 n1) x5 v6 n v13 = some r) fuel (Exists.intro 0 (And.intro rfl h)) ?_
            rintro n s ⟨v13, rfl, h⟩ -
            cases n with
            | zero => cases h
            | succ n2 =>
              unfold M_law13_WalkIn_l2 at h
              refine awp_seq ?_
              refine awp_seq ?_
              refine awp_region ?_
              refine arun_do rfl rfl rfl (ex_move (eV (v := (I v13)) rfl)) ?_
              refine arun_do rfl rfl rfl (ex_move (eV (v := (SL 5 c_api_Node x5.1)) rfl)) ?_
              refine arun_do rfl rfl rfl (tx_lenD (xs := x5.1) ce_api_Node Tryd.underlying25 rfl) ?_
              refine arun_do rfl rfl rfl (ex_bin (vx := (I v13)) (vy := (I (x5.1.length : Int))) rfl rfl lssI_ok) ?_
              refine arun_keepE [3, 4, 5, 50] 0 0 (st' := ⟨124, 0, [(3, (SL 5 c_api_Node x5.1)), (4, (I v6)), (5, (I v13)), (50, (Bo (decide (v13 < (x5.1.length : Int)))))], [], ⟨0, []⟩⟩) (by kernel_rfl) (by kernel_rfl) ?_
              show AWp _ _ _ _
              rcases Bool.eq_false_or_eq_true (decide (v13 < (x5.1.length : Int))) with hb14 | hb14
              · rw [condT hb14] at h
                refine awp_condT (boT hb14) ?_
                refine awp_skip ?_
                show AWp _ _ _ _
                refine awp_seq ?_
                refine awp_block ?_
                refine awp_seq ?_
                refine awp_region ?_
                refine arun_do rfl rfl rfl (ex_move (eV (v := (SL 5 c_api_Node x5.1)) rfl)) ?_
                refine arun_do rfl rfl rfl (ex_move (eV (v := (I v6)) rfl)) ?_
                refine arun_do rfl rfl rfl (ex_move (eV (v := (I v13)) rfl)) ?_
                obtain ⟨x15, hx15, h⟩ := bindS h
                refine arun_do rfl rfl rfl (ex_call0 (vs := [(SL 5 c_api_Node x5.1), (I v6), (I v13)]) (v := (Bo x15)) rfl en_12 (cargs (evs rfl (evs rfl (evs rfl evs_nil)))) rfl (ok_walk_Within x5.1 v6 v13 x15 hx15) rfl) ?_
                refine arun_do rfl rfl rfl (ex_assign (eV (v := (Bo x15)) rfl)) ?_
                refine arun_keepE [3, 4, 5, 6] 0 0 (st' := ⟨124, 0, [(3, (SL 5 c_api_Node x5.1)), (4, (I v6)), (5, (I v13)), (6, (Bo x15))], [], ⟨0, []⟩⟩) (by kernel_rfl) (by kernel_rfl) ?_
                show AWp _ _ _ _
                refine awp_seq ?_
                refine awp_seq ?_
                refine awp_region ?_
                refine arun_do rfl rfl rfl (ex_move (eV (v := (Bo x15)) rfl)) ?_
                refine arun_do rfl rfl rfl (ex_move (eV (v := (Bo x15)) rfl)) ?_
                refine arun_guard (v := (I v6)) (x15 == true) rfl rfl rfl (fun hc => ex_move (eV (v := (I v6)) rfl)) ?_
                refine arun_guard (v := (I v13)) (x15 == true) rfl rfl rfl (fun hc => ex_move (eV (v := (I v13)) rfl)) ?_
                refine arun_guard (v := (Bo (v6 != v13))) (x15 == true) rfl rfl rfl (fun hc => ex_bin (vx := (I v6)) (vy := (I v13)) (cond_of hc) (cond_of hc) neqI_ok) ?_
                refine arun_do rfl rfl rfl (ex_pick rfl pkAnd) ?_
                refine arun_do rfl rfl rfl (ex_move (eV (v := (Bo (x15 && (v6 != v13)))) rfl)) ?_
                refine arun_guard (v := (SL 5 c_api_Node x5.1)) ((x15 && (v6 != v13)) == true) rfl rfl rfl (fun hc => ex_move (eV (v := (SL 5 c_api_Node x5.1)) rfl)) ?_
                refine arun_guard (v := (I v13)) ((x15 && (v6 != v13)) == true) rfl rfl rfl (fun hc => ex_move (eV (v := (I v13)) rfl)) ?_
                refine arun_guard (v := (I v6)) ((x15 && (v6 != v13)) == true) rfl rfl rfl (fun hc => ex_move (eV (v := (I v6)) rfl)) ?_
                obtain ⟨x16, hx16, h⟩ := bindS h
                refine arun_guard (v := (Bo x16)) ((x15 && (v6 != v13)) == true) rfl rfl rfl (fun hc => ex_call0 (vs := [(SL 5 c_api_Node x5.1), (I v13), (I v6)]) (v := (Bo x16)) rfl en_12 (cargs (evs (cond_of hc) (evs (cond_of hc) (evs (cond_of hc) evs_nil)))) rfl (ok_walk_Within x5.1 v13 v6 x16 (gd_of hc hx16)) rfl) ?_
                refine arun_guard (v := (Bo x16)) ((x15 && (v6 != v13)) == true) rfl rfl rfl (fun hc => ex_move (eV (v := (Bo x16)) (cond_of hc))) ?_
                refine arun_guard (v := (SL 5 c_api_Node x5.1)) (((x15 && (v6 != v13)) == true) && (x16 == false)) rfl rfl gv_nest (fun hc => ex_move (eV (v := (SL 5 c_api_Node x5.1)) rfl)) ?_
                refine arun_guard (v := (I v13)) (((x15 && (v6 != v13)) == true) && (x16 == false)) rfl rfl gv_nest (fun hc => ex_move (eV (v := (I v13)) rfl)) ?_
                obtain ⟨x17, hx17, h⟩ := bindS h
                refine arun_guard (v := (DP (c_api_Node x17))) (((x15 && (v6 != v13)) == true) && (x16 == false)) rfl rfl gv_nest (fun hc => tx_idxD (c := c_api_Node) (xs := x5.1) (i := v13) ce_api_Node Tryd.underlying25 s_32 (cond_of hc) (cond_of hc) (gd_of hc hx17)) ?_
                refine arun_guard (v := (DP (List.drop 0 (c_api_Node x17)))) (((x15 && (v6 != v13)) == true) && (x16 == false)) rfl rfl gv_nest (fun hc => ex_fieldAddrD (vs := (List.drop 0 (c_api_Node x17))) Tryd.underlying32 rfl s_3 (by decide) (cond_of hc) rfl) ?_
                refine arun_guard (v := (I x17.Kind)) (((x15 && (v6 != v13)) == true) && (x16 == false)) rfl rfl gv_nest (fun hc => tx_ldD1 (v := (I x17.Kind)) Tryd.underlying3 rfl (cond_of hc) rfl) ?_
                refine arun_guard (v := (Bo (x17.Kind != 2))) (((x15 && (v6 != v13)) == true) && (x16 == false)) rfl rfl gv_nest (fun hc => ex_bin (vx := (I x17.Kind)) (vy := (I 2)) (cond_of hc) rfl neqI_ok) ?_
                refine arun_guard (v := (Bo (x16 || (x17.Kind != 2)))) ((x15 && (v6 != v13)) == true) rfl rfl rfl (fun hc => ex_pick (cond_of hc) (pkOrN hc)) ?_
                refine arun_guard (v := (Bo (x16 || (x17.Kind != 2)))) ((x15 && (v6 != v13)) == true) rfl rfl rfl (fun hc => ex_move (eV (v := (Bo (x16 || (x17.Kind != 2)))) (cond_of hc))) ?_
                refine arun_guard (v := (SL 5 c_api_Node x5.1)) (((x15 && (v6 != v13)) == true) && ((x16 || (x17.Kind != 2)) == false)) rfl rfl gv_nest (fun hc => ex_move (eV (v := (SL 5 c_api_Node x5.1)) rfl)) ?_
                refine arun_guard (v := (SL 5 c_api_Node x5.1)) (((x15 && (v6 != v13)) == true) && ((x16 || (x17.Kind != 2)) == false)) rfl rfl gv_nest (fun hc => ex_move (eV (v := (SL 5 c_api_Node x5.1)) rfl)) ?_
                refine arun_guard (v := (I v6)) (((x15 && (v6 != v13)) == true) && ((x16 || (x17.Kind != 2)) == false)) rfl rfl gv_nest (fun hc => ex_move (eV (v := (I v6)) rfl)) ?_
                obtain ⟨x18, hx18, h⟩ := bindS h
                refine arun_guard (v := (DP (c_api_Node x18))) (((x15 && (v6 != v13)) == true) && ((x16 || (x17.Kind != 2)) == false)) rfl rfl gv_nest (fun hc => tx_idxD (c := c_api_Node) (xs := x5.1) (i := v6) ce_api_Node Tryd.underlying25 s_32 (cond_of hc) (cond_of hc) (gd_of hc hx18)) ?_
                refine arun_guard (v := (DP (List.drop 1 (c_api_Node x18)))) (((x15 && (v6 != v13)) == true) && ((x16 || (x17.Kind != 2)) == false)) rfl rfl gv_nest (fun hc => ex_fieldAddrD (vs := (List.drop 1 (c_api_Node x18))) Tryd.underlying32 rfl s_3 (by decide) (cond_of hc) rfl) ?_
                refine arun_guard (v := (I x18.Up)) (((x15 && (v6 != v13)) == true) && ((x16 || (x17.Kind != 2)) == false)) rfl rfl gv_nest (fun hc => tx_ldD1 (v := (I x18.Up)) Tryd.underlying3 rfl (cond_of hc) rfl) ?_
                refine arun_guard (v := (I v13)) (((x15 && (v6 != v13)) == true) && ((x16 || (x17.Kind != 2)) == false)) rfl rfl gv_nest (fun hc => ex_move (eV (v := (I v13)) rfl)) ?_
                obtain ⟨x19, hx19, h⟩ := bindS h
                refine arun_guard (v := (Bo x19)) (((x15 && (v6 != v13)) == true) && ((x16 || (x17.Kind != 2)) == false)) rfl rfl gv_nest (fun hc => ex_call0 (vs := [(SL 5 c_api_Node x5.1), (I x18.Up), (I v13)]) (v := (Bo x19)) rfl en_12 (cargs (evs (cond_of hc) (evs (cond_of hc) (evs (cond_of hc) evs_nil)))) rfl (ok_walk_Within x5.1 x18.Up v13 x19 (gd_of hc hx19)) rfl) ?_
                refine arun_guard (v := (Bo (!x19))) (((x15 && (v6 != v13)) == true) && ((x16 || (x17.Kind != 2)) == false)) rfl rfl gv_nest (fun hc => ex_un (vx := (Bo x19)) (cond_of hc) notB_ok) ?_
                refine arun_guard (v := (Bo ((x16 || (x17.Kind != 2)) || (!x19)))) ((x15 && (v6 != v13)) == true) rfl rfl rfl (fun hc => ex_pick (cond_of hc) (pkOrN hc)) ?_
                refine arun_do rfl rfl rfl (ex_pick rfl pkAnd) ?_
                refine arun_keepE [3, 4, 5, 6, 87] 0 0 (st' := ⟨124, 0, [(3, (SL 5 c_api_Node x5.1)), (4, (I v6)), (5, (I v13)), (6, (Bo x15)), (87, (Bo ((x15 && (v6 != v13)) && ((x16 || (x17.Kind != 2)) || (!x19)))))], [], ⟨0, []⟩⟩) (by kernel_rfl) (by kernel_rfl) ?_
                show AWp _ _ _ _
                rcases Bool.eq_false_or_eq_true ((x15 && (v6 != v13)) && ((x16 || (x17.Kind != 2)) || (!x19))) with hb20 | hb20
                · rw [condT hb20] at h
                  refine awp_condT (boT hb20) ?_
                  refine awp_seq ?_
                  refine awp_region ?_
                  refine arun_do rfl rfl rfl (ex_assign (eV (v := (Bo false)) rfl)) ?_
                  refine arun_keepE [2] 0 0 (st' := ⟨124, 0, [(2, (Bo false))], [], ⟨0, []⟩⟩) (by kernel_rfl) (by kernel_rfl) ?_
                  show AWp _ _ _ _
                  refine awp_ret ?_
                  cases h
                  exact ares1 (rtmp rfl (eV rfl))
                · rw [condF hb20] at h
                  refine awp_condF (boF hb20) ?_
                  refine awp_skip ?_
                  show AWp _ _ _ _
                  refine awp_seq ?_
                  refine awp_region ?_
                  refine arun_do rfl rfl rfl (ex_assign (eV (v := (I 0)) rfl)) ?_
                  refine arun_keepE [3, 4, 5, 6, 7] 0 0 (st' := ⟨124, 0, [(3, (SL 5 c_api_Node x5.1)), (4, (I v6)), (5, (I v13)), (6, (Bo x15)), (7, (I 0))], [], ⟨0, []⟩⟩) (by kernel_rfl) (by kernel_rfl) ?_
                  show AWp _ _ _ _
                  refine awp_block ?_
                  refine awp_loop (fun n s => ∃ (v21 : Int), s = ⟨124, 0, [(3, (SL 5 c_api_Node x5.1)), (4, (I v6)), (5, (I v13)), (6, (Bo x15)), (7, (I v21))], [], ⟨0, []⟩⟩ ∧ M_law13_WalkIn_l3 (M_law13_WalkIn_l1 x5 n1) (M_law13_WalkIn_l2 (M_law13_WalkIn_l1 x5 n1) x5 v6 n2) x5 v6 v13 x15 n v21 = some r) fuel (Exists.intro 0 (And.intro rfl h)) ?_
                  rintro n s ⟨v21, rfl, h⟩ -
                  cases n with
                  | zero => cases h
                  | succ n3 =>
                    unfold M_law13_WalkIn_l3 at h
                    refine awp_seq ?_
                    refine awp_seq ?_
                    refine awp_region ?_
                    refine arun_do rfl rfl rfl (ex_move (eV (v := (Bo x15)) rfl)) ?_
                    refine arun_do rfl rfl rfl (ex_move (eV (v := (Bo x15)) rfl)) ?_
                    refine arun_guard (v := (I v21)) (x15 == true) rfl rfl rfl (fun hc => ex_move (eV (v := (I v21)) rfl)) ?_
                    refine arun_guard (v := (SL 5 c_api_Node x5.1)) (x15 == true) rfl rfl rfl (fun hc => ex_move (eV (v := (SL 5 c_api_Node x5.1)) rfl)) ?_
                    refine arun_guard (v := (I (x5.1.length : Int))) (x15 == true) rfl rfl rfl (fun hc => tx_lenD (xs := x5.1) ce_api_Node Tryd.underlying25 (cond_of hc)) ?_
                    refine arun_guard (v := (Bo (decide (v21 < (x5.1.length : Int))))) (x15 == true) rfl rfl rfl (fun hc => ex_bin (vx := (I v21)) (vy := (I (x5.1.length : Int))) (cond_of hc) (cond_of hc) lssI_ok) ?_
                    refine arun_do rfl rfl rfl (ex_pick rfl pkAnd) ?_
                    refine arun_keepE [3, 4, 5, 6, 7, 94] 0 0 (st' := ⟨124, 0, [(3, (SL 5 c_api_Node x5.1)), (4, (I v6)), (5, (I v13)), (6, (Bo x15)), (7, (I v21)), (94, (Bo (x15 && (decide (v21 < (x5.1.length : Int))))))], [], ⟨0, []⟩⟩) (by kernel_rfl) (by kernel_rfl) ?_
                    show AWp _ _ _ _
                    rcases Bool.eq_false_or_eq_true (x15 && (decide (v21 < (x5.1.length : Int)))) with hb22 | hb22
                    · rw [condT hb22] at h
                      refine awp_condT (boT hb22) ?_
                      refine awp_skip ?_
                      show AWp _ _ _ _
                      refine awp_seq ?_
                      refine awp_block ?_
                      refine awp_seq ?_
                      refine awp_region ?_
                      refine arun_do rfl rfl rfl (ex_move (eV (v := (SL 5 c_api_Node x5.1)) rfl)) ?_
                      refine arun_do rfl rfl rfl (ex_move (eV (v := (I v13)) rfl)) ?_
                      refine arun_do rfl rfl rfl (ex_move (eV (v := (I v21)) rfl)) ?_
                      obtain ⟨x23, hx23, h⟩ := bindS h
                      refine arun_do rfl rfl rfl (ex_call0 (vs := [(SL 5 c_api_Node x5.1), (I v13), (I v21)]) (v := (Bo x23)) rfl en_12 (cargs (evs rfl (evs rfl (evs rfl evs_nil)))) rfl (ok_walk_Within x5.1 v13 v21 x23 hx23) rfl) ?_
                      refine arun_do rfl rfl rfl (ex_move (eV (v := (SL 5 c_api_Node x5.1)) rfl)) ?_
                      refine arun_do rfl rfl rfl (ex_move (eV (v := (I v6)) rfl)) ?_
                      refine arun_do rfl rfl rfl (ex_move (eV (v := (I v21)) rfl)) ?_
                      obtain ⟨x24, hx24, h⟩ := bindS h
                      refine arun_do rfl rfl rfl (ex_call0 (vs := [(SL 5 c_api_Node x5.1), (I v6), (I v21)]) (v := (Bo x24)) rfl en_12 (cargs (evs rfl (evs rfl (evs rfl evs_nil)))) rfl (ok_walk_Within x5.1 v6 v21 x24 hx24) rfl) ?_
                      refine arun_do rfl rfl rfl (ex_assign (eV (v := (Bo x23)) rfl)) ?_
                      refine arun_do rfl rfl rfl (ex_assign (eV (v := (Bo x24)) rfl)) ?_
                      refine arun_keepE [3, 4, 5, 6, 7, 8, 9] 0 0 (st' := ⟨124, 0, [(3, (SL 5 c_api_Node x5.1)), (4, (I v6)), (5, (I v13)), (6, (Bo x15)), (7, (I v21)), (8, (Bo x23)), (9, (Bo x24))], [], ⟨0, []⟩⟩) (by kernel_rfl) (by kernel_rfl) ?_
                      show AWp _ _ _ _
                      refine awp_seq ?_
                      refine awp_region ?_
                      refine arun_do rfl rfl rfl (ex_move (eV (v := (Bo x23)) rfl)) ?_
                      refine arun_do rfl rfl rfl (ex_move (eV (v := (Bo x23)) rfl)) ?_
                      refine arun_guard (v := (Bo x24)) (x23 == true) rfl rfl rfl (fun hc => ex_move (eV (v := (Bo x24)) rfl)) ?_
                      refine arun_guard (v := (Bo (!x24))) (x23 == true) rfl rfl rfl (fun hc => ex_un (vx := (Bo x24)) (cond_of hc) notB_ok) ?_
                      refine arun_do rfl rfl rfl (ex_pick rfl pkAnd) ?_
                      refine arun_do rfl rfl rfl (ex_move (eV (v := (Bo (x23 && (!x24)))) rfl)) ?_
                      refine arun_guard (v := (Bo x24)) ((x23 && (!x24)) == false) rfl rfl rfl (fun hc => ex_move (eV (v := (Bo x24)) rfl)) ?_
                      refine arun_guard (v := (Bo x24)) ((x23 && (!x24)) == false) rfl rfl rfl (fun hc => ex_move (eV (v := (Bo x24)) (cond_of hc))) ?_
                      refine arun_guard (v := (Bo x23)) (((x23 && (!x24)) == false) && (x24 == true)) rfl rfl gv_nest (fun hc => ex_move (eV (v := (Bo x23)) rfl)) ?_
                      refine arun_guard (v := (Bo (!x23))) (((x23 && (!x24)) == false) && (x24 == true)) rfl rfl gv_nest (fun hc => ex_un (vx := (Bo x23)) (cond_of hc) notB_ok) ?_
                      refine arun_guard (v := (Bo (x24 && (!x23)))) ((x23 && (!x24)) == false) rfl rfl rfl (fun hc => ex_pick (cond_of hc) (pkAndN hc)) ?_
                      refine arun_guard (v := (Bo (x24 && (!x23)))) ((x23 && (!x24)) == false) rfl rfl rfl (fun hc => ex_move (eV (v := (Bo (x24 && (!x23)))) (cond_of hc))) ?_
                      refine arun_guard (v := (SL 5 c_api_Node x5.1)) (((x23 && (!x24)) == false) && ((x24 && (!x23)) == true)) rfl rfl gv_nest (fun hc => ex_move (eV (v := (SL 5 c_api_Node x5.1)) rfl)) ?_
                      refine arun_guard (v := (I v21)) (((x23 && (!x24)) == false) && ((x24 && (!x23)) == true)) rfl rfl gv_nest (fun hc => ex_move (eV (v := (I v21)) rfl)) ?_
                      refine arun_guard (v := (I v13)) (((x23 && (!x24)) == false) && ((x24 && (!x23)) == true)) rfl rfl gv_nest (fun hc => ex_move (eV (v := (I v13)) rfl)) ?_
                      obtain ⟨x25, hx25, h⟩ := bindS h
                      refine arun_guard (v := (Bo x25)) (((x23 && (!x24)) == false) && ((x24 && (!x23)) == true)) rfl rfl gv_nest (fun hc => ex_call0 (vs := [(SL 5 c_api_Node x5.1), (I v21), (I v13)]) (v := (Bo x25)) rfl en_12 (cargs (evs (cond_of hc) (evs (cond_of hc) (evs (cond_of hc) evs_nil)))) rfl (ok_walk_Within x5.1 v21 v13 x25 (gd_of hc hx25)) rfl) ?_
                      refine arun_guard (v := (Bo (!x25))) (((x23 && (!x24)) == false) && ((x24 && (!x23)) == true)) rfl rfl gv_nest (fun hc => ex_un (vx := (Bo x25)) (cond_of hc) notB_ok) ?_
                      refine arun_guard (v := (Bo ((x24 && (!x23)) && (!x25)))) ((x23 && (!x24)) == false) rfl rfl rfl (fun hc => ex_pick (cond_of hc) (pkAndN hc)) ?_
                      refine arun_do rfl rfl rfl (ex_pick rfl pkOr) ?_
                      refine arun_keepE [3, 4, 5, 6, 7, 123] 0 0 (st' := ⟨124, 0, [(3, (SL 5 c_api_Node x5.1)), (4, (I v6)), (5, (I v13)), (6, (Bo x15)), (7, (I v21)), (123, (Bo ((x23 && (!x24)) || ((x24 && (!x23)) && (!x25)))))], [], ⟨0, []⟩⟩) (by kernel_rfl) (by kernel_rfl) ?_
                      show AWp _ _ _ _
                      rcases Bool.eq_false_or_eq_true ((x23 && (!x24)) || ((x24 && (!x23)) && (!x25))) with hb26 | hb26
                      · rw [condT hb26] at h
                        refine awp_condT (boT hb26) ?_
                        refine awp_seq ?_
                        refine awp_region ?_
                        refine arun_do rfl rfl rfl (ex_assign (eV (v := (Bo false)) rfl)) ?_
                        refine arun_keepE [2] 0 0 (st' := ⟨124, 0, [(2, (Bo false))], [], ⟨0, []⟩⟩) (by kernel_rfl) (by kernel_rfl) ?_
                        show AWp _ _ _ _
                        refine awp_ret ?_
                        cases h
                        exact ares1 (rtmp rfl (eV rfl))
                      · rw [condF hb26] at h
                        refine awp_condF (boF hb26) ?_
                        refine awp_skip ?_
                        show AWp _ _ _ _
                        refine awp_region ?_
                        refine arun_do rfl rfl rfl (ex_move (eV (v := (I v21)) rfl)) ?_
                        refine arun_do rfl rfl rfl (ex_bin (vx := (I v21)) (vy := (I 1)) rfl rfl addI_ok) ?_
                        refine arun_do rfl rfl rfl (ex_assign (eV (v := (I (w64 (v21 + 1)))) rfl)) ?_
                        refine arun_keepE [3, 4, 5, 6, 7] 0 0 (st' := ⟨124, 0, [(3, (SL 5 c_api_Node x5.1)), (4, (I v6)), (5, (I v13)), (6, (Bo x15)), (7, (I (w64 (v21 + 1))))], [], ⟨0, []⟩⟩) (by kernel_rfl) (by kernel_rfl) ?_
                        exact Exists.intro n3 (And.intro (Nat.lt_succ_self _) (Exists.intro (w64 (v21 + 1)) (And.intro rfl h)))
                    · rw [condF hb22] at h
                      refine awp_condF (boF hb22) ?_
                      refine awp_exit ?_
                      show AWp _ _ _ _
                      refine awp_region ?_
                      refine arun_do rfl rfl rfl (ex_move (eV (v := (I v13)) rfl)) ?_
                      refine arun_do rfl rfl rfl (ex_bin (vx := (I v13)) (vy := (I 1)) rfl rfl addI_ok) ?_
                      refine arun_do rfl rfl rfl (ex_assign (eV (v := (I (w64 (v13 + 1)))) rfl)) ?_
                      refine arun_keepE [3, 4, 5] 0 0 (st' := ⟨124, 0, [(3, (SL 5 c_api_Node x5.1)), (4, (I v6)), (5, (I (w64 (v13 + 1))))], [], ⟨0, []⟩⟩) (by kernel_rfl) (by kernel_rfl) ?_
                      exact Exists.intro n2 (And.intro (Nat.lt_succ_self _) (Exists.intro (w64 (v13 + 1)) (And.intro rfl h)))
              · rw [condF hb14] at h
                refine awp_condF (boF hb14) ?_
                refine awp_exit ?_
                show AWp _ _ _ _
                refine awp_region ?_
                refine arun_do rfl rfl rfl (ex_move (eV (v := (I v6)) rfl)) ?_
                refine arun_do rfl rfl rfl (ex_bin (vx := (I v6)) (vy := (I 1)) rfl rfl addI_ok) ?_
                refine arun_do rfl rfl rfl (ex_assign (eV (v := (I (w64 (v6 + 1)))) rfl)) ?_
                refine arun_keepE [3, 4] 0 0 (st' := ⟨124, 0, [(3, (SL 5 c_api_Node x5.1)), (4, (I (w64 (v6 + 1))))], [], ⟨0, []⟩⟩) (by kernel_rfl) (by kernel_rfl) ?_
                exact Exists.intro n1 (And.intro (Nat.lt_succ_self _) (Exists.intro (w64 (v6 + 1)) (And.intro rfl h)))
        · rw [condF hb7] at h
          refine awp_condF (boF hb7) ?_
          refine awp_exit ?_
          show AWp _ _ _ _
          refine awp_seq ?_
          refine awp_region ?_
          refine arun_do rfl rfl rfl (ex_assign (eV (v := (Bo true)) rfl)) ?_
          refine arun_keepE [2] 0 0 (st' := ⟨124, 0, [(2, (Bo true))], [], ⟨0, []⟩⟩) (by kernel_rfl) (by kernel_rfl) ?_
          show AWp _ _ _ _
          refine awp_ret ?_
          cases h
          exact ares1 (rtmp rfl (eV rfl))

end Go.Proofs
