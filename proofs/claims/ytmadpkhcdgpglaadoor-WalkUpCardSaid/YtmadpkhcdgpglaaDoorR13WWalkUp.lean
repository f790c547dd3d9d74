/- Pure models of functions of the program, and that its code does what they say: palimplaw13 WalkUp. Written by a program. -/
import Derived.Test.YtmadpkhcdgpglaaDoorR131
import Derived.Test.YtmadpkhcdgpglaaDoorR1313
import Derived.Test.YtmadpkhcdgpglaaDoorR136
import Derived.Test.YtmadpkhcdgpglaaDoorR138
import Derived.Test.YtmadpkhcdgpglaaDoorR139
import Derived.Test.YtmadpkhcdgpglaaDoorR13B
set_option maxRecDepth 20000
set_option maxHeartbeats 4000000
namespace Go.Proofs
open Go Go.Fhl
set_option linter.unusedVariables false
set_option linter.unusedSimpArgs false
noncomputable def M_law13_WalkUp_k1 (x5 : ((List G_api_Node) × G_palimpmade_Picks)) (y6 : Str) : Option Bool :=
  Option.bind (M_walk_Find x5.1 y6) fun (x10 : (Int × Int)) => Option.bind (M_walk_Place x5.1 y6) fun (x11 : (Int × Str × Int)) => cond (y6 == []) (some (((x10.1 == 0) && (x10.2 == 0)) && (x11.2.2 == 1))) (cond (x11.2.2 != 0) (some ((x10.2 == x11.2.2) && (x10.1 == 0))) (Option.bind (M_ref11_Kid x5.1 x11.1 x11.2.1) fun (x14 : (Int × Bool)) => Option.bind (gd (((decide (x11.1 < 0)) || (decide (x11.1 ≥ (x5.1.length : Int)))) == false) (getI x5.1 x11.1)) fun (x15 : G_api_Node) => cond (((decide (x11.1 < 0)) || (decide (x11.1 ≥ (x5.1.length : Int)))) || (x15.Kind != 2)) (some false) (some (((x14.2 && (x10.2 == 0)) && (x10.1 == x14.1)) || (((!x14.2) && (x10.2 == 2)) && (x10.1 == 0))))))
noncomputable def M_law13_WalkUp (t0 : (List UInt8)) (t1 : Str) (t2 : UInt8) : Option Bool :=
  Option.bind (M_law13_begun) fun (x1 : Bool) => cond (!x1) (some false) (cond ((decide ((t0.length : Int) > 60)) || (decide ((t1.length : Int) > 80))) (some true) (Option.bind (M_made_Made t0) fun (x4 : G_palimpmade_Picks) => Option.bind (M_made_Picks_Set x4 25) fun (x5 : ((List G_api_Node) × G_palimpmade_Picks)) => cond (decide (t2 > 0)) (Option.bind (M_made_Made ([t2] : List UInt8)) fun (x8 : G_palimpmade_Picks) => Option.bind (M_made_Picks_Path x8 ) fun (x9 : (Str × G_palimpmade_Picks)) => M_law13_WalkUp_k1 x5 x9.1) (M_law13_WalkUp_k1 x5 t1)))
theorem ok_law13_WalkUp (t0 : (List UInt8)) (t1 : Str) (t2 : UInt8) (r : Bool) (h : M_law13_WalkUp t0 t1 t2 = some r) : FFn Tryd.prog 5 [(SL 1 c8 t0), (S t1), (U8 t2)] (Bo r) := by
  refine FFn.of_body (n := 113) Tryd.func5 rfl Tryd.ntmps5 rfl rfl rfl rfl ?_
  show AWp _ _ _ ⟨113, 0, [(0, (SL 1 c8 t0)), (1, (S t1)), (2, (U8 t2))], [], ⟨0, []⟩⟩
  unfold M_law13_WalkUp at h
  refine awp_seq ?_
  refine awp_region ?_
  refine arun_do rfl rfl rfl (ex_assign (eV (v := (Bo false)) rfl)) ?_
  refine arun_keepE [0, 1, 2] 0 0 (st' := ⟨113, 0, [(0, (SL 1 c8 t0)), (1, (S t1)), (2, (U8 t2))], [], ⟨0, []⟩⟩) (by kernel_rfl) (by kernel_rfl) ?_
  show AWp _ _ _ _
  refine awp_seq ?_
  refine awp_seq ?_
  refine awp_region ?_
  obtain ⟨x1, hx1, h⟩ := bindS h
  refine arun_do rfl rfl rfl (ex_call0 (vs := []) (v := (Bo x1)) rfl en_7 (cargs evs_nil) rfl (ok_law13_begun  x1 hx1) rfl) ?_
  refine arun_do rfl rfl rfl (ex_un (vx := (Bo x1)) rfl notB_ok) ?_
  refine arun_keepE [0, 1, 2, 16] 0 0 (st' := ⟨113, 0, [(0, (SL 1 c8 t0)), (1, (S t1)), (2, (U8 t2)), (16, (Bo (!x1)))], [], ⟨0, []⟩⟩) (by kernel_rfl) (by kernel_rfl) ?_
  show AWp _ _ _ _
  rcases Bool.eq_false_or_eq_true (!x1) with hb2 | hb2
  · rw [condT hb2] at h
    refine awp_condT (boT hb2) ?_
    refine awp_seq ?_
    refine awp_region ?_
    refine arun_do rfl rfl rfl (ex_assign (eV (v := (Bo false)) rfl)) ?_
    refine arun_keepE [6] 0 0 (st' := ⟨113, 0, [(6, (Bo false))], [], ⟨0, []⟩⟩) (by kernel_rfl) (by kernel_rfl) ?_
    show AWp _ _ _ _
    refine awp_ret ?_
    cases h
    exact ares1 (rtmp rfl (eV rfl))
  · rw [condF hb2] at h
    refine awp_condF (boF hb2) ?_
    refine awp_skip ?_
    show AWp _ _ _ _
    refine awp_seq ?_
    refine awp_seq ?_
    refine awp_region ?_
    refine arun_do rfl rfl rfl (ex_move (eV (v := (SL 1 c8 t0)) rfl)) ?_
    refine arun_do rfl rfl rfl (tx_lenD (xs := t0) ce8 Tryd.underlying22 rfl) ?_
    refine arun_do rfl rfl rfl (ex_bin (vx := (I (t0.length : Int))) (vy := (I 60)) rfl rfl gtrI_ok) ?_
    refine arun_do rfl rfl rfl (ex_move (eV (v := (Bo (decide ((t0.length : Int) > 60)))) rfl)) ?_
    refine arun_guard (v := (S t1)) ((decide ((t0.length : Int) > 60)) == false) rfl rfl rfl (fun hc => ex_move (eV (v := (S t1)) rfl)) ?_
    refine arun_guard (v := (I (t1.length : Int))) ((decide ((t0.length : Int) > 60)) == false) rfl rfl rfl (fun hc => tx_lenS Tryd.underlying9 (cond_of hc)) ?_
    refine arun_guard (v := (Bo (decide ((t1.length : Int) > 80)))) ((decide ((t0.length : Int) > 60)) == false) rfl rfl rfl (fun hc => ex_bin (vx := (I (t1.length : Int))) (vy := (I 80)) (cond_of hc) rfl gtrI_ok) ?_
    refine arun_do rfl rfl rfl (ex_pick rfl pkOr) ?_
    refine arun_keepE [0, 1, 2, 24] 0 0 (st' := ⟨113, 0, [(0, (SL 1 c8 t0)), (1, (S t1)), (2, (U8 t2)), (24, (Bo ((decide ((t0.length : Int) > 60)) || (decide ((t1.length : Int) > 80)))))], [], ⟨0, []⟩⟩) (by kernel_rfl) (by kernel_rfl) ?_
    show AWp _ _ _ _
    rcases Bool.eq_false_or_eq_true ((decide ((t0.length : Int) > 60)) || (decide ((t1.length : Int) > 80))) with hb3 | hb3
    · rw [condT hb3] at h
      refine awp_condT (boT hb3) ?_
      refine awp_seq ?_
      refine awp_region ?_
      refine arun_do rfl rfl rfl (ex_assign (eV (v := (Bo true)) rfl)) ?_
      refine arun_keepE [6] 0 0 (st' := ⟨113, 0, [(6, (Bo true))], [], ⟨0, []⟩⟩) (by kernel_rfl) (by kernel_rfl) ?_
      show AWp _ _ _ _
      refine awp_ret ?_
      cases h
      exact ares1 (rtmp rfl (eV rfl))
    · rw [condF hb3] at h
      refine awp_condF (boF hb3) ?_
      refine awp_skip ?_
      show AWp _ _ _ _
      refine awp_seq ?_
      refine awp_region ?_
      refine arun_do rfl rfl rfl (ex_move (eV (v := (SL 1 c8 t0)) rfl)) ?_
      obtain ⟨x4, hx4, h⟩ := bindS h
      refine arun_do rfl rfl rfl (ex_callNew (vs := [(SL 1 c8 t0)]) (k := 0) (b := ⟨1, (c_palimpmade_Picks x4), false⟩) (H' := ⟨1, [(0, ⟨1, (c_palimpmade_Picks x4), false⟩)]⟩) rfl en_8 (cargs (evs rfl evs_nil)) rfl (ok_made_Made t0 x4 hx4) rfl rfl rfl) ?_
      obtain ⟨x5, hx5, h⟩ := bindS h
      refine arun_do rfl rfl rfl (ex_call1 (vs := [(NP 0 0), (I 25)]) (vs' := [(NP 0 0), (I 25)]) (v := (SL 5 c_api_Node x5.1)) (n := 0) (b := ⟨1, (c_palimpmade_Picks x4), false⟩) (b' := ⟨1, (c_palimpmade_Picks x5.2), false⟩) (H' := ⟨1, [(0, ⟨1, (c_palimpmade_Picks x5.2), false⟩)]⟩) rfl en_9 (cargs (evs rfl (evs rfl evs_nil))) rfl rfl (.cons (.inr ⟨_, rfl, rfl⟩) (.cons (.inl ⟨rfl, rfl⟩) .nil)) (ok_made_Picks_Set x4 25 x5 hx5) rfl rfl) ?_
      refine arun_do rfl rfl rfl (ex_assign (eV (v := (SL 5 c_api_Node x5.1)) rfl)) ?_
      refine arun_keepE [1, 2, 7] 0 0 (st' := ⟨113, 0, [(1, (S t1)), (2, (U8 t2)), (7, (SL 5 c_api_Node x5.1))], [], ⟨0, []⟩⟩) (by kernel_rfl) (by kernel_rfl) ?_
      show AWp _ _ _ _
      refine awp_seqJ (fun s => ∃ (y6 : Str), s = ⟨113, 0, [(1, (S y6)), (7, (SL 5 c_api_Node x5.1))], [], ⟨0, []⟩⟩ ∧ M_law13_WalkUp_k1 x5 y6 = some r) ?_ ?_
      · refine awp_seq ?_
        refine awp_region ?_
        refine arun_do rfl rfl rfl (ex_move (eV (v := (U8 t2)) rfl)) ?_
        refine arun_do rfl rfl rfl (ex_bin (vx := (U8 t2)) (vy := (U8 0)) rfl rfl gtr8_ok) ?_
        refine arun_keepE [1, 2, 7, 29] 0 0 (st' := ⟨113, 0, [(1, (S t1)), (2, (U8 t2)), (7, (SL 5 c_api_Node x5.1)), (29, (Bo (decide (t2 > 0))))], [], ⟨0, []⟩⟩) (by kernel_rfl) (by kernel_rfl) ?_
        show AWp _ _ _ _
        rcases Bool.eq_false_or_eq_true (decide (t2 > 0)) with hb7 | hb7
        · rw [condT hb7] at h
          refine awp_condT (boT hb7) ?_
          refine awp_region ?_
          refine arun_do rfl rfl rfl (ex_move (eV (v := (U8 t2)) rfl)) ?_
          refine arun_do rfl rfl rfl (ex_buildSliceD (qs := [(0, (U8 t2))]) (cells := (([t2] : List UInt8).flatMap c8)) Tryd.underlying22 s_5 (by decide) (evp rfl evp_nil) rfl (by kernel_rfl) (by kernel_rfl) (by kernel_rfl)) ?_
          obtain ⟨x8, hx8, h⟩ := bindS h
          refine arun_do rfl rfl rfl (ex_callNew (vs := [(SL 1 c8 ([t2] : List UInt8))]) (k := 0) (b := ⟨1, (c_palimpmade_Picks x8), false⟩) (H' := ⟨1, [(0, ⟨1, (c_palimpmade_Picks x8), false⟩)]⟩) rfl en_8 (cargs (evs rfl evs_nil)) rfl (ok_made_Made ([t2] : List UInt8) x8 hx8) rfl rfl rfl) ?_
          obtain ⟨x9, hx9, h⟩ := bindS h
          refine arun_do rfl rfl rfl (ex_call1 (vs := [(NP 0 0)]) (vs' := [(NP 0 0)]) (v := (S x9.1)) (n := 0) (b := ⟨1, (c_palimpmade_Picks x8), false⟩) (b' := ⟨1, (c_palimpmade_Picks x9.2), false⟩) (H' := ⟨1, [(0, ⟨1, (c_palimpmade_Picks x9.2), false⟩)]⟩) rfl en_13 (cargs (evs rfl evs_nil)) rfl rfl (.cons (.inr ⟨_, rfl, rfl⟩) .nil) (ok_made_Picks_Path x8  x9 hx9) rfl rfl) ?_
          refine arun_do rfl rfl rfl (ex_assign (eV (v := (S x9.1)) rfl)) ?_
          refine arun_keepE [1, 7] 0 0 (st' := ⟨113, 0, [(1, (S x9.1)), (7, (SL 5 c_api_Node x5.1))], [], ⟨0, []⟩⟩) (by kernel_rfl) (by kernel_rfl) ?_
          exact (Exists.intro x9.1 (And.intro rfl h))
        · rw [condF hb7] at h
          refine awp_condF (boF hb7) ?_
          refine awp_keepE [1, 7] 0 0 (st' := ⟨113, 0, [(1, (S t1)), (7, (SL 5 c_api_Node x5.1))], [], ⟨0, []⟩⟩) (by kernel_rfl) (by kernel_rfl) ?_
          refine awp_skip ?_
          exact (Exists.intro t1 (And.intro rfl h))
      · rintro s ⟨y6, rfl, h⟩
        unfold M_law13_WalkUp_k1 at h
        refine awp_seq ?_
        refine awp_region ?_
        refine arun_do rfl rfl rfl (ex_move (eV (v := (SL 5 c_api_Node x5.1)) rfl)) ?_
        refine arun_do rfl rfl rfl (ex_move (eV (v := (S y6)) rfl)) ?_
        obtain ⟨x10, hx10, h⟩ := bindS h
        refine arun_do rfl rfl rfl (ex_call0 (vs := [(SL 5 c_api_Node x5.1), (S y6)]) (v := (Value.tuple #[(I x10.1), (I x10.2)])) rfl en_11 (cargs (evs rfl (evs rfl evs_nil))) rfl (ok_walk_Find x5.1 y6 x10 hx10) rfl) ?_
        refine arun_do rfl rfl rfl (ex_move (eV (v := (Value.tuple #[(I x10.1), (I x10.2)])) rfl)) ?_
        refine arun_do rfl rfl rfl (ex_extract (vx := (Value.tuple #[(I x10.1), (I x10.2)])) (v := (I x10.1)) rfl rfl) ?_
        refine arun_do rfl rfl rfl (ex_extract (vx := (Value.tuple #[(I x10.1), (I x10.2)])) (v := (I x10.2)) rfl rfl) ?_
        refine arun_do rfl rfl rfl (ex_assign (eV (v := (I x10.1)) rfl)) ?_
        refine arun_do rfl rfl rfl (ex_assign (eV (v := (I x10.2)) rfl)) ?_
        refine arun_keepE [1, 7, 8, 9] 0 0 (st' := ⟨113, 0, [(1, (S y6)), (7, (SL 5 c_api_Node x5.1)), (8, (I x10.1)), (9, (I x10.2))], [], ⟨0, []⟩⟩) (by kernel_rfl) (by kernel_rfl) ?_
        show AWp _ _ _ _
        refine awp_seq ?_
        refine awp_region ?_
        refine arun_do rfl rfl rfl (ex_move (eV (v := (SL 5 c_api_Node x5.1)) rfl)) ?_
        refine arun_do rfl rfl rfl (ex_move (eV (v := (S y6)) rfl)) ?_
        obtain ⟨x11, hx11, h⟩ := bindS h
        refine arun_do rfl rfl rfl (ex_call0 (vs := [(SL 5 c_api_Node x5.1), (S y6)]) (v := (Value.tuple #[(I x11.1), (S x11.2.1), (I x11.2.2)])) rfl en_14 (cargs (evs rfl (evs rfl evs_nil))) rfl (ok_walk_Place x5.1 y6 x11 hx11) rfl) ?_
        refine arun_do rfl rfl rfl (ex_move (eV (v := (Value.tuple #[(I x11.1), (S x11.2.1), (I x11.2.2)])) rfl)) ?_
        refine arun_do rfl rfl rfl (ex_extract (vx := (Value.tuple #[(I x11.1), (S x11.2.1), (I x11.2.2)])) (v := (I x11.1)) rfl rfl) ?_
        refine arun_do rfl rfl rfl (ex_extract (vx := (Value.tuple #[(I x11.1), (S x11.2.1), (I x11.2.2)])) (v := (S x11.2.1)) rfl rfl) ?_
        refine arun_do rfl rfl rfl (ex_extract (vx := (Value.tuple #[(I x11.1), (S x11.2.1), (I x11.2.2)])) (v := (I x11.2.2)) rfl rfl) ?_
        refine arun_do rfl rfl rfl (ex_assign (eV (v := (I x11.1)) rfl)) ?_
        refine arun_do rfl rfl rfl (ex_assign (eV (v := (S x11.2.1)) rfl)) ?_
        refine arun_do rfl rfl rfl (ex_assign (eV (v := (I x11.2.2)) rfl)) ?_
        refine arun_keepE [1, 7, 8, 9, 10, 11, 12] 0 0 (st' := ⟨113, 0, [(1, (S y6)), (7, (SL 5 c_api_Node x5.1)), (8, (I x10.1)), (9, (I x10.2)), (10, (I x11.1)), (11, (S x11.2.1)), (12, (I x11.2.2))], [], ⟨0, []⟩⟩) (by kernel_rfl) (by kernel_rfl) ?_
        show AWp _ _ _ _
        refine awp_seq ?_
        refine awp_seq ?_
        refine awp_region ?_
        refine arun_do rfl rfl rfl (ex_move (eV (v := (S y6)) rfl)) ?_
        refine arun_do rfl rfl rfl (ex_bin (vx := (S y6)) (vy := (S [])) rfl rfl eqlS_ok) ?_
        refine arun_keepE [7, 8, 9, 10, 11, 12, 48] 0 0 (st' := ⟨113, 0, [(7, (SL 5 c_api_Node x5.1)), (8, (I x10.1)), (9, (I x10.2)), (10, (I x11.1)), (11, (S x11.2.1)), (12, (I x11.2.2)), (48, (Bo (y6 == [])))], [], ⟨0, []⟩⟩) (by kernel_rfl) (by kernel_rfl) ?_
        show AWp _ _ _ _
        rcases Bool.eq_false_or_eq_true (y6 == []) with hb12 | hb12
        · rw [condT hb12] at h
          refine awp_condT (boT hb12) ?_
          refine awp_seq ?_
          refine awp_region ?_
          refine arun_do rfl rfl rfl (ex_move (eV (v := (I x10.1)) rfl)) ?_
          refine arun_do rfl rfl rfl (ex_bin (vx := (I x10.1)) (vy := (I 0)) rfl rfl eqlI_ok) ?_
          refine arun_do rfl rfl rfl (ex_move (eV (v := (Bo (x10.1 == 0))) rfl)) ?_
          refine arun_guard (v := (I x10.2)) ((x10.1 == 0) == true) rfl rfl rfl (fun hc => ex_move (eV (v := (I x10.2)) rfl)) ?_
          refine arun_guard (v := (Bo (x10.2 == 0))) ((x10.1 == 0) == true) rfl rfl rfl (fun hc => ex_bin (vx := (I x10.2)) (vy := (I 0)) (cond_of hc) rfl eqlI_ok) ?_
          refine arun_do rfl rfl rfl (ex_pick rfl pkAnd) ?_
          refine arun_do rfl rfl rfl (ex_move (eV (v := (Bo ((x10.1 == 0) && (x10.2 == 0)))) rfl)) ?_
          refine arun_guard (v := (I x11.2.2)) (((x10.1 == 0) && (x10.2 == 0)) == true) rfl rfl rfl (fun hc => ex_move (eV (v := (I x11.2.2)) rfl)) ?_
          refine arun_guard (v := (Bo (x11.2.2 == 1))) (((x10.1 == 0) && (x10.2 == 0)) == true) rfl rfl rfl (fun hc => ex_bin (vx := (I x11.2.2)) (vy := (I 1)) (cond_of hc) rfl eqlI_ok) ?_
          refine arun_do rfl rfl rfl (ex_pick rfl pkAnd) ?_
          refine arun_do rfl rfl rfl (ex_assign (eV (v := (Bo (((x10.1 == 0) && (x10.2 == 0)) && (x11.2.2 == 1)))) rfl)) ?_
          refine arun_keepE [6] 0 0 (st' := ⟨113, 0, [(6, (Bo (((x10.1 == 0) && (x10.2 == 0)) && (x11.2.2 == 1))))], [], ⟨0, []⟩⟩) (by kernel_rfl) (by kernel_rfl) ?_
          show AWp _ _ _ _
          refine awp_ret ?_
          cases h
          exact ares1 (rtmp rfl (eV rfl))
        · rw [condF hb12] at h
          refine awp_condF (boF hb12) ?_
          refine awp_skip ?_
          show AWp _ _ _ _
          refine awp_seq ?_
          refine awp_seq ?_
          refine awp_region ?_
          refine arun_do rfl rfl rfl (ex_move (eV (v := (I x11.2.2)) rfl)) ?_
          refine arun_do rfl rfl rfl (ex_bin (vx := (I x11.2.2)) (vy := (I 0)) rfl rfl neqI_ok) ?_
          refine arun_keepE [7, 8, 9, 10, 11, 12, 60] 0 0 (st' := ⟨113, 0, [(7, (SL 5 c_api_Node x5.1)), (8, (I x10.1)), (9, (I x10.2)), (10, (I x11.1)), (11, (S x11.2.1)), (12, (I x11.2.2)), (60, (Bo (x11.2.2 != 0)))], [], ⟨0, []⟩⟩) (by kernel_rfl) (by kernel_rfl) ?_
          show AWp _ _ _ _
          rcases Bool.eq_false_or_eq_true (x11.2.2 != 0) with hb13 | hb13
          · rw [condT hb13] at h
            refine awp_condT (boT hb13) ?_
            refine awp_seq ?_
            refine awp_region ?_
            refine arun_do rfl rfl rfl (ex_move (eV (v := (I x10.2)) rfl)) ?_
            refine arun_do rfl rfl rfl (ex_move (eV (v := (I x11.2.2)) rfl)) ?_
            refine arun_do rfl rfl rfl (ex_bin (vx := (I x10.2)) (vy := (I x11.2.2)) rfl rfl eqlI_ok) ?_
            refine arun_do rfl rfl rfl (ex_move (eV (v := (Bo (x10.2 == x11.2.2))) rfl)) ?_
            refine arun_guard (v := (I x10.1)) ((x10.2 == x11.2.2) == true) rfl rfl rfl (fun hc => ex_move (eV (v := (I x10.1)) rfl)) ?_
            refine arun_guard (v := (Bo (x10.1 == 0))) ((x10.2 == x11.2.2) == true) rfl rfl rfl (fun hc => ex_bin (vx := (I x10.1)) (vy := (I 0)) (cond_of hc) rfl eqlI_ok) ?_
            refine arun_do rfl rfl rfl (ex_pick rfl pkAnd) ?_
            refine arun_do rfl rfl rfl (ex_assign (eV (v := (Bo ((x10.2 == x11.2.2) && (x10.1 == 0)))) rfl)) ?_
            refine arun_keepE [6] 0 0 (st' := ⟨113, 0, [(6, (Bo ((x10.2 == x11.2.2) && (x10.1 == 0))))], [], ⟨0, []⟩⟩) (by kernel_rfl) (by kernel_rfl) ?_
            show AWp _ _ _ _
            refine awp_ret ?_
            cases h
            exact ares1 (rtmp rfl (eV rfl))
          · rw [condF hb13] at h
            refine awp_condF (boF hb13) ?_
            refine awp_skip ?_
            show AWp _ _ _ _
            refine awp_seq ?_
            refine awp_region ?_
            refine arun_do rfl rfl rfl (ex_move (eV (v := (SL 5 c_api_Node x5.1)) rfl)) ?_
            refine arun_do rfl rfl rfl (ex_move (eV (v := (I x11.1)) rfl)) ?_
            refine arun_do rfl rfl rfl (ex_move (eV (v := (S x11.2.1)) rfl)) ?_
            obtain ⟨x14, hx14, h⟩ := bindS h
            refine arun_do rfl rfl rfl (ex_call0 (vs := [(SL 5 c_api_Node x5.1), (I x11.1), (S x11.2.1)]) (v := (Value.tuple #[(I x14.1), (Bo x14.2)])) rfl en_15 (cargs (evs rfl (evs rfl (evs rfl evs_nil)))) rfl (ok_ref11_Kid x5.1 x11.1 x11.2.1 x14 hx14) rfl) ?_
            refine arun_do rfl rfl rfl (ex_move (eV (v := (Value.tuple #[(I x14.1), (Bo x14.2)])) rfl)) ?_
            refine arun_do rfl rfl rfl (ex_extract (vx := (Value.tuple #[(I x14.1), (Bo x14.2)])) (v := (I x14.1)) rfl rfl) ?_
            refine arun_do rfl rfl rfl (ex_extract (vx := (Value.tuple #[(I x14.1), (Bo x14.2)])) (v := (Bo x14.2)) rfl rfl) ?_
            refine arun_do rfl rfl rfl (ex_assign (eV (v := (I x14.1)) rfl)) ?_
            refine arun_do rfl rfl rfl (ex_assign (eV (v := (Bo x14.2)) rfl)) ?_
            refine arun_keepE [7, 8, 9, 10, 13, 14] 0 0 (st' := ⟨113, 0, [(7, (SL 5 c_api_Node x5.1)), (8, (I x10.1)), (9, (I x10.2)), (10, (I x11.1)), (13, (I x14.1)), (14, (Bo x14.2))], [], ⟨0, []⟩⟩) (by kernel_rfl) (by kernel_rfl) ?_
            show AWp _ _ _ _
            refine awp_seq ?_
            refine awp_seq ?_
            refine awp_region ?_
            refine arun_do rfl rfl rfl (ex_move (eV (v := (I x11.1)) rfl)) ?_
            refine arun_do rfl rfl rfl (ex_bin (vx := (I x11.1)) (vy := (I 0)) rfl rfl lssI_ok) ?_
            refine arun_do rfl rfl rfl (ex_move (eV (v := (Bo (decide (x11.1 < 0)))) rfl)) ?_
            refine arun_guard (v := (I x11.1)) ((decide (x11.1 < 0)) == false) rfl rfl rfl (fun hc => ex_move (eV (v := (I x11.1)) rfl)) ?_
            refine arun_guard (v := (SL 5 c_api_Node x5.1)) ((decide (x11.1 < 0)) == false) rfl rfl rfl (fun hc => ex_move (eV (v := (SL 5 c_api_Node x5.1)) rfl)) ?_
            refine arun_guard (v := (I (x5.1.length : Int))) ((decide (x11.1 < 0)) == false) rfl rfl rfl (fun hc => tx_lenD (xs := x5.1) ce_api_Node Tryd.underlying25 (cond_of hc)) ?_
            refine arun_guard (v := (Bo (decide (x11.1 ≥ (x5.1.length : Int))))) ((decide (x11.1 < 0)) == false) rfl rfl rfl (fun hc => ex_bin (vx := (I x11.1)) (vy := (I (x5.1.length : Int))) (cond_of hc) (cond_of hc) geqI_ok) ?_
            refine arun_do rfl rfl rfl (ex_pick rfl pkOr) ?_
            refine arun_do rfl rfl rfl (ex_move (eV (v := (Bo ((decide (x11.1 < 0)) || (decide (x11.1 ≥ (x5.1.length : Int)))))) rfl)) ?_
            refine arun_guard (v := (SL 5 c_api_Node x5.1)) (((decide (x11.1 < 0)) || (decide (x11.1 ≥ (x5.1.length : Int)))) == false) rfl rfl rfl (fun hc => ex_move (eV (v := (SL 5 c_api_Node x5.1)) rfl)) ?_
            refine arun_guard (v := (I x11.1)) (((decide (x11.1 < 0)) || (decide (x11.1 ≥ (x5.1.length : Int)))) == false) rfl rfl rfl (fun hc => ex_move (eV (v := (I x11.1)) rfl)) ?_
            obtain ⟨x15, hx15, h⟩ := bindS h
            refine arun_guard (v := (DP (c_api_Node x15))) (((decide (x11.1 < 0)) || (decide (x11.1 ≥ (x5.1.length : Int)))) == false) rfl rfl rfl (fun hc => tx_idxD (c := c_api_Node) (xs := x5.1) (i := x11.1) ce_api_Node Tryd.underlying25 s_32 (cond_of hc) (cond_of hc) (gd_of hc hx15)) ?_
            refine arun_guard (v := (DP (List.drop 0 (c_api_Node x15)))) (((decide (x11.1 < 0)) || (decide (x11.1 ≥ (x5.1.length : Int)))) == false) rfl rfl rfl (fun hc => ex_fieldAddrD (vs := (List.drop 0 (c_api_Node x15))) Tryd.underlying32 rfl s_3 (by decide) (cond_of hc) rfl) ?_
            refine arun_guard (v := (I x15.Kind)) (((decide (x11.1 < 0)) || (decide (x11.1 ≥ (x5.1.length : Int)))) == false) rfl rfl rfl (fun hc => tx_ldD1 (v := (I x15.Kind)) Tryd.underlying3 rfl (cond_of hc) rfl) ?_
            refine arun_guard (v := (Bo (x15.Kind != 2))) (((decide (x11.1 < 0)) || (decide (x11.1 ≥ (x5.1.length : Int)))) == false) rfl rfl rfl (fun hc => ex_bin (vx := (I x15.Kind)) (vy := (I 2)) (cond_of hc) rfl neqI_ok) ?_
            refine arun_do rfl rfl rfl (ex_pick rfl pkOr) ?_
            refine arun_keepE [8, 9, 13, 14, 90] 0 0 (st' := ⟨113, 0, [(8, (I x10.1)), (9, (I x10.2)), (13, (I x14.1)), (14, (Bo x14.2)), (90, (Bo (((decide (x11.1 < 0)) || (decide (x11.1 ≥ (x5.1.length : Int)))) || (x15.Kind != 2))))], [], ⟨0, []⟩⟩) (by kernel_rfl) (by kernel_rfl) ?_
            show AWp _ _ _ _
            rcases Bool.eq_false_or_eq_true (((decide (x11.1 < 0)) || (decide (x11.1 ≥ (x5.1.length : Int)))) || (x15.Kind != 2)) with hb16 | hb16
            · rw [condT hb16] at h
              refine awp_condT (boT hb16) ?_
              refine awp_seq ?_
              refine awp_region ?_
              refine arun_do rfl rfl rfl (ex_assign (eV (v := (Bo false)) rfl)) ?_
              refine arun_keepE [6] 0 0 (st' := ⟨113, 0, [(6, (Bo false))], [], ⟨0, []⟩⟩) (by kernel_rfl) (by kernel_rfl) ?_
              show AWp _ _ _ _
              refine awp_ret ?_
              cases h
              exact ares1 (rtmp rfl (eV rfl))
            · rw [condF hb16] at h
              refine awp_condF (boF hb16) ?_
              refine awp_skip ?_
              show AWp _ _ _ _
              refine awp_seq ?_
              refine awp_region ?_
              refine arun_do rfl rfl rfl (ex_move (eV (v := (Bo x14.2)) rfl)) ?_
              refine arun_do rfl rfl rfl (ex_move (eV (v := (Bo x14.2)) rfl)) ?_
              refine arun_guard (v := (I x10.2)) (x14.2 == true) rfl rfl rfl (fun hc => ex_move (eV (v := (I x10.2)) rfl)) ?_
              refine arun_guard (v := (Bo (x10.2 == 0))) (x14.2 == true) rfl rfl rfl (fun hc => ex_bin (vx := (I x10.2)) (vy := (I 0)) (cond_of hc) rfl eqlI_ok) ?_
              refine arun_do rfl rfl rfl (ex_pick rfl pkAnd) ?_
              refine arun_do rfl rfl rfl (ex_move (eV (v := (Bo (x14.2 && (x10.2 == 0)))) rfl)) ?_
              refine arun_guard (v := (I x10.1)) ((x14.2 && (x10.2 == 0)) == true) rfl rfl rfl (fun hc => ex_move (eV (v := (I x10.1)) rfl)) ?_
              refine arun_guard (v := (I x14.1)) ((x14.2 && (x10.2 == 0)) == true) rfl rfl rfl (fun hc => ex_move (eV (v := (I x14.1)) rfl)) ?_
              refine arun_guard (v := (Bo (x10.1 == x14.1))) ((x14.2 && (x10.2 == 0)) == true) rfl rfl rfl (fun hc => ex_bin (vx := (I x10.1)) (vy := (I x14.1)) (cond_of hc) (cond_of hc) eqlI_ok) ?_
              refine arun_do rfl rfl rfl (ex_pick rfl pkAnd) ?_
              refine arun_do rfl rfl rfl (ex_move (eV (v := (Bo ((x14.2 && (x10.2 == 0)) && (x10.1 == x14.1)))) rfl)) ?_
              refine arun_guard (v := (Bo x14.2)) (((x14.2 && (x10.2 == 0)) && (x10.1 == x14.1)) == false) rfl rfl rfl (fun hc => ex_move (eV (v := (Bo x14.2)) rfl)) ?_
              refine arun_guard (v := (Bo (!x14.2))) (((x14.2 && (x10.2 == 0)) && (x10.1 == x14.1)) == false) rfl rfl rfl (fun hc => ex_un (vx := (Bo x14.2)) (cond_of hc) notB_ok) ?_
              refine arun_guard (v := (Bo (!x14.2))) (((x14.2 && (x10.2 == 0)) && (x10.1 == x14.1)) == false) rfl rfl rfl (fun hc => ex_move (eV (v := (Bo (!x14.2))) (cond_of hc))) ?_
              refine arun_guard (v := (I x10.2)) ((((x14.2 && (x10.2 == 0)) && (x10.1 == x14.1)) == false) && ((!x14.2) == true)) rfl rfl gv_nest (fun hc => ex_move (eV (v := (I x10.2)) rfl)) ?_
              refine arun_guard (v := (Bo (x10.2 == 2))) ((((x14.2 && (x10.2 == 0)) && (x10.1 == x14.1)) == false) && ((!x14.2) == true)) rfl rfl gv_nest (fun hc => ex_bin (vx := (I x10.2)) (vy := (I 2)) (cond_of hc) rfl eqlI_ok) ?_
              refine arun_guard (v := (Bo ((!x14.2) && (x10.2 == 2)))) (((x14.2 && (x10.2 == 0)) && (x10.1 == x14.1)) == false) rfl rfl rfl (fun hc => ex_pick (cond_of hc) (pkAndN hc)) ?_
              refine arun_guard (v := (Bo ((!x14.2) && (x10.2 == 2)))) (((x14.2 && (x10.2 == 0)) && (x10.1 == x14.1)) == false) rfl rfl rfl (fun hc => ex_move (eV (v := (Bo ((!x14.2) && (x10.2 == 2)))) (cond_of hc))) ?_
              refine arun_guard (v := (I x10.1)) ((((x14.2 && (x10.2 == 0)) && (x10.1 == x14.1)) == false) && (((!x14.2) && (x10.2 == 2)) == true)) rfl rfl gv_nest (fun hc => ex_move (eV (v := (I x10.1)) rfl)) ?_
              refine arun_guard (v := (Bo (x10.1 == 0))) ((((x14.2 && (x10.2 == 0)) && (x10.1 == x14.1)) == false) && (((!x14.2) && (x10.2 == 2)) == true)) rfl rfl gv_nest (fun hc => ex_bin (vx := (I x10.1)) (vy := (I 0)) (cond_of hc) rfl eqlI_ok) ?_
              refine arun_guard (v := (Bo (((!x14.2) && (x10.2 == 2)) && (x10.1 == 0)))) (((x14.2 && (x10.2 == 0)) && (x10.1 == x14.1)) == false) rfl rfl rfl (fun hc => ex_pick (cond_of hc) (pkAndN hc)) ?_
              refine arun_do rfl rfl rfl (ex_pick rfl pkOr) ?_
              refine arun_do rfl rfl rfl (ex_assign (eV (v := (Bo (((x14.2 && (x10.2 == 0)) && (x10.1 == x14.1)) || (((!x14.2) && (x10.2 == 2)) && (x10.1 == 0))))) rfl)) ?_
              refine arun_keepE [6] 0 0 (st' := ⟨113, 0, [(6, (Bo (((x14.2 && (x10.2 == 0)) && (x10.1 == x14.1)) || (((!x14.2) && (x10.2 == 2)) && (x10.1 == 0)))))], [], ⟨0, []⟩⟩) (by kernel_rfl) (by kernel_rfl) ?_
              show AWp _ _ _ _
              refine awp_ret ?_
              cases h
              exact ares1 (rtmp rfl (eV rfl))

end Go.Proofs
