/- Pure models of functions of the program, and that its code does what they say: palimplaw13 WalkLost. Written by a program. -/
import Derived.Test.YtmadpkhcdgpglaaDoorR1313
import Derived.Test.YtmadpkhcdgpglaaDoorR136
import Derived.Test.YtmadpkhcdgpglaaDoorR138
import Derived.Test.YtmadpkhcdgpglaaDoorR139
import Derived.Test.YtmadpkhcdgpglaaDoorR13B
set_option maxRecDepth 20000
set_option maxHeartbeats 4000000
namespace Go.Proofs
open Go Go.Fhl
set_option linter.unusedVariables false
set_option linter.unusedSimpArgs false
noncomputable def M_law13_WalkLost (t0 : (List UInt8)) (t1 : UInt8) : Option Bool :=
  Option.bind (M_law13_begun) fun (x1 : Bool) => cond (!x1) (some false) (cond (decide ((t0.length : Int) > 60)) (some true) (Option.bind (M_made_Made t0) fun (x4 : G_palimpmade_Picks) => Option.bind (M_made_Picks_Set x4 25) fun (x5 : ((List G_api_Node) × G_palimpmade_Picks)) => Option.bind (appL 56 ([] : List G_api_Node) x5.1) fun (x6 : List G_api_Node) => Option.bind (remI (t1.toNat : Int) 7) fun (x7 : Int) => Option.bind (getI x6 (w64 (1 + x7))) fun (x8 : G_api_Node) => cond (x8.Kind == 0) (some true) (Option.bind (getI x6 (w64 (1 + x7))) fun (x10 : G_api_Node) => Option.bind (setI x6 (w64 (1 + x7)) (G_api_Node.mk 3 0 [] [] 0)) fun (x11 : List G_api_Node) => Option.bind (quo8 t1 8) fun (x12 : UInt8) => Option.bind (M_made_Made ([x12] : List UInt8)) fun (x13 : G_palimpmade_Picks) => Option.bind (M_made_Picks_Path x13 ) fun (x14 : (Str × G_palimpmade_Picks)) => Option.bind (M_walk_Find x5.1 x14.1) fun (x15 : (Int × Int)) => Option.bind (M_walk_Find x11 x14.1) fun (x16 : (Int × Int)) => cond (x16.2 == 0) (Option.bind (gd (((((x15.2 == 0) && (x15.1 == x16.1)) && (decide (x16.1 ≥ 0))) && (decide (x16.1 < (x11.length : Int)))) == true) (getI x11 x16.1)) fun (x18 : G_api_Node) => Option.bind (gd (((((x15.2 == 0) && (x15.1 == x16.1)) && (decide (x16.1 ≥ 0))) && (decide (x16.1 < (x11.length : Int)))) == true) (getI x5.1 x16.1)) fun (x19 : G_api_Node) => some (((((x15.2 == 0) && (x15.1 == x16.1)) && (decide (x16.1 ≥ 0))) && (decide (x16.1 < (x11.length : Int)))) && (decide (x18 = x19)))) (some (((x16.2 == x15.2) && ((x16.2 == 1) || (x16.2 == 5))) || (x16.2 == 12))))))
theorem ok_law13_WalkLost (t0 : (List UInt8)) (t1 : UInt8) (r : Bool) (h : M_law13_WalkLost t0 t1 = some r) : FFn Tryd.prog 4 [(SL 1 c8 t0), (U8 t1)] (Bo r) := by
  refine FFn.of_body (n := 100) Tryd.func4 rfl Tryd.ntmps4 rfl rfl rfl rfl ?_
  show AWp _ _ _ ⟨100, 0, [(0, (SL 1 c8 t0)), (1, (U8 t1))], [], ⟨0, []⟩⟩
  unfold M_law13_WalkLost at h
  refine awp_seq ?_
  refine awp_region ?_
  refine arun_do rfl rfl rfl (ex_assign (eV (v := (Bo false)) rfl)) ?_
  refine arun_keepE [0, 1] 0 0 (st' := ⟨100, 0, [(0, (SL 1 c8 t0)), (1, (U8 t1))], [], ⟨0, []⟩⟩) (by kernel_rfl) (by kernel_rfl) ?_
  show AWp _ _ _ _
  refine awp_seq ?_
  refine awp_seq ?_
  refine awp_region ?_
  obtain ⟨x1, hx1, h⟩ := bindS h
  refine arun_do rfl rfl rfl (ex_call0 (vs := []) (v := (Bo x1)) rfl en_7 (cargs evs_nil) rfl (ok_law13_begun  x1 hx1) rfl) ?_
  refine arun_do rfl rfl rfl (ex_un (vx := (Bo x1)) rfl notB_ok) ?_
  refine arun_keepE [0, 1, 14] 0 0 (st' := ⟨100, 0, [(0, (SL 1 c8 t0)), (1, (U8 t1)), (14, (Bo (!x1)))], [], ⟨0, []⟩⟩) (by kernel_rfl) (by kernel_rfl) ?_
  show AWp _ _ _ _
  rcases Bool.eq_false_or_eq_true (!x1) with hb2 | hb2
  · rw [condT hb2] at h
    refine awp_condT (boT hb2) ?_
    refine awp_seq ?_
    refine awp_region ?_
    refine arun_do rfl rfl rfl (ex_assign (eV (v := (Bo false)) rfl)) ?_
    refine arun_keepE [4] 0 0 (st' := ⟨100, 0, [(4, (Bo false))], [], ⟨0, []⟩⟩) (by kernel_rfl) (by kernel_rfl) ?_
    show AWp _ _ _ _
    refine awp_ret ?_
    cases h
    exact ares1 (rtmp rfl (eV rfl))
  · rw [condF hb2] at h
    refine awp_condF (boF hb2) ?_
    refine awp_skip ?_
    show AWp _ _ _ _
    refine awp_seq ?_
    refine awp_seq ?_
    refine awp_region ?_
    refine arun_do rfl rfl rfl (ex_move (eV (v := (SL 1 c8 t0)) rfl)) ?_
    refine arun_do rfl rfl rfl (tx_lenD (xs := t0) ce8 Tryd.underlying22 rfl) ?_
    refine arun_do rfl rfl rfl (ex_bin (vx := (I (t0.length : Int))) (vy := (I 60)) rfl rfl gtrI_ok) ?_
    refine arun_keepE [0, 1, 17] 0 0 (st' := ⟨100, 0, [(0, (SL 1 c8 t0)), (1, (U8 t1)), (17, (Bo (decide ((t0.length : Int) > 60))))], [], ⟨0, []⟩⟩) (by kernel_rfl) (by kernel_rfl) ?_
    show AWp _ _ _ _
    rcases Bool.eq_false_or_eq_true (decide ((t0.length : Int) > 60)) with hb3 | hb3
    · rw [condT hb3] at h
      refine awp_condT (boT hb3) ?_
      refine awp_seq ?_
      refine awp_region ?_
      refine arun_do rfl rfl rfl (ex_assign (eV (v := (Bo true)) rfl)) ?_
      refine arun_keepE [4] 0 0 (st' := ⟨100, 0, [(4, (Bo true))], [], ⟨0, []⟩⟩) (by kernel_rfl) (by kernel_rfl) ?_
      show AWp _ _ _ _
      refine awp_ret ?_
      cases h
      exact ares1 (rtmp rfl (eV rfl))
    · rw [condF hb3] at h
      refine awp_condF (boF hb3) ?_
      refine awp_skip ?_
      show AWp _ _ _ _
      refine awp_seq ?_
      refine awp_region ?_
      refine arun_do rfl rfl rfl (ex_move (eV (v := (SL 1 c8 t0)) rfl)) ?_
      obtain ⟨x4, hx4, h⟩ := bindS h
      refine arun_do rfl rfl rfl (ex_callNew (vs := [(SL 1 c8 t0)]) (k := 0) (b := ⟨1, (c_palimpmade_Picks x4), false⟩) (H' := ⟨1, [(0, ⟨1, (c_palimpmade_Picks x4), false⟩)]⟩) rfl en_8 (cargs (evs rfl evs_nil)) rfl (ok_made_Made t0 x4 hx4) rfl rfl rfl) ?_
      obtain ⟨x5, hx5, h⟩ := bindS h
      refine arun_do rfl rfl rfl (ex_call1 (vs := [(NP 0 0), (I 25)]) (vs' := [(NP 0 0), (I 25)]) (v := (SL 5 c_api_Node x5.1)) (n := 0) (b := ⟨1, (c_palimpmade_Picks x4), false⟩) (b' := ⟨1, (c_palimpmade_Picks x5.2), false⟩) (H' := ⟨1, [(0, ⟨1, (c_palimpmade_Picks x5.2), false⟩)]⟩) rfl en_9 (cargs (evs rfl (evs rfl evs_nil))) rfl rfl (.cons (.inr ⟨_, rfl, rfl⟩) (.cons (.inl ⟨rfl, rfl⟩) .nil)) (ok_made_Picks_Set x4 25 x5 hx5) rfl rfl) ?_
      refine arun_do rfl rfl rfl (ex_assign (eV (v := (SL 5 c_api_Node x5.1)) rfl)) ?_
      refine arun_keepE [1, 5] 0 0 (st' := ⟨100, 0, [(1, (U8 t1)), (5, (SL 5 c_api_Node x5.1))], [], ⟨0, []⟩⟩) (by kernel_rfl) (by kernel_rfl) ?_
      show AWp _ _ _ _
      refine awp_seq ?_
      refine awp_region ?_
      refine arun_do rfl rfl rfl (ex_buildSliceG (k := 0) (qs := []) (cells := (([] : List G_api_Node).flatMap c_api_Node)) (H' := ⟨1, [(0, ⟨5, (([] : List G_api_Node).flatMap c_api_Node), true⟩)]⟩) Tryd.underlying25 s_32 (by decide) (by decide) evp_nil rfl (by kernel_rfl) (by kernel_rfl) (by kernel_rfl) rfl rfl) ?_
      refine arun_do rfl rfl rfl (ex_move (eV (v := (SL 5 c_api_Node x5.1)) rfl)) ?_
      obtain ⟨x6, hx6, h⟩ := bindS h
      refine arun_do rfl rfl rfl (tx_appG (c := c_api_Node) (xs := []) (H' := ⟨1, [(0, ⟨5, ((x6).flatMap c_api_Node), true⟩)]⟩) ce_api_Node e_32 rfl rfl rfl (tsrcD (ys := x5.1) ce_api_Node Tryd.underlying25 s_32 Tryd.underlying25 rfl) hx6 rfl) ?_
      refine arun_do rfl rfl rfl (ex_assign (eV (v := (GV 0 x6.length)) rfl)) ?_
      refine arun_keepE [1, 5, 6] 0 1 (st' := ⟨100, 0, [(1, (U8 t1)), (5, (SL 5 c_api_Node x5.1)), (6, (GV 0 x6.length))], [], ⟨1, [(0, ⟨5, ((x6).flatMap c_api_Node), true⟩)]⟩⟩) (by kernel_rfl) (by kernel_rfl) ?_
      show AWp _ _ _ _
      refine awp_seq ?_
      refine awp_region ?_
      refine arun_do rfl rfl rfl (ex_move (eV (v := (U8 t1)) rfl)) ?_
      refine arun_do rfl rfl rfl (tx_8_64 Tryd.underlying5 Tryd.underlying3 rfl) ?_
      obtain ⟨x7, hx7, h⟩ := bindS h
      refine arun_do rfl rfl rfl (ex_bin (vx := (I (t1.toNat : Int))) (vy := (I 7)) rfl rfl (remI_ok hx7)) ?_
      refine arun_do rfl rfl rfl (ex_bin (vx := (I 1)) (vy := (I x7)) rfl rfl addI_ok) ?_
      refine arun_do rfl rfl rfl (ex_assign (eV (v := (I (w64 (1 + x7)))) rfl)) ?_
      refine arun_keepE [1, 5, 6, 7] 0 1 (st' := ⟨100, 0, [(1, (U8 t1)), (5, (SL 5 c_api_Node x5.1)), (6, (GV 0 x6.length)), (7, (I (w64 (1 + x7))))], [], ⟨1, [(0, ⟨5, ((x6).flatMap c_api_Node), true⟩)]⟩⟩) (by kernel_rfl) (by kernel_rfl) ?_
      show AWp _ _ _ _
      refine awp_seq ?_
      refine awp_seq ?_
      refine awp_region ?_
      refine arun_do rfl rfl rfl (ex_move (eV (v := (GV 0 x6.length)) rfl)) ?_
      refine arun_do rfl rfl rfl (ex_move (eV (v := (I (w64 (1 + x7)))) rfl)) ?_
      obtain ⟨x8, hx8, h⟩ := bindS h
      refine arun_do rfl rfl rfl (tx_idxG (c := c_api_Node) (xs := x6) (i := (w64 (1 + x7))) ce_api_Node Tryd.underlying25 s_32 rfl rfl rfl rfl hx8) ?_
      refine arun_do rfl rfl rfl (ex_fieldAddr (v := (GP 0 (((w64 (1 + x7)).toNat * 5) + 0) (List.flatMap c_api_Node x6).length)) Tryd.underlying32 rfl s_3 (by decide) rfl rfl) ?_
      refine arun_do rfl rfl rfl (tx_ldG (v := (I x8.Kind)) (s := 5) rfl rfl (part_elem (off := 0) (v := (I x8.Kind)) ce_api_Node hx8 Tryd.underlying3 rfl (by decide) rfl)) ?_
      refine arun_do rfl rfl rfl (ex_bin (vx := (I x8.Kind)) (vy := (I 0)) rfl rfl eqlI_ok) ?_
      refine arun_keepE [1, 5, 6, 7, 33] 0 1 (st' := ⟨100, 0, [(1, (U8 t1)), (5, (SL 5 c_api_Node x5.1)), (6, (GV 0 x6.length)), (7, (I (w64 (1 + x7)))), (33, (Bo (x8.Kind == 0)))], [], ⟨1, [(0, ⟨5, ((x6).flatMap c_api_Node), true⟩)]⟩⟩) (by kernel_rfl) (by kernel_rfl) ?_
      show AWp _ _ _ _
      rcases Bool.eq_false_or_eq_true (x8.Kind == 0) with hb9 | hb9
      · rw [condT hb9] at h
        refine awp_condT (boT hb9) ?_
        refine awp_seq ?_
        refine awp_region ?_
        refine arun_do rfl rfl rfl (ex_assign (eV (v := (Bo true)) rfl)) ?_
        refine arun_keepE [4] 0 0 (st' := ⟨100, 0, [(4, (Bo true))], [], ⟨0, []⟩⟩) (by kernel_rfl) (by kernel_rfl) ?_
        show AWp _ _ _ _
        refine awp_ret ?_
        cases h
        exact ares1 (rtmp rfl (eV rfl))
      · rw [condF hb9] at h
        refine awp_condF (boF hb9) ?_
        refine awp_skip ?_
        show AWp _ _ _ _
        refine awp_seq ?_
        refine awp_region ?_
        refine arun_do rfl rfl rfl (ex_move (eV (v := (GV 0 x6.length)) rfl)) ?_
        refine arun_do rfl rfl rfl (ex_move (eV (v := (I (w64 (1 + x7)))) rfl)) ?_
        refine arun_do rfl rfl rfl (ex_build (qs := [(0, (I 3))]) (v := (Value.agg (c_api_Node (G_api_Node.mk 3 0 [] [] 0)).toArray)) (evp rfl evp_nil) (by kernel_rfl)) ?_
        obtain ⟨x10, hx10, h⟩ := bindS h
        refine arun_do rfl rfl rfl (tx_idxG (c := c_api_Node) (xs := x6) (i := (w64 (1 + x7))) ce_api_Node Tryd.underlying25 s_32 rfl rfl rfl rfl hx10) ?_
        obtain ⟨x11, hx11, h⟩ := bindS h
        refine arun_do0 rfl rfl (tx_stG (c := c_api_Node) (xs := x6) (e := (G_api_Node.mk 3 0 [] [] 0)) (H' := ⟨1, [(0, ⟨5, ((x11).flatMap c_api_Node), true⟩)]⟩) ce_api_Node s_32 rfl (eV (v := (Value.agg (c_api_Node (G_api_Node.mk 3 0 [] [] 0)).toArray)) rfl) rfl rfl hx11 rfl) ?_
        refine arun_fewer (T' := [(1, (U8 t1)), (5, (SL 5 c_api_Node x5.1)), (6, (GV 0 x11.length)), (7, (I (w64 (1 + x7)))), (33, (Bo (x8.Kind == 0))), (34, (GV 0 x11.length)), (35, (I (w64 (1 + x7)))), (36, (Value.agg (c_api_Node (G_api_Node.mk 3 0 [] [] 0)).toArray))]) (ReT.keep (v := (U8 t1)) rfl (ReT.keep (v := (SL 5 c_api_Node x5.1)) rfl (ReT.gv rfl (setI_len hx11) (ReT.keep (v := (I (w64 (1 + x7)))) rfl (ReT.keep (v := (Bo (x8.Kind == 0))) rfl (ReT.gv rfl (setI_len hx11) (ReT.keep (v := (I (w64 (1 + x7)))) rfl (ReT.keep (v := (Value.agg (c_api_Node (G_api_Node.mk 3 0 [] [] 0)).toArray)) rfl ReT.nil)))))))) ?_
        refine arun_keepE [1, 5, 6] 0 1 (st' := ⟨100, 0, [(1, (U8 t1)), (5, (SL 5 c_api_Node x5.1)), (6, (GV 0 x11.length))], [], ⟨1, [(0, ⟨5, ((x11).flatMap c_api_Node), true⟩)]⟩⟩) (by kernel_rfl) (by kernel_rfl) ?_
        show AWp _ _ _ _
        refine awp_seq ?_
        refine awp_region ?_
        refine arun_do rfl rfl rfl (ex_move (eV (v := (U8 t1)) rfl)) ?_
        obtain ⟨x12, hx12, h⟩ := bindS h
        refine arun_do rfl rfl rfl (ex_bin (vx := (U8 t1)) (vy := (U8 8)) rfl rfl (quo8_ok hx12)) ?_
        refine arun_do rfl rfl rfl (ex_buildSliceD (qs := [(0, (U8 x12))]) (cells := (([x12] : List UInt8).flatMap c8)) Tryd.underlying22 s_5 (by decide) (evp rfl evp_nil) rfl (by kernel_rfl) (by kernel_rfl) (by kernel_rfl)) ?_
        obtain ⟨x13, hx13, h⟩ := bindS h
        refine arun_do rfl rfl rfl (ex_callNew (vs := [(SL 1 c8 ([x12] : List UInt8))]) (k := 1) (b := ⟨1, (c_palimpmade_Picks x13), false⟩) (H' := ⟨2, [(1, ⟨1, (c_palimpmade_Picks x13), false⟩), (0, ⟨5, ((x11).flatMap c_api_Node), true⟩)]⟩) rfl en_8 (cargs (evs rfl evs_nil)) rfl (ok_made_Made ([x12] : List UInt8) x13 hx13) rfl rfl rfl) ?_
        obtain ⟨x14, hx14, h⟩ := bindS h
        refine arun_do rfl rfl rfl (ex_call1 (vs := [(NP 1 0)]) (vs' := [(NP 0 0)]) (v := (S x14.1)) (n := 1) (b := ⟨1, (c_palimpmade_Picks x13), false⟩) (b' := ⟨1, (c_palimpmade_Picks x14.2), false⟩) (H' := ⟨2, [(1, ⟨1, (c_palimpmade_Picks x14.2), false⟩), (0, ⟨5, ((x11).flatMap c_api_Node), true⟩)]⟩) rfl en_13 (cargs (evs rfl evs_nil)) rfl rfl (.cons (.inr ⟨_, rfl, rfl⟩) .nil) (ok_made_Picks_Path x13  x14 hx14) rfl rfl) ?_
        refine arun_do rfl rfl rfl (ex_assign (eV (v := (S x14.1)) rfl)) ?_
        refine arun_keepE [5, 6, 8] 0 1 (st' := ⟨100, 0, [(5, (SL 5 c_api_Node x5.1)), (6, (GV 0 x11.length)), (8, (S x14.1))], [], ⟨1, [(0, ⟨5, ((x11).flatMap c_api_Node), true⟩)]⟩⟩) (by kernel_rfl) (by kernel_rfl) ?_
        show AWp _ _ _ _
        refine awp_seq ?_
        refine awp_region ?_
        refine arun_do rfl rfl rfl (ex_move (eV (v := (SL 5 c_api_Node x5.1)) rfl)) ?_
        refine arun_do rfl rfl rfl (ex_move (eV (v := (S x14.1)) rfl)) ?_
        obtain ⟨x15, hx15, h⟩ := bindS h
        refine arun_do rfl rfl rfl (ex_call0 (vs := [(SL 5 c_api_Node x5.1), (S x14.1)]) (v := (Value.tuple #[(I x15.1), (I x15.2)])) rfl en_11 (cargs (evs rfl (evs rfl evs_nil))) rfl (ok_walk_Find x5.1 x14.1 x15 hx15) rfl) ?_
        refine arun_do rfl rfl rfl (ex_move (eV (v := (Value.tuple #[(I x15.1), (I x15.2)])) rfl)) ?_
        refine arun_do rfl rfl rfl (ex_extract (vx := (Value.tuple #[(I x15.1), (I x15.2)])) (v := (I x15.1)) rfl rfl) ?_
        refine arun_do rfl rfl rfl (ex_extract (vx := (Value.tuple #[(I x15.1), (I x15.2)])) (v := (I x15.2)) rfl rfl) ?_
        refine arun_do rfl rfl rfl (ex_assign (eV (v := (I x15.1)) rfl)) ?_
        refine arun_do rfl rfl rfl (ex_assign (eV (v := (I x15.2)) rfl)) ?_
        refine arun_keepE [5, 6, 8, 9, 10] 0 1 (st' := ⟨100, 0, [(5, (SL 5 c_api_Node x5.1)), (6, (GV 0 x11.length)), (8, (S x14.1)), (9, (I x15.1)), (10, (I x15.2))], [], ⟨1, [(0, ⟨5, ((x11).flatMap c_api_Node), true⟩)]⟩⟩) (by kernel_rfl) (by kernel_rfl) ?_
        show AWp _ _ _ _
        refine awp_seq ?_
        refine awp_region ?_
        refine arun_do rfl rfl rfl (ex_move (eV (v := (GV 0 x11.length)) rfl)) ?_
        refine arun_do rfl rfl rfl (ex_move (eV (v := (S x14.1)) rfl)) ?_
        refine arun_freeze 0 (bk := ⟨5, ((x11).flatMap c_api_Node), true⟩) (T' := [(5, (SL 5 c_api_Node x5.1)), (6, (SL 5 c_api_Node x11)), (8, (S x14.1)), (9, (I x15.1)), (10, (I x15.2)), (50, (SL 5 c_api_Node x11)), (51, (S x14.1))]) (L' := []) rfl (FzT.keep (v := (SL 5 c_api_Node x5.1)) rfl (fzG ce_api_Node rfl rfl (FzT.keep (v := (S x14.1)) rfl (FzT.keep (v := (I x15.1)) rfl (FzT.keep (v := (I x15.2)) rfl (fzG ce_api_Node rfl rfl (FzT.keep (v := (S x14.1)) rfl FzT.nil))))))) (FzL.refl _) ?_
        show ARun _ _ _ _ _ ⟨100, 0, [(5, (SL 5 c_api_Node x5.1)), (6, (SL 5 c_api_Node x11)), (8, (S x14.1)), (9, (I x15.1)), (10, (I x15.2)), (50, (SL 5 c_api_Node x11)), (51, (S x14.1))], [], ⟨1, []⟩⟩
        obtain ⟨x16, hx16, h⟩ := bindS h
        refine arun_do rfl rfl rfl (ex_call0 (vs := [(SL 5 c_api_Node x11), (S x14.1)]) (v := (Value.tuple #[(I x16.1), (I x16.2)])) rfl en_11 (cargs (evs rfl (evs rfl evs_nil))) rfl (ok_walk_Find x11 x14.1 x16 hx16) rfl) ?_
        refine arun_do rfl rfl rfl (ex_move (eV (v := (Value.tuple #[(I x16.1), (I x16.2)])) rfl)) ?_
        refine arun_do rfl rfl rfl (ex_extract (vx := (Value.tuple #[(I x16.1), (I x16.2)])) (v := (I x16.1)) rfl rfl) ?_
        refine arun_do rfl rfl rfl (ex_extract (vx := (Value.tuple #[(I x16.1), (I x16.2)])) (v := (I x16.2)) rfl rfl) ?_
        refine arun_do rfl rfl rfl (ex_assign (eV (v := (I x16.1)) rfl)) ?_
        refine arun_do rfl rfl rfl (ex_assign (eV (v := (I x16.2)) rfl)) ?_
        refine arun_keepE [5, 6, 9, 10, 11, 12] 0 0 (st' := ⟨100, 0, [(5, (SL 5 c_api_Node x5.1)), (6, (SL 5 c_api_Node x11)), (9, (I x15.1)), (10, (I x15.2)), (11, (I x16.1)), (12, (I x16.2))], [], ⟨0, []⟩⟩) (by kernel_rfl) (by kernel_rfl) ?_
        show AWp _ _ _ _
        refine awp_seq ?_
        refine awp_seq ?_
        refine awp_region ?_
        refine arun_do rfl rfl rfl (ex_move (eV (v := (I x16.2)) rfl)) ?_
        refine arun_do rfl rfl rfl (ex_bin (vx := (I x16.2)) (vy := (I 0)) rfl rfl eqlI_ok) ?_
        refine arun_keepE [5, 6, 9, 10, 11, 12, 56] 0 0 (st' := ⟨100, 0, [(5, (SL 5 c_api_Node x5.1)), (6, (SL 5 c_api_Node x11)), (9, (I x15.1)), (10, (I x15.2)), (11, (I x16.1)), (12, (I x16.2)), (56, (Bo (x16.2 == 0)))], [], ⟨0, []⟩⟩) (by kernel_rfl) (by kernel_rfl) ?_
        show AWp _ _ _ _
        rcases Bool.eq_false_or_eq_true (x16.2 == 0) with hb17 | hb17
        · rw [condT hb17] at h
          refine awp_condT (boT hb17) ?_
          refine awp_seq ?_
          obtain ⟨x18, hx18, h⟩ := bindS h
          obtain ⟨x19, hx19, h⟩ := bindS h
          refine awp_kn [4] 0 0 (st' := ⟨100, 0, [(4, (Bo (((((x15.2 == 0) && (x15.1 == x16.1)) && (decide (x16.1 ≥ 0))) && (decide (x16.1 < (x11.length : Int)))) && (decide (x18 = x19)))))], [], ⟨0, []⟩⟩) (awp_draw (T := [(I x15.2), (Bo (x15.2 == 0)), (Bo (x15.2 == 0)), (cond ((x15.2 == 0) == true) (I x15.1) skipV), (cond ((x15.2 == 0) == true) (I x16.1) skipV), (cond ((x15.2 == 0) == true) (Bo (x15.1 == x16.1)) skipV), (Bo ((x15.2 == 0) && (x15.1 == x16.1))), (Bo ((x15.2 == 0) && (x15.1 == x16.1))), (cond (((x15.2 == 0) && (x15.1 == x16.1)) == true) (I x16.1) skipV), (cond (((x15.2 == 0) && (x15.1 == x16.1)) == true) (Bo (decide (x16.1 ≥ 0))) skipV), (Bo (((x15.2 == 0) && (x15.1 == x16.1)) && (decide (x16.1 ≥ 0)))), (Bo (((x15.2 == 0) && (x15.1 == x16.1)) && (decide (x16.1 ≥ 0)))), (cond ((((x15.2 == 0) && (x15.1 == x16.1)) && (decide (x16.1 ≥ 0))) == true) (I x16.1) skipV), (cond ((((x15.2 == 0) && (x15.1 == x16.1)) && (decide (x16.1 ≥ 0))) == true) (SL 5 c_api_Node x11) skipV), (cond ((((x15.2 == 0) && (x15.1 == x16.1)) && (decide (x16.1 ≥ 0))) == true) (I (x11.length : Int)) skipV), (cond ((((x15.2 == 0) && (x15.1 == x16.1)) && (decide (x16.1 ≥ 0))) == true) (Bo (decide (x16.1 < (x11.length : Int)))) skipV), (Bo ((((x15.2 == 0) && (x15.1 == x16.1)) && (decide (x16.1 ≥ 0))) && (decide (x16.1 < (x11.length : Int))))), (Bo ((((x15.2 == 0) && (x15.1 == x16.1)) && (decide (x16.1 ≥ 0))) && (decide (x16.1 < (x11.length : Int))))), (cond (((((x15.2 == 0) && (x15.1 == x16.1)) && (decide (x16.1 ≥ 0))) && (decide (x16.1 < (x11.length : Int)))) == true) (SL 5 c_api_Node x11) skipV), (cond (((((x15.2 == 0) && (x15.1 == x16.1)) && (decide (x16.1 ≥ 0))) && (decide (x16.1 < (x11.length : Int)))) == true) (I x16.1) skipV), (cond (((((x15.2 == 0) && (x15.1 == x16.1)) && (decide (x16.1 ≥ 0))) && (decide (x16.1 < (x11.length : Int)))) == true) (DP (c_api_Node x18)) skipV), (cond (((((x15.2 == 0) && (x15.1 == x16.1)) && (decide (x16.1 ≥ 0))) && (decide (x16.1 < (x11.length : Int)))) == true) (Value.agg (c_api_Node x18).toArray) skipV), (cond (((((x15.2 == 0) && (x15.1 == x16.1)) && (decide (x16.1 ≥ 0))) && (decide (x16.1 < (x11.length : Int)))) == true) (SL 5 c_api_Node x5.1) skipV), (cond (((((x15.2 == 0) && (x15.1 == x16.1)) && (decide (x16.1 ≥ 0))) && (decide (x16.1 < (x11.length : Int)))) == true) (I x16.1) skipV), (cond (((((x15.2 == 0) && (x15.1 == x16.1)) && (decide (x16.1 ≥ 0))) && (decide (x16.1 < (x11.length : Int)))) == true) (DP (c_api_Node x19)) skipV), (cond (((((x15.2 == 0) && (x15.1 == x16.1)) && (decide (x16.1 ≥ 0))) && (decide (x16.1 < (x11.length : Int)))) == true) (Value.agg (c_api_Node x19).toArray) skipV), (cond (((((x15.2 == 0) && (x15.1 == x16.1)) && (decide (x16.1 ≥ 0))) && (decide (x16.1 < (x11.length : Int)))) == true) (Bo (decide (x18 = x19))) skipV), (Bo (((((x15.2 == 0) && (x15.1 == x16.1)) && (decide (x16.1 ≥ 0))) && (decide (x16.1 < (x11.length : Int)))) && (decide (x18 = x19)))), (Bo (((((x15.2 == 0) && (x15.1 == x16.1)) && (decide (x16.1 ≥ 0))) && (decide (x16.1 < (x11.length : Int)))) && (decide (x18 = x19))))]) (LH := [([], ⟨0, []⟩)]) (D := [⟨[(10, none)], [], [0], false⟩, ⟨[(57, some 0)], [0], [0], false⟩, ⟨[(58, some 1)], [0, 1], [0], false⟩, ⟨[(9, none), (59, some 2)], [0, 1, 2], [0], false⟩, ⟨[(11, none), (59, some 2)], [0, 1, 2], [0], false⟩, ⟨[(60, some 3), (61, some 4), (59, some 2)], [0, 1, 2, 3, 4], [0], false⟩, ⟨[(59, some 2), (62, some 5)], [0, 1, 2, 3, 4, 5], [0], false⟩, ⟨[(63, some 6)], [0, 1, 2, 3, 4, 5, 6], [0], false⟩, ⟨[(11, none), (64, some 7)], [0, 1, 2, 3, 4, 5, 6, 7], [0], false⟩, ⟨[(65, some 8), (64, some 7)], [0, 1, 2, 3, 4, 5, 6, 7, 8], [0], false⟩, ⟨[(64, some 7), (66, some 9)], [0, 1, 2, 3, 4, 5, 6, 7, 8, 9], [0], false⟩, ⟨[(67, some 10)], [0, 1, 2, 3, 4, 5, 6, 7, 8, 9, 10], [0], false⟩, ⟨[(11, none), (68, some 11)], [0, 1, 2, 3, 4, 5, 6, 7, 8, 9, 10, 11], [0], false⟩, ⟨[(6, none), (68, some 11)], [0, 1, 2, 3, 4, 5, 6, 7, 8, 9, 10, 11], [0], false⟩, ⟨[(70, some 13), (68, some 11)], [0, 1, 2, 3, 4, 5, 6, 7, 8, 9, 10, 11, 13], [0], false⟩, ⟨[(69, some 12), (71, some 14), (68, some 11)], [0, 1, 2, 3, 4, 5, 6, 7, 8, 9, 10, 11, 12, 13, 14], [0], false⟩, ⟨[(68, some 11), (72, some 15)], [0, 1, 2, 3, 4, 5, 6, 7, 8, 9, 10, 11, 12, 13, 14, 15], [0], false⟩, ⟨[(73, some 16)], [0, 1, 2, 3, 4, 5, 6, 7, 8, 9, 10, 11, 12, 13, 14, 15, 16], [0], false⟩, ⟨[(6, none), (74, some 17)], [0, 1, 2, 3, 4, 5, 6, 7, 8, 9, 10, 11, 12, 13, 14, 15, 16, 17], [0], false⟩, ⟨[(11, none), (74, some 17)], [0, 1, 2, 3, 4, 5, 6, 7, 8, 9, 10, 11, 12, 13, 14, 15, 16, 17], [0], false⟩, ⟨[(75, some 18), (76, some 19), (74, some 17)], [0, 1, 2, 3, 4, 5, 6, 7, 8, 9, 10, 11, 12, 13, 14, 15, 16, 17, 18, 19], [0], false⟩, ⟨[(77, some 20), (74, some 17)], [0, 1, 2, 3, 4, 5, 6, 7, 8, 9, 10, 11, 12, 13, 14, 15, 16, 17, 18, 19, 20], [0], false⟩, ⟨[(5, none), (74, some 17)], [0, 1, 2, 3, 4, 5, 6, 7, 8, 9, 10, 11, 12, 13, 14, 15, 16, 17], [0], false⟩, ⟨[(11, none), (74, some 17)], [0, 1, 2, 3, 4, 5, 6, 7, 8, 9, 10, 11, 12, 13, 14, 15, 16, 17], [0], false⟩, ⟨[(79, some 22), (80, some 23), (74, some 17)], [0, 1, 2, 3, 4, 5, 6, 7, 8, 9, 10, 11, 12, 13, 14, 15, 16, 17, 22, 23], [0], false⟩, ⟨[(81, some 24), (74, some 17)], [0, 1, 2, 3, 4, 5, 6, 7, 8, 9, 10, 11, 12, 13, 14, 15, 16, 17, 22, 23, 24], [0], false⟩, ⟨[(78, some 21), (82, some 25), (74, some 17)], [0, 1, 2, 3, 4, 5, 6, 7, 8, 9, 10, 11, 12, 13, 14, 15, 16, 17, 18, 19, 20, 21, 22, 23, 24, 25], [0], false⟩, ⟨[(74, some 17), (83, some 26)], [0, 1, 2, 3, 4, 5, 6, 7, 8, 9, 10, 11, 12, 13, 14, 15, 16, 17, 18, 19, 20, 21, 22, 23, 24, 25, 26], [0], false⟩, ⟨[(84, some 27)], [0, 1, 2, 3, 4, 5, 6, 7, 8, 9, 10, 11, 12, 13, 14, 15, 16, 17, 18, 19, 20, 21, 22, 23, 24, 25, 26, 27], [0], false⟩]) (S := []) (plan := [0, 1, 2, 3, 4, 5, 6, 7, 8, 9, 10, 11, 12, 13, 14, 15, 16, 17, 18, 19, 20, 21, 22, 23, 24, 25, 26, 27, 28]) mo (by kernel_rfl) rfl rfl rfl (dcons (dstep1 (Tm := [(10, (I x15.2))]) (L := []) (H := ⟨0, []⟩) rfl rfl rfl rfl rfl (astep_do rfl (ex_move (eV (v := (I x15.2)) rfl)))) (dcons (dstep1 (Tm := [(57, (I x15.2))]) (L := []) (H := ⟨0, []⟩) rfl rfl rfl rfl rfl (astep_do rfl (ex_bin (vx := (I x15.2)) (vy := (I 0)) rfl rfl eqlI_ok))) (dcons (dstep1 (Tm := [(58, (Bo (x15.2 == 0)))]) (L := []) (H := ⟨0, []⟩) rfl rfl rfl rfl rfl (astep_do rfl (ex_move (eV (v := (Bo (x15.2 == 0))) rfl)))) (dcons (dstep1 (Tm := [(9, (I x15.1)), (59, (Bo (x15.2 == 0)))]) (L := []) (H := ⟨0, []⟩) rfl rfl rfl rfl rfl (astep_guard (v := (I x15.1)) ((x15.2 == 0) == true) rfl (fun hc => ex_move (eV (v := (I x15.1)) rfl)))) (dcons (dstep1 (Tm := [(11, (I x16.1)), (59, (Bo (x15.2 == 0)))]) (L := []) (H := ⟨0, []⟩) rfl rfl rfl rfl rfl (astep_guard (v := (I x16.1)) ((x15.2 == 0) == true) rfl (fun hc => ex_move (eV (v := (I x16.1)) rfl)))) (dcons (dstep1 (Tm := [(60, (cond ((x15.2 == 0) == true) (I x15.1) skipV)), (61, (cond ((x15.2 == 0) == true) (I x16.1) skipV)), (59, (Bo (x15.2 == 0)))]) (L := []) (H := ⟨0, []⟩) rfl rfl rfl rfl rfl (astep_guard (v := (Bo (x15.1 == x16.1))) ((x15.2 == 0) == true) rfl (fun hc => ex_bin (vx := (I x15.1)) (vy := (I x16.1)) (cond_of hc) (cond_of hc) eqlI_ok))) (dcons (dstep1 (Tm := [(59, (Bo (x15.2 == 0))), (62, (cond ((x15.2 == 0) == true) (Bo (x15.1 == x16.1)) skipV))]) (L := []) (H := ⟨0, []⟩) rfl rfl rfl rfl rfl (astep_do rfl (ex_pick rfl pkAnd))) (dcons (dstep1 (Tm := [(63, (Bo ((x15.2 == 0) && (x15.1 == x16.1))))]) (L := []) (H := ⟨0, []⟩) rfl rfl rfl rfl rfl (astep_do rfl (ex_move (eV (v := (Bo ((x15.2 == 0) && (x15.1 == x16.1)))) rfl)))) (dcons (dstep1 (Tm := [(11, (I x16.1)), (64, (Bo ((x15.2 == 0) && (x15.1 == x16.1))))]) (L := []) (H := ⟨0, []⟩) rfl rfl rfl rfl rfl (astep_guard (v := (I x16.1)) (((x15.2 == 0) && (x15.1 == x16.1)) == true) rfl (fun hc => ex_move (eV (v := (I x16.1)) rfl)))) (dcons (dstep1 (Tm := [(65, (cond (((x15.2 == 0) && (x15.1 == x16.1)) == true) (I x16.1) skipV)), (64, (Bo ((x15.2 == 0) && (x15.1 == x16.1))))]) (L := []) (H := ⟨0, []⟩) rfl rfl rfl rfl rfl (astep_guard (v := (Bo (decide (x16.1 ≥ 0)))) (((x15.2 == 0) && (x15.1 == x16.1)) == true) rfl (fun hc => ex_bin (vx := (I x16.1)) (vy := (I 0)) (cond_of hc) rfl geqI_ok))) (dcons (dstep1 (Tm := [(64, (Bo ((x15.2 == 0) && (x15.1 == x16.1)))), (66, (cond (((x15.2 == 0) && (x15.1 == x16.1)) == true) (Bo (decide (x16.1 ≥ 0))) skipV))]) (L := []) (H := ⟨0, []⟩) rfl rfl rfl rfl rfl (astep_do rfl (ex_pick rfl pkAnd))) (dcons (dstep1 (Tm := [(67, (Bo (((x15.2 == 0) && (x15.1 == x16.1)) && (decide (x16.1 ≥ 0)))))]) (L := []) (H := ⟨0, []⟩) rfl rfl rfl rfl rfl (astep_do rfl (ex_move (eV (v := (Bo (((x15.2 == 0) && (x15.1 == x16.1)) && (decide (x16.1 ≥ 0))))) rfl)))) (dcons (dstep1 (Tm := [(11, (I x16.1)), (68, (Bo (((x15.2 == 0) && (x15.1 == x16.1)) && (decide (x16.1 ≥ 0)))))]) (L := []) (H := ⟨0, []⟩) rfl rfl rfl rfl rfl (astep_guard (v := (I x16.1)) ((((x15.2 == 0) && (x15.1 == x16.1)) && (decide (x16.1 ≥ 0))) == true) rfl (fun hc => ex_move (eV (v := (I x16.1)) rfl)))) (dcons (dstep1 (Tm := [(6, (SL 5 c_api_Node x11)), (68, (Bo (((x15.2 == 0) && (x15.1 == x16.1)) && (decide (x16.1 ≥ 0)))))]) (L := []) (H := ⟨0, []⟩) rfl rfl rfl rfl rfl (astep_guard (v := (SL 5 c_api_Node x11)) ((((x15.2 == 0) && (x15.1 == x16.1)) && (decide (x16.1 ≥ 0))) == true) rfl (fun hc => ex_move (eV (v := (SL 5 c_api_Node x11)) rfl)))) (dcons (dstep1 (Tm := [(70, (cond ((((x15.2 == 0) && (x15.1 == x16.1)) && (decide (x16.1 ≥ 0))) == true) (SL 5 c_api_Node x11) skipV)), (68, (Bo (((x15.2 == 0) && (x15.1 == x16.1)) && (decide (x16.1 ≥ 0)))))]) (L := []) (H := ⟨0, []⟩) rfl rfl rfl rfl rfl (astep_guard (v := (I (x11.length : Int))) ((((x15.2 == 0) && (x15.1 == x16.1)) && (decide (x16.1 ≥ 0))) == true) rfl (fun hc => tx_lenD (xs := x11) ce_api_Node Tryd.underlying25 (cond_of hc)))) (dcons (dstep1 (Tm := [(69, (cond ((((x15.2 == 0) && (x15.1 == x16.1)) && (decide (x16.1 ≥ 0))) == true) (I x16.1) skipV)), (71, (cond ((((x15.2 == 0) && (x15.1 == x16.1)) && (decide (x16.1 ≥ 0))) == true) (I (x11.length : Int)) skipV)), (68, (Bo (((x15.2 == 0) && (x15.1 == x16.1)) && (decide (x16.1 ≥ 0)))))]) (L := []) (H := ⟨0, []⟩) rfl rfl rfl rfl rfl (astep_guard (v := (Bo (decide (x16.1 < (x11.length : Int))))) ((((x15.2 == 0) && (x15.1 == x16.1)) && (decide (x16.1 ≥ 0))) == true) rfl (fun hc => ex_bin (vx := (I x16.1)) (vy := (I (x11.length : Int))) (cond_of hc) (cond_of hc) lssI_ok))) (dcons (dstep1 (Tm := [(68, (Bo (((x15.2 == 0) && (x15.1 == x16.1)) && (decide (x16.1 ≥ 0))))), (72, (cond ((((x15.2 == 0) && (x15.1 == x16.1)) && (decide (x16.1 ≥ 0))) == true) (Bo (decide (x16.1 < (x11.length : Int)))) skipV))]) (L := []) (H := ⟨0, []⟩) rfl rfl rfl rfl rfl (astep_do rfl (ex_pick rfl pkAnd))) (dcons (dstep1 (Tm := [(73, (Bo ((((x15.2 == 0) && (x15.1 == x16.1)) && (decide (x16.1 ≥ 0))) && (decide (x16.1 < (x11.length : Int))))))]) (L := []) (H := ⟨0, []⟩) rfl rfl rfl rfl rfl (astep_do rfl (ex_move (eV (v := (Bo ((((x15.2 == 0) && (x15.1 == x16.1)) && (decide (x16.1 ≥ 0))) && (decide (x16.1 < (x11.length : Int)))))) rfl)))) (dcons (dstep1 (Tm := [(6, (SL 5 c_api_Node x11)), (74, (Bo ((((x15.2 == 0) && (x15.1 == x16.1)) && (decide (x16.1 ≥ 0))) && (decide (x16.1 < (x11.length : Int))))))]) (L := []) (H := ⟨0, []⟩) rfl rfl rfl rfl rfl (astep_guard (v := (SL 5 c_api_Node x11)) (((((x15.2 == 0) && (x15.1 == x16.1)) && (decide (x16.1 ≥ 0))) && (decide (x16.1 < (x11.length : Int)))) == true) rfl (fun hc => ex_move (eV (v := (SL 5 c_api_Node x11)) rfl)))) (dcons (dstep1 (Tm := [(11, (I x16.1)), (74, (Bo ((((x15.2 == 0) && (x15.1 == x16.1)) && (decide (x16.1 ≥ 0))) && (decide (x16.1 < (x11.length : Int))))))]) (L := []) (H := ⟨0, []⟩) rfl rfl rfl rfl rfl (astep_guard (v := (I x16.1)) (((((x15.2 == 0) && (x15.1 == x16.1)) && (decide (x16.1 ≥ 0))) && (decide (x16.1 < (x11.length : Int)))) == true) rfl (fun hc => ex_move (eV (v := (I x16.1)) rfl)))) (dcons (dstep1 (Tm := [(75, (cond (((((x15.2 == 0) && (x15.1 == x16.1)) && (decide (x16.1 ≥ 0))) && (decide (x16.1 < (x11.length : Int)))) == true) (SL 5 c_api_Node x11) skipV)), (76, (cond (((((x15.2 == 0) && (x15.1 == x16.1)) && (decide (x16.1 ≥ 0))) && (decide (x16.1 < (x11.length : Int)))) == true) (I x16.1) skipV)), (74, (Bo ((((x15.2 == 0) && (x15.1 == x16.1)) && (decide (x16.1 ≥ 0))) && (decide (x16.1 < (x11.length : Int))))))]) (L := []) (H := ⟨0, []⟩) rfl rfl rfl rfl rfl (astep_guard (v := (DP (c_api_Node x18))) (((((x15.2 == 0) && (x15.1 == x16.1)) && (decide (x16.1 ≥ 0))) && (decide (x16.1 < (x11.length : Int)))) == true) rfl (fun hc => tx_idxD (c := c_api_Node) (xs := x11) (i := x16.1) ce_api_Node Tryd.underlying25 s_32 (cond_of hc) (cond_of hc) (gd_of hc hx18)))) (dcons (dstep1 (Tm := [(77, (cond (((((x15.2 == 0) && (x15.1 == x16.1)) && (decide (x16.1 ≥ 0))) && (decide (x16.1 < (x11.length : Int)))) == true) (DP (c_api_Node x18)) skipV)), (74, (Bo ((((x15.2 == 0) && (x15.1 == x16.1)) && (decide (x16.1 ≥ 0))) && (decide (x16.1 < (x11.length : Int))))))]) (L := []) (H := ⟨0, []⟩) rfl rfl rfl rfl rfl (astep_guard (v := (Value.agg (c_api_Node x18).toArray)) (((((x15.2 == 0) && (x15.1 == x16.1)) && (decide (x16.1 ≥ 0))) && (decide (x16.1 < (x11.length : Int)))) == true) rfl (fun hc => tx_ldDA (vs := (c_api_Node x18)) Tryd.underlying32 rfl s_32 (by decide) (cond_of hc) (Nat.le_of_ble_eq_true rfl) rfl))) (dcons (dstep1 (Tm := [(5, (SL 5 c_api_Node x5.1)), (74, (Bo ((((x15.2 == 0) && (x15.1 == x16.1)) && (decide (x16.1 ≥ 0))) && (decide (x16.1 < (x11.length : Int))))))]) (L := []) (H := ⟨0, []⟩) rfl rfl rfl rfl rfl (astep_guard (v := (SL 5 c_api_Node x5.1)) (((((x15.2 == 0) && (x15.1 == x16.1)) && (decide (x16.1 ≥ 0))) && (decide (x16.1 < (x11.length : Int)))) == true) rfl (fun hc => ex_move (eV (v := (SL 5 c_api_Node x5.1)) rfl)))) (dcons (dstep1 (Tm := [(11, (I x16.1)), (74, (Bo ((((x15.2 == 0) && (x15.1 == x16.1)) && (decide (x16.1 ≥ 0))) && (decide (x16.1 < (x11.length : Int))))))]) (L := []) (H := ⟨0, []⟩) rfl rfl rfl rfl rfl (astep_guard (v := (I x16.1)) (((((x15.2 == 0) && (x15.1 == x16.1)) && (decide (x16.1 ≥ 0))) && (decide (x16.1 < (x11.length : Int)))) == true) rfl (fun hc => ex_move (eV (v := (I x16.1)) rfl)))) (dcons (dstep1 (Tm := [(79, (cond (((((x15.2 == 0) && (x15.1 == x16.1)) && (decide (x16.1 ≥ 0))) && (decide (x16.1 < (x11.length : Int)))) == true) (SL 5 c_api_Node x5.1) skipV)), (80, (cond (((((x15.2 == 0) && (x15.1 == x16.1)) && (decide (x16.1 ≥ 0))) && (decide (x16.1 < (x11.length : Int)))) == true) (I x16.1) skipV)), (74, (Bo ((((x15.2 == 0) && (x15.1 == x16.1)) && (decide (x16.1 ≥ 0))) && (decide (x16.1 < (x11.length : Int))))))]) (L := []) (H := ⟨0, []⟩) rfl rfl rfl rfl rfl (astep_guard (v := (DP (c_api_Node x19))) (((((x15.2 == 0) && (x15.1 == x16.1)) && (decide (x16.1 ≥ 0))) && (decide (x16.1 < (x11.length : Int)))) == true) rfl (fun hc => tx_idxD (c := c_api_Node) (xs := x5.1) (i := x16.1) ce_api_Node Tryd.underlying25 s_32 (cond_of hc) (cond_of hc) (gd_of hc hx19)))) (dcons (dstep1 (Tm := [(81, (cond (((((x15.2 == 0) && (x15.1 == x16.1)) && (decide (x16.1 ≥ 0))) && (decide (x16.1 < (x11.length : Int)))) == true) (DP (c_api_Node x19)) skipV)), (74, (Bo ((((x15.2 == 0) && (x15.1 == x16.1)) && (decide (x16.1 ≥ 0))) && (decide (x16.1 < (x11.length : Int))))))]) (L := []) (H := ⟨0, []⟩) rfl rfl rfl rfl rfl (astep_guard (v := (Value.agg (c_api_Node x19).toArray)) (((((x15.2 == 0) && (x15.1 == x16.1)) && (decide (x16.1 ≥ 0))) && (decide (x16.1 < (x11.length : Int)))) == true) rfl (fun hc => tx_ldDA (vs := (c_api_Node x19)) Tryd.underlying32 rfl s_32 (by decide) (cond_of hc) (Nat.le_of_ble_eq_true rfl) rfl))) (dcons (dstep1 (Tm := [(78, (cond (((((x15.2 == 0) && (x15.1 == x16.1)) && (decide (x16.1 ≥ 0))) && (decide (x16.1 < (x11.length : Int)))) == true) (Value.agg (c_api_Node x18).toArray) skipV)), (82, (cond (((((x15.2 == 0) && (x15.1 == x16.1)) && (decide (x16.1 ≥ 0))) && (decide (x16.1 < (x11.length : Int)))) == true) (Value.agg (c_api_Node x19).toArray) skipV)), (74, (Bo ((((x15.2 == 0) && (x15.1 == x16.1)) && (decide (x16.1 ≥ 0))) && (decide (x16.1 < (x11.length : Int))))))]) (L := []) (H := ⟨0, []⟩) rfl rfl rfl rfl rfl (astep_guard (v := (Bo (decide (x18 = x19)))) (((((x15.2 == 0) && (x15.1 == x16.1)) && (decide (x16.1 ≥ 0))) && (decide (x16.1 < (x11.length : Int)))) == true) rfl (fun hc => ex_bin (vx := (Value.agg (c_api_Node x18).toArray)) (vy := (Value.agg (c_api_Node x19).toArray)) (cond_of hc) (cond_of hc) eql_32))) (dcons (dstep1 (Tm := [(74, (Bo ((((x15.2 == 0) && (x15.1 == x16.1)) && (decide (x16.1 ≥ 0))) && (decide (x16.1 < (x11.length : Int)))))), (83, (cond (((((x15.2 == 0) && (x15.1 == x16.1)) && (decide (x16.1 ≥ 0))) && (decide (x16.1 < (x11.length : Int)))) == true) (Bo (decide (x18 = x19))) skipV))]) (L := []) (H := ⟨0, []⟩) rfl rfl rfl rfl rfl (astep_do rfl (ex_pick rfl pkAnd))) (dcons (dstep1 (Tm := [(84, (Bo (((((x15.2 == 0) && (x15.1 == x16.1)) && (decide (x16.1 ≥ 0))) && (decide (x16.1 < (x11.length : Int)))) && (decide (x18 = x19)))))]) (L := []) (H := ⟨0, []⟩) rfl rfl rfl rfl rfl (astep_do rfl (ex_assign (eV (v := (Bo (((((x15.2 == 0) && (x15.1 == x16.1)) && (decide (x16.1 ≥ 0))) && (decide (x16.1 < (x11.length : Int)))) && (decide (x18 = x19))))) rfl)))) dnil))))))))))))))))))))))))))))) ⟨rfl, rfl⟩) (by kernel_rfl) (by kernel_rfl) ?_
          show AWp _ _ _ _
          refine awp_ret ?_
          cases h
          exact ares1 (rtmp rfl (eV rfl))
        · rw [condF hb17] at h
          refine awp_condF (boF hb17) ?_
          refine awp_skip ?_
          show AWp _ _ _ _
          refine awp_seq ?_
          refine awp_region ?_
          refine arun_do rfl rfl rfl (ex_move (eV (v := (I x16.2)) rfl)) ?_
          refine arun_do rfl rfl rfl (ex_move (eV (v := (I x15.2)) rfl)) ?_
          refine arun_do rfl rfl rfl (ex_bin (vx := (I x16.2)) (vy := (I x15.2)) rfl rfl eqlI_ok) ?_
          refine arun_do rfl rfl rfl (ex_move (eV (v := (Bo (x16.2 == x15.2))) rfl)) ?_
          refine arun_guard (v := (I x16.2)) ((x16.2 == x15.2) == true) rfl rfl rfl (fun hc => ex_move (eV (v := (I x16.2)) rfl)) ?_
          refine arun_guard (v := (Bo (x16.2 == 1))) ((x16.2 == x15.2) == true) rfl rfl rfl (fun hc => ex_bin (vx := (I x16.2)) (vy := (I 1)) (cond_of hc) rfl eqlI_ok) ?_
          refine arun_guard (v := (Bo (x16.2 == 1))) ((x16.2 == x15.2) == true) rfl rfl rfl (fun hc => ex_move (eV (v := (Bo (x16.2 == 1))) (cond_of hc))) ?_
          refine arun_guard (v := (I x16.2)) (((x16.2 == x15.2) == true) && ((x16.2 == 1) == false)) rfl rfl gv_nest (fun hc => ex_move (eV (v := (I x16.2)) rfl)) ?_
          refine arun_guard (v := (Bo (x16.2 == 5))) (((x16.2 == x15.2) == true) && ((x16.2 == 1) == false)) rfl rfl gv_nest (fun hc => ex_bin (vx := (I x16.2)) (vy := (I 5)) (cond_of hc) rfl eqlI_ok) ?_
          refine arun_guard (v := (Bo ((x16.2 == 1) || (x16.2 == 5)))) ((x16.2 == x15.2) == true) rfl rfl rfl (fun hc => ex_pick (cond_of hc) (pkOrN hc)) ?_
          refine arun_do rfl rfl rfl (ex_pick rfl pkAnd) ?_
          refine arun_do rfl rfl rfl (ex_move (eV (v := (Bo ((x16.2 == x15.2) && ((x16.2 == 1) || (x16.2 == 5))))) rfl)) ?_
          refine arun_guard (v := (I x16.2)) (((x16.2 == x15.2) && ((x16.2 == 1) || (x16.2 == 5))) == false) rfl rfl rfl (fun hc => ex_move (eV (v := (I x16.2)) rfl)) ?_
          refine arun_guard (v := (Bo (x16.2 == 12))) (((x16.2 == x15.2) && ((x16.2 == 1) || (x16.2 == 5))) == false) rfl rfl rfl (fun hc => ex_bin (vx := (I x16.2)) (vy := (I 12)) (cond_of hc) rfl eqlI_ok) ?_
          refine arun_do rfl rfl rfl (ex_pick rfl pkOr) ?_
          refine arun_do rfl rfl rfl (ex_assign (eV (v := (Bo (((x16.2 == x15.2) && ((x16.2 == 1) || (x16.2 == 5))) || (x16.2 == 12)))) rfl)) ?_
          refine arun_keepE [4] 0 0 (st' := ⟨100, 0, [(4, (Bo (((x16.2 == x15.2) && ((x16.2 == 1) || (x16.2 == 5))) || (x16.2 == 12))))], [], ⟨0, []⟩⟩) (by kernel_rfl) (by kernel_rfl) ?_
          show AWp _ _ _ _
          refine awp_ret ?_
          cases h
          exact ares1 (rtmp rfl (eV rfl))

end Go.Proofs
