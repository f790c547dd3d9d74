/- Pure models of functions of the program, and that its code does what they say: edit Drop, palimpref11 MayName. Written by a program. -/
import Derived.Test.YtlcclhkbmkmfkaaDoorREO2
import Derived.Test.YtlcclhkbmkmfkaaDoorREO4
import Derived.Test.YtlcclhkbmkmfkaaDoorREO5
import Derived.Test.YtlcclhkbmkmfkaaDoorREOB
set_option maxRecDepth 20000
set_option maxHeartbeats 4000000
namespace Go.Proofs
open Go Go.Fhl
set_option linter.unusedVariables false
set_option linter.unusedSimpArgs false
noncomputable def M_edit_Drop (t0 : (List G_api_Node)) (t1 : Str) : Option ((List G_api_Node) × Int) :=
  Option.bind (M_walk_Find t0 t1) fun (x1 : (Int × Int)) => Option.bind (M_slices_Clone_api_Set_api_Node t0) fun (x2 : (List G_api_Node)) => cond (x1.2 != 0) (some (x2, x1.2)) (cond (x1.1 == 0) (some (x2, 4)) (Option.bind (M_node_Kids t0 x1.1) fun (x5 : (List Int)) => cond (decide ((x5.length : Int) > 0)) (some (x2, 6)) (Option.bind (getI x2 x1.1) fun (x7 : G_api_Node) => Option.bind (setI x2 x1.1 (G_api_Node.mk 0 0 [] [] 0)) fun (x8 : List G_api_Node) => some (x8, 0))))
theorem ok_edit_Drop (t0 : (List G_api_Node)) (t1 : Str) (r : ((List G_api_Node) × Int)) (h : M_edit_Drop t0 t1 = some r) : FFn Tryd.prog 9 [(SL 5 c_api_Node t0), (S t1)] (Value.tuple #[(SL 5 c_api_Node r.1), (I r.2)]) := by
  refine FFn.of_body (n := 38) Tryd.func9 rfl Tryd.ntmps9 rfl rfl rfl rfl ?_
  show AWp _ _ _ ⟨38, 0, [(0, (SL 5 c_api_Node t0)), (1, (S t1))], [], ⟨0, []⟩⟩
  unfold M_edit_Drop at h
  refine awp_seq ?_
  refine awp_region ?_
  refine arun_do rfl rfl rfl (ex_assign (eV (v := (Value.slice none 0 0)) rfl)) ?_
  refine arun_do rfl rfl rfl (ex_assign (eV (v := (I 0)) rfl)) ?_
  refine arun_keepE [0, 1] 0 0 (st' := ⟨38, 0, [(0, (SL 5 c_api_Node t0)), (1, (S t1))], [], ⟨0, []⟩⟩) (by kernel_rfl) (by kernel_rfl) ?_
  show AWp _ _ _ _
  refine awp_seq ?_
  refine awp_region ?_
  refine arun_do rfl rfl rfl (ex_move (eV (v := (SL 5 c_api_Node t0)) rfl)) ?_
  refine arun_do rfl rfl rfl (ex_move (eV (v := (S t1)) rfl)) ?_
  obtain ⟨x1, hx1, h⟩ := bindS h
  refine arun_do rfl rfl rfl (ex_call0 (vs := [(SL 5 c_api_Node t0), (S t1)]) (v := (Value.tuple #[(I x1.1), (I x1.2)])) rfl en_23 (cargs (evs rfl (evs rfl evs_nil))) rfl (ok_walk_Find t0 t1 x1 hx1) rfl) ?_
  refine arun_do rfl rfl rfl (ex_move (eV (v := (Value.tuple #[(I x1.1), (I x1.2)])) rfl)) ?_
  refine arun_do rfl rfl rfl (ex_extract (vx := (Value.tuple #[(I x1.1), (I x1.2)])) (v := (I x1.1)) rfl rfl) ?_
  refine arun_do rfl rfl rfl (ex_extract (vx := (Value.tuple #[(I x1.1), (I x1.2)])) (v := (I x1.2)) rfl rfl) ?_
  refine arun_do rfl rfl rfl (ex_assign (eV (v := (I x1.1)) rfl)) ?_
  refine arun_do rfl rfl rfl (ex_assign (eV (v := (I x1.2)) rfl)) ?_
  refine arun_keepE [0, 6, 7] 0 0 (st' := ⟨38, 0, [(0, (SL 5 c_api_Node t0)), (6, (I x1.1)), (7, (I x1.2))], [], ⟨0, []⟩⟩) (by kernel_rfl) (by kernel_rfl) ?_
  show AWp _ _ _ _
  refine awp_seq ?_
  refine awp_region ?_
  refine arun_do rfl rfl rfl (ex_move (eV (v := (SL 5 c_api_Node t0)) rfl)) ?_
  obtain ⟨x2, hx2, h⟩ := bindS h
  refine arun_do rfl rfl rfl (ex_callOw (vs := [(SL 5 c_api_Node t0)]) (k := 0) (len := x2.length) (b := ⟨5, ((x2).flatMap c_api_Node), true⟩) (H' := ⟨1, [(0, ⟨5, ((x2).flatMap c_api_Node), true⟩)]⟩) rfl en_22 (cargs (evs rfl evs_nil)) rfl (okw_slices_Clone_api_Set_api_Node t0 x2 hx2) rfl rfl) ?_
  refine arun_do rfl rfl rfl (ex_assign (eV (v := (GV 0 x2.length)) rfl)) ?_
  refine arun_keepE [0, 6, 7, 8] 0 1 (st' := ⟨38, 0, [(0, (SL 5 c_api_Node t0)), (6, (I x1.1)), (7, (I x1.2)), (8, (GV 0 x2.length))], [], ⟨1, [(0, ⟨5, ((x2).flatMap c_api_Node), true⟩)]⟩⟩) (by kernel_rfl) (by kernel_rfl) ?_
  show AWp _ _ _ _
  refine awp_seq ?_
  refine awp_block ?_
  refine awp_seq ?_
  refine awp_region ?_
  refine arun_do rfl rfl rfl (ex_move (eV (v := (I x1.2)) rfl)) ?_
  refine arun_do rfl rfl rfl (ex_bin (vx := (I x1.2)) (vy := (I 0)) rfl rfl neqI_ok) ?_
  refine arun_do rfl rfl rfl (ex_assign (eV (v := (Bo (x1.2 != 0))) rfl)) ?_
  refine arun_keepE [0, 6, 7, 8, 17] 0 1 (st' := ⟨38, 0, [(0, (SL 5 c_api_Node t0)), (6, (I x1.1)), (7, (I x1.2)), (8, (GV 0 x2.length)), (17, (Bo (x1.2 != 0)))], [], ⟨1, [(0, ⟨5, ((x2).flatMap c_api_Node), true⟩)]⟩⟩) (by kernel_rfl) (by kernel_rfl) ?_
  show AWp _ _ _ _
  rcases Bool.eq_false_or_eq_true (x1.2 != 0) with hb3 | hb3
  · rw [condT hb3] at h
    refine awp_condT (boT hb3) ?_
    refine awp_seq ?_
    refine awp_region ?_
    refine arun_do rfl rfl rfl (ex_move (eV (v := (GV 0 x2.length)) rfl)) ?_
    refine arun_do rfl rfl rfl (ex_move (eV (v := (I x1.2)) rfl)) ?_
    refine arun_do rfl rfl rfl (ex_assign (eV (v := (GV 0 x2.length)) rfl)) ?_
    refine arun_do rfl rfl rfl (ex_assign (eV (v := (I x1.2)) rfl)) ?_
    refine arun_keepE [4, 5] 0 1 (st' := ⟨38, 0, [(4, (GV 0 x2.length)), (5, (I x1.2))], [], ⟨1, [(0, ⟨5, ((x2).flatMap c_api_Node), true⟩)]⟩⟩) (by kernel_rfl) (by kernel_rfl) ?_
    show AWp _ _ _ _
    refine awp_freeze 0 (bk := ⟨5, ((x2).flatMap c_api_Node), true⟩) (T' := [(4, (SL 5 c_api_Node x2)), (5, (I x1.2))]) (L' := []) rfl (fzG ce_api_Node rfl rfl (FzT.keep (v := (I x1.2)) rfl FzT.nil)) (FzL.refl _) ?_
    show AWp _ _ _ ⟨38, 0, [(4, (SL 5 c_api_Node x2)), (5, (I x1.2))], [], ⟨1, []⟩⟩
    refine awp_ret ?_
    cases h
    exact aresN rfl (L2.cons (rtmp rfl (eV rfl)) (L2.cons (rtmp rfl (eV rfl)) L2.nil)) rfl
  · rw [condF hb3] at h
    refine awp_condF (boF hb3) ?_
    refine awp_seq ?_
    refine awp_region ?_
    refine arun_do rfl rfl rfl (ex_move (eV (v := (I x1.1)) rfl)) ?_
    refine arun_do rfl rfl rfl (ex_bin (vx := (I x1.1)) (vy := (I 0)) rfl rfl eqlI_ok) ?_
    refine arun_do rfl rfl rfl (ex_assign (eV (v := (Bo (x1.1 == 0))) rfl)) ?_
    refine arun_keepE [0, 6, 8, 22] 0 1 (st' := ⟨38, 0, [(0, (SL 5 c_api_Node t0)), (6, (I x1.1)), (8, (GV 0 x2.length)), (22, (Bo (x1.1 == 0)))], [], ⟨1, [(0, ⟨5, ((x2).flatMap c_api_Node), true⟩)]⟩⟩) (by kernel_rfl) (by kernel_rfl) ?_
    show AWp _ _ _ _
    rcases Bool.eq_false_or_eq_true (x1.1 == 0) with hb4 | hb4
    · rw [condT hb4] at h
      refine awp_condT (boT hb4) ?_
      refine awp_seq ?_
      refine awp_region ?_
      refine arun_do rfl rfl rfl (ex_move (eV (v := (GV 0 x2.length)) rfl)) ?_
      refine arun_do rfl rfl rfl (ex_assign (eV (v := (GV 0 x2.length)) rfl)) ?_
      refine arun_do rfl rfl rfl (ex_assign (eV (v := (I 4)) rfl)) ?_
      refine arun_keepE [4, 5] 0 1 (st' := ⟨38, 0, [(4, (GV 0 x2.length)), (5, (I 4))], [], ⟨1, [(0, ⟨5, ((x2).flatMap c_api_Node), true⟩)]⟩⟩) (by kernel_rfl) (by kernel_rfl) ?_
      show AWp _ _ _ _
      refine awp_freeze 0 (bk := ⟨5, ((x2).flatMap c_api_Node), true⟩) (T' := [(4, (SL 5 c_api_Node x2)), (5, (I 4))]) (L' := []) rfl (fzG ce_api_Node rfl rfl (FzT.keep (v := (I 4)) rfl FzT.nil)) (FzL.refl _) ?_
      show AWp _ _ _ ⟨38, 0, [(4, (SL 5 c_api_Node x2)), (5, (I 4))], [], ⟨1, []⟩⟩
      refine awp_ret ?_
      cases h
      exact aresN rfl (L2.cons (rtmp rfl (eV rfl)) (L2.cons (rtmp rfl (eV rfl)) L2.nil)) rfl
    · rw [condF hb4] at h
      refine awp_condF (boF hb4) ?_
      refine awp_seq ?_
      refine awp_region ?_
      refine arun_do rfl rfl rfl (ex_move (eV (v := (SL 5 c_api_Node t0)) rfl)) ?_
      refine arun_do rfl rfl rfl (ex_move (eV (v := (I x1.1)) rfl)) ?_
      obtain ⟨x5, hx5, h⟩ := bindS h
      refine arun_do rfl rfl rfl (ex_call0 (vs := [(SL 5 c_api_Node t0), (I x1.1)]) (v := (SL 1 cI x5)) rfl en_24 (cargs (evs rfl (evs rfl evs_nil))) rfl (ok_node_Kids t0 x1.1 x5 hx5) rfl) ?_
      refine arun_do rfl rfl rfl (tx_lenD (xs := x5) ceI Tryd.underlying29 rfl) ?_
      refine arun_do rfl rfl rfl (ex_bin (vx := (I (x5.length : Int))) (vy := (I 0)) rfl rfl gtrI_ok) ?_
      refine arun_do rfl rfl rfl (ex_assign (eV (v := (Bo (decide ((x5.length : Int) > 0)))) rfl)) ?_
      refine arun_keepE [6, 8, 26] 0 1 (st' := ⟨38, 0, [(6, (I x1.1)), (8, (GV 0 x2.length)), (26, (Bo (decide ((x5.length : Int) > 0))))], [], ⟨1, [(0, ⟨5, ((x2).flatMap c_api_Node), true⟩)]⟩⟩) (by kernel_rfl) (by kernel_rfl) ?_
      show AWp _ _ _ _
      rcases Bool.eq_false_or_eq_true (decide ((x5.length : Int) > 0)) with hb6 | hb6
      · rw [condT hb6] at h
        refine awp_condT (boT hb6) ?_
        refine awp_seq ?_
        refine awp_region ?_
        refine arun_do rfl rfl rfl (ex_move (eV (v := (GV 0 x2.length)) rfl)) ?_
        refine arun_do rfl rfl rfl (ex_assign (eV (v := (GV 0 x2.length)) rfl)) ?_
        refine arun_do rfl rfl rfl (ex_assign (eV (v := (I 6)) rfl)) ?_
        refine arun_keepE [4, 5] 0 1 (st' := ⟨38, 0, [(4, (GV 0 x2.length)), (5, (I 6))], [], ⟨1, [(0, ⟨5, ((x2).flatMap c_api_Node), true⟩)]⟩⟩) (by kernel_rfl) (by kernel_rfl) ?_
        show AWp _ _ _ _
        refine awp_freeze 0 (bk := ⟨5, ((x2).flatMap c_api_Node), true⟩) (T' := [(4, (SL 5 c_api_Node x2)), (5, (I 6))]) (L' := []) rfl (fzG ce_api_Node rfl rfl (FzT.keep (v := (I 6)) rfl FzT.nil)) (FzL.refl _) ?_
        show AWp _ _ _ ⟨38, 0, [(4, (SL 5 c_api_Node x2)), (5, (I 6))], [], ⟨1, []⟩⟩
        refine awp_ret ?_
        cases h
        exact aresN rfl (L2.cons (rtmp rfl (eV rfl)) (L2.cons (rtmp rfl (eV rfl)) L2.nil)) rfl
      · rw [condF hb6] at h
        refine awp_condF (boF hb6) ?_
        refine awp_skip ?_
        show AWp _ _ _ _
        refine awp_seq ?_
        refine awp_region ?_
        refine arun_do rfl rfl rfl (ex_move (eV (v := (GV 0 x2.length)) rfl)) ?_
        refine arun_do rfl rfl rfl (ex_move (eV (v := (I x1.1)) rfl)) ?_
        refine arun_do rfl rfl rfl (ex_build (qs := []) (v := (Value.agg (c_api_Node (G_api_Node.mk 0 0 [] [] 0)).toArray)) evp_nil (by kernel_rfl)) ?_
        obtain ⟨x7, hx7, h⟩ := bindS h
        refine arun_do rfl rfl rfl (tx_idxG (c := c_api_Node) (xs := x2) (i := x1.1) ce_api_Node Tryd.underlying25 s_39 rfl rfl rfl rfl hx7) ?_
        obtain ⟨x8, hx8, h⟩ := bindS h
        refine arun_do0 rfl rfl (tx_stG (c := c_api_Node) (xs := x2) (e := (G_api_Node.mk 0 0 [] [] 0)) (H' := ⟨1, [(0, ⟨5, ((x8).flatMap c_api_Node), true⟩)]⟩) ce_api_Node s_39 rfl (eV (v := (Value.agg (c_api_Node (G_api_Node.mk 0 0 [] [] 0)).toArray)) rfl) rfl rfl hx8 rfl) ?_
        refine arun_fewer (T' := [(6, (I x1.1)), (8, (GV 0 x8.length)), (26, (Bo (decide ((x5.length : Int) > 0)))), (33, (GV 0 x8.length)), (34, (I x1.1)), (35, (Value.agg (c_api_Node (G_api_Node.mk 0 0 [] [] 0)).toArray))]) (ReT.keep (v := (I x1.1)) rfl (ReT.gv rfl (setI_len hx8) (ReT.keep (v := (Bo (decide ((x5.length : Int) > 0)))) rfl (ReT.gv rfl (setI_len hx8) (ReT.keep (v := (I x1.1)) rfl (ReT.keep (v := (Value.agg (c_api_Node (G_api_Node.mk 0 0 [] [] 0)).toArray)) rfl ReT.nil)))))) ?_
        refine arun_keepE [8] 0 1 (st' := ⟨38, 0, [(8, (GV 0 x8.length))], [], ⟨1, [(0, ⟨5, ((x8).flatMap c_api_Node), true⟩)]⟩⟩) (by kernel_rfl) (by kernel_rfl) ?_
        show AWp _ _ _ _
        refine awp_seq ?_
        refine awp_region ?_
        refine arun_do rfl rfl rfl (ex_move (eV (v := (GV 0 x8.length)) rfl)) ?_
        refine arun_do rfl rfl rfl (ex_assign (eV (v := (GV 0 x8.length)) rfl)) ?_
        refine arun_do rfl rfl rfl (ex_assign (eV (v := (I 0)) rfl)) ?_
        refine arun_keepE [4, 5] 0 1 (st' := ⟨38, 0, [(4, (GV 0 x8.length)), (5, (I 0))], [], ⟨1, [(0, ⟨5, ((x8).flatMap c_api_Node), true⟩)]⟩⟩) (by kernel_rfl) (by kernel_rfl) ?_
        show AWp _ _ _ _
        refine awp_freeze 0 (bk := ⟨5, ((x8).flatMap c_api_Node), true⟩) (T' := [(4, (SL 5 c_api_Node x8)), (5, (I 0))]) (L' := []) rfl (fzG ce_api_Node rfl rfl (FzT.keep (v := (I 0)) rfl FzT.nil)) (FzL.refl _) ?_
        show AWp _ _ _ ⟨38, 0, [(4, (SL 5 c_api_Node x8)), (5, (I 0))], [], ⟨1, []⟩⟩
        refine awp_ret ?_
        cases h
        exact aresN rfl (L2.cons (rtmp rfl (eV rfl)) (L2.cons (rtmp rfl (eV rfl)) L2.nil)) rfl


theorem okw_edit_Drop (t0 : (List G_api_Node)) (t1 : Str) (r : ((List G_api_Node) × Int)) (h : M_edit_Drop t0 t1 = some r) : FOw2 Tryd.prog 9 [(SL 5 c_api_Node t0), (S t1)] r.1.length r.2 ⟨5, (r.1).flatMap c_api_Node, true⟩ := by
  refine FOw2.of_body (n := 38) Tryd.func9 rfl Tryd.ntmps9 rfl rfl rfl ?_
  show AWp _ _ _ ⟨38, 0, [(0, (SL 5 c_api_Node t0)), (1, (S t1))], [], ⟨0, []⟩⟩
  unfold M_edit_Drop at h
  refine awp_seq ?_
  refine awp_region ?_
  refine arun_do rfl rfl rfl (ex_assign (eV (v := (Value.slice none 0 0)) rfl)) ?_
  refine arun_do rfl rfl rfl (ex_assign (eV (v := (I 0)) rfl)) ?_
  refine arun_keepE [0, 1] 0 0 (st' := ⟨38, 0, [(0, (SL 5 c_api_Node t0)), (1, (S t1))], [], ⟨0, []⟩⟩) (by kernel_rfl) (by kernel_rfl) ?_
  show AWp _ _ _ _
  refine awp_seq ?_
  refine awp_region ?_
  refine arun_do rfl rfl rfl (ex_move (eV (v := (SL 5 c_api_Node t0)) rfl)) ?_
  refine arun_do rfl rfl rfl (ex_move (eV (v := (S t1)) rfl)) ?_
  obtain ⟨x1, hx1, h⟩ := bindS h
  refine arun_do rfl rfl rfl (ex_call0 (vs := [(SL 5 c_api_Node t0), (S t1)]) (v := (Value.tuple #[(I x1.1), (I x1.2)])) rfl en_23 (cargs (evs rfl (evs rfl evs_nil))) rfl (ok_walk_Find t0 t1 x1 hx1) rfl) ?_
  refine arun_do rfl rfl rfl (ex_move (eV (v := (Value.tuple #[(I x1.1), (I x1.2)])) rfl)) ?_
  refine arun_do rfl rfl rfl (ex_extract (vx := (Value.tuple #[(I x1.1), (I x1.2)])) (v := (I x1.1)) rfl rfl) ?_
  refine arun_do rfl rfl rfl (ex_extract (vx := (Value.tuple #[(I x1.1), (I x1.2)])) (v := (I x1.2)) rfl rfl) ?_
  refine arun_do rfl rfl rfl (ex_assign (eV (v := (I x1.1)) rfl)) ?_
  refine arun_do rfl rfl rfl (ex_assign (eV (v := (I x1.2)) rfl)) ?_
  refine arun_keepE [0, 6, 7] 0 0 (st' := ⟨38, 0, [(0, (SL 5 c_api_Node t0)), (6, (I x1.1)), (7, (I x1.2))], [], ⟨0, []⟩⟩) (by kernel_rfl) (by kernel_rfl) ?_
  show AWp _ _ _ _
  refine awp_seq ?_
  refine awp_region ?_
  refine arun_do rfl rfl rfl (ex_move (eV (v := (SL 5 c_api_Node t0)) rfl)) ?_
  obtain ⟨x2, hx2, h⟩ := bindS h
  refine arun_do rfl rfl rfl (ex_callOw (vs := [(SL 5 c_api_Node t0)]) (k := 0) (len := x2.length) (b := ⟨5, ((x2).flatMap c_api_Node), true⟩) (H' := ⟨1, [(0, ⟨5, ((x2).flatMap c_api_Node), true⟩)]⟩) rfl en_22 (cargs (evs rfl evs_nil)) rfl (okw_slices_Clone_api_Set_api_Node t0 x2 hx2) rfl rfl) ?_
  refine arun_do rfl rfl rfl (ex_assign (eV (v := (GV 0 x2.length)) rfl)) ?_
  refine arun_keepE [0, 6, 7, 8] 0 1 (st' := ⟨38, 0, [(0, (SL 5 c_api_Node t0)), (6, (I x1.1)), (7, (I x1.2)), (8, (GV 0 x2.length))], [], ⟨1, [(0, ⟨5, ((x2).flatMap c_api_Node), true⟩)]⟩⟩) (by kernel_rfl) (by kernel_rfl) ?_
  show AWp _ _ _ _
  refine awp_seq ?_
  refine awp_block ?_
  refine awp_seq ?_
  refine awp_region ?_
  refine arun_do rfl rfl rfl (ex_move (eV (v := (I x1.2)) rfl)) ?_
  refine arun_do rfl rfl rfl (ex_bin (vx := (I x1.2)) (vy := (I 0)) rfl rfl neqI_ok) ?_
  refine arun_do rfl rfl rfl (ex_assign (eV (v := (Bo (x1.2 != 0))) rfl)) ?_
  refine arun_keepE [0, 6, 7, 8, 17] 0 1 (st' := ⟨38, 0, [(0, (SL 5 c_api_Node t0)), (6, (I x1.1)), (7, (I x1.2)), (8, (GV 0 x2.length)), (17, (Bo (x1.2 != 0)))], [], ⟨1, [(0, ⟨5, ((x2).flatMap c_api_Node), true⟩)]⟩⟩) (by kernel_rfl) (by kernel_rfl) ?_
  show AWp _ _ _ _
  rcases Bool.eq_false_or_eq_true (x1.2 != 0) with hb3 | hb3
  · rw [condT hb3] at h
    refine awp_condT (boT hb3) ?_
    refine awp_seq ?_
    refine awp_region ?_
    refine arun_do rfl rfl rfl (ex_move (eV (v := (GV 0 x2.length)) rfl)) ?_
    refine arun_do rfl rfl rfl (ex_move (eV (v := (I x1.2)) rfl)) ?_
    refine arun_do rfl rfl rfl (ex_assign (eV (v := (GV 0 x2.length)) rfl)) ?_
    refine arun_do rfl rfl rfl (ex_assign (eV (v := (I x1.2)) rfl)) ?_
    refine arun_keepE [4, 5] 0 1 (st' := ⟨38, 0, [(4, (GV 0 x2.length)), (5, (I x1.2))], [], ⟨1, [(0, ⟨5, ((x2).flatMap c_api_Node), true⟩)]⟩⟩) (by kernel_rfl) (by kernel_rfl) ?_
    show AWp _ _ _ _
    refine awp_ret ?_
    cases h
    exact And.intro (aresN rfl (L2.cons (rtmp rfl (eV rfl)) (L2.cons (rtmp rfl (eV rfl)) L2.nil)) rfl) (And.intro rfl rfl)
  · rw [condF hb3] at h
    refine awp_condF (boF hb3) ?_
    refine awp_seq ?_
    refine awp_region ?_
    refine arun_do rfl rfl rfl (ex_move (eV (v := (I x1.1)) rfl)) ?_
    refine arun_do rfl rfl rfl (ex_bin (vx := (I x1.1)) (vy := (I 0)) rfl rfl eqlI_ok) ?_
    refine arun_do rfl rfl rfl (ex_assign (eV (v := (Bo (x1.1 == 0))) rfl)) ?_
    refine arun_keepE [0, 6, 8, 22] 0 1 (st' := ⟨38, 0, [(0, (SL 5 c_api_Node t0)), (6, (I x1.1)), (8, (GV 0 x2.length)), (22, (Bo (x1.1 == 0)))], [], ⟨1, [(0, ⟨5, ((x2).flatMap c_api_Node), true⟩)]⟩⟩) (by kernel_rfl) (by kernel_rfl) ?_
    show AWp _ _ _ _
    rcases Bool.eq_false_or_eq_true (x1.1 == 0) with hb4 | hb4
    · rw [condT hb4] at h
      refine awp_condT (boT hb4) ?_
      refine awp_seq ?_
      refine awp_region ?_
      refine arun_do rfl rfl rfl (ex_move (eV (v := (GV 0 x2.length)) rfl)) ?_
      refine arun_do rfl rfl rfl (ex_assign (eV (v := (GV 0 x2.length)) rfl)) ?_
      refine arun_do rfl rfl rfl (ex_assign (eV (v := (I 4)) rfl)) ?_
      refine arun_keepE [4, 5] 0 1 (st' := ⟨38, 0, [(4, (GV 0 x2.length)), (5, (I 4))], [], ⟨1, [(0, ⟨5, ((x2).flatMap c_api_Node), true⟩)]⟩⟩) (by kernel_rfl) (by kernel_rfl) ?_
      show AWp _ _ _ _
      refine awp_ret ?_
      cases h
      exact And.intro (aresN rfl (L2.cons (rtmp rfl (eV rfl)) (L2.cons (rtmp rfl (eV rfl)) L2.nil)) rfl) (And.intro rfl rfl)
    · rw [condF hb4] at h
      refine awp_condF (boF hb4) ?_
      refine awp_seq ?_
      refine awp_region ?_
      refine arun_do rfl rfl rfl (ex_move (eV (v := (SL 5 c_api_Node t0)) rfl)) ?_
      refine arun_do rfl rfl rfl (ex_move (eV (v := (I x1.1)) rfl)) ?_
      obtain ⟨x5, hx5, h⟩ := bindS h
      refine arun_do rfl rfl rfl (ex_call0 (vs := [(SL 5 c_api_Node t0), (I x1.1)]) (v := (SL 1 cI x5)) rfl en_24 (cargs (evs rfl (evs rfl evs_nil))) rfl (ok_node_Kids t0 x1.1 x5 hx5) rfl) ?_
      refine arun_do rfl rfl rfl (tx_lenD (xs := x5) ceI Tryd.underlying29 rfl) ?_
      refine arun_do rfl rfl rfl (ex_bin (vx := (I (x5.length : Int))) (vy := (I 0)) rfl rfl gtrI_ok) ?_
      refine arun_do rfl rfl rfl (ex_assign (eV (v := (Bo (decide ((x5.length : Int) > 0)))) rfl)) ?_
      refine arun_keepE [6, 8, 26] 0 1 (st' := ⟨38, 0, [(6, (I x1.1)), (8, (GV 0 x2.length)), (26, (Bo (decide ((x5.length : Int) > 0))))], [], ⟨1, [(0, ⟨5, ((x2).flatMap c_api_Node), true⟩)]⟩⟩) (by kernel_rfl) (by kernel_rfl) ?_
      show AWp _ _ _ _
      rcases Bool.eq_false_or_eq_true (decide ((x5.length : Int) > 0)) with hb6 | hb6
      · rw [condT hb6] at h
        refine awp_condT (boT hb6) ?_
        refine awp_seq ?_
        refine awp_region ?_
        refine arun_do rfl rfl rfl (ex_move (eV (v := (GV 0 x2.length)) rfl)) ?_
        refine arun_do rfl rfl rfl (ex_assign (eV (v := (GV 0 x2.length)) rfl)) ?_
        refine arun_do rfl rfl rfl (ex_assign (eV (v := (I 6)) rfl)) ?_
        refine arun_keepE [4, 5] 0 1 (st' := ⟨38, 0, [(4, (GV 0 x2.length)), (5, (I 6))], [], ⟨1, [(0, ⟨5, ((x2).flatMap c_api_Node), true⟩)]⟩⟩) (by kernel_rfl) (by kernel_rfl) ?_
        show AWp _ _ _ _
        refine awp_ret ?_
        cases h
        exact And.intro (aresN rfl (L2.cons (rtmp rfl (eV rfl)) (L2.cons (rtmp rfl (eV rfl)) L2.nil)) rfl) (And.intro rfl rfl)
      · rw [condF hb6] at h
        refine awp_condF (boF hb6) ?_
        refine awp_skip ?_
        show AWp _ _ _ _
        refine awp_seq ?_
        refine awp_region ?_
        refine arun_do rfl rfl rfl (ex_move (eV (v := (GV 0 x2.length)) rfl)) ?_
        refine arun_do rfl rfl rfl (ex_move (eV (v := (I x1.1)) rfl)) ?_
        refine arun_do rfl rfl rfl (ex_build (qs := []) (v := (Value.agg (c_api_Node (G_api_Node.mk 0 0 [] [] 0)).toArray)) evp_nil (by kernel_rfl)) ?_
        obtain ⟨x7, hx7, h⟩ := bindS h
        refine arun_do rfl rfl rfl (tx_idxG (c := c_api_Node) (xs := x2) (i := x1.1) ce_api_Node Tryd.underlying25 s_39 rfl rfl rfl rfl hx7) ?_
        obtain ⟨x8, hx8, h⟩ := bindS h
        refine arun_do0 rfl rfl (tx_stG (c := c_api_Node) (xs := x2) (e := (G_api_Node.mk 0 0 [] [] 0)) (H' := ⟨1, [(0, ⟨5, ((x8).flatMap c_api_Node), true⟩)]⟩) ce_api_Node s_39 rfl (eV (v := (Value.agg (c_api_Node (G_api_Node.mk 0 0 [] [] 0)).toArray)) rfl) rfl rfl hx8 rfl) ?_
        refine arun_fewer (T' := [(6, (I x1.1)), (8, (GV 0 x8.length)), (26, (Bo (decide ((x5.length : Int) > 0)))), (33, (GV 0 x8.length)), (34, (I x1.1)), (35, (Value.agg (c_api_Node (G_api_Node.mk 0 0 [] [] 0)).toArray))]) (ReT.keep (v := (I x1.1)) rfl (ReT.gv rfl (setI_len hx8) (ReT.keep (v := (Bo (decide ((x5.length : Int) > 0)))) rfl (ReT.gv rfl (setI_len hx8) (ReT.keep (v := (I x1.1)) rfl (ReT.keep (v := (Value.agg (c_api_Node (G_api_Node.mk 0 0 [] [] 0)).toArray)) rfl ReT.nil)))))) ?_
        refine arun_keepE [8] 0 1 (st' := ⟨38, 0, [(8, (GV 0 x8.length))], [], ⟨1, [(0, ⟨5, ((x8).flatMap c_api_Node), true⟩)]⟩⟩) (by kernel_rfl) (by kernel_rfl) ?_
        show AWp _ _ _ _
        refine awp_seq ?_
        refine awp_region ?_
        refine arun_do rfl rfl rfl (ex_move (eV (v := (GV 0 x8.length)) rfl)) ?_
        refine arun_do rfl rfl rfl (ex_assign (eV (v := (GV 0 x8.length)) rfl)) ?_
        refine arun_do rfl rfl rfl (ex_assign (eV (v := (I 0)) rfl)) ?_
        refine arun_keepE [4, 5] 0 1 (st' := ⟨38, 0, [(4, (GV 0 x8.length)), (5, (I 0))], [], ⟨1, [(0, ⟨5, ((x8).flatMap c_api_Node), true⟩)]⟩⟩) (by kernel_rfl) (by kernel_rfl) ?_
        show AWp _ _ _ _
        refine awp_ret ?_
        cases h
        exact And.intro (aresN rfl (L2.cons (rtmp rfl (eV rfl)) (L2.cons (rtmp rfl (eV rfl)) L2.nil)) rfl) (And.intro rfl rfl)

noncomputable def M_ref11_MayName_l1 (t0 : Str) : Nat → Int → Option Bool
  | 0, _ => none
  | n1 + 1, v1 =>
  cond (decide (v1 < (t0.length : Int))) (Option.bind (getI t0 v1) fun (x3 : UInt8) => cond (!((((((decide (x3 ≥ 97)) && (decide (x3 ≤ 122))) || ((decide (x3 ≥ 48)) && (decide (x3 ≤ 57)))) || (x3 == 46)) || (x3 == 95)) || (x3 == 45))) (some false) ((M_ref11_MayName_l1 t0 n1) (w64 (v1 + 1)))) (some ((((decide ((t0.length : Int) ≥ 1)) && (decide ((t0.length : Int) ≤ 8))) && (t0 != ([46] : Str))) && (t0 != ([46, 46] : Str))))
noncomputable def M_ref11_MayName (t0 : Str) : Option Bool :=
  M_ref11_MayName_l1 t0 fuel 0
theorem ok_ref11_MayName (t0 : Str) (r : Bool) (h : M_ref11_MayName t0 = some r) : FFn Tryd.prog 42 [(S t0)] (Bo r) := by
  refine FFn.of_body (n := 57) Tryd.func42 rfl Tryd.ntmps42 rfl rfl rfl rfl ?_
  show AWp _ _ _ ⟨57, 0, [(0, (S t0))], [], ⟨0, []⟩⟩
  unfold M_ref11_MayName at h
  refine awp_seq ?_
  refine awp_region ?_
  refine arun_do rfl rfl rfl (ex_assign (eV (v := (Bo false)) rfl)) ?_
  refine arun_keepE [0] 0 0 (st' := ⟨57, 0, [(0, (S t0))], [], ⟨0, []⟩⟩) (by kernel_rfl) (by kernel_rfl) ?_
  show AWp _ _ _ _
  refine awp_seq ?_
  refine awp_seq ?_
  refine awp_region ?_
  refine arun_do rfl rfl rfl (ex_assign (eV (v := (I 0)) rfl)) ?_
  refine arun_keepE [0, 3] 0 0 (st' := ⟨57, 0, [(0, (S t0)), (3, (I 0))], [], ⟨0, []⟩⟩) (by kernel_rfl) (by kernel_rfl) ?_
  show AWp _ _ _ _
  refine awp_block ?_
  refine awp_loop (fun n s => ∃ (v1 : Int), s = ⟨57, 0, [(0, (S t0)), (3, (I v1))], [], ⟨0, []⟩⟩ ∧ M_ref11_MayName_l1 t0 n v1 = some r) fuel (Exists.intro 0 (And.intro rfl h)) ?_
  rintro n s ⟨v1, rfl, h⟩ -
  cases n with
  | zero => cases h
  | succ n1 =>
    unfold M_ref11_MayName_l1 at h
    refine awp_seq ?_
    refine awp_seq ?_
    refine awp_region ?_
    refine arun_do rfl rfl rfl (ex_move (eV (v := (I v1)) rfl)) ?_
    refine arun_do rfl rfl rfl (ex_move (eV (v := (S t0)) rfl)) ?_
    refine arun_do rfl rfl rfl (tx_lenS Tryd.underlying9 rfl) ?_
    refine arun_do rfl rfl rfl (ex_bin (vx := (I v1)) (vy := (I (t0.length : Int))) rfl rfl lssI_ok) ?_
    refine arun_keepE [0, 3, 8] 0 0 (st' := ⟨57, 0, [(0, (S t0)), (3, (I v1)), (8, (Bo (decide (v1 < (t0.length : Int)))))], [], ⟨0, []⟩⟩) (by kernel_rfl) (by kernel_rfl) ?_
    show AWp _ _ _ _
    rcases Bool.eq_false_or_eq_true (decide (v1 < (t0.length : Int))) with hb2 | hb2
    · rw [condT hb2] at h
      refine awp_condT (boT hb2) ?_
      refine awp_skip ?_
      show AWp _ _ _ _
      refine awp_seq ?_
      refine awp_block ?_
      refine awp_seq ?_
      refine awp_region ?_
      refine arun_do rfl rfl rfl (ex_move (eV (v := (S t0)) rfl)) ?_
      refine arun_do rfl rfl rfl (ex_move (eV (v := (I v1)) rfl)) ?_
      obtain ⟨x3, hx3, h⟩ := bindS h
      refine arun_do rfl rfl rfl (tx_idxS (u := t0) (i := v1) Tryd.underlying9 rfl rfl hx3) ?_
      refine arun_do rfl rfl rfl (ex_assign (eV (v := (U8 x3)) rfl)) ?_
      refine arun_keepE [0, 3, 4] 0 0 (st' := ⟨57, 0, [(0, (S t0)), (3, (I v1)), (4, (U8 x3))], [], ⟨0, []⟩⟩) (by kernel_rfl) (by kernel_rfl) ?_
      show AWp _ _ _ _
      refine awp_seq ?_
      refine awp_region ?_
      refine arun_do rfl rfl rfl (ex_move (eV (v := (U8 x3)) rfl)) ?_
      refine arun_do rfl rfl rfl (ex_bin (vx := (U8 x3)) (vy := (U8 97)) rfl rfl geq8_ok) ?_
      refine arun_do rfl rfl rfl (ex_move (eV (v := (Bo (decide (x3 ≥ 97)))) rfl)) ?_
      refine arun_guard (v := (U8 x3)) ((decide (x3 ≥ 97)) == true) rfl rfl rfl (fun hc => ex_move (eV (v := (U8 x3)) rfl)) ?_
      refine arun_guard (v := (Bo (decide (x3 ≤ 122)))) ((decide (x3 ≥ 97)) == true) rfl rfl rfl (fun hc => ex_bin (vx := (U8 x3)) (vy := (U8 122)) (cond_of hc) rfl leq8_ok) ?_
      refine arun_do rfl rfl rfl (ex_pick rfl pkAnd) ?_
      refine arun_do rfl rfl rfl (ex_move (eV (v := (Bo ((decide (x3 ≥ 97)) && (decide (x3 ≤ 122))))) rfl)) ?_
      refine arun_guard (v := (U8 x3)) (((decide (x3 ≥ 97)) && (decide (x3 ≤ 122))) == false) rfl rfl rfl (fun hc => ex_move (eV (v := (U8 x3)) rfl)) ?_
      refine arun_guard (v := (Bo (decide (x3 ≥ 48)))) (((decide (x3 ≥ 97)) && (decide (x3 ≤ 122))) == false) rfl rfl rfl (fun hc => ex_bin (vx := (U8 x3)) (vy := (U8 48)) (cond_of hc) rfl geq8_ok) ?_
      refine arun_guard (v := (Bo (decide (x3 ≥ 48)))) (((decide (x3 ≥ 97)) && (decide (x3 ≤ 122))) == false) rfl rfl rfl (fun hc => ex_move (eV (v := (Bo (decide (x3 ≥ 48)))) (cond_of hc))) ?_
      refine arun_guard (v := (U8 x3)) ((((decide (x3 ≥ 97)) && (decide (x3 ≤ 122))) == false) && ((decide (x3 ≥ 48)) == true)) rfl rfl gv_nest (fun hc => ex_move (eV (v := (U8 x3)) rfl)) ?_
      refine arun_guard (v := (Bo (decide (x3 ≤ 57)))) ((((decide (x3 ≥ 97)) && (decide (x3 ≤ 122))) == false) && ((decide (x3 ≥ 48)) == true)) rfl rfl gv_nest (fun hc => ex_bin (vx := (U8 x3)) (vy := (U8 57)) (cond_of hc) rfl leq8_ok) ?_
      refine arun_guard (v := (Bo ((decide (x3 ≥ 48)) && (decide (x3 ≤ 57))))) (((decide (x3 ≥ 97)) && (decide (x3 ≤ 122))) == false) rfl rfl rfl (fun hc => ex_pick (cond_of hc) (pkAndN hc)) ?_
      refine arun_do rfl rfl rfl (ex_pick rfl pkOr) ?_
      refine arun_do rfl rfl rfl (ex_move (eV (v := (Bo (((decide (x3 ≥ 97)) && (decide (x3 ≤ 122))) || ((decide (x3 ≥ 48)) && (decide (x3 ≤ 57)))))) rfl)) ?_
      refine arun_guard (v := (U8 x3)) ((((decide (x3 ≥ 97)) && (decide (x3 ≤ 122))) || ((decide (x3 ≥ 48)) && (decide (x3 ≤ 57)))) == false) rfl rfl rfl (fun hc => ex_move (eV (v := (U8 x3)) rfl)) ?_
      refine arun_guard (v := (Bo (x3 == 46))) ((((decide (x3 ≥ 97)) && (decide (x3 ≤ 122))) || ((decide (x3 ≥ 48)) && (decide (x3 ≤ 57)))) == false) rfl rfl rfl (fun hc => ex_bin (vx := (U8 x3)) (vy := (U8 46)) (cond_of hc) rfl eql8_ok) ?_
      refine arun_do rfl rfl rfl (ex_pick rfl pkOr) ?_
      refine arun_do rfl rfl rfl (ex_move (eV (v := (Bo ((((decide (x3 ≥ 97)) && (decide (x3 ≤ 122))) || ((decide (x3 ≥ 48)) && (decide (x3 ≤ 57)))) || (x3 == 46)))) rfl)) ?_
      refine arun_guard (v := (U8 x3)) (((((decide (x3 ≥ 97)) && (decide (x3 ≤ 122))) || ((decide (x3 ≥ 48)) && (decide (x3 ≤ 57)))) || (x3 == 46)) == false) rfl rfl rfl (fun hc => ex_move (eV (v := (U8 x3)) rfl)) ?_
      refine arun_guard (v := (Bo (x3 == 95))) (((((decide (x3 ≥ 97)) && (decide (x3 ≤ 122))) || ((decide (x3 ≥ 48)) && (decide (x3 ≤ 57)))) || (x3 == 46)) == false) rfl rfl rfl (fun hc => ex_bin (vx := (U8 x3)) (vy := (U8 95)) (cond_of hc) rfl eql8_ok) ?_
      refine arun_do rfl rfl rfl (ex_pick rfl pkOr) ?_
      refine arun_do rfl rfl rfl (ex_move (eV (v := (Bo (((((decide (x3 ≥ 97)) && (decide (x3 ≤ 122))) || ((decide (x3 ≥ 48)) && (decide (x3 ≤ 57)))) || (x3 == 46)) || (x3 == 95)))) rfl)) ?_
      refine arun_guard (v := (U8 x3)) ((((((decide (x3 ≥ 97)) && (decide (x3 ≤ 122))) || ((decide (x3 ≥ 48)) && (decide (x3 ≤ 57)))) || (x3 == 46)) || (x3 == 95)) == false) rfl rfl rfl (fun hc => ex_move (eV (v := (U8 x3)) rfl)) ?_
      refine arun_guard (v := (Bo (x3 == 45))) ((((((decide (x3 ≥ 97)) && (decide (x3 ≤ 122))) || ((decide (x3 ≥ 48)) && (decide (x3 ≤ 57)))) || (x3 == 46)) || (x3 == 95)) == false) rfl rfl rfl (fun hc => ex_bin (vx := (U8 x3)) (vy := (U8 45)) (cond_of hc) rfl eql8_ok) ?_
      refine arun_do rfl rfl rfl (ex_pick rfl pkOr) ?_
      refine arun_do rfl rfl rfl (ex_un (vx := (Bo ((((((decide (x3 ≥ 97)) && (decide (x3 ≤ 122))) || ((decide (x3 ≥ 48)) && (decide (x3 ≤ 57)))) || (x3 == 46)) || (x3 == 95)) || (x3 == 45)))) rfl notB_ok) ?_
      refine arun_keepE [0, 3, 40] 0 0 (st' := ⟨57, 0, [(0, (S t0)), (3, (I v1)), (40, (Bo (!((((((decide (x3 ≥ 97)) && (decide (x3 ≤ 122))) || ((decide (x3 ≥ 48)) && (decide (x3 ≤ 57)))) || (x3 == 46)) || (x3 == 95)) || (x3 == 45)))))], [], ⟨0, []⟩⟩) (by kernel_rfl) (by kernel_rfl) ?_
      show AWp _ _ _ _
      rcases Bool.eq_false_or_eq_true (!((((((decide (x3 ≥ 97)) && (decide (x3 ≤ 122))) || ((decide (x3 ≥ 48)) && (decide (x3 ≤ 57)))) || (x3 == 46)) || (x3 == 95)) || (x3 == 45))) with hb4 | hb4
      · rw [condT hb4] at h
        refine awp_condT (boT hb4) ?_
        refine awp_seq ?_
        refine awp_region ?_
        refine arun_do rfl rfl rfl (ex_assign (eV (v := (Bo false)) rfl)) ?_
        refine arun_keepE [2] 0 0 (st' := ⟨57, 0, [(2, (Bo false))], [], ⟨0, []⟩⟩) (by kernel_rfl) (by kernel_rfl) ?_
        show AWp _ _ _ _
        refine awp_ret ?_
        cases h
        exact ares1 (rtmp rfl (eV rfl))
      · rw [condF hb4] at h
        refine awp_condF (boF hb4) ?_
        refine awp_skip ?_
        show AWp _ _ _ _
        refine awp_region ?_
        refine arun_do rfl rfl rfl (ex_move (eV (v := (I v1)) rfl)) ?_
        refine arun_do rfl rfl rfl (ex_bin (vx := (I v1)) (vy := (I 1)) rfl rfl addI_ok) ?_
        refine arun_do rfl rfl rfl (ex_assign (eV (v := (I (w64 (v1 + 1)))) rfl)) ?_
        refine arun_keepE [0, 3] 0 0 (st' := ⟨57, 0, [(0, (S t0)), (3, (I (w64 (v1 + 1))))], [], ⟨0, []⟩⟩) (by kernel_rfl) (by kernel_rfl) ?_
        exact Exists.intro n1 (And.intro (Nat.lt_succ_self _) (Exists.intro (w64 (v1 + 1)) (And.intro rfl h)))
    · rw [condF hb2] at h
      refine awp_condF (boF hb2) ?_
      refine awp_exit ?_
      show AWp _ _ _ _
      refine awp_seq ?_
      refine awp_region ?_
      refine arun_do rfl rfl rfl (ex_move (eV (v := (S t0)) rfl)) ?_
      refine arun_do rfl rfl rfl (tx_lenS Tryd.underlying9 rfl) ?_
      refine arun_do rfl rfl rfl (ex_bin (vx := (I (t0.length : Int))) (vy := (I 1)) rfl rfl geqI_ok) ?_
      refine arun_do rfl rfl rfl (ex_move (eV (v := (Bo (decide ((t0.length : Int) ≥ 1)))) rfl)) ?_
      refine arun_guard (v := (S t0)) ((decide ((t0.length : Int) ≥ 1)) == true) rfl rfl rfl (fun hc => ex_move (eV (v := (S t0)) rfl)) ?_
      refine arun_guard (v := (I (t0.length : Int))) ((decide ((t0.length : Int) ≥ 1)) == true) rfl rfl rfl (fun hc => tx_lenS Tryd.underlying9 (cond_of hc)) ?_
      refine arun_guard (v := (Bo (decide ((t0.length : Int) ≤ 8)))) ((decide ((t0.length : Int) ≥ 1)) == true) rfl rfl rfl (fun hc => ex_bin (vx := (I (t0.length : Int))) (vy := (I 8)) (cond_of hc) rfl leqI_ok) ?_
      refine arun_do rfl rfl rfl (ex_pick rfl pkAnd) ?_
      refine arun_do rfl rfl rfl (ex_move (eV (v := (Bo ((decide ((t0.length : Int) ≥ 1)) && (decide ((t0.length : Int) ≤ 8))))) rfl)) ?_
      refine arun_guard (v := (S t0)) (((decide ((t0.length : Int) ≥ 1)) && (decide ((t0.length : Int) ≤ 8))) == true) rfl rfl rfl (fun hc => ex_move (eV (v := (S t0)) rfl)) ?_
      refine arun_guard (v := (Bo (t0 != ([46] : Str)))) (((decide ((t0.length : Int) ≥ 1)) && (decide ((t0.length : Int) ≤ 8))) == true) rfl rfl rfl (fun hc => ex_bin (vx := (S t0)) (vy := (S ([46] : Str))) (cond_of hc) rfl neqS_ok) ?_
      refine arun_do rfl rfl rfl (ex_pick rfl pkAnd) ?_
      refine arun_do rfl rfl rfl (ex_move (eV (v := (Bo (((decide ((t0.length : Int) ≥ 1)) && (decide ((t0.length : Int) ≤ 8))) && (t0 != ([46] : Str))))) rfl)) ?_
      refine arun_guard (v := (S t0)) ((((decide ((t0.length : Int) ≥ 1)) && (decide ((t0.length : Int) ≤ 8))) && (t0 != ([46] : Str))) == true) rfl rfl rfl (fun hc => ex_move (eV (v := (S t0)) rfl)) ?_
      refine arun_guard (v := (Bo (t0 != ([46, 46] : Str)))) ((((decide ((t0.length : Int) ≥ 1)) && (decide ((t0.length : Int) ≤ 8))) && (t0 != ([46] : Str))) == true) rfl rfl rfl (fun hc => ex_bin (vx := (S t0)) (vy := (S ([46, 46] : Str))) (cond_of hc) rfl neqS_ok) ?_
      refine arun_do rfl rfl rfl (ex_pick rfl pkAnd) ?_
      refine arun_do rfl rfl rfl (ex_assign (eV (v := (Bo ((((decide ((t0.length : Int) ≥ 1)) && (decide ((t0.length : Int) ≤ 8))) && (t0 != ([46] : Str))) && (t0 != ([46, 46] : Str))))) rfl)) ?_
      refine arun_keepE [2] 0 0 (st' := ⟨57, 0, [(2, (Bo ((((decide ((t0.length : Int) ≥ 1)) && (decide ((t0.length : Int) ≤ 8))) && (t0 != ([46] : Str))) && (t0 != ([46, 46] : Str)))))], [], ⟨0, []⟩⟩) (by kernel_rfl) (by kernel_rfl) ?_
      show AWp _ _ _ _
      refine awp_ret ?_
      cases h
      exact ares1 (rtmp rfl (eV rfl))

end Go.Proofs
