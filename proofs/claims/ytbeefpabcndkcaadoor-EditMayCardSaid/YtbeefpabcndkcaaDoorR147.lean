/- Pure models of functions of the program, and that its code does what they say: edit Drop, palimpref11 MayName, palimpref11 Parts. Written by a program. -/
import Derived.Test.YtbeefpabcndkcaaDoorR142
import Derived.Test.YtbeefpabcndkcaaDoorR144
import Derived.Test.YtbeefpabcndkcaaDoorR145
import Derived.Test.YtbeefpabcndkcaaDoorR14B
set_option maxRecDepth 20000
set_option maxHeartbeats 4000000
namespace Go.Proofs
open Go Go.Fhl
set_option linter.unusedVariables false
set_option linter.unusedSimpArgs false
noncomputable def M_edit_Drop (t0 : (List G_api_Node)) (t1 : Str) : Option ((List G_api_Node) × Int) :=
  Option.bind (M_walk_Find t0 t1) fun (x1 : (Int × Int)) => Option.bind (M_slices_Clone_api_Set_api_Node t0) fun (x2 : (List G_api_Node)) => cond (x1.2 != 0) (some (x2, x1.2)) (cond (x1.1 == 0) (some (x2, 4)) (Option.bind (M_node_Kids t0 x1.1) fun (x5 : (List Int)) => cond (decide ((x5.length : Int) > 0)) (some (x2, 6)) (Option.bind (getI x2 x1.1) fun (x7 : G_api_Node) => Option.bind (setI x2 x1.1 (G_api_Node.mk 0 0 [] [] 0)) fun (x8 : List G_api_Node) => some (x8, 0))))
theorem ok_edit_Drop (t0 : (List G_api_Node)) (t1 : Str) (r : ((List G_api_Node) × Int)) (h : M_edit_Drop t0 t1 = some r) : FFn Tryd.prog 15 [(SL 5 c_api_Node t0), (S t1)] (Value.tuple #[(SL 5 c_api_Node r.1), (I r.2)]) := by
  refine FFn.of_body (n := 38) Tryd.func15 rfl Tryd.ntmps15 rfl rfl rfl rfl ?_
  show AWp _ _ _ ⟨38, 0, [(0, (SL 5 c_api_Node t0)), (1, (S t1))], [], ⟨0, []⟩⟩
  unfold M_edit_Drop at h
  refine awp_seq ?_
  refine awp_region ?_
  refine arun_do rfl rfl rfl (ex_assign (eV (v := (Value.slice none 0 0)) rfl)) ?_
  refine arun_do rfl rfl rfl (ex_assign (eV (v := (I 0)) rfl)) ?_
  refine arun_keepE [0, 1] 0 0 (st' := ⟨38, 0, [(0, (SL 5 c_api_Node t0)), (1, (S t1))], [], ⟨0, []⟩⟩) (by kernel_rfl) (by kernel_rfl) ?_
  show AWp _ _ _ _
  refine awp_seq ?_
  refine awp_region ?_
  refine arun_do rfl rfl rfl (ex_move (eV (v := (SL 5 c_api_Node t0)) rfl)) ?_
  refine arun_do rfl rfl rfl (ex_move (eV (v := (S t1)) rfl)) ?_
  obtain ⟨x1, hx1, h⟩ := bindS h
  refine arun_do rfl rfl rfl (ex_call0 (vs := [(SL 5 c_api_Node t0), (S t1)]) (v := (Value.tuple #[(I x1.1), (I x1.2)])) rfl en_34 (cargs (evs rfl (evs rfl evs_nil))) rfl (ok_walk_Find t0 t1 x1 hx1) rfl) ?_
  refine arun_do rfl rfl rfl (ex_move (eV (v := (Value.tuple #[(I x1.1), (I x1.2)])) rfl)) ?_
  refine arun_do rfl rfl rfl (ex_extract (vx := (Value.tuple #[(I x1.1), (I x1.2)])) (v := (I x1.1)) rfl rfl) ?_
  refine arun_do rfl rfl rfl (ex_extract (vx := (Value.tuple #[(I x1.1), (I x1.2)])) (v := (I x1.2)) rfl rfl) ?_
  refine arun_do rfl rfl rfl (ex_assign (eV (v := (I x1.1)) rfl)) ?_
  refine arun_do rfl rfl rfl (ex_assign (eV (v := (I x1.2)) rfl)) ?_
  refine arun_keepE [0, 6, 7] 0 0 (st' := ⟨38, 0, [(0, (SL 5 c_api_Node t0)), (6, (I x1.1)), (7, (I x1.2))], [], ⟨0, []⟩⟩) (by kernel_rfl) (by kernel_rfl) ?_
  show AWp _ _ _ _
  refine awp_seq ?_
  refine awp_region ?_
  refine arun_do rfl rfl rfl (ex_move (eV (v := (SL 5 c_api_Node t0)) rfl)) ?_
  obtain ⟨x2, hx2, h⟩ := bindS h
  refine arun_do rfl rfl rfl (ex_callOw (vs := [(SL 5 c_api_Node t0)]) (k := 0) (len := x2.length) (b := ⟨5, ((x2).flatMap c_api_Node), true⟩) (H' := ⟨1, [(0, ⟨5, ((x2).flatMap c_api_Node), true⟩)]⟩) rfl en_30 (cargs (evs rfl evs_nil)) rfl (okw_slices_Clone_api_Set_api_Node t0 x2 hx2) rfl rfl) ?_
  refine arun_do rfl rfl rfl (ex_assign (eV (v := (GV 0 x2.length)) rfl)) ?_
  refine arun_keepE [0, 6, 7, 8] 0 1 (st' := ⟨38, 0, [(0, (SL 5 c_api_Node t0)), (6, (I x1.1)), (7, (I x1.2)), (8, (GV 0 x2.length))], [], ⟨1, [(0, ⟨5, ((x2).flatMap c_api_Node), true⟩)]⟩⟩) (by kernel_rfl) (by kernel_rfl) ?_
  show AWp _ _ _ _
  refine awp_seq ?_
  refine awp_block ?_
  refine awp_seq ?_
  refine awp_region ?_
  refine arun_do rfl rfl rfl (ex_move (eV (v := (I x1.2)) rfl)) ?_
  refine arun_do rfl rfl rfl (ex_bin (vx := (I x1.2)) (vy := (I 0)) rfl rfl neqI_ok) ?_
  refine arun_do rfl rfl rfl (ex_assign (eV (v := (Bo (x1.2 != 0))) rfl)) ?_
  refine arun_keepE [0, 6, 7, 8, 17] 0 1 (st' := ⟨38, 0, [(0, (SL 5 c_api_Node t0)), (6, (I x1.1)), (7, (I x1.2)), (8, (GV 0 x2.length)), (17, (Bo (x1.2 != 0)))], [], ⟨1, [(0, ⟨5, ((x2).flatMap c_api_Node), true⟩)]⟩⟩) (by kernel_rfl) (by kernel_rfl) ?_
  show AWp _ _ _ _
  rcases Bool.eq_false_or_eq_true (x1.2 != 0) with hb3 | hb3
  · rw [condT hb3] at h
    refine awp_condT (boT hb3) ?_
    refine awp_seq ?_
    refine awp_region ?_
    refine arun_do rfl rfl rfl (ex_move (eV (v := (GV 0 x2.length)) rfl)) ?_
    refine arun_do rfl rfl rfl (ex_move (eV (v := (I x1.2)) rfl)) ?_
    refine arun_do rfl rfl rfl (ex_assign (eV (v := (GV 0 x2.length)) rfl)) ?_
    refine arun_do rfl rfl rfl (ex_assign (eV (v := (I x1.2)) rfl)) ?_
    refine arun_keepE [4, 5] 0 1 (st' := ⟨38, 0, [(4, (GV 0 x2.length)), (5, (I x1.2))], [], ⟨1, [(0, ⟨5, ((x2).flatMap c_api_Node), true⟩)]⟩⟩) (by kernel_rfl) (by kernel_rfl) ?_
    show AWp _ _ _ _
    refine awp_freeze 0 (bk := ⟨5, ((x2).flatMap c_api_Node), true⟩) (T' := [(4, (SL 5 c_api_Node x2)), (5, (I x1.2))]) (L' := []) rfl (fzG ce_api_Node rfl rfl (FzT.keep (v := (I x1.2)) rfl FzT.nil)) (FzL.refl _) ?_
    show AWp _ _ _ ⟨38, 0, [(4, (SL 5 c_api_Node x2)), (5, (I x1.2))], [], ⟨1, []⟩⟩
    refine awp_ret ?_
    cases h
    exact aresN rfl (L2.cons (rtmp rfl (eV rfl)) (L2.cons (rtmp rfl (eV rfl)) L2.nil)) rfl
  · rw [condF hb3] at h
    refine awp_condF (boF hb3) ?_
    refine awp_seq ?_
    refine awp_region ?_
    refine arun_do rfl rfl rfl (ex_move (eV (v := (I x1.1)) rfl)) ?_
    refine arun_do rfl rfl rfl (ex_bin (vx := (I x1.1)) (vy := (I 0)) rfl rfl eqlI_ok) ?_
    refine arun_do rfl rfl rfl (ex_assign (eV (v := (Bo (x1.1 == 0))) rfl)) ?_
    refine arun_keepE [0, 6, 8, 22] 0 1 (st' := ⟨38, 0, [(0, (SL 5 c_api_Node t0)), (6, (I x1.1)), (8, (GV 0 x2.length)), (22, (Bo (x1.1 == 0)))], [], ⟨1, [(0, ⟨5, ((x2).flatMap c_api_Node), true⟩)]⟩⟩) (by kernel_rfl) (by kernel_rfl) ?_
    show AWp _ _ _ _
    rcases Bool.eq_false_or_eq_true (x1.1 == 0) with hb4 | hb4
    · rw [condT hb4] at h
      refine awp_condT (boT hb4) ?_
      refine awp_seq ?_
      refine awp_region ?_
      refine arun_do rfl rfl rfl (ex_move (eV (v := (GV 0 x2.length)) rfl)) ?_
      refine arun_do rfl rfl rfl (ex_assign (eV (v := (GV 0 x2.length)) rfl)) ?_
      refine arun_do rfl rfl rfl (ex_assign (eV (v := (I 4)) rfl)) ?_
      refine arun_keepE [4, 5] 0 1 (st' := ⟨38, 0, [(4, (GV 0 x2.length)), (5, (I 4))], [], ⟨1, [(0, ⟨5, ((x2).flatMap c_api_Node), true⟩)]⟩⟩) (by kernel_rfl) (by kernel_rfl) ?_
      show AWp _ _ _ _
      refine awp_freeze 0 (bk := ⟨5, ((x2).flatMap c_api_Node), true⟩) (T' := [(4, (SL 5 c_api_Node x2)), (5, (I 4))]) (L' := []) rfl (fzG ce_api_Node rfl rfl (FzT.keep (v := (I 4)) rfl FzT.nil)) (FzL.refl _) ?_
      show AWp _ _ _ ⟨38, 0, [(4, (SL 5 c_api_Node x2)), (5, (I 4))], [], ⟨1, []⟩⟩
      refine awp_ret ?_
      cases h
      exact aresN rfl (L2.cons (rtmp rfl (eV rfl)) (L2.cons (rtmp rfl (eV rfl)) L2.nil)) rfl
    · rw [condF hb4] at h
      refine awp_condF (boF hb4) ?_
      refine awp_seq ?_
      refine awp_region ?_
      refine arun_do rfl rfl rfl (ex_move (eV (v := (SL 5 c_api_Node t0)) rfl)) ?_
      refine arun_do rfl rfl rfl (ex_move (eV (v := (I x1.1)) rfl)) ?_
      obtain ⟨x5, hx5, h⟩ := bindS h
      refine arun_do rfl rfl rfl (ex_call0 (vs := [(SL 5 c_api_Node t0), (I x1.1)]) (v := (SL 1 cI x5)) rfl en_35 (cargs (evs rfl (evs rfl evs_nil))) rfl (ok_node_Kids t0 x1.1 x5 hx5) rfl) ?_
      refine arun_do rfl rfl rfl (tx_lenD (xs := x5) ceI Tryd.underlying32 rfl) ?_
      refine arun_do rfl rfl rfl (ex_bin (vx := (I (x5.length : Int))) (vy := (I 0)) rfl rfl gtrI_ok) ?_
      refine arun_do rfl rfl rfl (ex_assign (eV (v := (Bo (decide ((x5.length : Int) > 0)))) rfl)) ?_
      refine arun_keepE [6, 8, 26] 0 1 (st' := ⟨38, 0, [(6, (I x1.1)), (8, (GV 0 x2.length)), (26, (Bo (decide ((x5.length : Int) > 0))))], [], ⟨1, [(0, ⟨5, ((x2).flatMap c_api_Node), true⟩)]⟩⟩) (by kernel_rfl) (by kernel_rfl) ?_
      show AWp _ _ _ _
      rcases Bool.eq_false_or_eq_true (decide ((x5.length : Int) > 0)) with hb6 | hb6
      · rw [condT hb6] at h
        refine awp_condT (boT hb6) ?_
        refine awp_seq ?_
        refine awp_region ?_
        refine arun_do rfl rfl rfl (ex_move (eV (v := (GV 0 x2.length)) rfl)) ?_
        refine arun_do rfl rfl rfl (ex_assign (eV (v := (GV 0 x2.length)) rfl)) ?_
        refine arun_do rfl rfl rfl (ex_assign (eV (v := (I 6)) rfl)) ?_
        refine arun_keepE [4, 5] 0 1 (st' := ⟨38, 0, [(4, (GV 0 x2.length)), (5, (I 6))], [], ⟨1, [(0, ⟨5, ((x2).flatMap c_api_Node), true⟩)]⟩⟩) (by kernel_rfl) (by kernel_rfl) ?_
        show AWp _ _ _ _
        refine awp_freeze 0 (bk := ⟨5, ((x2).flatMap c_api_Node), true⟩) (T' := [(4, (SL 5 c_api_Node x2)), (5, (I 6))]) (L' := []) rfl (fzG ce_api_Node rfl rfl (FzT.keep (v := (I 6)) rfl FzT.nil)) (FzL.refl _) ?_
        show AWp _ _ _ ⟨38, 0, [(4, (SL 5 c_api_Node x2)), (5, (I 6))], [], ⟨1, []⟩⟩
        refine awp_ret ?_
        cases h
        exact aresN rfl (L2.cons (rtmp rfl (eV rfl)) (L2.cons (rtmp rfl (eV rfl)) L2.nil)) rfl
      · rw [condF hb6] at h
        refine awp_condF (boF hb6) ?_
        refine awp_skip ?_
        show AWp _ _ _ _
        refine awp_seq ?_
        refine awp_region ?_
        refine arun_do rfl rfl rfl (ex_move (eV (v := (GV 0 x2.length)) rfl)) ?_
        refine arun_do rfl rfl rfl (ex_move (eV (v := (I x1.1)) rfl)) ?_
        refine arun_do rfl rfl rfl (ex_build (qs := []) (v := (Value.agg (c_api_Node (G_api_Node.mk 0 0 [] [] 0)).toArray)) evp_nil (by kernel_rfl)) ?_
        obtain ⟨x7, hx7, h⟩ := bindS h
        refine arun_do rfl rfl rfl (tx_idxG (c := c_api_Node) (xs := x2) (i := x1.1) ce_api_Node Tryd.underlying25 s_51 rfl rfl rfl rfl hx7) ?_
        obtain ⟨x8, hx8, h⟩ := bindS h
        refine arun_do0 rfl rfl (tx_stG (c := c_api_Node) (xs := x2) (e := (G_api_Node.mk 0 0 [] [] 0)) (H' := ⟨1, [(0, ⟨5, ((x8).flatMap c_api_Node), true⟩)]⟩) ce_api_Node s_51 rfl (eV (v := (Value.agg (c_api_Node (G_api_Node.mk 0 0 [] [] 0)).toArray)) rfl) rfl rfl hx8 rfl) ?_
        refine arun_fewer (T' := [(6, (I x1.1)), (8, (GV 0 x8.length)), (26, (Bo (decide ((x5.length : Int) > 0)))), (33, (GV 0 x8.length)), (34, (I x1.1)), (35, (Value.agg (c_api_Node (G_api_Node.mk 0 0 [] [] 0)).toArray))]) (ReT.keep (v := (I x1.1)) rfl (ReT.gv rfl (setI_len hx8) (ReT.keep (v := (Bo (decide ((x5.length : Int) > 0)))) rfl (ReT.gv rfl (setI_len hx8) (ReT.keep (v := (I x1.1)) rfl (ReT.keep (v := (Value.agg (c_api_Node (G_api_Node.mk 0 0 [] [] 0)).toArray)) rfl ReT.nil)))))) ?_
        refine arun_keepE [8] 0 1 (st' := ⟨38, 0, [(8, (GV 0 x8.length))], [], ⟨1, [(0, ⟨5, ((x8).flatMap c_api_Node), true⟩)]⟩⟩) (by kernel_rfl) (by kernel_rfl) ?_
        show AWp _ _ _ _
        refine awp_seq ?_
        refine awp_region ?_
        refine arun_do rfl rfl rfl (ex_move (eV (v := (GV 0 x8.length)) rfl)) ?_
        refine arun_do rfl rfl rfl (ex_assign (eV (v := (GV 0 x8.length)) rfl)) ?_
        refine arun_do rfl rfl rfl (ex_assign (eV (v := (I 0)) rfl)) ?_
        refine arun_keepE [4, 5] 0 1 (st' := ⟨38, 0, [(4, (GV 0 x8.length)), (5, (I 0))], [], ⟨1, [(0, ⟨5, ((x8).flatMap c_api_Node), true⟩)]⟩⟩) (by kernel_rfl) (by kernel_rfl) ?_
        show AWp _ _ _ _
        refine awp_freeze 0 (bk := ⟨5, ((x8).flatMap c_api_Node), true⟩) (T' := [(4, (SL 5 c_api_Node x8)), (5, (I 0))]) (L' := []) rfl (fzG ce_api_Node rfl rfl (FzT.keep (v := (I 0)) rfl FzT.nil)) (FzL.refl _) ?_
        show AWp _ _ _ ⟨38, 0, [(4, (SL 5 c_api_Node x8)), (5, (I 0))], [], ⟨1, []⟩⟩
        refine awp_ret ?_
        cases h
        exact aresN rfl (L2.cons (rtmp rfl (eV rfl)) (L2.cons (rtmp rfl (eV rfl)) L2.nil)) rfl

noncomputable def M_ref11_MayName_l1 (t0 : Str) : Nat → Int → Option Bool
  | 0, _ => none
  | n1 + 1, v1 =>
  cond (decide (v1 < (t0.length : Int))) (Option.bind (getI t0 v1) fun (x3 : UInt8) => cond (!((((((decide (x3 ≥ 97)) && (decide (x3 ≤ 122))) || ((decide (x3 ≥ 48)) && (decide (x3 ≤ 57)))) || (x3 == 46)) || (x3 == 95)) || (x3 == 45))) (some false) ((M_ref11_MayName_l1 t0 n1) (w64 (v1 + 1)))) (some ((((decide ((t0.length : Int) ≥ 1)) && (decide ((t0.length : Int) ≤ 8))) && (t0 != ([46] : Str))) && (t0 != ([46, 46] : Str))))
noncomputable def M_ref11_MayName (t0 : Str) : Option Bool :=
  M_ref11_MayName_l1 t0 fuel 0
theorem ok_ref11_MayName (t0 : Str) (r : Bool) (h : M_ref11_MayName t0 = some r) : FFn Tryd.prog 58 [(S t0)] (Bo r) := by
  refine FFn.of_body (n := 57) Tryd.func58 rfl Tryd.ntmps58 rfl rfl rfl rfl ?_
  show AWp _ _ _ ⟨57, 0, [(0, (S t0))], [], ⟨0, []⟩⟩
  unfold M_ref11_MayName at h
  refine awp_seq ?_
  refine awp_region ?_
  refine arun_do rfl rfl rfl (ex_assign (eV (v := (Bo false)) rfl)) ?_
  refine arun_keepE [0] 0 0 (st' := ⟨57, 0, [(0, (S t0))], [], ⟨0, []⟩⟩) (by kernel_rfl) (by kernel_rfl) ?_
  show AWp _ _ _ _
  refine awp_seq ?_
  refine awp_seq ?_
  refine awp_region ?_
  refine arun_do rfl rfl rfl (ex_assign (eV (v := (I 0)) rfl)) ?_
  refine arun_keepE [0, 3] 0 0 (st' := ⟨57, 0, [(0, (S t0)), (3, (I 0))], [], ⟨0, []⟩⟩) (by kernel_rfl) (by kernel_rfl) ?_
  show AWp _ _ _ _
  refine awp_block ?_
  refine awp_loop (fun n s => ∃ (v1 : Int), s = ⟨57, 0, [(0, (S t0)), (3, (I v1))], [], ⟨0, []⟩⟩ ∧ M_ref11_MayName_l1 t0 n v1 = some r) fuel (Exists.intro 0 (And.intro rfl h)) ?_
  rintro n s ⟨v1, rfl, h⟩ -
  cases n with
  | zero => cases h
  | succ n1 =>
    unfold M_ref11_MayName_l1 at h
    refine awp_seq ?_
    refine awp_seq ?_
    refine awp_region ?_
    refine arun_do rfl rfl rfl (ex_move (eV (v := (I v1)) rfl)) ?_
    refine arun_do rfl rfl rfl (ex_move (eV (v := (S t0)) rfl)) ?_
    refine arun_do rfl rfl rfl (tx_lenS Tryd.underlying9 rfl) ?_
    refine arun_do rfl rfl rfl (ex_bin (vx := (I v1)) (vy := (I (t0.length : Int))) rfl rfl lssI_ok) ?_
    refine arun_keepE [0, 3, 8] 0 0 (st' := ⟨57, 0, [(0, (S t0)), (3, (I v1)), (8, (Bo (decide (v1 < (t0.length : Int)))))], [], ⟨0, []⟩⟩) (by kernel_rfl) (by kernel_rfl) ?_
    show AWp _ _ _ _
    rcases Bool.eq_false_or_eq_true (decide (v1 < (t0.length : Int))) with hb2 | hb2
    · rw [condT hb2] at h
      refine awp_condT (boT hb2) ?_
      refine awp_skip ?_
      show AWp _ _ _ _
      refine awp_seq ?_
      refine awp_block ?_
      refine awp_seq ?_
      refine awp_region ?_
      refine arun_do rfl rfl rfl (ex_move (eV (v := (S t0)) rfl)) ?_
      refine arun_do rfl rfl rfl (ex_move (eV (v := (I v1)) rfl)) ?_
      obtain ⟨x3, hx3, h⟩ := bindS h
      refine arun_do rfl rfl rfl (tx_idxS (u := t0) (i := v1) Tryd.underlying9 rfl rfl hx3) ?_
      refine arun_do rfl rfl rfl (ex_assign (eV (v := (U8 x3)) rfl)) ?_
      refine arun_keepE [0, 3, 4] 0 0 (st' := ⟨57, 0, [(0, (S t0)), (3, (I v1)), (4, (U8 x3))], [], ⟨0, []⟩⟩) (by kernel_rfl) (by kernel_rfl) ?_
      show AWp _ _ _ _
      refine awp_seq ?_
      refine awp_region ?_
      refine arun_do rfl rfl rfl (ex_move (eV (v := (U8 x3)) rfl)) ?_
      refine arun_do rfl rfl rfl (ex_bin (vx := (U8 x3)) (vy := (U8 97)) rfl rfl geq8_ok) ?_
      refine arun_do rfl rfl rfl (ex_move (eV (v := (Bo (decide (x3 ≥ 97)))) rfl)) ?_
      refine arun_guard (v := (U8 x3)) ((decide (x3 ≥ 97)) == true) rfl rfl rfl (fun hc => ex_move (eV (v := (U8 x3)) rfl)) ?_
      refine arun_guard (v := (Bo (decide (x3 ≤ 122)))) ((decide (x3 ≥ 97)) == true) rfl rfl rfl (fun hc => ex_bin (vx := (U8 x3)) (vy := (U8 122)) (cond_of hc) rfl leq8_ok) ?_
      refine arun_do rfl rfl rfl (ex_pick rfl pkAnd) ?_
      refine arun_do rfl rfl rfl (ex_move (eV (v := (Bo ((decide (x3 ≥ 97)) && (decide (x3 ≤ 122))))) rfl)) ?_
      refine arun_guard (v := (U8 x3)) (((decide (x3 ≥ 97)) && (decide (x3 ≤ 122))) == false) rfl rfl rfl (fun hc => ex_move (eV (v := (U8 x3)) rfl)) ?_
      refine arun_guard (v := (Bo (decide (x3 ≥ 48)))) (((decide (x3 ≥ 97)) && (decide (x3 ≤ 122))) == false) rfl rfl rfl (fun hc => ex_bin (vx := (U8 x3)) (vy := (U8 48)) (cond_of hc) rfl geq8_ok) ?_
      refine arun_guard (v := (Bo (decide (x3 ≥ 48)))) (((decide (x3 ≥ 97)) && (decide (x3 ≤ 122))) == false) rfl rfl rfl (fun hc => ex_move (eV (v := (Bo (decide (x3 ≥ 48)))) (cond_of hc))) ?_
      refine arun_guard (v := (U8 x3)) ((((decide (x3 ≥ 97)) && (decide (x3 ≤ 122))) == false) && ((decide (x3 ≥ 48)) == true)) rfl rfl gv_nest (fun hc => ex_move (eV (v := (U8 x3)) rfl)) ?_
      refine arun_guard (v := (Bo (decide (x3 ≤ 57)))) ((((decide (x3 ≥ 97)) && (decide (x3 ≤ 122))) == false) && ((decide (x3 ≥ 48)) == true)) rfl rfl gv_nest (fun hc => ex_bin (vx := (U8 x3)) (vy := (U8 57)) (cond_of hc) rfl leq8_ok) ?_
      refine arun_guard (v := (Bo ((decide (x3 ≥ 48)) && (decide (x3 ≤ 57))))) (((decide (x3 ≥ 97)) && (decide (x3 ≤ 122))) == false) rfl rfl rfl (fun hc => ex_pick (cond_of hc) (pkAndN hc)) ?_
      refine arun_do rfl rfl rfl (ex_pick rfl pkOr) ?_
      refine arun_do rfl rfl rfl (ex_move (eV (v := (Bo (((decide (x3 ≥ 97)) && (decide (x3 ≤ 122))) || ((decide (x3 ≥ 48)) && (decide (x3 ≤ 57)))))) rfl)) ?_
      refine arun_guard (v := (U8 x3)) ((((decide (x3 ≥ 97)) && (decide (x3 ≤ 122))) || ((decide (x3 ≥ 48)) && (decide (x3 ≤ 57)))) == false) rfl rfl rfl (fun hc => ex_move (eV (v := (U8 x3)) rfl)) ?_
      refine arun_guard (v := (Bo (x3 == 46))) ((((decide (x3 ≥ 97)) && (decide (x3 ≤ 122))) || ((decide (x3 ≥ 48)) && (decide (x3 ≤ 57)))) == false) rfl rfl rfl (fun hc => ex_bin (vx := (U8 x3)) (vy := (U8 46)) (cond_of hc) rfl eql8_ok) ?_
      refine arun_do rfl rfl rfl (ex_pick rfl pkOr) ?_
      refine arun_do rfl rfl rfl (ex_move (eV (v := (Bo ((((decide (x3 ≥ 97)) && (decide (x3 ≤ 122))) || ((decide (x3 ≥ 48)) && (decide (x3 ≤ 57)))) || (x3 == 46)))) rfl)) ?_
      refine arun_guard (v := (U8 x3)) (((((decide (x3 ≥ 97)) && (decide (x3 ≤ 122))) || ((decide (x3 ≥ 48)) && (decide (x3 ≤ 57)))) || (x3 == 46)) == false) rfl rfl rfl (fun hc => ex_move (eV (v := (U8 x3)) rfl)) ?_
      refine arun_guard (v := (Bo (x3 == 95))) (((((decide (x3 ≥ 97)) && (decide (x3 ≤ 122))) || ((decide (x3 ≥ 48)) && (decide (x3 ≤ 57)))) || (x3 == 46)) == false) rfl rfl rfl (fun hc => ex_bin (vx := (U8 x3)) (vy := (U8 95)) (cond_of hc) rfl eql8_ok) ?_
      refine arun_do rfl rfl rfl (ex_pick rfl pkOr) ?_
      refine arun_do rfl rfl rfl (ex_move (eV (v := (Bo (((((decide (x3 ≥ 97)) && (decide (x3 ≤ 122))) || ((decide (x3 ≥ 48)) && (decide (x3 ≤ 57)))) || (x3 == 46)) || (x3 == 95)))) rfl)) ?_
      refine arun_guard (v := (U8 x3)) ((((((decide (x3 ≥ 97)) && (decide (x3 ≤ 122))) || ((decide (x3 ≥ 48)) && (decide (x3 ≤ 57)))) || (x3 == 46)) || (x3 == 95)) == false) rfl rfl rfl (fun hc => ex_move (eV (v := (U8 x3)) rfl)) ?_
      refine arun_guard (v := (Bo (x3 == 45))) ((((((decide (x3 ≥ 97)) && (decide (x3 ≤ 122))) || ((decide (x3 ≥ 48)) && (decide (x3 ≤ 57)))) || (x3 == 46)) || (x3 == 95)) == false) rfl rfl rfl (fun hc => ex_bin (vx := (U8 x3)) (vy := (U8 45)) (cond_of hc) rfl eql8_ok) ?_
      refine arun_do rfl rfl rfl (ex_pick rfl pkOr) ?_
      refine arun_do rfl rfl rfl (ex_un (vx := (Bo ((((((decide (x3 ≥ 97)) && (decide (x3 ≤ 122))) || ((decide (x3 ≥ 48)) && (decide (x3 ≤ 57)))) || (x3 == 46)) || (x3 == 95)) || (x3 == 45)))) rfl notB_ok) ?_
      refine arun_keepE [0, 3, 40] 0 0 (st' := ⟨57, 0, [(0, (S t0)), (3, (I v1)), (40, (Bo (!((((((decide (x3 ≥ 97)) && (decide (x3 ≤ 122))) || ((decide (x3 ≥ 48)) && (decide (x3 ≤ 57)))) || (x3 == 46)) || (x3 == 95)) || (x3 == 45)))))], [], ⟨0, []⟩⟩) (by kernel_rfl) (by kernel_rfl) ?_
      show AWp _ _ _ _
      rcases Bool.eq_false_or_eq_true (!((((((decide (x3 ≥ 97)) && (decide (x3 ≤ 122))) || ((decide (x3 ≥ 48)) && (decide (x3 ≤ 57)))) || (x3 == 46)) || (x3 == 95)) || (x3 == 45))) with hb4 | hb4
      · rw [condT hb4] at h
        refine awp_condT (boT hb4) ?_
        refine awp_seq ?_
        refine awp_region ?_
        refine arun_do rfl rfl rfl (ex_assign (eV (v := (Bo false)) rfl)) ?_
        refine arun_keepE [2] 0 0 (st' := ⟨57, 0, [(2, (Bo false))], [], ⟨0, []⟩⟩) (by kernel_rfl) (by kernel_rfl) ?_
        show AWp _ _ _ _
        refine awp_ret ?_
        cases h
        exact ares1 (rtmp rfl (eV rfl))
      · rw [condF hb4] at h
        refine awp_condF (boF hb4) ?_
        refine awp_skip ?_
        show AWp _ _ _ _
        refine awp_region ?_
        refine arun_do rfl rfl rfl (ex_move (eV (v := (I v1)) rfl)) ?_
        refine arun_do rfl rfl rfl (ex_bin (vx := (I v1)) (vy := (I 1)) rfl rfl addI_ok) ?_
        refine arun_do rfl rfl rfl (ex_assign (eV (v := (I (w64 (v1 + 1)))) rfl)) ?_
        refine arun_keepE [0, 3] 0 0 (st' := ⟨57, 0, [(0, (S t0)), (3, (I (w64 (v1 + 1))))], [], ⟨0, []⟩⟩) (by kernel_rfl) (by kernel_rfl) ?_
        exact Exists.intro n1 (And.intro (Nat.lt_succ_self _) (Exists.intro (w64 (v1 + 1)) (And.intro rfl h)))
    · rw [condF hb2] at h
      refine awp_condF (boF hb2) ?_
      refine awp_exit ?_
      show AWp _ _ _ _
      refine awp_seq ?_
      refine awp_region ?_
      refine arun_do rfl rfl rfl (ex_move (eV (v := (S t0)) rfl)) ?_
      refine arun_do rfl rfl rfl (tx_lenS Tryd.underlying9 rfl) ?_
      refine arun_do rfl rfl rfl (ex_bin (vx := (I (t0.length : Int))) (vy := (I 1)) rfl rfl geqI_ok) ?_
      refine arun_do rfl rfl rfl (ex_move (eV (v := (Bo (decide ((t0.length : Int) ≥ 1)))) rfl)) ?_
      refine arun_guard (v := (S t0)) ((decide ((t0.length : Int) ≥ 1)) == true) rfl rfl rfl (fun hc => ex_move (eV (v := (S t0)) rfl)) ?_
      refine arun_guard (v := (I (t0.length : Int))) ((decide ((t0.length : Int) ≥ 1)) == true) rfl rfl rfl (fun hc => tx_lenS Tryd.underlying9 (cond_of hc)) ?_
      refine arun_guard (v := (Bo (decide ((t0.length : Int) ≤ 8)))) ((decide ((t0.length : Int) ≥ 1)) == true) rfl rfl rfl (fun hc => ex_bin (vx := (I (t0.length : Int))) (vy := (I 8)) (cond_of hc) rfl leqI_ok) ?_
      refine arun_do rfl rfl rfl (ex_pick rfl pkAnd) ?_
      refine arun_do rfl rfl rfl (ex_move (eV (v := (Bo ((decide ((t0.length : Int) ≥ 1)) && (decide ((t0.length : Int) ≤ 8))))) rfl)) ?_
      refine arun_guard (v := (S t0)) (((decide ((t0.length : Int) ≥ 1)) && (decide ((t0.length : Int) ≤ 8))) == true) rfl rfl rfl (fun hc => ex_move (eV (v := (S t0)) rfl)) ?_
      refine arun_guard (v := (Bo (t0 != ([46] : Str)))) (((decide ((t0.length : Int) ≥ 1)) && (decide ((t0.length : Int) ≤ 8))) == true) rfl rfl rfl (fun hc => ex_bin (vx := (S t0)) (vy := (S ([46] : Str))) (cond_of hc) rfl neqS_ok) ?_
      refine arun_do rfl rfl rfl (ex_pick rfl pkAnd) ?_
      refine arun_do rfl rfl rfl (ex_move (eV (v := (Bo (((decide ((t0.length : Int) ≥ 1)) && (decide ((t0.length : Int) ≤ 8))) && (t0 != ([46] : Str))))) rfl)) ?_
      refine arun_guard (v := (S t0)) ((((decide ((t0.length : Int) ≥ 1)) && (decide ((t0.length : Int) ≤ 8))) && (t0 != ([46] : Str))) == true) rfl rfl rfl (fun hc => ex_move (eV (v := (S t0)) rfl)) ?_
      refine arun_guard (v := (Bo (t0 != ([46, 46] : Str)))) ((((decide ((t0.length : Int) ≥ 1)) && (decide ((t0.length : Int) ≤ 8))) && (t0 != ([46] : Str))) == true) rfl rfl rfl (fun hc => ex_bin (vx := (S t0)) (vy := (S ([46, 46] : Str))) (cond_of hc) rfl neqS_ok) ?_
      refine arun_do rfl rfl rfl (ex_pick rfl pkAnd) ?_
      refine arun_do rfl rfl rfl (ex_assign (eV (v := (Bo ((((decide ((t0.length : Int) ≥ 1)) && (decide ((t0.length : Int) ≤ 8))) && (t0 != ([46] : Str))) && (t0 != ([46, 46] : Str))))) rfl)) ?_
      refine arun_keepE [2] 0 0 (st' := ⟨57, 0, [(2, (Bo ((((decide ((t0.length : Int) ≥ 1)) && (decide ((t0.length : Int) ≤ 8))) && (t0 != ([46] : Str))) && (t0 != ([46, 46] : Str)))))], [], ⟨0, []⟩⟩) (by kernel_rfl) (by kernel_rfl) ?_
      show AWp _ _ _ _
      refine awp_ret ?_
      cases h
      exact ares1 (rtmp rfl (eV rfl))

noncomputable def M_ref11_Parts_k1 (c_1 : (Int → Int → List Str → Option ((List Str) × Bool))) (t0 : Str) (v3 : Int) (y6 : Int) (y7 : List Str) : Option ((List Str) × Bool) :=
  c_1 y6 (w64 (v3 + 1)) y7
noncomputable def M_ref11_Parts_l1 (t0 : Str) : Nat → Int → Int → List Str → Option ((List Str) × Bool)
  | 0, _, _, _ => none
  | n1 + 1, v2, v3, v4 =>
  cond (decide (v3 ≤ (t0.length : Int))) (Option.bind (gd ((decide (v3 < (t0.length : Int))) == true) (getI t0 v3)) fun (x8 : UInt8) => cond ((decide (v3 < (t0.length : Int))) && (x8 != 47)) (M_ref11_Parts_k1 (M_ref11_Parts_l1 t0 n1) t0 v3 v2 v4) (Option.bind (slL t0 v2 v3) fun (x10 : Str) => Option.bind (M_ref11_MayName x10) fun (x11 : Bool) => cond ((!x11) || (decide (((v4.length : Nat) : Int) ≥ 7))) (some ([], false)) (Option.bind (slL t0 v2 v3) fun (x13 : Str) => Option.bind (appL 16 v4 ([x13] : List Str)) fun (x14 : List Str) => M_ref11_Parts_k1 (M_ref11_Parts_l1 t0 n1) t0 v3 (w64 (v3 + 1)) x14))) (some (v4, true))
noncomputable def M_ref11_Parts (t0 : Str) : Option ((List Str) × Bool) :=
  cond (t0 == []) (some ([], true)) (M_ref11_Parts_l1 t0 fuel 0 0 ([] : List Str))
theorem ok_ref11_Parts (t0 : Str) (r : ((List Str) × Bool)) (h : M_ref11_Parts t0 = some r) : FFn Tryd.prog 42 [(S t0)] (Value.tuple #[(SL 1 cS r.1), (Bo r.2)]) := by
  refine FFn.of_body (n := 46) Tryd.func42 rfl Tryd.ntmps42 rfl rfl rfl rfl ?_
  show AWp _ _ _ ⟨46, 0, [(0, (S t0))], [], ⟨0, []⟩⟩
  unfold M_ref11_Parts at h
  refine awp_seq ?_
  refine awp_region ?_
  refine arun_do rfl rfl rfl (ex_assign (eV (v := (Value.slice none 0 0)) rfl)) ?_
  refine arun_do rfl rfl rfl (ex_assign (eV (v := (Bo false)) rfl)) ?_
  refine arun_keepE [0] 0 0 (st' := ⟨46, 0, [(0, (S t0))], [], ⟨0, []⟩⟩) (by kernel_rfl) (by kernel_rfl) ?_
  show AWp _ _ _ _
  refine awp_seq ?_
  refine awp_seq ?_
  refine awp_region ?_
  refine arun_do rfl rfl rfl (ex_move (eV (v := (S t0)) rfl)) ?_
  refine arun_do rfl rfl rfl (ex_bin (vx := (S t0)) (vy := (S [])) rfl rfl eqlS_ok) ?_
  refine arun_keepE [0, 8] 0 0 (st' := ⟨46, 0, [(0, (S t0)), (8, (Bo (t0 == [])))], [], ⟨0, []⟩⟩) (by kernel_rfl) (by kernel_rfl) ?_
  show AWp _ _ _ _
  rcases Bool.eq_false_or_eq_true (t0 == []) with hb1 | hb1
  · rw [condT hb1] at h
    refine awp_condT (boT hb1) ?_
    refine awp_seq ?_
    refine awp_region ?_
    refine arun_do rfl rfl rfl (ex_assign (eV (v := (Value.slice none 0 0)) rfl)) ?_
    refine arun_do rfl rfl rfl (ex_assign (eV (v := (Bo true)) rfl)) ?_
    refine arun_keepE [2, 3] 0 0 (st' := ⟨46, 0, [(2, (Value.slice none 0 0)), (3, (Bo true))], [], ⟨0, []⟩⟩) (by kernel_rfl) (by kernel_rfl) ?_
    show AWp _ _ _ _
    refine awp_ret ?_
    cases h
    exact aresN rfl (L2.cons (rtmp rfl (eN rfl)) (L2.cons (rtmp rfl (eV rfl)) L2.nil)) rfl
  · rw [condF hb1] at h
    refine awp_condF (boF hb1) ?_
    refine awp_skip ?_
    show AWp _ _ _ _
    refine awp_seq ?_
    refine awp_region ?_
    refine arun_do rfl rfl rfl (ex_assign (eV (v := (Value.slice none 0 0)) rfl)) ?_
    refine arun_keepE [0, 4] 0 0 (st' := ⟨46, 0, [(0, (S t0)), (4, (Value.slice none 0 0))], [], ⟨0, []⟩⟩) (by kernel_rfl) (by kernel_rfl) ?_
    show AWp _ _ _ _
    refine awp_seq ?_
    refine awp_region ?_
    refine arun_do rfl rfl rfl (ex_assign (eV (v := (I 0)) rfl)) ?_
    refine arun_keepE [0, 4, 5] 0 0 (st' := ⟨46, 0, [(0, (S t0)), (4, (Value.slice none 0 0)), (5, (I 0))], [], ⟨0, []⟩⟩) (by kernel_rfl) (by kernel_rfl) ?_
    show AWp _ _ _ _
    refine awp_seq ?_
    refine awp_seq ?_
    refine awp_region ?_
    refine arun_do rfl rfl rfl (ex_assign (eV (v := (I 0)) rfl)) ?_
    refine arun_keepE [0, 4, 5, 6] 0 0 (st' := ⟨46, 0, [(0, (S t0)), (4, (Value.slice none 0 0)), (5, (I 0)), (6, (I 0))], [], ⟨0, []⟩⟩) (by kernel_rfl) (by kernel_rfl) ?_
    show AWp _ _ _ _
    refine awp_block ?_
    refine awp_nilGro 4 1 rfl (by decide) ?_
    refine awp_keepE [0, 4, 5, 6] 0 1 (st' := ⟨46, 0, [(0, (S t0)), (4, (GV 0 0)), (5, (I 0)), (6, (I 0))], [], ⟨1, [(0, ⟨1, (([] : List Str).flatMap cS), true⟩)]⟩⟩) (by kernel_rfl) (by kernel_rfl) ?_
    refine awp_loop (fun n s => ∃ (v2 : Int) (v3 : Int) (v4 : List Str), s = ⟨46, 0, [(0, (S t0)), (4, (GV 0 v4.length)), (5, (I v2)), (6, (I v3))], [], ⟨1, [(0, ⟨1, ((v4).flatMap cS), true⟩)]⟩⟩ ∧ M_ref11_Parts_l1 t0 n v2 v3 v4 = some r) fuel (Exists.intro 0 (Exists.intro 0 (Exists.intro ([] : List Str) (And.intro rfl h)))) ?_
    rintro n s ⟨v2, v3, v4, rfl, h⟩ -
    cases n with
    | zero => cases h
    | succ n1 =>
      unfold M_ref11_Parts_l1 at h
      refine awp_seq ?_
      refine awp_seq ?_
      refine awp_region ?_
      refine arun_do rfl rfl rfl (ex_move (eV (v := (I v3)) rfl)) ?_
      refine arun_do rfl rfl rfl (ex_move (eV (v := (S t0)) rfl)) ?_
      refine arun_do rfl rfl rfl (tx_lenS Tryd.underlying9 rfl) ?_
      refine arun_do rfl rfl rfl (ex_bin (vx := (I v3)) (vy := (I (t0.length : Int))) rfl rfl leqI_ok) ?_
      refine arun_keepE [0, 4, 5, 6, 12] 0 1 (st' := ⟨46, 0, [(0, (S t0)), (4, (GV 0 v4.length)), (5, (I v2)), (6, (I v3)), (12, (Bo (decide (v3 ≤ (t0.length : Int)))))], [], ⟨1, [(0, ⟨1, ((v4).flatMap cS), true⟩)]⟩⟩) (by kernel_rfl) (by kernel_rfl) ?_
      show AWp _ _ _ _
      rcases Bool.eq_false_or_eq_true (decide (v3 ≤ (t0.length : Int))) with hb5 | hb5
      · rw [condT hb5] at h
        refine awp_condT (boT hb5) ?_
        refine awp_skip ?_
        show AWp _ _ _ _
        refine awp_seqJ (fun s => ∃ (y6 : Int) (y7 : List Str), s = ⟨46, 0, [(0, (S t0)), (4, (GV 0 y7.length)), (5, (I y6)), (6, (I v3))], [], ⟨1, [(0, ⟨1, ((y7).flatMap cS), true⟩)]⟩⟩ ∧ M_ref11_Parts_k1 (M_ref11_Parts_l1 t0 n1) t0 v3 y6 y7 = some r) ?_ ?_
        · refine awp_block ?_
          refine awp_seq ?_
          refine awp_seq ?_
          refine awp_region ?_
          refine arun_do rfl rfl rfl (ex_move (eV (v := (I v3)) rfl)) ?_
          refine arun_do rfl rfl rfl (ex_move (eV (v := (S t0)) rfl)) ?_
          refine arun_do rfl rfl rfl (tx_lenS Tryd.underlying9 rfl) ?_
          refine arun_do rfl rfl rfl (ex_bin (vx := (I v3)) (vy := (I (t0.length : Int))) rfl rfl lssI_ok) ?_
          refine arun_do rfl rfl rfl (ex_move (eV (v := (Bo (decide (v3 < (t0.length : Int))))) rfl)) ?_
          refine arun_guard (v := (S t0)) ((decide (v3 < (t0.length : Int))) == true) rfl rfl rfl (fun hc => ex_move (eV (v := (S t0)) rfl)) ?_
          refine arun_guard (v := (I v3)) ((decide (v3 < (t0.length : Int))) == true) rfl rfl rfl (fun hc => ex_move (eV (v := (I v3)) rfl)) ?_
          obtain ⟨x8, hx8, h⟩ := bindS h
          refine arun_guard (v := (U8 x8)) ((decide (v3 < (t0.length : Int))) == true) rfl rfl rfl (fun hc => tx_idxS (u := t0) (i := v3) Tryd.underlying9 (cond_of hc) (cond_of hc) (gd_of hc hx8)) ?_
          refine arun_guard (v := (Bo (x8 != 47))) ((decide (v3 < (t0.length : Int))) == true) rfl rfl rfl (fun hc => ex_bin (vx := (U8 x8)) (vy := (U8 47)) (cond_of hc) rfl neq8_ok) ?_
          refine arun_do rfl rfl rfl (ex_pick rfl pkAnd) ?_
          refine arun_keepE [0, 4, 5, 6, 24] 0 1 (st' := ⟨46, 0, [(0, (S t0)), (4, (GV 0 v4.length)), (5, (I v2)), (6, (I v3)), (24, (Bo ((decide (v3 < (t0.length : Int))) && (x8 != 47))))], [], ⟨1, [(0, ⟨1, ((v4).flatMap cS), true⟩)]⟩⟩) (by kernel_rfl) (by kernel_rfl) ?_
          show AWp _ _ _ _
          rcases Bool.eq_false_or_eq_true ((decide (v3 < (t0.length : Int))) && (x8 != 47)) with hb9 | hb9
          · rw [condT hb9] at h
            refine awp_condT (boT hb9) ?_
            refine awp_keepE [0, 4, 5, 6] 0 1 (st' := ⟨46, 0, [(0, (S t0)), (4, (GV 0 v4.length)), (5, (I v2)), (6, (I v3))], [], ⟨1, [(0, ⟨1, ((v4).flatMap cS), true⟩)]⟩⟩) (by kernel_rfl) (by kernel_rfl) ?_
            refine awp_exit ?_
            exact (Exists.intro v2 (Exists.intro v4 (And.intro rfl h)))
          · rw [condF hb9] at h
            refine awp_condF (boF hb9) ?_
            refine awp_skip ?_
            show AWp _ _ _ _
            refine awp_seq ?_
            refine awp_seq ?_
            refine awp_region ?_
            refine arun_do rfl rfl rfl (ex_move (eV (v := (S t0)) rfl)) ?_
            refine arun_do rfl rfl rfl (ex_move (eV (v := (I v2)) rfl)) ?_
            refine arun_do rfl rfl rfl (ex_move (eV (v := (I v3)) rfl)) ?_
            obtain ⟨x10, hx10, h⟩ := bindS h
            refine arun_do rfl rfl rfl (tx_slS (u := t0) Tryd.underlying9 rfl (loX (l := v2) rfl) (hiX (l := v3) rfl) hx10) ?_
            obtain ⟨x11, hx11, h⟩ := bindS h
            refine arun_do rfl rfl rfl (ex_call0 (vs := [(S x10)]) (v := (Bo x11)) rfl en_58 (cargs (evs rfl evs_nil)) rfl (ok_ref11_MayName x10 x11 hx11) rfl) ?_
            refine arun_do rfl rfl rfl (ex_un (vx := (Bo x11)) rfl notB_ok) ?_
            refine arun_do rfl rfl rfl (ex_move (eV (v := (Bo (!x11))) rfl)) ?_
            refine arun_guard (v := (GV 0 v4.length)) ((!x11) == false) rfl rfl rfl (fun hc => ex_move (eV (v := (GV 0 v4.length)) rfl)) ?_
            refine arun_guard (v := (I ((v4.length : Nat) : Int))) ((!x11) == false) rfl rfl rfl (fun hc => ex_lenN (n := v4.length) Tryd.underlying30 (cond_of hc)) ?_
            refine arun_guard (v := (Bo (decide (((v4.length : Nat) : Int) ≥ 7)))) ((!x11) == false) rfl rfl rfl (fun hc => ex_bin (vx := (I ((v4.length : Nat) : Int))) (vy := (I 7)) (cond_of hc) rfl geqI_ok) ?_
            refine arun_do rfl rfl rfl (ex_pick rfl pkOr) ?_
            refine arun_keepE [0, 4, 5, 6, 35] 0 1 (st' := ⟨46, 0, [(0, (S t0)), (4, (GV 0 v4.length)), (5, (I v2)), (6, (I v3)), (35, (Bo ((!x11) || (decide (((v4.length : Nat) : Int) ≥ 7)))))], [], ⟨1, [(0, ⟨1, ((v4).flatMap cS), true⟩)]⟩⟩) (by kernel_rfl) (by kernel_rfl) ?_
            show AWp _ _ _ _
            rcases Bool.eq_false_or_eq_true ((!x11) || (decide (((v4.length : Nat) : Int) ≥ 7))) with hb12 | hb12
            · rw [condT hb12] at h
              refine awp_condT (boT hb12) ?_
              refine awp_seq ?_
              refine awp_region ?_
              refine arun_do rfl rfl rfl (ex_assign (eV (v := (Value.slice none 0 0)) rfl)) ?_
              refine arun_do rfl rfl rfl (ex_assign (eV (v := (Bo false)) rfl)) ?_
              refine arun_keepE [2, 3] 0 0 (st' := ⟨46, 0, [(2, (Value.slice none 0 0)), (3, (Bo false))], [], ⟨0, []⟩⟩) (by kernel_rfl) (by kernel_rfl) ?_
              show AWp _ _ _ _
              refine awp_ret ?_
              cases h
              exact aresN rfl (L2.cons (rtmp rfl (eN rfl)) (L2.cons (rtmp rfl (eV rfl)) L2.nil)) rfl
            · rw [condF hb12] at h
              refine awp_condF (boF hb12) ?_
              refine awp_skip ?_
              show AWp _ _ _ _
              refine awp_seq ?_
              refine awp_region ?_
              refine arun_do rfl rfl rfl (ex_move (eV (v := (GV 0 v4.length)) rfl)) ?_
              refine arun_do rfl rfl rfl (ex_move (eV (v := (S t0)) rfl)) ?_
              refine arun_do rfl rfl rfl (ex_move (eV (v := (I v2)) rfl)) ?_
              refine arun_do rfl rfl rfl (ex_move (eV (v := (I v3)) rfl)) ?_
              obtain ⟨x13, hx13, h⟩ := bindS h
              refine arun_do rfl rfl rfl (tx_slS (u := t0) Tryd.underlying9 rfl (loX (l := v2) rfl) (hiX (l := v3) rfl) hx13) ?_
              refine arun_do rfl rfl rfl (ex_buildSliceD (qs := [(0, (S x13))]) (cells := (([x13] : List Str).flatMap cS)) Tryd.underlying30 s_9 (by decide) (evp rfl evp_nil) rfl (by kernel_rfl) (by kernel_rfl) (by kernel_rfl)) ?_
              obtain ⟨x14, hx14, h⟩ := bindS h
              refine arun_do rfl rfl rfl (tx_appG (c := cS) (xs := v4) (H' := ⟨1, [(0, ⟨1, ((x14).flatMap cS), true⟩)]⟩) ceS e_9 rfl rfl rfl (tsrcD (ys := ([x13] : List Str)) ceS Tryd.underlying30 s_9 Tryd.underlying30 rfl) hx14 rfl) ?_
              refine arun_do rfl rfl rfl (ex_assign (eV (v := (GV 0 x14.length)) rfl)) ?_
              refine arun_keepE [0, 4, 6] 0 1 (st' := ⟨46, 0, [(0, (S t0)), (4, (GV 0 x14.length)), (6, (I v3))], [], ⟨1, [(0, ⟨1, ((x14).flatMap cS), true⟩)]⟩⟩) (by kernel_rfl) (by kernel_rfl) ?_
              show AWp _ _ _ _
              refine awp_region ?_
              refine arun_do rfl rfl rfl (ex_move (eV (v := (I v3)) rfl)) ?_
              refine arun_do rfl rfl rfl (ex_bin (vx := (I v3)) (vy := (I 1)) rfl rfl addI_ok) ?_
              refine arun_do rfl rfl rfl (ex_assign (eV (v := (I (w64 (v3 + 1)))) rfl)) ?_
              refine arun_keepE [0, 4, 5, 6] 0 1 (st' := ⟨46, 0, [(0, (S t0)), (4, (GV 0 x14.length)), (5, (I (w64 (v3 + 1)))), (6, (I v3))], [], ⟨1, [(0, ⟨1, ((x14).flatMap cS), true⟩)]⟩⟩) (by kernel_rfl) (by kernel_rfl) ?_
              exact (Exists.intro (w64 (v3 + 1)) (Exists.intro x14 (And.intro rfl h)))
        · rintro s ⟨y6, y7, rfl, h⟩
          unfold M_ref11_Parts_k1 at h
          refine awp_region ?_
          refine arun_do rfl rfl rfl (ex_move (eV (v := (I v3)) rfl)) ?_
          refine arun_do rfl rfl rfl (ex_bin (vx := (I v3)) (vy := (I 1)) rfl rfl addI_ok) ?_
          refine arun_do rfl rfl rfl (ex_assign (eV (v := (I (w64 (v3 + 1)))) rfl)) ?_
          refine arun_keepE [0, 4, 5, 6] 0 1 (st' := ⟨46, 0, [(0, (S t0)), (4, (GV 0 y7.length)), (5, (I y6)), (6, (I (w64 (v3 + 1))))], [], ⟨1, [(0, ⟨1, ((y7).flatMap cS), true⟩)]⟩⟩) (by kernel_rfl) (by kernel_rfl) ?_
          exact Exists.intro n1 (And.intro (Nat.lt_succ_self _) (Exists.intro y6 (Exists.intro (w64 (v3 + 1)) (Exists.intro y7 (And.intro rfl h)))))
      · rw [condF hb5] at h
        refine awp_condF (boF hb5) ?_
        refine awp_exit ?_
        show AWp _ _ _ _
        refine awp_seq ?_
        refine awp_region ?_
        refine arun_do rfl rfl rfl (ex_move (eV (v := (GV 0 v4.length)) rfl)) ?_
        refine arun_do rfl rfl rfl (ex_assign (eV (v := (GV 0 v4.length)) rfl)) ?_
        refine arun_do rfl rfl rfl (ex_assign (eV (v := (Bo true)) rfl)) ?_
        refine arun_keepE [2, 3] 0 1 (st' := ⟨46, 0, [(2, (GV 0 v4.length)), (3, (Bo true))], [], ⟨1, [(0, ⟨1, ((v4).flatMap cS), true⟩)]⟩⟩) (by kernel_rfl) (by kernel_rfl) ?_
        show AWp _ _ _ _
        refine awp_freeze 0 (bk := ⟨1, ((v4).flatMap cS), true⟩) (T' := [(2, (SL 1 cS v4)), (3, (Bo true))]) (L' := []) rfl (fzG ceS rfl rfl (FzT.keep (v := (Bo true)) rfl FzT.nil)) (FzL.refl _) ?_
        show AWp _ _ _ ⟨46, 0, [(2, (SL 1 cS v4)), (3, (Bo true))], [], ⟨1, []⟩⟩
        refine awp_ret ?_
        cases h
        exact aresN rfl (L2.cons (rtmp rfl (eV rfl)) (L2.cons (rtmp rfl (eV rfl)) L2.nil)) rfl

end Go.Proofs
