/- Pure models of functions of the program, and that its code does what they say: palimplaw12 turned. Written by a program. -/
import Derived.Test.YtpfbnghalpfoaaaGreatDoorR12ZB
set_option maxRecDepth 20000
set_option maxHeartbeats 4000000
namespace Go.Proofs
open Go Go.Fhl
set_option linter.unusedVariables false
set_option linter.unusedSimpArgs false
noncomputable def M_law12_turned_k1 (y4 : (List G_api_Node)) : Option (List G_api_Node) :=
  some y4
noncomputable def M_law12_turned (t0 : (List G_api_Node)) (t1 : UInt8) (t2 : Int) (t3 : Str) : Option (List G_api_Node) :=
  Option.bind (appL 56 ([] : List G_api_Node) t0) fun (x1 : List G_api_Node) => Option.bind (remI t2 ((x1.length : Nat) : Int)) fun (x2 : Int) => Option.bind (getI x1 x2) fun (x3 : G_api_Node) => Option.bind (rem8 t1 10) fun (x5 : UInt8) => cond (x5 == 0) (Option.bind (remI t2 5) fun (x7 : Int) => Option.bind (setI x1 x2 (G_api_Node.mk x7 x3.Up x3.Name x3.Body x3.Bad)) fun (x8 : List G_api_Node) => M_law12_turned_k1 x8) (cond (x5 == 1) (Option.bind (quoI t2 8) fun (x10 : Int) => Option.bind (setI x1 x2 (G_api_Node.mk x3.Kind (w64 (x10 - 2)) x3.Name x3.Body x3.Bad)) fun (x11 : List G_api_Node) => M_law12_turned_k1 x11) (cond (x5 == 2) (Option.bind (setI x1 x2 (G_api_Node.mk x3.Kind x3.Up t3 x3.Body x3.Bad)) fun (x13 : List G_api_Node) => M_law12_turned_k1 x13) (cond (x5 == 3) (Option.bind (setI x1 x2 (G_api_Node.mk x3.Kind x3.Up x3.Name t3 x3.Bad)) fun (x15 : List G_api_Node) => M_law12_turned_k1 x15) (cond (x5 == 4) (Option.bind (quoI t2 8) fun (x17 : Int) => Option.bind (setI x1 x2 (G_api_Node.mk x3.Kind x3.Up x3.Name x3.Body (w64 (x17 - 3)))) fun (x18 : List G_api_Node) => M_law12_turned_k1 x18) (cond (x5 == 5) (Option.bind (setI x1 x2 (G_api_Node.mk 3 0 [] [] 0)) fun (x20 : List G_api_Node) => M_law12_turned_k1 x20) (cond (x5 == 6) (Option.bind (setI x1 x2 (G_api_Node.mk 0 0 [] [] 0)) fun (x22 : List G_api_Node) => M_law12_turned_k1 x22) (cond (x5 == 7) (Option.bind (quoI t2 8) fun (x24 : Int) => Option.bind (remI x24 2) fun (x25 : Int) => Option.bind (quoI t2 16) fun (x26 : Int) => Option.bind (remI x26 9) fun (x27 : Int) => Option.bind (setI x1 x2 (G_api_Node.mk (w64 (1 + x25)) x27 ([122, 122] : Str) [] 0)) fun (x28 : List G_api_Node) => M_law12_turned_k1 x28) (cond (x5 == 8) (Option.bind (remI t2 ((x1.length : Nat) : Int)) fun (x30 : Int) => Option.bind (slL x1 0 x30) fun (x31 : (List G_api_Node)) => M_law12_turned_k1 x31) (M_law12_turned_k1 x1)))))))))
theorem ok_law12_turned (t0 : (List G_api_Node)) (t1 : UInt8) (t2 : Int) (t3 : Str) (r : (List G_api_Node)) (h : M_law12_turned t0 t1 t2 t3 = some r) : FFn Tryz.prog 8 [(SL 5 c_api_Node t0), (U8 t1), (I t2), (S t3)] (SL 5 c_api_Node r) := by
  refine FFn.of_body (n := 88) Tryz.func8 rfl Tryz.ntmps8 rfl rfl rfl rfl ?_
  show AWp _ _ _ ⟨88, 0, [(0, (SL 5 c_api_Node t0)), (1, (U8 t1)), (2, (I t2)), (3, (S t3))], [], ⟨0, []⟩⟩
  unfold M_law12_turned at h
  refine awp_seq ?_
  refine awp_region ?_
  refine arun_do rfl rfl rfl (ex_assign (eV (v := (Value.slice none 0 0)) rfl)) ?_
  refine arun_keepE [0, 1, 2, 3] 0 0 (st' := ⟨88, 0, [(0, (SL 5 c_api_Node t0)), (1, (U8 t1)), (2, (I t2)), (3, (S t3))], [], ⟨0, []⟩⟩) (by kernel_rfl) (by kernel_rfl) ?_
  show AWp _ _ _ _
  refine awp_seq ?_
  refine awp_region ?_
  refine arun_do rfl rfl rfl (ex_buildSliceG (k := 0) (qs := []) (cells := (([] : List G_api_Node).flatMap c_api_Node)) (H' := ⟨1, [(0, ⟨5, (([] : List G_api_Node).flatMap c_api_Node), true⟩)]⟩) Tryz.underlying25 s_49 (by decide) (by decide) evp_nil rfl (by kernel_rfl) (by kernel_rfl) (by kernel_rfl) rfl rfl) ?_
  refine arun_do rfl rfl rfl (ex_move (eV (v := (SL 5 c_api_Node t0)) rfl)) ?_
  obtain ⟨x1, hx1, h⟩ := bindS h
  refine arun_do rfl rfl rfl (tx_appG (c := c_api_Node) (xs := []) (H' := ⟨1, [(0, ⟨5, ((x1).flatMap c_api_Node), true⟩)]⟩) ce_api_Node e_49 rfl rfl rfl (tsrcD (ys := t0) ce_api_Node Tryz.underlying25 s_49 Tryz.underlying25 rfl) hx1 rfl) ?_
  refine arun_do rfl rfl rfl (ex_assign (eV (v := (GV 0 x1.length)) rfl)) ?_
  refine arun_keepE [1, 2, 3, 9] 0 1 (st' := ⟨88, 0, [(1, (U8 t1)), (2, (I t2)), (3, (S t3)), (9, (GV 0 x1.length))], [], ⟨1, [(0, ⟨5, ((x1).flatMap c_api_Node), true⟩)]⟩⟩) (by kernel_rfl) (by kernel_rfl) ?_
  show AWp _ _ _ _
  refine awp_seq ?_
  refine awp_region ?_
  refine arun_do rfl rfl rfl (ex_move (eV (v := (GV 0 x1.length)) rfl)) ?_
  refine arun_do rfl rfl rfl (ex_move (eV (v := (I t2)) rfl)) ?_
  refine arun_do rfl rfl rfl (ex_move (eV (v := (GV 0 x1.length)) rfl)) ?_
  refine arun_do rfl rfl rfl (ex_lenN (n := x1.length) Tryz.underlying25 rfl) ?_
  obtain ⟨x2, hx2, h⟩ := bindS h
  refine arun_do rfl rfl rfl (ex_bin (vx := (I t2)) (vy := (I ((x1.length : Nat) : Int))) rfl rfl (remI_ok hx2)) ?_
  obtain ⟨x3, hx3, h⟩ := bindS h
  refine arun_do rfl rfl rfl (tx_idxG (c := c_api_Node) (xs := x1) (i := x2) ce_api_Node Tryz.underlying25 s_49 rfl rfl rfl rfl hx3) ?_
  refine arun_do rfl rfl rfl (ex_assign (eV (v := (GP 0 (x2.toNat * 5) (List.flatMap c_api_Node x1).length)) rfl)) ?_
  refine arun_keepE [1, 2, 3, 9, 10] 0 1 (st' := ⟨88, 0, [(1, (U8 t1)), (2, (I t2)), (3, (S t3)), (9, (GV 0 x1.length)), (10, (GP 0 (x2.toNat * 5) (List.flatMap c_api_Node x1).length))], [], ⟨1, [(0, ⟨5, ((x1).flatMap c_api_Node), true⟩)]⟩⟩) (by kernel_rfl) (by kernel_rfl) ?_
  show AWp _ _ _ _
  refine awp_seqJ (fun s => ∃ (y4 : (List G_api_Node)), s = ⟨88, 0, [(9, (SL 5 c_api_Node y4))], [], ⟨0, []⟩⟩ ∧ M_law12_turned_k1 y4 = some r) ?_ ?_
  · refine awp_seq ?_
    refine awp_region ?_
    refine arun_do rfl rfl rfl (ex_move (eV (v := (U8 t1)) rfl)) ?_
    obtain ⟨x5, hx5, h⟩ := bindS h
    refine arun_do rfl rfl rfl (ex_bin (vx := (U8 t1)) (vy := (U8 10)) rfl rfl (rem8_ok hx5)) ?_
    refine arun_keepE [2, 3, 9, 10, 21] 0 1 (st' := ⟨88, 0, [(2, (I t2)), (3, (S t3)), (9, (GV 0 x1.length)), (10, (GP 0 (x2.toNat * 5) (List.flatMap c_api_Node x1).length)), (21, (U8 x5))], [], ⟨1, [(0, ⟨5, ((x1).flatMap c_api_Node), true⟩)]⟩⟩) (by kernel_rfl) (by kernel_rfl) ?_
    show AWp _ _ _ _
    refine awp_block ?_
    refine awp_seq ?_
    refine awp_region ?_
    refine arun_do rfl rfl rfl (ex_bin (vx := (U8 x5)) (vy := (U8 0)) rfl rfl eql8_ok) ?_
    refine arun_do rfl rfl rfl (ex_assign (eV (v := (Bo (x5 == 0))) rfl)) ?_
    refine arun_keepE [2, 3, 9, 10, 21, 22] 0 1 (st' := ⟨88, 0, [(2, (I t2)), (3, (S t3)), (9, (GV 0 x1.length)), (10, (GP 0 (x2.toNat * 5) (List.flatMap c_api_Node x1).length)), (21, (U8 x5)), (22, (Bo (x5 == 0)))], [], ⟨1, [(0, ⟨5, ((x1).flatMap c_api_Node), true⟩)]⟩⟩) (by kernel_rfl) (by kernel_rfl) ?_
    show AWp _ _ _ _
    rcases Bool.eq_false_or_eq_true (x5 == 0) with hb6 | hb6
    · rw [condT hb6] at h
      refine awp_condT (boT hb6) ?_
      refine awp_region ?_
      refine arun_do rfl rfl rfl (ex_move (eV (v := (GP 0 (x2.toNat * 5) (List.flatMap c_api_Node x1).length)) rfl)) ?_
      refine arun_do rfl rfl rfl (ex_move (eV (v := (I t2)) rfl)) ?_
      obtain ⟨x7, hx7, h⟩ := bindS h
      refine arun_do rfl rfl rfl (ex_bin (vx := (I t2)) (vy := (I 5)) rfl rfl (remI_ok hx7)) ?_
      refine arun_do rfl rfl rfl (ex_nilCheck (p := ⟨0, (x2.toNat * 5), some ((List.flatMap c_api_Node x1).length + 1)⟩) rfl) ?_
      refine arun_do rfl rfl rfl (ex_fieldAddr (v := (GP 0 ((x2.toNat * 5) + 0) (List.flatMap c_api_Node x1).length)) Tryz.underlying49 rfl s_3 (by decide) rfl rfl) ?_
      obtain ⟨x8, hx8, h⟩ := bindS h
      refine arun_do0 rfl rfl (tx_stGp (c := c_api_Node) (xs := x1) (e := x3) (e' := (G_api_Node.mk x7 x3.Up x3.Name x3.Body x3.Bad)) (off := 0) (vs := [(I x7)]) (H' := ⟨1, [(0, ⟨5, ((x8).flatMap c_api_Node), true⟩)]⟩) ce_api_Node s_3 rfl (by first | rfl | omega) (eV (v := (I x7)) rfl) rfl rfl hx3 (Nat.le_of_ble_eq_true rfl) (by kernel_rfl) rfl (List.cons_ne_nil _ _) hx8 rfl) ?_
      refine arun_fewer (T' := [(2, (I t2)), (3, (S t3)), (9, (GV 0 x8.length)), (21, (U8 x5)), (22, (Bo (x5 == 0))), (25, (I t2)), (26, (I x7))]) (ReT.keep (v := (I t2)) rfl (ReT.keep (v := (S t3)) rfl (ReT.gv rfl (setI_len hx8) (ReT.keep (v := (U8 x5)) rfl (ReT.keep (v := (Bo (x5 == 0))) rfl (ReT.keep (v := (I t2)) rfl (ReT.keep (v := (I x7)) rfl ReT.nil))))))) ?_
      refine arun_freeze 0 (bk := ⟨5, ((x8).flatMap c_api_Node), true⟩) (T' := [(2, (I t2)), (3, (S t3)), (9, (SL 5 c_api_Node x8)), (21, (U8 x5)), (22, (Bo (x5 == 0))), (25, (I t2)), (26, (I x7))]) (L' := []) rfl (FzT.keep (v := (I t2)) rfl (FzT.keep (v := (S t3)) rfl (fzG ce_api_Node rfl rfl (FzT.keep (v := (U8 x5)) rfl (FzT.keep (v := (Bo (x5 == 0))) rfl (FzT.keep (v := (I t2)) rfl (FzT.keep (v := (I x7)) rfl FzT.nil))))))) (FzL.refl _) ?_
      show ARun _ _ _ _ _ ⟨88, 0, [(2, (I t2)), (3, (S t3)), (9, (SL 5 c_api_Node x8)), (21, (U8 x5)), (22, (Bo (x5 == 0))), (25, (I t2)), (26, (I x7))], [], ⟨1, []⟩⟩
      refine arun_keepE [9] 0 0 (st' := ⟨88, 0, [(9, (SL 5 c_api_Node x8))], [], ⟨0, []⟩⟩) (by kernel_rfl) (by kernel_rfl) ?_
      exact (Exists.intro x8 (And.intro rfl h))
    · rw [condF hb6] at h
      refine awp_condF (boF hb6) ?_
      refine awp_seq ?_
      refine awp_region ?_
      refine arun_do rfl rfl rfl (ex_bin (vx := (U8 x5)) (vy := (U8 1)) rfl rfl eql8_ok) ?_
      refine arun_do rfl rfl rfl (ex_assign (eV (v := (Bo (x5 == 1))) rfl)) ?_
      refine arun_keepE [2, 3, 9, 10, 21, 29] 0 1 (st' := ⟨88, 0, [(2, (I t2)), (3, (S t3)), (9, (GV 0 x1.length)), (10, (GP 0 (x2.toNat * 5) (List.flatMap c_api_Node x1).length)), (21, (U8 x5)), (29, (Bo (x5 == 1)))], [], ⟨1, [(0, ⟨5, ((x1).flatMap c_api_Node), true⟩)]⟩⟩) (by kernel_rfl) (by kernel_rfl) ?_
      show AWp _ _ _ _
      rcases Bool.eq_false_or_eq_true (x5 == 1) with hb9 | hb9
      · rw [condT hb9] at h
        refine awp_condT (boT hb9) ?_
        refine awp_region ?_
        refine arun_do rfl rfl rfl (ex_move (eV (v := (GP 0 (x2.toNat * 5) (List.flatMap c_api_Node x1).length)) rfl)) ?_
        refine arun_do rfl rfl rfl (ex_move (eV (v := (I t2)) rfl)) ?_
        obtain ⟨x10, hx10, h⟩ := bindS h
        refine arun_do rfl rfl rfl (ex_bin (vx := (I t2)) (vy := (I 8)) rfl rfl (quoI_ok hx10)) ?_
        refine arun_do rfl rfl rfl (ex_bin (vx := (I x10)) (vy := (I 2)) rfl rfl subI_ok) ?_
        refine arun_do rfl rfl rfl (ex_nilCheck (p := ⟨0, (x2.toNat * 5), some ((List.flatMap c_api_Node x1).length + 1)⟩) rfl) ?_
        refine arun_do rfl rfl rfl (ex_fieldAddr (v := (GP 0 ((x2.toNat * 5) + 1) (List.flatMap c_api_Node x1).length)) Tryz.underlying49 rfl s_3 (by decide) rfl rfl) ?_
        obtain ⟨x11, hx11, h⟩ := bindS h
        refine arun_do0 rfl rfl (tx_stGp (c := c_api_Node) (xs := x1) (e := x3) (e' := (G_api_Node.mk x3.Kind (w64 (x10 - 2)) x3.Name x3.Body x3.Bad)) (off := 1) (vs := [(I (w64 (x10 - 2)))]) (H' := ⟨1, [(0, ⟨5, ((x11).flatMap c_api_Node), true⟩)]⟩) ce_api_Node s_3 rfl (by first | rfl | omega) (eV (v := (I (w64 (x10 - 2)))) rfl) rfl rfl hx3 (Nat.le_of_ble_eq_true rfl) (by kernel_rfl) rfl (List.cons_ne_nil _ _) hx11 rfl) ?_
        refine arun_fewer (T' := [(2, (I t2)), (3, (S t3)), (9, (GV 0 x11.length)), (21, (U8 x5)), (29, (Bo (x5 == 1))), (32, (I t2)), (33, (I x10)), (34, (I (w64 (x10 - 2))))]) (ReT.keep (v := (I t2)) rfl (ReT.keep (v := (S t3)) rfl (ReT.gv rfl (setI_len hx11) (ReT.keep (v := (U8 x5)) rfl (ReT.keep (v := (Bo (x5 == 1))) rfl (ReT.keep (v := (I t2)) rfl (ReT.keep (v := (I x10)) rfl (ReT.keep (v := (I (w64 (x10 - 2)))) rfl ReT.nil)))))))) ?_
        refine arun_freeze 0 (bk := ⟨5, ((x11).flatMap c_api_Node), true⟩) (T' := [(2, (I t2)), (3, (S t3)), (9, (SL 5 c_api_Node x11)), (21, (U8 x5)), (29, (Bo (x5 == 1))), (32, (I t2)), (33, (I x10)), (34, (I (w64 (x10 - 2))))]) (L' := []) rfl (FzT.keep (v := (I t2)) rfl (FzT.keep (v := (S t3)) rfl (fzG ce_api_Node rfl rfl (FzT.keep (v := (U8 x5)) rfl (FzT.keep (v := (Bo (x5 == 1))) rfl (FzT.keep (v := (I t2)) rfl (FzT.keep (v := (I x10)) rfl (FzT.keep (v := (I (w64 (x10 - 2)))) rfl FzT.nil)))))))) (FzL.refl _) ?_
        show ARun _ _ _ _ _ ⟨88, 0, [(2, (I t2)), (3, (S t3)), (9, (SL 5 c_api_Node x11)), (21, (U8 x5)), (29, (Bo (x5 == 1))), (32, (I t2)), (33, (I x10)), (34, (I (w64 (x10 - 2))))], [], ⟨1, []⟩⟩
        refine arun_keepE [9] 0 0 (st' := ⟨88, 0, [(9, (SL 5 c_api_Node x11))], [], ⟨0, []⟩⟩) (by kernel_rfl) (by kernel_rfl) ?_
        exact (Exists.intro x11 (And.intro rfl h))
      · rw [condF hb9] at h
        refine awp_condF (boF hb9) ?_
        refine awp_seq ?_
        refine awp_region ?_
        refine arun_do rfl rfl rfl (ex_bin (vx := (U8 x5)) (vy := (U8 2)) rfl rfl eql8_ok) ?_
        refine arun_do rfl rfl rfl (ex_assign (eV (v := (Bo (x5 == 2))) rfl)) ?_
        refine arun_keepE [2, 3, 9, 10, 21, 37] 0 1 (st' := ⟨88, 0, [(2, (I t2)), (3, (S t3)), (9, (GV 0 x1.length)), (10, (GP 0 (x2.toNat * 5) (List.flatMap c_api_Node x1).length)), (21, (U8 x5)), (37, (Bo (x5 == 2)))], [], ⟨1, [(0, ⟨5, ((x1).flatMap c_api_Node), true⟩)]⟩⟩) (by kernel_rfl) (by kernel_rfl) ?_
        show AWp _ _ _ _
        rcases Bool.eq_false_or_eq_true (x5 == 2) with hb12 | hb12
        · rw [condT hb12] at h
          refine awp_condT (boT hb12) ?_
          refine awp_region ?_
          refine arun_do rfl rfl rfl (ex_move (eV (v := (GP 0 (x2.toNat * 5) (List.flatMap c_api_Node x1).length)) rfl)) ?_
          refine arun_do rfl rfl rfl (ex_move (eV (v := (S t3)) rfl)) ?_
          refine arun_do rfl rfl rfl (ex_nilCheck (p := ⟨0, (x2.toNat * 5), some ((List.flatMap c_api_Node x1).length + 1)⟩) rfl) ?_
          refine arun_do rfl rfl rfl (ex_fieldAddr (v := (GP 0 ((x2.toNat * 5) + 2) (List.flatMap c_api_Node x1).length)) Tryz.underlying49 rfl s_9 (by decide) rfl rfl) ?_
          obtain ⟨x13, hx13, h⟩ := bindS h
          refine arun_do0 rfl rfl (tx_stGp (c := c_api_Node) (xs := x1) (e := x3) (e' := (G_api_Node.mk x3.Kind x3.Up t3 x3.Body x3.Bad)) (off := 2) (vs := [(S t3)]) (H' := ⟨1, [(0, ⟨5, ((x13).flatMap c_api_Node), true⟩)]⟩) ce_api_Node s_9 rfl (by first | rfl | omega) (eV (v := (S t3)) rfl) rfl rfl hx3 (Nat.le_of_ble_eq_true rfl) (by kernel_rfl) rfl (List.cons_ne_nil _ _) hx13 rfl) ?_
          refine arun_fewer (T' := [(2, (I t2)), (3, (S t3)), (9, (GV 0 x13.length)), (21, (U8 x5)), (37, (Bo (x5 == 2))), (40, (S t3))]) (ReT.keep (v := (I t2)) rfl (ReT.keep (v := (S t3)) rfl (ReT.gv rfl (setI_len hx13) (ReT.keep (v := (U8 x5)) rfl (ReT.keep (v := (Bo (x5 == 2))) rfl (ReT.keep (v := (S t3)) rfl ReT.nil)))))) ?_
          refine arun_freeze 0 (bk := ⟨5, ((x13).flatMap c_api_Node), true⟩) (T' := [(2, (I t2)), (3, (S t3)), (9, (SL 5 c_api_Node x13)), (21, (U8 x5)), (37, (Bo (x5 == 2))), (40, (S t3))]) (L' := []) rfl (FzT.keep (v := (I t2)) rfl (FzT.keep (v := (S t3)) rfl (fzG ce_api_Node rfl rfl (FzT.keep (v := (U8 x5)) rfl (FzT.keep (v := (Bo (x5 == 2))) rfl (FzT.keep (v := (S t3)) rfl FzT.nil)))))) (FzL.refl _) ?_
          show ARun _ _ _ _ _ ⟨88, 0, [(2, (I t2)), (3, (S t3)), (9, (SL 5 c_api_Node x13)), (21, (U8 x5)), (37, (Bo (x5 == 2))), (40, (S t3))], [], ⟨1, []⟩⟩
          refine arun_keepE [9] 0 0 (st' := ⟨88, 0, [(9, (SL 5 c_api_Node x13))], [], ⟨0, []⟩⟩) (by kernel_rfl) (by kernel_rfl) ?_
          exact (Exists.intro x13 (And.intro rfl h))
        · rw [condF hb12] at h
          refine awp_condF (boF hb12) ?_
          refine awp_seq ?_
          refine awp_region ?_
          refine arun_do rfl rfl rfl (ex_bin (vx := (U8 x5)) (vy := (U8 3)) rfl rfl eql8_ok) ?_
          refine arun_do rfl rfl rfl (ex_assign (eV (v := (Bo (x5 == 3))) rfl)) ?_
          refine arun_keepE [2, 3, 9, 10, 21, 43] 0 1 (st' := ⟨88, 0, [(2, (I t2)), (3, (S t3)), (9, (GV 0 x1.length)), (10, (GP 0 (x2.toNat * 5) (List.flatMap c_api_Node x1).length)), (21, (U8 x5)), (43, (Bo (x5 == 3)))], [], ⟨1, [(0, ⟨5, ((x1).flatMap c_api_Node), true⟩)]⟩⟩) (by kernel_rfl) (by kernel_rfl) ?_
          show AWp _ _ _ _
          rcases Bool.eq_false_or_eq_true (x5 == 3) with hb14 | hb14
          · rw [condT hb14] at h
            refine awp_condT (boT hb14) ?_
            refine awp_region ?_
            refine arun_do rfl rfl rfl (ex_move (eV (v := (GP 0 (x2.toNat * 5) (List.flatMap c_api_Node x1).length)) rfl)) ?_
            refine arun_do rfl rfl rfl (ex_move (eV (v := (S t3)) rfl)) ?_
            refine arun_do rfl rfl rfl (ex_nilCheck (p := ⟨0, (x2.toNat * 5), some ((List.flatMap c_api_Node x1).length + 1)⟩) rfl) ?_
            refine arun_do rfl rfl rfl (ex_fieldAddr (v := (GP 0 ((x2.toNat * 5) + 3) (List.flatMap c_api_Node x1).length)) Tryz.underlying49 rfl s_9 (by decide) rfl rfl) ?_
            obtain ⟨x15, hx15, h⟩ := bindS h
            refine arun_do0 rfl rfl (tx_stGp (c := c_api_Node) (xs := x1) (e := x3) (e' := (G_api_Node.mk x3.Kind x3.Up x3.Name t3 x3.Bad)) (off := 3) (vs := [(S t3)]) (H' := ⟨1, [(0, ⟨5, ((x15).flatMap c_api_Node), true⟩)]⟩) ce_api_Node s_9 rfl (by first | rfl | omega) (eV (v := (S t3)) rfl) rfl rfl hx3 (Nat.le_of_ble_eq_true rfl) (by kernel_rfl) rfl (List.cons_ne_nil _ _) hx15 rfl) ?_
            refine arun_fewer (T' := [(2, (I t2)), (3, (S t3)), (9, (GV 0 x15.length)), (21, (U8 x5)), (43, (Bo (x5 == 3))), (46, (S t3))]) (ReT.keep (v := (I t2)) rfl (ReT.keep (v := (S t3)) rfl (ReT.gv rfl (setI_len hx15) (ReT.keep (v := (U8 x5)) rfl (ReT.keep (v := (Bo (x5 == 3))) rfl (ReT.keep (v := (S t3)) rfl ReT.nil)))))) ?_
            refine arun_freeze 0 (bk := ⟨5, ((x15).flatMap c_api_Node), true⟩) (T' := [(2, (I t2)), (3, (S t3)), (9, (SL 5 c_api_Node x15)), (21, (U8 x5)), (43, (Bo (x5 == 3))), (46, (S t3))]) (L' := []) rfl (FzT.keep (v := (I t2)) rfl (FzT.keep (v := (S t3)) rfl (fzG ce_api_Node rfl rfl (FzT.keep (v := (U8 x5)) rfl (FzT.keep (v := (Bo (x5 == 3))) rfl (FzT.keep (v := (S t3)) rfl FzT.nil)))))) (FzL.refl _) ?_
            show ARun _ _ _ _ _ ⟨88, 0, [(2, (I t2)), (3, (S t3)), (9, (SL 5 c_api_Node x15)), (21, (U8 x5)), (43, (Bo (x5 == 3))), (46, (S t3))], [], ⟨1, []⟩⟩
            refine arun_keepE [9] 0 0 (st' := ⟨88, 0, [(9, (SL 5 c_api_Node x15))], [], ⟨0, []⟩⟩) (by kernel_rfl) (by kernel_rfl) ?_
            exact (Exists.intro x15 (And.intro rfl h))
          · rw [condF hb14] at h
            refine awp_condF (boF hb14) ?_
            refine awp_seq ?_
            refine awp_region ?_
            refine arun_do rfl rfl rfl (ex_bin (vx := (U8 x5)) (vy := (U8 4)) rfl rfl eql8_ok) ?_
            refine arun_do rfl rfl rfl (ex_assign (eV (v := (Bo (x5 == 4))) rfl)) ?_
            refine arun_keepE [2, 9, 10, 21, 49] 0 1 (st' := ⟨88, 0, [(2, (I t2)), (9, (GV 0 x1.length)), (10, (GP 0 (x2.toNat * 5) (List.flatMap c_api_Node x1).length)), (21, (U8 x5)), (49, (Bo (x5 == 4)))], [], ⟨1, [(0, ⟨5, ((x1).flatMap c_api_Node), true⟩)]⟩⟩) (by kernel_rfl) (by kernel_rfl) ?_
            show AWp _ _ _ _
            rcases Bool.eq_false_or_eq_true (x5 == 4) with hb16 | hb16
            · rw [condT hb16] at h
              refine awp_condT (boT hb16) ?_
              refine awp_region ?_
              refine arun_do rfl rfl rfl (ex_move (eV (v := (GP 0 (x2.toNat * 5) (List.flatMap c_api_Node x1).length)) rfl)) ?_
              refine arun_do rfl rfl rfl (ex_move (eV (v := (I t2)) rfl)) ?_
              obtain ⟨x17, hx17, h⟩ := bindS h
              refine arun_do rfl rfl rfl (ex_bin (vx := (I t2)) (vy := (I 8)) rfl rfl (quoI_ok hx17)) ?_
              refine arun_do rfl rfl rfl (ex_bin (vx := (I x17)) (vy := (I 3)) rfl rfl subI_ok) ?_
              refine arun_do rfl rfl rfl (ex_nilCheck (p := ⟨0, (x2.toNat * 5), some ((List.flatMap c_api_Node x1).length + 1)⟩) rfl) ?_
              refine arun_do rfl rfl rfl (ex_fieldAddr (v := (GP 0 ((x2.toNat * 5) + 4) (List.flatMap c_api_Node x1).length)) Tryz.underlying49 rfl s_3 (by decide) rfl rfl) ?_
              obtain ⟨x18, hx18, h⟩ := bindS h
              refine arun_do0 rfl rfl (tx_stGp (c := c_api_Node) (xs := x1) (e := x3) (e' := (G_api_Node.mk x3.Kind x3.Up x3.Name x3.Body (w64 (x17 - 3)))) (off := 4) (vs := [(I (w64 (x17 - 3)))]) (H' := ⟨1, [(0, ⟨5, ((x18).flatMap c_api_Node), true⟩)]⟩) ce_api_Node s_3 rfl (by first | rfl | omega) (eV (v := (I (w64 (x17 - 3)))) rfl) rfl rfl hx3 (Nat.le_of_ble_eq_true rfl) (by kernel_rfl) rfl (List.cons_ne_nil _ _) hx18 rfl) ?_
              refine arun_fewer (T' := [(2, (I t2)), (9, (GV 0 x18.length)), (21, (U8 x5)), (49, (Bo (x5 == 4))), (52, (I t2)), (53, (I x17)), (54, (I (w64 (x17 - 3))))]) (ReT.keep (v := (I t2)) rfl (ReT.gv rfl (setI_len hx18) (ReT.keep (v := (U8 x5)) rfl (ReT.keep (v := (Bo (x5 == 4))) rfl (ReT.keep (v := (I t2)) rfl (ReT.keep (v := (I x17)) rfl (ReT.keep (v := (I (w64 (x17 - 3)))) rfl ReT.nil))))))) ?_
              refine arun_freeze 0 (bk := ⟨5, ((x18).flatMap c_api_Node), true⟩) (T' := [(2, (I t2)), (9, (SL 5 c_api_Node x18)), (21, (U8 x5)), (49, (Bo (x5 == 4))), (52, (I t2)), (53, (I x17)), (54, (I (w64 (x17 - 3))))]) (L' := []) rfl (FzT.keep (v := (I t2)) rfl (fzG ce_api_Node rfl rfl (FzT.keep (v := (U8 x5)) rfl (FzT.keep (v := (Bo (x5 == 4))) rfl (FzT.keep (v := (I t2)) rfl (FzT.keep (v := (I x17)) rfl (FzT.keep (v := (I (w64 (x17 - 3)))) rfl FzT.nil))))))) (FzL.refl _) ?_
              show ARun _ _ _ _ _ ⟨88, 0, [(2, (I t2)), (9, (SL 5 c_api_Node x18)), (21, (U8 x5)), (49, (Bo (x5 == 4))), (52, (I t2)), (53, (I x17)), (54, (I (w64 (x17 - 3))))], [], ⟨1, []⟩⟩
              refine arun_keepE [9] 0 0 (st' := ⟨88, 0, [(9, (SL 5 c_api_Node x18))], [], ⟨0, []⟩⟩) (by kernel_rfl) (by kernel_rfl) ?_
              exact (Exists.intro x18 (And.intro rfl h))
            · rw [condF hb16] at h
              refine awp_condF (boF hb16) ?_
              refine awp_seq ?_
              refine awp_region ?_
              refine arun_do rfl rfl rfl (ex_bin (vx := (U8 x5)) (vy := (U8 5)) rfl rfl eql8_ok) ?_
              refine arun_do rfl rfl rfl (ex_assign (eV (v := (Bo (x5 == 5))) rfl)) ?_
              refine arun_keepE [2, 9, 10, 21, 57] 0 1 (st' := ⟨88, 0, [(2, (I t2)), (9, (GV 0 x1.length)), (10, (GP 0 (x2.toNat * 5) (List.flatMap c_api_Node x1).length)), (21, (U8 x5)), (57, (Bo (x5 == 5)))], [], ⟨1, [(0, ⟨5, ((x1).flatMap c_api_Node), true⟩)]⟩⟩) (by kernel_rfl) (by kernel_rfl) ?_
              show AWp _ _ _ _
              rcases Bool.eq_false_or_eq_true (x5 == 5) with hb19 | hb19
              · rw [condT hb19] at h
                refine awp_condT (boT hb19) ?_
                refine awp_region ?_
                refine arun_do rfl rfl rfl (ex_move (eV (v := (GP 0 (x2.toNat * 5) (List.flatMap c_api_Node x1).length)) rfl)) ?_
                refine arun_do rfl rfl rfl (ex_build (qs := [(0, (I 3))]) (v := (Value.agg (c_api_Node (G_api_Node.mk 3 0 [] [] 0)).toArray)) (evp rfl evp_nil) (by kernel_rfl)) ?_
                refine arun_do rfl rfl rfl (ex_nilCheck (p := ⟨0, (x2.toNat * 5), some ((List.flatMap c_api_Node x1).length + 1)⟩) rfl) ?_
                obtain ⟨x20, hx20, h⟩ := bindS h
                refine arun_do0 rfl rfl (tx_stG (c := c_api_Node) (xs := x1) (e := (G_api_Node.mk 3 0 [] [] 0)) (H' := ⟨1, [(0, ⟨5, ((x20).flatMap c_api_Node), true⟩)]⟩) ce_api_Node s_49 rfl (eV (v := (Value.agg (c_api_Node (G_api_Node.mk 3 0 [] [] 0)).toArray)) rfl) rfl rfl hx20 rfl) ?_
                refine arun_fewer (T' := [(2, (I t2)), (9, (GV 0 x20.length)), (21, (U8 x5)), (57, (Bo (x5 == 5))), (60, (Value.agg (c_api_Node (G_api_Node.mk 3 0 [] [] 0)).toArray))]) (ReT.keep (v := (I t2)) rfl (ReT.gv rfl (setI_len hx20) (ReT.keep (v := (U8 x5)) rfl (ReT.keep (v := (Bo (x5 == 5))) rfl (ReT.keep (v := (Value.agg (c_api_Node (G_api_Node.mk 3 0 [] [] 0)).toArray)) rfl ReT.nil))))) ?_
                refine arun_freeze 0 (bk := ⟨5, ((x20).flatMap c_api_Node), true⟩) (T' := [(2, (I t2)), (9, (SL 5 c_api_Node x20)), (21, (U8 x5)), (57, (Bo (x5 == 5))), (60, (Value.agg (c_api_Node (G_api_Node.mk 3 0 [] [] 0)).toArray))]) (L' := []) rfl (FzT.keep (v := (I t2)) rfl (fzG ce_api_Node rfl rfl (FzT.keep (v := (U8 x5)) rfl (FzT.keep (v := (Bo (x5 == 5))) rfl (FzT.keep (v := (Value.agg (c_api_Node (G_api_Node.mk 3 0 [] [] 0)).toArray)) rfl FzT.nil))))) (FzL.refl _) ?_
                show ARun _ _ _ _ _ ⟨88, 0, [(2, (I t2)), (9, (SL 5 c_api_Node x20)), (21, (U8 x5)), (57, (Bo (x5 == 5))), (60, (Value.agg (c_api_Node (G_api_Node.mk 3 0 [] [] 0)).toArray))], [], ⟨1, []⟩⟩
                refine arun_keepE [9] 0 0 (st' := ⟨88, 0, [(9, (SL 5 c_api_Node x20))], [], ⟨0, []⟩⟩) (by kernel_rfl) (by kernel_rfl) ?_
                exact (Exists.intro x20 (And.intro rfl h))
              · rw [condF hb19] at h
                refine awp_condF (boF hb19) ?_
                refine awp_seq ?_
                refine awp_region ?_
                refine arun_do rfl rfl rfl (ex_bin (vx := (U8 x5)) (vy := (U8 6)) rfl rfl eql8_ok) ?_
                refine arun_do rfl rfl rfl (ex_assign (eV (v := (Bo (x5 == 6))) rfl)) ?_
                refine arun_keepE [2, 9, 10, 21, 62] 0 1 (st' := ⟨88, 0, [(2, (I t2)), (9, (GV 0 x1.length)), (10, (GP 0 (x2.toNat * 5) (List.flatMap c_api_Node x1).length)), (21, (U8 x5)), (62, (Bo (x5 == 6)))], [], ⟨1, [(0, ⟨5, ((x1).flatMap c_api_Node), true⟩)]⟩⟩) (by kernel_rfl) (by kernel_rfl) ?_
                show AWp _ _ _ _
                rcases Bool.eq_false_or_eq_true (x5 == 6) with hb21 | hb21
                · rw [condT hb21] at h
                  refine awp_condT (boT hb21) ?_
                  refine awp_region ?_
                  refine arun_do rfl rfl rfl (ex_move (eV (v := (GP 0 (x2.toNat * 5) (List.flatMap c_api_Node x1).length)) rfl)) ?_
                  refine arun_do rfl rfl rfl (ex_build (qs := []) (v := (Value.agg (c_api_Node (G_api_Node.mk 0 0 [] [] 0)).toArray)) evp_nil (by kernel_rfl)) ?_
                  refine arun_do rfl rfl rfl (ex_nilCheck (p := ⟨0, (x2.toNat * 5), some ((List.flatMap c_api_Node x1).length + 1)⟩) rfl) ?_
                  obtain ⟨x22, hx22, h⟩ := bindS h
                  refine arun_do0 rfl rfl (tx_stG (c := c_api_Node) (xs := x1) (e := (G_api_Node.mk 0 0 [] [] 0)) (H' := ⟨1, [(0, ⟨5, ((x22).flatMap c_api_Node), true⟩)]⟩) ce_api_Node s_49 rfl (eV (v := (Value.agg (c_api_Node (G_api_Node.mk 0 0 [] [] 0)).toArray)) rfl) rfl rfl hx22 rfl) ?_
                  refine arun_fewer (T' := [(2, (I t2)), (9, (GV 0 x22.length)), (21, (U8 x5)), (62, (Bo (x5 == 6))), (65, (Value.agg (c_api_Node (G_api_Node.mk 0 0 [] [] 0)).toArray))]) (ReT.keep (v := (I t2)) rfl (ReT.gv rfl (setI_len hx22) (ReT.keep (v := (U8 x5)) rfl (ReT.keep (v := (Bo (x5 == 6))) rfl (ReT.keep (v := (Value.agg (c_api_Node (G_api_Node.mk 0 0 [] [] 0)).toArray)) rfl ReT.nil))))) ?_
                  refine arun_freeze 0 (bk := ⟨5, ((x22).flatMap c_api_Node), true⟩) (T' := [(2, (I t2)), (9, (SL 5 c_api_Node x22)), (21, (U8 x5)), (62, (Bo (x5 == 6))), (65, (Value.agg (c_api_Node (G_api_Node.mk 0 0 [] [] 0)).toArray))]) (L' := []) rfl (FzT.keep (v := (I t2)) rfl (fzG ce_api_Node rfl rfl (FzT.keep (v := (U8 x5)) rfl (FzT.keep (v := (Bo (x5 == 6))) rfl (FzT.keep (v := (Value.agg (c_api_Node (G_api_Node.mk 0 0 [] [] 0)).toArray)) rfl FzT.nil))))) (FzL.refl _) ?_
                  show ARun _ _ _ _ _ ⟨88, 0, [(2, (I t2)), (9, (SL 5 c_api_Node x22)), (21, (U8 x5)), (62, (Bo (x5 == 6))), (65, (Value.agg (c_api_Node (G_api_Node.mk 0 0 [] [] 0)).toArray))], [], ⟨1, []⟩⟩
                  refine arun_keepE [9] 0 0 (st' := ⟨88, 0, [(9, (SL 5 c_api_Node x22))], [], ⟨0, []⟩⟩) (by kernel_rfl) (by kernel_rfl) ?_
                  exact (Exists.intro x22 (And.intro rfl h))
                · rw [condF hb21] at h
                  refine awp_condF (boF hb21) ?_
                  refine awp_seq ?_
                  refine awp_region ?_
                  refine arun_do rfl rfl rfl (ex_bin (vx := (U8 x5)) (vy := (U8 7)) rfl rfl eql8_ok) ?_
                  refine arun_do rfl rfl rfl (ex_assign (eV (v := (Bo (x5 == 7))) rfl)) ?_
                  refine arun_keepE [2, 9, 10, 21, 67] 0 1 (st' := ⟨88, 0, [(2, (I t2)), (9, (GV 0 x1.length)), (10, (GP 0 (x2.toNat * 5) (List.flatMap c_api_Node x1).length)), (21, (U8 x5)), (67, (Bo (x5 == 7)))], [], ⟨1, [(0, ⟨5, ((x1).flatMap c_api_Node), true⟩)]⟩⟩) (by kernel_rfl) (by kernel_rfl) ?_
                  show AWp _ _ _ _
                  rcases Bool.eq_false_or_eq_true (x5 == 7) with hb23 | hb23
                  · rw [condT hb23] at h
                    refine awp_condT (boT hb23) ?_
                    refine awp_region ?_
                    refine arun_do rfl rfl rfl (ex_move (eV (v := (GP 0 (x2.toNat * 5) (List.flatMap c_api_Node x1).length)) rfl)) ?_
                    refine arun_do rfl rfl rfl (ex_move (eV (v := (I t2)) rfl)) ?_
                    obtain ⟨x24, hx24, h⟩ := bindS h
                    refine arun_do rfl rfl rfl (ex_bin (vx := (I t2)) (vy := (I 8)) rfl rfl (quoI_ok hx24)) ?_
                    obtain ⟨x25, hx25, h⟩ := bindS h
                    refine arun_do rfl rfl rfl (ex_bin (vx := (I x24)) (vy := (I 2)) rfl rfl (remI_ok hx25)) ?_
                    refine arun_do rfl rfl rfl (ex_bin (vx := (I 1)) (vy := (I x25)) rfl rfl addI_ok) ?_
                    refine arun_do rfl rfl rfl (ex_move (eV (v := (I t2)) rfl)) ?_
                    obtain ⟨x26, hx26, h⟩ := bindS h
                    refine arun_do rfl rfl rfl (ex_bin (vx := (I t2)) (vy := (I 16)) rfl rfl (quoI_ok hx26)) ?_
                    obtain ⟨x27, hx27, h⟩ := bindS h
                    refine arun_do rfl rfl rfl (ex_bin (vx := (I x26)) (vy := (I 9)) rfl rfl (remI_ok hx27)) ?_
                    refine arun_do rfl rfl rfl (ex_build (qs := [(0, (I (w64 (1 + x25)))), (1, (I x27)), (2, (S ([122, 122] : Str)))]) (v := (Value.agg (c_api_Node (G_api_Node.mk (w64 (1 + x25)) x27 ([122, 122] : Str) [] 0)).toArray)) (evp rfl (evp rfl (evp rfl evp_nil))) (by kernel_rfl)) ?_
                    refine arun_do rfl rfl rfl (ex_nilCheck (p := ⟨0, (x2.toNat * 5), some ((List.flatMap c_api_Node x1).length + 1)⟩) rfl) ?_
                    obtain ⟨x28, hx28, h⟩ := bindS h
                    refine arun_do0 rfl rfl (tx_stG (c := c_api_Node) (xs := x1) (e := (G_api_Node.mk (w64 (1 + x25)) x27 ([122, 122] : Str) [] 0)) (H' := ⟨1, [(0, ⟨5, ((x28).flatMap c_api_Node), true⟩)]⟩) ce_api_Node s_49 rfl (eV (v := (Value.agg (c_api_Node (G_api_Node.mk (w64 (1 + x25)) x27 ([122, 122] : Str) [] 0)).toArray)) rfl) rfl rfl hx28 rfl) ?_
                    refine arun_fewer (T' := [(2, (I t2)), (9, (GV 0 x28.length)), (21, (U8 x5)), (67, (Bo (x5 == 7))), (70, (I t2)), (71, (I x24)), (72, (I x25)), (73, (I (w64 (1 + x25)))), (74, (I t2)), (75, (I x26)), (76, (I x27)), (77, (Value.agg (c_api_Node (G_api_Node.mk (w64 (1 + x25)) x27 ([122, 122] : Str) [] 0)).toArray))]) (ReT.keep (v := (I t2)) rfl (ReT.gv rfl (setI_len hx28) (ReT.keep (v := (U8 x5)) rfl (ReT.keep (v := (Bo (x5 == 7))) rfl (ReT.keep (v := (I t2)) rfl (ReT.keep (v := (I x24)) rfl (ReT.keep (v := (I x25)) rfl (ReT.keep (v := (I (w64 (1 + x25)))) rfl (ReT.keep (v := (I t2)) rfl (ReT.keep (v := (I x26)) rfl (ReT.keep (v := (I x27)) rfl (ReT.keep (v := (Value.agg (c_api_Node (G_api_Node.mk (w64 (1 + x25)) x27 ([122, 122] : Str) [] 0)).toArray)) rfl ReT.nil)))))))))))) ?_
                    refine arun_freeze 0 (bk := ⟨5, ((x28).flatMap c_api_Node), true⟩) (T' := [(2, (I t2)), (9, (SL 5 c_api_Node x28)), (21, (U8 x5)), (67, (Bo (x5 == 7))), (70, (I t2)), (71, (I x24)), (72, (I x25)), (73, (I (w64 (1 + x25)))), (74, (I t2)), (75, (I x26)), (76, (I x27)), (77, (Value.agg (c_api_Node (G_api_Node.mk (w64 (1 + x25)) x27 ([122, 122] : Str) [] 0)).toArray))]) (L' := []) rfl (FzT.keep (v := (I t2)) rfl (fzG ce_api_Node rfl rfl (FzT.keep (v := (U8 x5)) rfl (FzT.keep (v := (Bo (x5 == 7))) rfl (FzT.keep (v := (I t2)) rfl (FzT.keep (v := (I x24)) rfl (FzT.keep (v := (I x25)) rfl (FzT.keep (v := (I (w64 (1 + x25)))) rfl (FzT.keep (v := (I t2)) rfl (FzT.keep (v := (I x26)) rfl (FzT.keep (v := (I x27)) rfl (FzT.keep (v := (Value.agg (c_api_Node (G_api_Node.mk (w64 (1 + x25)) x27 ([122, 122] : Str) [] 0)).toArray)) rfl FzT.nil)))))))))))) (FzL.refl _) ?_
                    show ARun _ _ _ _ _ ⟨88, 0, [(2, (I t2)), (9, (SL 5 c_api_Node x28)), (21, (U8 x5)), (67, (Bo (x5 == 7))), (70, (I t2)), (71, (I x24)), (72, (I x25)), (73, (I (w64 (1 + x25)))), (74, (I t2)), (75, (I x26)), (76, (I x27)), (77, (Value.agg (c_api_Node (G_api_Node.mk (w64 (1 + x25)) x27 ([122, 122] : Str) [] 0)).toArray))], [], ⟨1, []⟩⟩
                    refine arun_keepE [9] 0 0 (st' := ⟨88, 0, [(9, (SL 5 c_api_Node x28))], [], ⟨0, []⟩⟩) (by kernel_rfl) (by kernel_rfl) ?_
                    exact (Exists.intro x28 (And.intro rfl h))
                  · rw [condF hb23] at h
                    refine awp_condF (boF hb23) ?_
                    refine awp_seq ?_
                    refine awp_region ?_
                    refine arun_do rfl rfl rfl (ex_bin (vx := (U8 x5)) (vy := (U8 8)) rfl rfl eql8_ok) ?_
                    refine arun_do rfl rfl rfl (ex_assign (eV (v := (Bo (x5 == 8))) rfl)) ?_
                    refine arun_keepE [2, 9, 79] 0 1 (st' := ⟨88, 0, [(2, (I t2)), (9, (GV 0 x1.length)), (79, (Bo (x5 == 8)))], [], ⟨1, [(0, ⟨5, ((x1).flatMap c_api_Node), true⟩)]⟩⟩) (by kernel_rfl) (by kernel_rfl) ?_
                    show AWp _ _ _ _
                    rcases Bool.eq_false_or_eq_true (x5 == 8) with hb29 | hb29
                    · rw [condT hb29] at h
                      refine awp_condT (boT hb29) ?_
                      refine awp_region ?_
                      refine arun_do rfl rfl rfl (ex_move (eV (v := (GV 0 x1.length)) rfl)) ?_
                      refine arun_do rfl rfl rfl (ex_move (eV (v := (I t2)) rfl)) ?_
                      refine arun_do rfl rfl rfl (ex_move (eV (v := (GV 0 x1.length)) rfl)) ?_
                      refine arun_do rfl rfl rfl (ex_lenN (n := x1.length) Tryz.underlying25 rfl) ?_
                      obtain ⟨x30, hx30, h⟩ := bindS h
                      refine arun_do rfl rfl rfl (ex_bin (vx := (I t2)) (vy := (I ((x1.length : Nat) : Int))) rfl rfl (remI_ok hx30)) ?_
                      refine arun_freeze 0 (bk := ⟨5, ((x1).flatMap c_api_Node), true⟩) (T' := [(2, (I t2)), (9, (SL 5 c_api_Node x1)), (79, (Bo (x5 == 8))), (81, (SL 5 c_api_Node x1)), (82, (I t2)), (83, (SL 5 c_api_Node x1)), (84, (I ((x1.length : Nat) : Int))), (85, (I x30))]) (L' := []) rfl (FzT.keep (v := (I t2)) rfl (fzG ce_api_Node rfl rfl (FzT.keep (v := (Bo (x5 == 8))) rfl (fzG ce_api_Node rfl rfl (FzT.keep (v := (I t2)) rfl (fzG ce_api_Node rfl rfl (FzT.keep (v := (I ((x1.length : Nat) : Int))) rfl (FzT.keep (v := (I x30)) rfl FzT.nil)))))))) (FzL.refl _) ?_
                      show ARun _ _ _ _ _ ⟨88, 0, [(2, (I t2)), (9, (SL 5 c_api_Node x1)), (79, (Bo (x5 == 8))), (81, (SL 5 c_api_Node x1)), (82, (I t2)), (83, (SL 5 c_api_Node x1)), (84, (I ((x1.length : Nat) : Int))), (85, (I x30))], [], ⟨1, []⟩⟩
                      obtain ⟨x31, hx31, h⟩ := bindS h
                      refine arun_do rfl rfl rfl (tx_slD (c := c_api_Node) (xs := x1) ce_api_Node Tryz.underlying25 s_49 rfl lo0 (hiX (l := x30) rfl) hx31) ?_
                      refine arun_do rfl rfl rfl (ex_assign (eV (v := (SL 5 c_api_Node x31)) rfl)) ?_
                      refine arun_keepE [9] 0 0 (st' := ⟨88, 0, [(9, (SL 5 c_api_Node x31))], [], ⟨0, []⟩⟩) (by kernel_rfl) (by kernel_rfl) ?_
                      exact (Exists.intro x31 (And.intro rfl h))
                    · rw [condF hb29] at h
                      refine awp_condF (boF hb29) ?_
                      refine awp_freeze 0 (bk := ⟨5, ((x1).flatMap c_api_Node), true⟩) (T' := [(2, (I t2)), (9, (SL 5 c_api_Node x1)), (79, (Bo (x5 == 8)))]) (L' := []) rfl (FzT.keep (v := (I t2)) rfl (fzG ce_api_Node rfl rfl (FzT.keep (v := (Bo (x5 == 8))) rfl FzT.nil))) (FzL.refl _) ?_
                      show AWp _ _ _ ⟨88, 0, [(2, (I t2)), (9, (SL 5 c_api_Node x1)), (79, (Bo (x5 == 8)))], [], ⟨1, []⟩⟩
                      refine awp_keepE [9] 0 0 (st' := ⟨88, 0, [(9, (SL 5 c_api_Node x1))], [], ⟨0, []⟩⟩) (by kernel_rfl) (by kernel_rfl) ?_
                      refine awp_skip ?_
                      exact (Exists.intro x1 (And.intro rfl h))
  · rintro s ⟨y4, rfl, h⟩
    unfold M_law12_turned_k1 at h
    refine awp_seq ?_
    refine awp_region ?_
    refine arun_do rfl rfl rfl (ex_move (eV (v := (SL 5 c_api_Node y4)) rfl)) ?_
    refine arun_do rfl rfl rfl (ex_assign (eV (v := (SL 5 c_api_Node y4)) rfl)) ?_
    refine arun_keepE [8] 0 0 (st' := ⟨88, 0, [(8, (SL 5 c_api_Node y4))], [], ⟨0, []⟩⟩) (by kernel_rfl) (by kernel_rfl) ?_
    show AWp _ _ _ _
    refine awp_ret ?_
    cases h
    exact ares1 (rtmp rfl (eV rfl))

end Go.Proofs
