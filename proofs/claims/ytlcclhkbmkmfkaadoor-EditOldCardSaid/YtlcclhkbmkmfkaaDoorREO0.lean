/- Pure models of functions of the program, and that its code does what they say: palimpref11 New, strings genSplit, strings Split, name plain. Written by a program. -/
import Derived.Test.YtlcclhkbmkmfkaaDoorREOB
import Derived.Test.YtlcclhkbmkmfkaaDoorREOX
set_option maxRecDepth 20000
set_option maxHeartbeats 4000000
namespace Go.Proofs
open Go Go.Fhl
set_option linter.unusedVariables false
set_option linter.unusedSimpArgs false
noncomputable def M_ref11_New : Option (List G_api_Node) :=
  Option.bind (makeL 56 8 (G_api_Node.mk 0 0 [] [] 0)) fun (x1 : List G_api_Node) => Option.bind (getI x1 0) fun (x2 : G_api_Node) => Option.bind (setI x1 0 (G_api_Node.mk 2 x2.Up x2.Name x2.Body x2.Bad)) fun (x3 : List G_api_Node) => some x3
theorem ok_ref11_New (r : (List G_api_Node)) (h : M_ref11_New = some r) : FFn Tryd.prog 12 [] (SL 5 c_api_Node r) := by
  refine FFn.of_body (n := 7) Tryd.func12 rfl Tryd.ntmps12 rfl rfl rfl rfl ?_
  show AWp _ _ _ ⟨7, 0, [], [], ⟨0, []⟩⟩
  unfold M_ref11_New at h
  refine awp_seq ?_
  refine awp_region ?_
  refine arun_do rfl rfl rfl (ex_assign (eV (v := (Value.slice none 0 0)) rfl)) ?_
  refine arun_keepE [] 0 0 (st' := ⟨7, 0, [], [], ⟨0, []⟩⟩) (by kernel_rfl) (by kernel_rfl) ?_
  show AWp _ _ _ _
  refine awp_seq ?_
  refine awp_region ?_
  obtain ⟨x1, hx1, h⟩ := bindS h
  refine arun_do rfl rfl rfl (tx_make (c := c_api_Node) (e := (G_api_Node.mk 0 0 [] [] 0)) (k := 0) (H' := ⟨1, [(0, ⟨5, ((x1).flatMap c_api_Node), false⟩)]⟩) ce_api_Node Tryd.underlying25 s_39 b_39 z_39 rfl rfl (by decide) rfl rfl hx1 rfl rfl) ?_
  refine arun_do rfl rfl rfl (ex_assign (eV (v := (FV 0 x1.length)) rfl)) ?_
  refine arun_keepE [1] 0 1 (st' := ⟨7, 0, [(1, (FV 0 x1.length))], [], ⟨1, [(0, ⟨5, ((x1).flatMap c_api_Node), false⟩)]⟩⟩) (by kernel_rfl) (by kernel_rfl) ?_
  show AWp _ _ _ _
  refine awp_seq ?_
  refine awp_region ?_
  refine arun_do rfl rfl rfl (ex_move (eV (v := (FV 0 x1.length)) rfl)) ?_
  obtain ⟨x2, hx2, h⟩ := bindS h
  refine arun_do rfl rfl rfl (tx_idxF (c := c_api_Node) (xs := x1) (i := 0) ce_api_Node Tryd.underlying25 s_39 rfl rfl rfl hx2) ?_
  refine arun_do rfl rfl rfl (ex_fieldAddr (v := (NP 0 (((0 : Int).toNat * 5) + 0))) Tryd.underlying39 rfl s_3 (by decide) rfl rfl) ?_
  obtain ⟨x3, hx3, h⟩ := bindS h
  refine arun_do0 rfl rfl (tx_stFp (c := c_api_Node) (xs := x1) (e := x2) (e' := (G_api_Node.mk 2 x2.Up x2.Name x2.Body x2.Bad)) (off := 0) (vs := [(I 2)]) (H' := ⟨1, [(0, ⟨5, ((x3).flatMap c_api_Node), false⟩)]⟩) ce_api_Node s_3 rfl (by first | rfl | omega) (eV (v := (I 2)) rfl) rfl rfl hx2 (Nat.le_of_ble_eq_true rfl) (by kernel_rfl) rfl (List.cons_ne_nil _ _) hx3 rfl) ?_
  refine arun_fewer (T' := [(1, (FV 0 x3.length)), (3, (FV 0 x3.length))]) (ReT.fv rfl (setI_len hx3) (ReT.fv rfl (setI_len hx3) ReT.nil)) ?_
  refine arun_keepE [1] 0 1 (st' := ⟨7, 0, [(1, (FV 0 x3.length))], [], ⟨1, [(0, ⟨5, ((x3).flatMap c_api_Node), false⟩)]⟩⟩) (by kernel_rfl) (by kernel_rfl) ?_
  show AWp _ _ _ _
  refine awp_seq ?_
  refine awp_region ?_
  refine arun_do rfl rfl rfl (ex_move (eV (v := (FV 0 x3.length)) rfl)) ?_
  refine arun_do rfl rfl rfl (ex_assign (eV (v := (FV 0 x3.length)) rfl)) ?_
  refine arun_keepE [0] 0 1 (st' := ⟨7, 0, [(0, (FV 0 x3.length))], [], ⟨1, [(0, ⟨5, ((x3).flatMap c_api_Node), false⟩)]⟩⟩) (by kernel_rfl) (by kernel_rfl) ?_
  show AWp _ _ _ _
  refine awp_freeze 0 (bk := ⟨5, ((x3).flatMap c_api_Node), false⟩) (T' := [(0, (SL 5 c_api_Node x3))]) (L' := []) rfl (fzF ce_api_Node rfl rfl FzT.nil) (FzL.refl _) ?_
  show AWp _ _ _ ⟨7, 0, [(0, (SL 5 c_api_Node x3))], [], ⟨1, []⟩⟩
  refine awp_ret ?_
  cases h
  exact ares1 (rtmp rfl (eV rfl))

noncomputable def M_strings_genSplit_k2 (y8 : Str) (y9 : Int) (y10 : List Str) : Option (List Str) :=
  Option.bind (getI y10 y9) fun (x21 : Str) => Option.bind (setI y10 y9 y8) fun (x22 : List Str) => Option.bind (slL x22 0 (w64 (y9 + 1))) fun (x23 : (List Str)) => some x23
noncomputable def M_strings_genSplit_l1 (t0 : Str) (t1 : Str) (t2 : Int) (y4 : Int) : Nat → Str → Int → List Str → Option (List Str)
  | 0, _, _, _ => none
  | n1 + 1, v11, v12, v13 =>
  cond (decide (v12 < (w64 ((min y4 (w64 ((t0.length : Int) + 1))) - 1)))) (Option.bind (M_strings_Index v11 t1) fun (x15 : Int) => cond (decide (x15 < 0)) (M_strings_genSplit_k2 v11 v12 v13) (Option.bind (slL v11 0 (w64 (x15 + t2))) fun (x17 : Str) => Option.bind (getI v13 v12) fun (x18 : Str) => Option.bind (setI v13 v12 x17) fun (x19 : List Str) => Option.bind (slL v11 (w64 (x15 + (t1.length : Int))) (v11.length : Int)) fun (x20 : Str) => (M_strings_genSplit_l1 t0 t1 t2 y4 n1) x20 (w64 (v12 + 1)) x19)) (M_strings_genSplit_k2 v11 v12 v13)
noncomputable def M_strings_genSplit_k1 (t0 : Str) (t1 : Str) (t2 : Int) (y4 : Int) : Option (List Str) :=
  Option.bind (makeL 16 (min y4 (w64 ((t0.length : Int) + 1))) ([] : Str)) fun (x7 : List Str) => M_strings_genSplit_l1 t0 t1 t2 y4 fuel t0 0 x7
noncomputable def M_strings_genSplit (t0 : Str) (t1 : Str) (t2 : Int) (t3 : Int) : Option (List Str) :=
  cond (t3 == 0) (some []) (cond (t1 == []) (Option.bind (M_strings_explode t0 t3) fun (x3 : (List Str)) => some x3) (cond (decide (t3 < 0)) (Option.bind (M_strings_Count t0 t1) fun (x6 : Int) => M_strings_genSplit_k1 t0 t1 t2 (w64 (x6 + 1))) (M_strings_genSplit_k1 t0 t1 t2 t3)))
theorem ok_strings_genSplit (t0 : Str) (t1 : Str) (t2 : Int) (t3 : Int) (r : (List Str)) (h : M_strings_genSplit t0 t1 t2 t3 = some r) : FFn Tryd.prog 64 [(S t0), (S t1), (I t2), (I t3)] (SL 1 cS r) := by
  refine FFn.of_body (n := 66) Tryd.func64 rfl Tryd.ntmps64 rfl rfl rfl rfl ?_
  show AWp _ _ _ ⟨66, 0, [(0, (S t0)), (1, (S t1)), (2, (I t2)), (3, (I t3))], [], ⟨0, []⟩⟩
  unfold M_strings_genSplit at h
  refine awp_seq ?_
  refine awp_region ?_
  refine arun_do rfl rfl rfl (ex_assign (eV (v := (Value.slice none 0 0)) rfl)) ?_
  refine arun_keepE [0, 1, 2, 3] 0 0 (st' := ⟨66, 0, [(0, (S t0)), (1, (S t1)), (2, (I t2)), (3, (I t3))], [], ⟨0, []⟩⟩) (by kernel_rfl) (by kernel_rfl) ?_
  show AWp _ _ _ _
  refine awp_seq ?_
  refine awp_seq ?_
  refine awp_region ?_
  refine arun_do rfl rfl rfl (ex_move (eV (v := (I t3)) rfl)) ?_
  refine arun_do rfl rfl rfl (ex_bin (vx := (I t3)) (vy := (I 0)) rfl rfl eqlI_ok) ?_
  refine arun_keepE [0, 1, 2, 3, 13] 0 0 (st' := ⟨66, 0, [(0, (S t0)), (1, (S t1)), (2, (I t2)), (3, (I t3)), (13, (Bo (t3 == 0)))], [], ⟨0, []⟩⟩) (by kernel_rfl) (by kernel_rfl) ?_
  show AWp _ _ _ _
  rcases Bool.eq_false_or_eq_true (t3 == 0) with hb1 | hb1
  · rw [condT hb1] at h
    refine awp_condT (boT hb1) ?_
    refine awp_seq ?_
    refine awp_region ?_
    refine arun_do rfl rfl rfl (ex_assign (eV (v := (Value.slice none 0 0)) rfl)) ?_
    refine arun_keepE [8] 0 0 (st' := ⟨66, 0, [(8, (Value.slice none 0 0))], [], ⟨0, []⟩⟩) (by kernel_rfl) (by kernel_rfl) ?_
    show AWp _ _ _ _
    refine awp_ret ?_
    cases h
    exact ares1 (rtmp rfl (eN rfl))
  · rw [condF hb1] at h
    refine awp_condF (boF hb1) ?_
    refine awp_skip ?_
    show AWp _ _ _ _
    refine awp_seq ?_
    refine awp_seq ?_
    refine awp_region ?_
    refine arun_do rfl rfl rfl (ex_move (eV (v := (S t1)) rfl)) ?_
    refine arun_do rfl rfl rfl (ex_bin (vx := (S t1)) (vy := (S [])) rfl rfl eqlS_ok) ?_
    refine arun_keepE [0, 1, 2, 3, 15] 0 0 (st' := ⟨66, 0, [(0, (S t0)), (1, (S t1)), (2, (I t2)), (3, (I t3)), (15, (Bo (t1 == [])))], [], ⟨0, []⟩⟩) (by kernel_rfl) (by kernel_rfl) ?_
    show AWp _ _ _ _
    rcases Bool.eq_false_or_eq_true (t1 == []) with hb2 | hb2
    · rw [condT hb2] at h
      refine awp_condT (boT hb2) ?_
      refine awp_seq ?_
      refine awp_region ?_
      refine arun_do rfl rfl rfl (ex_move (eV (v := (S t0)) rfl)) ?_
      refine arun_do rfl rfl rfl (ex_move (eV (v := (I t3)) rfl)) ?_
      obtain ⟨x3, hx3, h⟩ := bindS h
      refine arun_do rfl rfl rfl (ex_call0 (vs := [(S t0), (I t3)]) (v := (SL 1 cS x3)) rfl en_80 (cargs (evs rfl (evs rfl evs_nil))) rfl (ok_strings_explode t0 t3 x3 hx3) rfl) ?_
      refine arun_do rfl rfl rfl (ex_assign (eV (v := (SL 1 cS x3)) rfl)) ?_
      refine arun_keepE [8] 0 0 (st' := ⟨66, 0, [(8, (SL 1 cS x3))], [], ⟨0, []⟩⟩) (by kernel_rfl) (by kernel_rfl) ?_
      show AWp _ _ _ _
      refine awp_ret ?_
      cases h
      exact ares1 (rtmp rfl (eV rfl))
    · rw [condF hb2] at h
      refine awp_condF (boF hb2) ?_
      refine awp_skip ?_
      show AWp _ _ _ _
      refine awp_seqJ (fun s => ∃ (y4 : Int), s = ⟨66, 0, [(0, (S t0)), (1, (S t1)), (2, (I t2)), (3, (I y4))], [], ⟨0, []⟩⟩ ∧ M_strings_genSplit_k1 t0 t1 t2 y4 = some r) ?_ ?_
      · refine awp_seq ?_
        refine awp_region ?_
        refine arun_do rfl rfl rfl (ex_move (eV (v := (I t3)) rfl)) ?_
        refine arun_do rfl rfl rfl (ex_bin (vx := (I t3)) (vy := (I 0)) rfl rfl lssI_ok) ?_
        refine arun_keepE [0, 1, 2, 3, 20] 0 0 (st' := ⟨66, 0, [(0, (S t0)), (1, (S t1)), (2, (I t2)), (3, (I t3)), (20, (Bo (decide (t3 < 0))))], [], ⟨0, []⟩⟩) (by kernel_rfl) (by kernel_rfl) ?_
        show AWp _ _ _ _
        rcases Bool.eq_false_or_eq_true (decide (t3 < 0)) with hb5 | hb5
        · rw [condT hb5] at h
          refine awp_condT (boT hb5) ?_
          refine awp_region ?_
          refine arun_do rfl rfl rfl (ex_move (eV (v := (S t0)) rfl)) ?_
          refine arun_do rfl rfl rfl (ex_move (eV (v := (S t1)) rfl)) ?_
          obtain ⟨x6, hx6, h⟩ := bindS h
          refine arun_do rfl rfl rfl (ex_call0 (vs := [(S t0), (S t1)]) (v := (I x6)) rfl en_81 (cargs (evs rfl (evs rfl evs_nil))) rfl (ok_strings_Count t0 t1 x6 hx6) rfl) ?_
          refine arun_do rfl rfl rfl (ex_bin (vx := (I x6)) (vy := (I 1)) rfl rfl addI_ok) ?_
          refine arun_do rfl rfl rfl (ex_assign (eV (v := (I (w64 (x6 + 1)))) rfl)) ?_
          refine arun_keepE [0, 1, 2, 3] 0 0 (st' := ⟨66, 0, [(0, (S t0)), (1, (S t1)), (2, (I t2)), (3, (I (w64 (x6 + 1))))], [], ⟨0, []⟩⟩) (by kernel_rfl) (by kernel_rfl) ?_
          exact (Exists.intro (w64 (x6 + 1)) (And.intro rfl h))
        · rw [condF hb5] at h
          refine awp_condF (boF hb5) ?_
          refine awp_keepE [0, 1, 2, 3] 0 0 (st' := ⟨66, 0, [(0, (S t0)), (1, (S t1)), (2, (I t2)), (3, (I t3))], [], ⟨0, []⟩⟩) (by kernel_rfl) (by kernel_rfl) ?_
          refine awp_skip ?_
          exact (Exists.intro t3 (And.intro rfl h))
      · rintro s ⟨y4, rfl, h⟩
        unfold M_strings_genSplit_k1 at h
        refine awp_seq ?_
        refine awp_region ?_
        refine arun_do rfl rfl rfl (ex_move (eV (v := (I y4)) rfl)) ?_
        refine arun_do rfl rfl rfl (ex_move (eV (v := (S t0)) rfl)) ?_
        refine arun_do rfl rfl rfl (tx_lenS Tryd.underlying9 rfl) ?_
        refine arun_do rfl rfl rfl (ex_bin (vx := (I (t0.length : Int))) (vy := (I 1)) rfl rfl addI_ok) ?_
        refine arun_do rfl rfl rfl (ex_min (m := y4) (n := (w64 ((t0.length : Int) + 1))) rfl rfl) ?_
        refine arun_do rfl rfl rfl (ex_assign (eV (v := (I (min y4 (w64 ((t0.length : Int) + 1))))) rfl)) ?_
        refine arun_keepE [0, 1, 2, 3] 0 0 (st' := ⟨66, 0, [(0, (S t0)), (1, (S t1)), (2, (I t2)), (3, (I (min y4 (w64 ((t0.length : Int) + 1)))))], [], ⟨0, []⟩⟩) (by kernel_rfl) (by kernel_rfl) ?_
        show AWp _ _ _ _
        refine awp_seq ?_
        refine awp_region ?_
        refine arun_do rfl rfl rfl (ex_move (eV (v := (I (min y4 (w64 ((t0.length : Int) + 1))))) rfl)) ?_
        obtain ⟨x7, hx7, h⟩ := bindS h
        refine arun_do rfl rfl rfl (tx_make (c := cS) (e := []) (k := 0) (H' := ⟨1, [(0, ⟨1, ((x7).flatMap cS), false⟩)]⟩) ceS Tryd.underlying60 s_9 b_9 z_9 rfl rfl (by decide) rfl rfl hx7 rfl rfl) ?_
        refine arun_do rfl rfl rfl (ex_assign (eV (v := (FV 0 x7.length)) rfl)) ?_
        refine arun_keepE [0, 1, 2, 3, 9] 0 1 (st' := ⟨66, 0, [(0, (S t0)), (1, (S t1)), (2, (I t2)), (3, (I (min y4 (w64 ((t0.length : Int) + 1))))), (9, (FV 0 x7.length))], [], ⟨1, [(0, ⟨1, ((x7).flatMap cS), false⟩)]⟩⟩) (by kernel_rfl) (by kernel_rfl) ?_
        show AWp _ _ _ _
        refine awp_seq ?_
        refine awp_region ?_
        refine arun_do rfl rfl rfl (ex_move (eV (v := (I (min y4 (w64 ((t0.length : Int) + 1))))) rfl)) ?_
        refine arun_do rfl rfl rfl (ex_bin (vx := (I (min y4 (w64 ((t0.length : Int) + 1))))) (vy := (I 1)) rfl rfl subI_ok) ?_
        refine arun_do rfl rfl rfl (ex_assign (eV (v := (I (w64 ((min y4 (w64 ((t0.length : Int) + 1))) - 1)))) rfl)) ?_
        refine arun_keepE [0, 1, 2, 3, 9] 0 1 (st' := ⟨66, 0, [(0, (S t0)), (1, (S t1)), (2, (I t2)), (3, (I (w64 ((min y4 (w64 ((t0.length : Int) + 1))) - 1)))), (9, (FV 0 x7.length))], [], ⟨1, [(0, ⟨1, ((x7).flatMap cS), false⟩)]⟩⟩) (by kernel_rfl) (by kernel_rfl) ?_
        show AWp _ _ _ _
        refine awp_seq ?_
        refine awp_region ?_
        refine arun_do rfl rfl rfl (ex_assign (eV (v := (I 0)) rfl)) ?_
        refine arun_keepE [0, 1, 2, 3, 9, 10] 0 1 (st' := ⟨66, 0, [(0, (S t0)), (1, (S t1)), (2, (I t2)), (3, (I (w64 ((min y4 (w64 ((t0.length : Int) + 1))) - 1)))), (9, (FV 0 x7.length)), (10, (I 0))], [], ⟨1, [(0, ⟨1, ((x7).flatMap cS), false⟩)]⟩⟩) (by kernel_rfl) (by kernel_rfl) ?_
        show AWp _ _ _ _
        refine awp_seqJ (fun s => ∃ (y8 : Str) (y9 : Int) (y10 : List Str), s = ⟨66, 0, [(0, (S y8)), (9, (FV 0 y10.length)), (10, (I y9))], [], ⟨1, [(0, ⟨1, ((y10).flatMap cS), false⟩)]⟩⟩ ∧ M_strings_genSplit_k2 y8 y9 y10 = some r) ?_ ?_
        · refine awp_block ?_
          refine awp_loop (fun n s => ∃ (v11 : Str) (v12 : Int) (v13 : List Str), s = ⟨66, 0, [(0, (S v11)), (1, (S t1)), (2, (I t2)), (3, (I (w64 ((min y4 (w64 ((t0.length : Int) + 1))) - 1)))), (9, (FV 0 v13.length)), (10, (I v12))], [], ⟨1, [(0, ⟨1, ((v13).flatMap cS), false⟩)]⟩⟩ ∧ M_strings_genSplit_l1 t0 t1 t2 y4 n v11 v12 v13 = some r) fuel (Exists.intro t0 (Exists.intro 0 (Exists.intro x7 (And.intro rfl h)))) ?_
          rintro n s ⟨v11, v12, v13, rfl, h⟩ -
          cases n with
          | zero => cases h
          | succ n1 =>
            unfold M_strings_genSplit_l1 at h
            refine awp_seq ?_
            refine awp_seq ?_
            refine awp_region ?_
            refine arun_do rfl rfl rfl (ex_move (eV (v := (I v12)) rfl)) ?_
            refine arun_do rfl rfl rfl (ex_move (eV (v := (I (w64 ((min y4 (w64 ((t0.length : Int) + 1))) - 1)))) rfl)) ?_
            refine arun_do rfl rfl rfl (ex_bin (vx := (I v12)) (vy := (I (w64 ((min y4 (w64 ((t0.length : Int) + 1))) - 1)))) rfl rfl lssI_ok) ?_
            refine arun_keepE [0, 1, 2, 3, 9, 10, 36] 0 1 (st' := ⟨66, 0, [(0, (S v11)), (1, (S t1)), (2, (I t2)), (3, (I (w64 ((min y4 (w64 ((t0.length : Int) + 1))) - 1)))), (9, (FV 0 v13.length)), (10, (I v12)), (36, (Bo (decide (v12 < (w64 ((min y4 (w64 ((t0.length : Int) + 1))) - 1))))))], [], ⟨1, [(0, ⟨1, ((v13).flatMap cS), false⟩)]⟩⟩) (by kernel_rfl) (by kernel_rfl) ?_
            show AWp _ _ _ _
            rcases Bool.eq_false_or_eq_true (decide (v12 < (w64 ((min y4 (w64 ((t0.length : Int) + 1))) - 1)))) with hb14 | hb14
            · rw [condT hb14] at h
              refine awp_condT (boT hb14) ?_
              refine awp_skip ?_
              show AWp _ _ _ _
              refine awp_block ?_
              refine awp_seq ?_
              refine awp_region ?_
              refine arun_do rfl rfl rfl (ex_move (eV (v := (S v11)) rfl)) ?_
              refine arun_do rfl rfl rfl (ex_move (eV (v := (S t1)) rfl)) ?_
              obtain ⟨x15, hx15, h⟩ := bindS h
              refine arun_do rfl rfl rfl (ex_call0 (vs := [(S v11), (S t1)]) (v := (I x15)) rfl en_82 (cargs (evs rfl (evs rfl evs_nil))) rfl (ok_strings_Index v11 t1 x15 hx15) rfl) ?_
              refine arun_do rfl rfl rfl (ex_assign (eV (v := (I x15)) rfl)) ?_
              refine arun_keepE [0, 1, 2, 3, 9, 10, 11] 0 1 (st' := ⟨66, 0, [(0, (S v11)), (1, (S t1)), (2, (I t2)), (3, (I (w64 ((min y4 (w64 ((t0.length : Int) + 1))) - 1)))), (9, (FV 0 v13.length)), (10, (I v12)), (11, (I x15))], [], ⟨1, [(0, ⟨1, ((v13).flatMap cS), false⟩)]⟩⟩) (by kernel_rfl) (by kernel_rfl) ?_
              show AWp _ _ _ _
              refine awp_seq ?_
              refine awp_seq ?_
              refine awp_region ?_
              refine arun_do rfl rfl rfl (ex_move (eV (v := (I x15)) rfl)) ?_
              refine arun_do rfl rfl rfl (ex_bin (vx := (I x15)) (vy := (I 0)) rfl rfl lssI_ok) ?_
              refine arun_keepE [0, 1, 2, 3, 9, 10, 11, 41] 0 1 (st' := ⟨66, 0, [(0, (S v11)), (1, (S t1)), (2, (I t2)), (3, (I (w64 ((min y4 (w64 ((t0.length : Int) + 1))) - 1)))), (9, (FV 0 v13.length)), (10, (I v12)), (11, (I x15)), (41, (Bo (decide (x15 < 0))))], [], ⟨1, [(0, ⟨1, ((v13).flatMap cS), false⟩)]⟩⟩) (by kernel_rfl) (by kernel_rfl) ?_
              show AWp _ _ _ _
              rcases Bool.eq_false_or_eq_true (decide (x15 < 0)) with hb16 | hb16
              · rw [condT hb16] at h
                refine awp_condT (boT hb16) ?_
                refine awp_keepE [0, 9, 10] 0 1 (st' := ⟨66, 0, [(0, (S v11)), (9, (FV 0 v13.length)), (10, (I v12))], [], ⟨1, [(0, ⟨1, ((v13).flatMap cS), false⟩)]⟩⟩) (by kernel_rfl) (by kernel_rfl) ?_
                refine awp_exit ?_
                exact (Exists.intro v11 (Exists.intro v12 (Exists.intro v13 (And.intro rfl h))))
              · rw [condF hb16] at h
                refine awp_condF (boF hb16) ?_
                refine awp_skip ?_
                show AWp _ _ _ _
                refine awp_seq ?_
                refine awp_region ?_
                refine arun_do rfl rfl rfl (ex_move (eV (v := (FV 0 v13.length)) rfl)) ?_
                refine arun_do rfl rfl rfl (ex_move (eV (v := (I v12)) rfl)) ?_
                refine arun_do rfl rfl rfl (ex_move (eV (v := (S v11)) rfl)) ?_
                refine arun_do rfl rfl rfl (ex_move (eV (v := (I x15)) rfl)) ?_
                refine arun_do rfl rfl rfl (ex_move (eV (v := (I t2)) rfl)) ?_
                refine arun_do rfl rfl rfl (ex_bin (vx := (I x15)) (vy := (I t2)) rfl rfl addI_ok) ?_
                obtain ⟨x17, hx17, h⟩ := bindS h
                refine arun_do rfl rfl rfl (tx_slS (u := v11) Tryd.underlying9 rfl lo0 (hiX (l := (w64 (x15 + t2))) rfl) hx17) ?_
                obtain ⟨x18, hx18, h⟩ := bindS h
                refine arun_do rfl rfl rfl (tx_idxF (c := cS) (xs := v13) (i := v12) ceS Tryd.underlying60 s_9 rfl rfl rfl hx18) ?_
                obtain ⟨x19, hx19, h⟩ := bindS h
                refine arun_do0 rfl rfl (tx_stF (c := cS) (xs := v13) (e := x17) (H' := ⟨1, [(0, ⟨1, ((x19).flatMap cS), false⟩)]⟩) ceS s_9 rfl (eV (v := (S x17)) rfl) rfl rfl hx19 rfl) ?_
                refine arun_fewer (T' := [(0, (S v11)), (1, (S t1)), (2, (I t2)), (3, (I (w64 ((min y4 (w64 ((t0.length : Int) + 1))) - 1)))), (9, (FV 0 x19.length)), (10, (I v12)), (11, (I x15)), (41, (Bo (decide (x15 < 0)))), (42, (FV 0 x19.length)), (43, (I v12)), (44, (S v11)), (45, (I x15)), (46, (I t2)), (47, (I (w64 (x15 + t2)))), (48, (S x17))]) (ReT.keep (v := (S v11)) rfl (ReT.keep (v := (S t1)) rfl (ReT.keep (v := (I t2)) rfl (ReT.keep (v := (I (w64 ((min y4 (w64 ((t0.length : Int) + 1))) - 1)))) rfl (ReT.fv rfl (setI_len hx19) (ReT.keep (v := (I v12)) rfl (ReT.keep (v := (I x15)) rfl (ReT.keep (v := (Bo (decide (x15 < 0)))) rfl (ReT.fv rfl (setI_len hx19) (ReT.keep (v := (I v12)) rfl (ReT.keep (v := (S v11)) rfl (ReT.keep (v := (I x15)) rfl (ReT.keep (v := (I t2)) rfl (ReT.keep (v := (I (w64 (x15 + t2)))) rfl (ReT.keep (v := (S x17)) rfl ReT.nil))))))))))))))) ?_
                refine arun_keepE [0, 1, 2, 3, 9, 10, 11] 0 1 (st' := ⟨66, 0, [(0, (S v11)), (1, (S t1)), (2, (I t2)), (3, (I (w64 ((min y4 (w64 ((t0.length : Int) + 1))) - 1)))), (9, (FV 0 x19.length)), (10, (I v12)), (11, (I x15))], [], ⟨1, [(0, ⟨1, ((x19).flatMap cS), false⟩)]⟩⟩) (by kernel_rfl) (by kernel_rfl) ?_
                show AWp _ _ _ _
                refine awp_seq ?_
                refine awp_region ?_
                refine arun_do rfl rfl rfl (ex_move (eV (v := (S v11)) rfl)) ?_
                refine arun_do rfl rfl rfl (ex_move (eV (v := (I x15)) rfl)) ?_
                refine arun_do rfl rfl rfl (ex_move (eV (v := (S t1)) rfl)) ?_
                refine arun_do rfl rfl rfl (tx_lenS Tryd.underlying9 rfl) ?_
                refine arun_do rfl rfl rfl (ex_bin (vx := (I x15)) (vy := (I (t1.length : Int))) rfl rfl addI_ok) ?_
                obtain ⟨x20, hx20, h⟩ := bindS h
                refine arun_do rfl rfl rfl (tx_slS (u := v11) Tryd.underlying9 rfl (loX (l := (w64 (x15 + (t1.length : Int)))) rfl) hiN hx20) ?_
                refine arun_do rfl rfl rfl (ex_assign (eV (v := (S x20)) rfl)) ?_
                refine arun_keepE [0, 1, 2, 3, 9, 10] 0 1 (st' := ⟨66, 0, [(0, (S x20)), (1, (S t1)), (2, (I t2)), (3, (I (w64 ((min y4 (w64 ((t0.length : Int) + 1))) - 1)))), (9, (FV 0 x19.length)), (10, (I v12))], [], ⟨1, [(0, ⟨1, ((x19).flatMap cS), false⟩)]⟩⟩) (by kernel_rfl) (by kernel_rfl) ?_
                show AWp _ _ _ _
                refine awp_region ?_
                refine arun_do rfl rfl rfl (ex_move (eV (v := (I v12)) rfl)) ?_
                refine arun_do rfl rfl rfl (ex_bin (vx := (I v12)) (vy := (I 1)) rfl rfl addI_ok) ?_
                refine arun_do rfl rfl rfl (ex_assign (eV (v := (I (w64 (v12 + 1)))) rfl)) ?_
                refine arun_keepE [0, 1, 2, 3, 9, 10] 0 1 (st' := ⟨66, 0, [(0, (S x20)), (1, (S t1)), (2, (I t2)), (3, (I (w64 ((min y4 (w64 ((t0.length : Int) + 1))) - 1)))), (9, (FV 0 x19.length)), (10, (I (w64 (v12 + 1))))], [], ⟨1, [(0, ⟨1, ((x19).flatMap cS), false⟩)]⟩⟩) (by kernel_rfl) (by kernel_rfl) ?_
                exact Exists.intro n1 (And.intro (Nat.lt_succ_self _) (Exists.intro x20 (Exists.intro (w64 (v12 + 1)) (Exists.intro x19 (And.intro rfl h)))))
            · rw [condF hb14] at h
              refine awp_condF (boF hb14) ?_
              refine awp_keepE [0, 9, 10] 0 1 (st' := ⟨66, 0, [(0, (S v11)), (9, (FV 0 v13.length)), (10, (I v12))], [], ⟨1, [(0, ⟨1, ((v13).flatMap cS), false⟩)]⟩⟩) (by kernel_rfl) (by kernel_rfl) ?_
              refine awp_exit ?_
              exact (Exists.intro v11 (Exists.intro v12 (Exists.intro v13 (And.intro rfl h))))
        · rintro s ⟨y8, y9, y10, rfl, h⟩
          unfold M_strings_genSplit_k2 at h
          refine awp_seq ?_
          refine awp_region ?_
          refine arun_do rfl rfl rfl (ex_move (eV (v := (FV 0 y10.length)) rfl)) ?_
          refine arun_do rfl rfl rfl (ex_move (eV (v := (I y9)) rfl)) ?_
          refine arun_do rfl rfl rfl (ex_move (eV (v := (S y8)) rfl)) ?_
          obtain ⟨x21, hx21, h⟩ := bindS h
          refine arun_do rfl rfl rfl (tx_idxF (c := cS) (xs := y10) (i := y9) ceS Tryd.underlying60 s_9 rfl rfl rfl hx21) ?_
          obtain ⟨x22, hx22, h⟩ := bindS h
          refine arun_do0 rfl rfl (tx_stF (c := cS) (xs := y10) (e := y8) (H' := ⟨1, [(0, ⟨1, ((x22).flatMap cS), false⟩)]⟩) ceS s_9 rfl (eV (v := (S y8)) rfl) rfl rfl hx22 rfl) ?_
          refine arun_fewer (T' := [(0, (S y8)), (9, (FV 0 x22.length)), (10, (I y9)), (58, (FV 0 x22.length)), (59, (I y9)), (60, (S y8))]) (ReT.keep (v := (S y8)) rfl (ReT.fv rfl (setI_len hx22) (ReT.keep (v := (I y9)) rfl (ReT.fv rfl (setI_len hx22) (ReT.keep (v := (I y9)) rfl (ReT.keep (v := (S y8)) rfl ReT.nil)))))) ?_
          refine arun_keepE [9, 10] 0 1 (st' := ⟨66, 0, [(9, (FV 0 x22.length)), (10, (I y9))], [], ⟨1, [(0, ⟨1, ((x22).flatMap cS), false⟩)]⟩⟩) (by kernel_rfl) (by kernel_rfl) ?_
          show AWp _ _ _ _
          refine awp_seq ?_
          refine awp_region ?_
          refine arun_do rfl rfl rfl (ex_move (eV (v := (FV 0 x22.length)) rfl)) ?_
          refine arun_do rfl rfl rfl (ex_move (eV (v := (I y9)) rfl)) ?_
          refine arun_do rfl rfl rfl (ex_bin (vx := (I y9)) (vy := (I 1)) rfl rfl addI_ok) ?_
          refine arun_freeze 0 (bk := ⟨1, ((x22).flatMap cS), false⟩) (T' := [(9, (SL 1 cS x22)), (10, (I y9)), (62, (SL 1 cS x22)), (63, (I y9)), (64, (I (w64 (y9 + 1))))]) (L' := []) rfl (fzF ceS rfl rfl (FzT.keep (v := (I y9)) rfl (fzF ceS rfl rfl (FzT.keep (v := (I y9)) rfl (FzT.keep (v := (I (w64 (y9 + 1)))) rfl FzT.nil))))) (FzL.refl _) ?_
          show ARun _ _ _ _ _ ⟨66, 0, [(9, (SL 1 cS x22)), (10, (I y9)), (62, (SL 1 cS x22)), (63, (I y9)), (64, (I (w64 (y9 + 1))))], [], ⟨1, []⟩⟩
          obtain ⟨x23, hx23, h⟩ := bindS h
          refine arun_do rfl rfl rfl (tx_slD (c := cS) (xs := x22) ceS Tryd.underlying60 s_9 rfl lo0 (hiX (l := (w64 (y9 + 1))) rfl) hx23) ?_
          refine arun_do rfl rfl rfl (ex_assign (eV (v := (SL 1 cS x23)) rfl)) ?_
          refine arun_keepE [8] 0 0 (st' := ⟨66, 0, [(8, (SL 1 cS x23))], [], ⟨0, []⟩⟩) (by kernel_rfl) (by kernel_rfl) ?_
          show AWp _ _ _ _
          refine awp_ret ?_
          cases h
          exact ares1 (rtmp rfl (eV rfl))

noncomputable def M_strings_Split (t0 : Str) (t1 : Str) : Option (List Str) :=
  Option.bind (M_strings_genSplit t0 t1 0 (-1)) fun (x1 : (List Str)) => some x1
theorem ok_strings_Split (t0 : Str) (t1 : Str) (r : (List Str)) (h : M_strings_Split t0 t1 = some r) : FFn Tryd.prog 50 [(S t0), (S t1)] (SL 1 cS r) := by
  refine FFn.of_body (n := 8) Tryd.func50 rfl Tryd.ntmps50 rfl rfl rfl rfl ?_
  show AWp _ _ _ ⟨8, 0, [(0, (S t0)), (1, (S t1))], [], ⟨0, []⟩⟩
  unfold M_strings_Split at h
  refine awp_seq ?_
  refine awp_region ?_
  refine arun_do rfl rfl rfl (ex_assign (eV (v := (Value.slice none 0 0)) rfl)) ?_
  refine arun_keepE [0, 1] 0 0 (st' := ⟨8, 0, [(0, (S t0)), (1, (S t1))], [], ⟨0, []⟩⟩) (by kernel_rfl) (by kernel_rfl) ?_
  show AWp _ _ _ _
  refine awp_seq ?_
  refine awp_region ?_
  refine arun_do rfl rfl rfl (ex_move (eV (v := (S t0)) rfl)) ?_
  refine arun_do rfl rfl rfl (ex_move (eV (v := (S t1)) rfl)) ?_
  obtain ⟨x1, hx1, h⟩ := bindS h
  refine arun_do rfl rfl rfl (ex_call0 (vs := [(S t0), (S t1), (I 0), (I (-1))]) (v := (SL 1 cS x1)) rfl en_64 (cargs (evs rfl (evs rfl (evs rfl (evs rfl evs_nil))))) rfl (ok_strings_genSplit t0 t1 0 (-1) x1 hx1) rfl) ?_
  refine arun_do rfl rfl rfl (ex_assign (eV (v := (SL 1 cS x1)) rfl)) ?_
  refine arun_keepE [4] 0 0 (st' := ⟨8, 0, [(4, (SL 1 cS x1))], [], ⟨0, []⟩⟩) (by kernel_rfl) (by kernel_rfl) ?_
  show AWp _ _ _ _
  refine awp_ret ?_
  cases h
  exact ares1 (rtmp rfl (eV rfl))

noncomputable def M_name_plain_l1 (t0 : Str) : Nat → Int → Option Bool
  | 0, _ => none
  | n1 + 1, v1 =>
  cond (decide (v1 < (t0.length : Int))) (Option.bind (getI t0 v1) fun (x3 : UInt8) => Option.bind (M_strings_IndexByte ([97, 98, 99, 100, 101, 102, 103, 104, 105, 106, 107, 108, 109, 110, 111, 112, 113, 114, 115, 116, 117, 118, 119, 120, 121, 122, 48, 49, 50, 51, 52, 53, 54, 55, 56, 57, 46, 95, 45] : Str) x3) fun (x4 : Int) => cond (decide (x4 < 0)) (some false) ((M_name_plain_l1 t0 n1) (w64 (v1 + 1)))) (some true)
noncomputable def M_name_plain (t0 : Str) : Option Bool :=
  M_name_plain_l1 t0 fuel 0
theorem ok_name_plain (t0 : Str) (r : Bool) (h : M_name_plain t0 = some r) : FFn Tryd.prog 65 [(S t0)] (Bo r) := by
  refine FFn.of_body (n := 16) Tryd.func65 rfl Tryd.ntmps65 rfl rfl rfl rfl ?_
  show AWp _ _ _ ⟨16, 0, [(0, (S t0))], [], ⟨0, []⟩⟩
  unfold M_name_plain at h
  refine awp_seq ?_
  refine awp_region ?_
  refine arun_do rfl rfl rfl (ex_assign (eV (v := (Bo false)) rfl)) ?_
  refine arun_keepE [0] 0 0 (st' := ⟨16, 0, [(0, (S t0))], [], ⟨0, []⟩⟩) (by kernel_rfl) (by kernel_rfl) ?_
  show AWp _ _ _ _
  refine awp_seq ?_
  refine awp_seq ?_
  refine awp_region ?_
  refine arun_do rfl rfl rfl (ex_move (eV (v := (S t0)) rfl)) ?_
  refine arun_do rfl rfl rfl (tx_sbD Tryd.underlying9 Tryd.underlying22 Tryd.underlying5 rfl) ?_
  refine arun_do rfl rfl rfl (tx_lenD (xs := t0) ce8 Tryd.underlying22 rfl) ?_
  refine arun_do rfl rfl rfl (ex_move (eV (v := (I 0)) rfl)) ?_
  refine arun_keepE [6, 7, 8] 0 0 (st' := ⟨16, 0, [(6, (SL 1 c8 t0)), (7, (I (t0.length : Int))), (8, (I 0))], [], ⟨0, []⟩⟩) (by kernel_rfl) (by kernel_rfl) ?_
  show AWp _ _ _ _
  refine awp_block ?_
  refine awp_loop (fun n s => ∃ (v1 : Int), s = ⟨16, 0, [(6, (SL 1 c8 t0)), (7, (I (t0.length : Int))), (8, (I v1))], [], ⟨0, []⟩⟩ ∧ M_name_plain_l1 t0 n v1 = some r) fuel (Exists.intro 0 (And.intro rfl h)) ?_
  rintro n s ⟨v1, rfl, h⟩ -
  cases n with
  | zero => cases h
  | succ n1 =>
    unfold M_name_plain_l1 at h
    refine awp_seq ?_
    refine awp_region ?_
    refine arun_do rfl rfl rfl (ex_bin (vx := (I v1)) (vy := (I (t0.length : Int))) rfl rfl lssI_ok) ?_
    refine arun_keepE [6, 7, 8, 9] 0 0 (st' := ⟨16, 0, [(6, (SL 1 c8 t0)), (7, (I (t0.length : Int))), (8, (I v1)), (9, (Bo (decide (v1 < (t0.length : Int)))))], [], ⟨0, []⟩⟩) (by kernel_rfl) (by kernel_rfl) ?_
    show AWp _ _ _ _
    refine awp_seq ?_
    rcases Bool.eq_false_or_eq_true (decide (v1 < (t0.length : Int))) with hb2 | hb2
    · rw [condT hb2] at h
      refine awp_condT (boT hb2) ?_
      refine awp_skip ?_
      show AWp _ _ _ _
      refine awp_seq ?_
      refine awp_block ?_
      refine awp_seq ?_
      refine awp_region ?_
      obtain ⟨x3, hx3, h⟩ := bindS h
      refine arun_do rfl rfl rfl (tx_idxD (c := c8) (xs := t0) (i := v1) ce8 Tryd.underlying22 s_5 rfl rfl hx3) ?_
      refine arun_do rfl rfl rfl (tx_ldD1 (v := (U8 x3)) Tryd.underlying5 rfl rfl rfl) ?_
      refine arun_do rfl rfl rfl (ex_assign (eV (v := (U8 x3)) rfl)) ?_
      refine arun_keepE [4, 6, 7, 8] 0 0 (st' := ⟨16, 0, [(4, (U8 x3)), (6, (SL 1 c8 t0)), (7, (I (t0.length : Int))), (8, (I v1))], [], ⟨0, []⟩⟩) (by kernel_rfl) (by kernel_rfl) ?_
      show AWp _ _ _ _
      refine awp_seq ?_
      refine awp_region ?_
      refine arun_do rfl rfl rfl (ex_move (eV (v := (U8 x3)) rfl)) ?_
      obtain ⟨x4, hx4, h⟩ := bindS h
      refine arun_do rfl rfl rfl (ex_call0 (vs := [(S ([97, 98, 99, 100, 101, 102, 103, 104, 105, 106, 107, 108, 109, 110, 111, 112, 113, 114, 115, 116, 117, 118, 119, 120, 121, 122, 48, 49, 50, 51, 52, 53, 54, 55, 56, 57, 46, 95, 45] : Str)), (U8 x3)]) (v := (I x4)) rfl en_83 (cargs (evs rfl (evs rfl evs_nil))) rfl (ok_strings_IndexByte ([97, 98, 99, 100, 101, 102, 103, 104, 105, 106, 107, 108, 109, 110, 111, 112, 113, 114, 115, 116, 117, 118, 119, 120, 121, 122, 48, 49, 50, 51, 52, 53, 54, 55, 56, 57, 46, 95, 45] : Str) x3 x4 hx4) rfl) ?_
      refine arun_do rfl rfl rfl (ex_bin (vx := (I x4)) (vy := (I 0)) rfl rfl lssI_ok) ?_
      refine arun_keepE [6, 7, 8, 14] 0 0 (st' := ⟨16, 0, [(6, (SL 1 c8 t0)), (7, (I (t0.length : Int))), (8, (I v1)), (14, (Bo (decide (x4 < 0))))], [], ⟨0, []⟩⟩) (by kernel_rfl) (by kernel_rfl) ?_
      show AWp _ _ _ _
      rcases Bool.eq_false_or_eq_true (decide (x4 < 0)) with hb5 | hb5
      · rw [condT hb5] at h
        refine awp_condT (boT hb5) ?_
        refine awp_seq ?_
        refine awp_region ?_
        refine arun_do rfl rfl rfl (ex_assign (eV (v := (Bo false)) rfl)) ?_
        refine arun_keepE [2] 0 0 (st' := ⟨16, 0, [(2, (Bo false))], [], ⟨0, []⟩⟩) (by kernel_rfl) (by kernel_rfl) ?_
        show AWp _ _ _ _
        refine awp_ret ?_
        cases h
        exact ares1 (rtmp rfl (eV rfl))
      · rw [condF hb5] at h
        refine awp_condF (boF hb5) ?_
        refine awp_skip ?_
        show AWp _ _ _ _
        refine awp_region ?_
        refine arun_do rfl rfl rfl (ex_bin (vx := (I v1)) (vy := (I 1)) rfl rfl addI_ok) ?_
        refine arun_do rfl rfl rfl (ex_move (eV (v := (I (w64 (v1 + 1)))) rfl)) ?_
        refine arun_keepE [6, 7, 8] 0 0 (st' := ⟨16, 0, [(6, (SL 1 c8 t0)), (7, (I (t0.length : Int))), (8, (I (w64 (v1 + 1))))], [], ⟨0, []⟩⟩) (by kernel_rfl) (by kernel_rfl) ?_
        exact Exists.intro n1 (And.intro (Nat.lt_succ_self _) (Exists.intro (w64 (v1 + 1)) (And.intro rfl h)))
    · rw [condF hb2] at h
      refine awp_condF (boF hb2) ?_
      refine awp_exit ?_
      show AWp _ _ _ _
      refine awp_seq ?_
      refine awp_region ?_
      refine arun_do rfl rfl rfl (ex_assign (eV (v := (Bo true)) rfl)) ?_
      refine arun_keepE [2] 0 0 (st' := ⟨16, 0, [(2, (Bo true))], [], ⟨0, []⟩⟩) (by kernel_rfl) (by kernel_rfl) ?_
      show AWp _ _ _ _
      refine awp_ret ?_
      cases h
      exact ares1 (rtmp rfl (eV rfl))

end Go.Proofs
