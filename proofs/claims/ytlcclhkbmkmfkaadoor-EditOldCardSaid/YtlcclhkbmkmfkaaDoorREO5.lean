/- Pure models of functions of the program, and that its code does what they say: edit Make, walk Find, walk files up. Written by a program. -/
import Derived.Test.YtlcclhkbmkmfkaaDoorREO1
import Derived.Test.YtlcclhkbmkmfkaaDoorREO3
import Derived.Test.YtlcclhkbmkmfkaaDoorREO4
import Derived.Test.YtlcclhkbmkmfkaaDoorREOB
set_option maxRecDepth 20000
set_option maxHeartbeats 4000000
namespace Go.Proofs
open Go Go.Fhl
set_option linter.unusedVariables false
set_option linter.unusedSimpArgs false
noncomputable def M_edit_Make_k1 (t0 : (List G_api_Node)) (y3 : Int) : Option ((List G_api_Node) × Int) :=
  Option.bind (M_slices_Clone_api_Set_api_Node t0) fun (x10 : (List G_api_Node)) => some (x10, y3)
noncomputable def M_edit_Make (t0 : (List G_api_Node)) (t1 : Str) (t2 : Int) : Option ((List G_api_Node) × Int) :=
  Option.bind (M_edit_place t0 t1) fun (x1 : (G_edit_spot × Int)) => Option.bind (M_node_Free t0) fun (x2 : (Int × Bool)) => cond ((t2 != 1) && (t2 != 2)) (M_edit_Make_k1 t0 1) (cond (x1.2 != 0) (M_edit_Make_k1 t0 x1.2) (Option.bind (M_edit_spot_taken x1.1) fun (x6 : Bool) => cond x6 (M_edit_Make_k1 t0 3) (cond (!x2.2) (M_edit_Make_k1 t0 8) (Option.bind (M_edit_spot_put x1.1 x2.1 (G_api_Node.mk t2 0 [] [] 0)) fun (x9 : (List G_api_Node)) => some (x9, 0)))))
theorem ok_edit_Make (t0 : (List G_api_Node)) (t1 : Str) (t2 : Int) (r : ((List G_api_Node) × Int)) (h : M_edit_Make t0 t1 t2 = some r) : FFn Tryd.prog 8 [(SL 5 c_api_Node t0), (S t1), (I t2)] (Value.tuple #[(SL 5 c_api_Node r.1), (I r.2)]) := by
  refine FFn.of_body (n := 47) Tryd.func8 rfl Tryd.ntmps8 rfl rfl rfl rfl ?_
  show AWp _ _ _ ⟨47, 0, [(0, (SL 5 c_api_Node t0)), (1, (S t1)), (2, (I t2))], [], ⟨0, []⟩⟩
  unfold M_edit_Make at h
  refine awp_seq ?_
  refine awp_region ?_
  refine arun_do rfl rfl rfl (ex_assign (eV (v := (Value.slice none 0 0)) rfl)) ?_
  refine arun_do rfl rfl rfl (ex_assign (eV (v := (I 0)) rfl)) ?_
  refine arun_keepE [0, 1, 2] 0 0 (st' := ⟨47, 0, [(0, (SL 5 c_api_Node t0)), (1, (S t1)), (2, (I t2))], [], ⟨0, []⟩⟩) (by kernel_rfl) (by kernel_rfl) ?_
  show AWp _ _ _ _
  refine awp_seq ?_
  refine awp_region ?_
  refine arun_do rfl rfl rfl (ex_move (eV (v := (SL 5 c_api_Node t0)) rfl)) ?_
  refine arun_do rfl rfl rfl (ex_move (eV (v := (S t1)) rfl)) ?_
  obtain ⟨x1, hx1, h⟩ := bindS h
  refine arun_do rfl rfl rfl (ex_call0 (vs := [(SL 5 c_api_Node t0), (S t1)]) (v := (Value.tuple #[(Value.agg (c_edit_spot x1.1).toArray), (I x1.2)])) rfl en_18 (cargs (evs rfl (evs rfl evs_nil))) rfl (ok_edit_place t0 t1 x1 hx1) rfl) ?_
  refine arun_do rfl rfl rfl (ex_move (eV (v := (Value.tuple #[(Value.agg (c_edit_spot x1.1).toArray), (I x1.2)])) rfl)) ?_
  refine arun_do rfl rfl rfl (ex_extract (vx := (Value.tuple #[(Value.agg (c_edit_spot x1.1).toArray), (I x1.2)])) (v := (Value.agg (c_edit_spot x1.1).toArray)) rfl rfl) ?_
  refine arun_do rfl rfl rfl (ex_extract (vx := (Value.tuple #[(Value.agg (c_edit_spot x1.1).toArray), (I x1.2)])) (v := (I x1.2)) rfl rfl) ?_
  refine arun_do rfl rfl rfl (ex_allocW (k := 0) (zs := (c_edit_spot (G_edit_spot.mk [] 0 []))) (L' := [(c_edit_spot (G_edit_spot.mk [] 0 []))]) z_51 rfl (by repeat (first | exact trivial | refine ⟨.inl rfl, ?_⟩ | refine ⟨.inr ⟨rfl, _, rfl⟩, ?_⟩)) rfl rfl) ?_
  refine arun_do0 rfl rfl (ex_storeL (vy := (Value.agg (c_edit_spot x1.1).toArray)) (cs := (c_edit_spot (G_edit_spot.mk [] 0 []))) (vs := (c_edit_spot x1.1)) (L' := [(c_edit_spot x1.1)]) rfl (eV (v := (Value.agg (c_edit_spot x1.1).toArray)) rfl) rfl s_51 rfl (Nat.le_of_ble_eq_true rfl) (by kernel_rfl)) ?_
  refine arun_do rfl rfl rfl (ex_assign (eV (v := (I x1.2)) rfl)) ?_
  refine arun_keepE [0, 2, 8, 9] 1 0 (st' := ⟨47, 0, [(0, (SL 5 c_api_Node t0)), (2, (I t2)), (8, (LP 0 0)), (9, (I x1.2))], [(c_edit_spot x1.1)], ⟨0, []⟩⟩) (by kernel_rfl) (by kernel_rfl) ?_
  show AWp _ _ _ _
  refine awp_seq ?_
  refine awp_region ?_
  refine arun_do rfl rfl rfl (ex_move (eV (v := (SL 5 c_api_Node t0)) rfl)) ?_
  obtain ⟨x2, hx2, h⟩ := bindS h
  refine arun_do rfl rfl rfl (ex_call0 (vs := [(SL 5 c_api_Node t0)]) (v := (Value.tuple #[(I x2.1), (Bo x2.2)])) rfl en_19 (cargs (evs rfl evs_nil)) rfl (ok_node_Free t0 x2 hx2) rfl) ?_
  refine arun_do rfl rfl rfl (ex_move (eV (v := (Value.tuple #[(I x2.1), (Bo x2.2)])) rfl)) ?_
  refine arun_do rfl rfl rfl (ex_extract (vx := (Value.tuple #[(I x2.1), (Bo x2.2)])) (v := (I x2.1)) rfl rfl) ?_
  refine arun_do rfl rfl rfl (ex_extract (vx := (Value.tuple #[(I x2.1), (Bo x2.2)])) (v := (Bo x2.2)) rfl rfl) ?_
  refine arun_do rfl rfl rfl (ex_assign (eV (v := (I x2.1)) rfl)) ?_
  refine arun_do rfl rfl rfl (ex_assign (eV (v := (Bo x2.2)) rfl)) ?_
  refine arun_keepE [0, 2, 8, 9, 10, 11] 1 0 (st' := ⟨47, 0, [(0, (SL 5 c_api_Node t0)), (2, (I t2)), (8, (LP 0 0)), (9, (I x1.2)), (10, (I x2.1)), (11, (Bo x2.2))], [(c_edit_spot x1.1)], ⟨0, []⟩⟩) (by kernel_rfl) (by kernel_rfl) ?_
  show AWp _ _ _ _
  refine awp_seqJ (fun s => ∃ (y3 : Int), s = ⟨47, 0, [(0, (SL 5 c_api_Node t0)), (9, (I y3))], [], ⟨0, []⟩⟩ ∧ M_edit_Make_k1 t0 y3 = some r) ?_ ?_
  · refine awp_block ?_
    refine awp_seq ?_
    refine awp_region ?_
    refine arun_do rfl rfl rfl (ex_move (eV (v := (I t2)) rfl)) ?_
    refine arun_do rfl rfl rfl (ex_bin (vx := (I t2)) (vy := (I 1)) rfl rfl neqI_ok) ?_
    refine arun_do rfl rfl rfl (ex_move (eV (v := (Bo (t2 != 1))) rfl)) ?_
    refine arun_guard (v := (I t2)) ((t2 != 1) == true) rfl rfl rfl (fun hc => ex_move (eV (v := (I t2)) rfl)) ?_
    refine arun_guard (v := (Bo (t2 != 2))) ((t2 != 1) == true) rfl rfl rfl (fun hc => ex_bin (vx := (I t2)) (vy := (I 2)) (cond_of hc) rfl neqI_ok) ?_
    refine arun_do rfl rfl rfl (ex_pick rfl pkAnd) ?_
    refine arun_do rfl rfl rfl (ex_assign (eV (v := (Bo ((t2 != 1) && (t2 != 2)))) rfl)) ?_
    refine arun_keepE [0, 2, 8, 9, 10, 11, 28] 1 0 (st' := ⟨47, 0, [(0, (SL 5 c_api_Node t0)), (2, (I t2)), (8, (LP 0 0)), (9, (I x1.2)), (10, (I x2.1)), (11, (Bo x2.2)), (28, (Bo ((t2 != 1) && (t2 != 2))))], [(c_edit_spot x1.1)], ⟨0, []⟩⟩) (by kernel_rfl) (by kernel_rfl) ?_
    show AWp _ _ _ _
    rcases Bool.eq_false_or_eq_true ((t2 != 1) && (t2 != 2)) with hb4 | hb4
    · rw [condT hb4] at h
      refine awp_condT (boT hb4) ?_
      refine awp_region ?_
      refine arun_do rfl rfl rfl (ex_assign (eV (v := (I 1)) rfl)) ?_
      refine arun_keepE [0, 9] 0 0 (st' := ⟨47, 0, [(0, (SL 5 c_api_Node t0)), (9, (I 1))], [], ⟨0, []⟩⟩) (by kernel_rfl) (by kernel_rfl) ?_
      exact (Exists.intro 1 (And.intro rfl h))
    · rw [condF hb4] at h
      refine awp_condF (boF hb4) ?_
      refine awp_seq ?_
      refine awp_region ?_
      refine arun_do rfl rfl rfl (ex_move (eV (v := (I x1.2)) rfl)) ?_
      refine arun_do rfl rfl rfl (ex_bin (vx := (I x1.2)) (vy := (I 0)) rfl rfl neqI_ok) ?_
      refine arun_do rfl rfl rfl (ex_assign (eV (v := (Bo (x1.2 != 0))) rfl)) ?_
      refine arun_keepE [0, 2, 8, 9, 10, 11, 35] 1 0 (st' := ⟨47, 0, [(0, (SL 5 c_api_Node t0)), (2, (I t2)), (8, (LP 0 0)), (9, (I x1.2)), (10, (I x2.1)), (11, (Bo x2.2)), (35, (Bo (x1.2 != 0)))], [(c_edit_spot x1.1)], ⟨0, []⟩⟩) (by kernel_rfl) (by kernel_rfl) ?_
      show AWp _ _ _ _
      rcases Bool.eq_false_or_eq_true (x1.2 != 0) with hb5 | hb5
      · rw [condT hb5] at h
        refine awp_condT (boT hb5) ?_
        refine awp_keepE [0, 9] 0 0 (st' := ⟨47, 0, [(0, (SL 5 c_api_Node t0)), (9, (I x1.2))], [], ⟨0, []⟩⟩) (by kernel_rfl) (by kernel_rfl) ?_
        refine awp_skip ?_
        exact (Exists.intro x1.2 (And.intro rfl h))
      · rw [condF hb5] at h
        refine awp_condF (boF hb5) ?_
        refine awp_seq ?_
        refine awp_region ?_
        refine arun_do rfl rfl rfl (tx_ldLA (vs := (c_edit_spot x1.1)) Tryd.underlying51 rfl s_51 (by decide) rfl rfl rfl rfl) ?_
        obtain ⟨x6, hx6, h⟩ := bindS h
        refine arun_do rfl rfl rfl (ex_call0 (vs := [(Value.agg (c_edit_spot x1.1).toArray)]) (v := (Bo x6)) rfl en_20 (cargs (evs rfl evs_nil)) rfl (ok_edit_spot_taken x1.1 x6 hx6) rfl) ?_
        refine arun_do rfl rfl rfl (ex_assign (eV (v := (Bo x6)) rfl)) ?_
        refine arun_keepE [0, 2, 8, 10, 11, 38] 1 0 (st' := ⟨47, 0, [(0, (SL 5 c_api_Node t0)), (2, (I t2)), (8, (LP 0 0)), (10, (I x2.1)), (11, (Bo x2.2)), (38, (Bo x6))], [(c_edit_spot x1.1)], ⟨0, []⟩⟩) (by kernel_rfl) (by kernel_rfl) ?_
        show AWp _ _ _ _
        rcases Bool.eq_false_or_eq_true x6 with hb7 | hb7
        · rw [condT hb7] at h
          refine awp_condT (boT hb7) ?_
          refine awp_region ?_
          refine arun_do rfl rfl rfl (ex_assign (eV (v := (I 3)) rfl)) ?_
          refine arun_keepE [0, 9] 0 0 (st' := ⟨47, 0, [(0, (SL 5 c_api_Node t0)), (9, (I 3))], [], ⟨0, []⟩⟩) (by kernel_rfl) (by kernel_rfl) ?_
          exact (Exists.intro 3 (And.intro rfl h))
        · rw [condF hb7] at h
          refine awp_condF (boF hb7) ?_
          refine awp_seq ?_
          refine awp_region ?_
          refine arun_do rfl rfl rfl (ex_move (eV (v := (Bo x2.2)) rfl)) ?_
          refine arun_do rfl rfl rfl (ex_un (vx := (Bo x2.2)) rfl notB_ok) ?_
          refine arun_do rfl rfl rfl (ex_assign (eV (v := (Bo (!x2.2))) rfl)) ?_
          refine arun_keepE [0, 2, 8, 10, 41] 1 0 (st' := ⟨47, 0, [(0, (SL 5 c_api_Node t0)), (2, (I t2)), (8, (LP 0 0)), (10, (I x2.1)), (41, (Bo (!x2.2)))], [(c_edit_spot x1.1)], ⟨0, []⟩⟩) (by kernel_rfl) (by kernel_rfl) ?_
          show AWp _ _ _ _
          rcases Bool.eq_false_or_eq_true (!x2.2) with hb8 | hb8
          · rw [condT hb8] at h
            refine awp_condT (boT hb8) ?_
            refine awp_region ?_
            refine arun_do rfl rfl rfl (ex_assign (eV (v := (I 8)) rfl)) ?_
            refine arun_keepE [0, 9] 0 0 (st' := ⟨47, 0, [(0, (SL 5 c_api_Node t0)), (9, (I 8))], [], ⟨0, []⟩⟩) (by kernel_rfl) (by kernel_rfl) ?_
            exact (Exists.intro 8 (And.intro rfl h))
          · rw [condF hb8] at h
            refine awp_condF (boF hb8) ?_
            refine awp_seq ?_
            refine awp_region ?_
            refine arun_do rfl rfl rfl (tx_ldLA (vs := (c_edit_spot x1.1)) Tryd.underlying51 rfl s_51 (by decide) rfl rfl rfl rfl) ?_
            refine arun_do rfl rfl rfl (ex_move (eV (v := (I x2.1)) rfl)) ?_
            refine arun_do rfl rfl rfl (ex_move (eV (v := (I t2)) rfl)) ?_
            refine arun_do rfl rfl rfl (ex_build (qs := [(0, (I t2))]) (v := (Value.agg (c_api_Node (G_api_Node.mk t2 0 [] [] 0)).toArray)) (evp rfl evp_nil) (by kernel_rfl)) ?_
            obtain ⟨x9, hx9, h⟩ := bindS h
            refine arun_do rfl rfl rfl (ex_call0 (vs := [(Value.agg (c_edit_spot x1.1).toArray), (I x2.1), (Value.agg (c_api_Node (G_api_Node.mk t2 0 [] [] 0)).toArray)]) (v := (SL 5 c_api_Node x9)) rfl en_21 (cargs (evs rfl (evs rfl (evs rfl evs_nil)))) rfl (ok_edit_spot_put x1.1 x2.1 (G_api_Node.mk t2 0 [] [] 0) x9 hx9) rfl) ?_
            refine arun_do rfl rfl rfl (ex_assign (eV (v := (SL 5 c_api_Node x9)) rfl)) ?_
            refine arun_do rfl rfl rfl (ex_assign (eV (v := (I 0)) rfl)) ?_
            refine arun_keepE [6, 7] 0 0 (st' := ⟨47, 0, [(6, (SL 5 c_api_Node x9)), (7, (I 0))], [], ⟨0, []⟩⟩) (by kernel_rfl) (by kernel_rfl) ?_
            show AWp _ _ _ _
            refine awp_ret ?_
            cases h
            exact aresN rfl (L2.cons (rtmp rfl (eV rfl)) (L2.cons (rtmp rfl (eV rfl)) L2.nil)) rfl
  · rintro s ⟨y3, rfl, h⟩
    unfold M_edit_Make_k1 at h
    refine awp_seq ?_
    refine awp_region ?_
    refine arun_do rfl rfl rfl (ex_move (eV (v := (SL 5 c_api_Node t0)) rfl)) ?_
    obtain ⟨x10, hx10, h⟩ := bindS h
    refine arun_do rfl rfl rfl (ex_call0 (vs := [(SL 5 c_api_Node t0)]) (v := (SL 5 c_api_Node x10)) rfl en_22 (cargs (evs rfl evs_nil)) rfl (ok_slices_Clone_api_Set_api_Node t0 x10 hx10) rfl) ?_
    refine arun_do rfl rfl rfl (ex_move (eV (v := (I y3)) rfl)) ?_
    refine arun_do rfl rfl rfl (ex_assign (eV (v := (SL 5 c_api_Node x10)) rfl)) ?_
    refine arun_do rfl rfl rfl (ex_assign (eV (v := (I y3)) rfl)) ?_
    refine arun_keepE [6, 7] 0 0 (st' := ⟨47, 0, [(6, (SL 5 c_api_Node x10)), (7, (I y3))], [], ⟨0, []⟩⟩) (by kernel_rfl) (by kernel_rfl) ?_
    show AWp _ _ _ _
    refine awp_ret ?_
    cases h
    exact aresN rfl (L2.cons (rtmp rfl (eV rfl)) (L2.cons (rtmp rfl (eV rfl)) L2.nil)) rfl


theorem okw_edit_Make (t0 : (List G_api_Node)) (t1 : Str) (t2 : Int) (r : ((List G_api_Node) × Int)) (h : M_edit_Make t0 t1 t2 = some r) : FOw2 Tryd.prog 8 [(SL 5 c_api_Node t0), (S t1), (I t2)] r.1.length r.2 ⟨5, (r.1).flatMap c_api_Node, true⟩ := by
  refine FOw2.of_body (n := 47) Tryd.func8 rfl Tryd.ntmps8 rfl rfl rfl ?_
  show AWp _ _ _ ⟨47, 0, [(0, (SL 5 c_api_Node t0)), (1, (S t1)), (2, (I t2))], [], ⟨0, []⟩⟩
  unfold M_edit_Make at h
  refine awp_seq ?_
  refine awp_region ?_
  refine arun_do rfl rfl rfl (ex_assign (eV (v := (Value.slice none 0 0)) rfl)) ?_
  refine arun_do rfl rfl rfl (ex_assign (eV (v := (I 0)) rfl)) ?_
  refine arun_keepE [0, 1, 2] 0 0 (st' := ⟨47, 0, [(0, (SL 5 c_api_Node t0)), (1, (S t1)), (2, (I t2))], [], ⟨0, []⟩⟩) (by kernel_rfl) (by kernel_rfl) ?_
  show AWp _ _ _ _
  refine awp_seq ?_
  refine awp_region ?_
  refine arun_do rfl rfl rfl (ex_move (eV (v := (SL 5 c_api_Node t0)) rfl)) ?_
  refine arun_do rfl rfl rfl (ex_move (eV (v := (S t1)) rfl)) ?_
  obtain ⟨x1, hx1, h⟩ := bindS h
  refine arun_do rfl rfl rfl (ex_call0 (vs := [(SL 5 c_api_Node t0), (S t1)]) (v := (Value.tuple #[(Value.agg (c_edit_spot x1.1).toArray), (I x1.2)])) rfl en_18 (cargs (evs rfl (evs rfl evs_nil))) rfl (ok_edit_place t0 t1 x1 hx1) rfl) ?_
  refine arun_do rfl rfl rfl (ex_move (eV (v := (Value.tuple #[(Value.agg (c_edit_spot x1.1).toArray), (I x1.2)])) rfl)) ?_
  refine arun_do rfl rfl rfl (ex_extract (vx := (Value.tuple #[(Value.agg (c_edit_spot x1.1).toArray), (I x1.2)])) (v := (Value.agg (c_edit_spot x1.1).toArray)) rfl rfl) ?_
  refine arun_do rfl rfl rfl (ex_extract (vx := (Value.tuple #[(Value.agg (c_edit_spot x1.1).toArray), (I x1.2)])) (v := (I x1.2)) rfl rfl) ?_
  refine arun_do rfl rfl rfl (ex_allocW (k := 0) (zs := (c_edit_spot (G_edit_spot.mk [] 0 []))) (L' := [(c_edit_spot (G_edit_spot.mk [] 0 []))]) z_51 rfl (by repeat (first | exact trivial | refine ⟨.inl rfl, ?_⟩ | refine ⟨.inr ⟨rfl, _, rfl⟩, ?_⟩)) rfl rfl) ?_
  refine arun_do0 rfl rfl (ex_storeL (vy := (Value.agg (c_edit_spot x1.1).toArray)) (cs := (c_edit_spot (G_edit_spot.mk [] 0 []))) (vs := (c_edit_spot x1.1)) (L' := [(c_edit_spot x1.1)]) rfl (eV (v := (Value.agg (c_edit_spot x1.1).toArray)) rfl) rfl s_51 rfl (Nat.le_of_ble_eq_true rfl) (by kernel_rfl)) ?_
  refine arun_do rfl rfl rfl (ex_assign (eV (v := (I x1.2)) rfl)) ?_
  refine arun_keepE [0, 2, 8, 9] 1 0 (st' := ⟨47, 0, [(0, (SL 5 c_api_Node t0)), (2, (I t2)), (8, (LP 0 0)), (9, (I x1.2))], [(c_edit_spot x1.1)], ⟨0, []⟩⟩) (by kernel_rfl) (by kernel_rfl) ?_
  show AWp _ _ _ _
  refine awp_seq ?_
  refine awp_region ?_
  refine arun_do rfl rfl rfl (ex_move (eV (v := (SL 5 c_api_Node t0)) rfl)) ?_
  obtain ⟨x2, hx2, h⟩ := bindS h
  refine arun_do rfl rfl rfl (ex_call0 (vs := [(SL 5 c_api_Node t0)]) (v := (Value.tuple #[(I x2.1), (Bo x2.2)])) rfl en_19 (cargs (evs rfl evs_nil)) rfl (ok_node_Free t0 x2 hx2) rfl) ?_
  refine arun_do rfl rfl rfl (ex_move (eV (v := (Value.tuple #[(I x2.1), (Bo x2.2)])) rfl)) ?_
  refine arun_do rfl rfl rfl (ex_extract (vx := (Value.tuple #[(I x2.1), (Bo x2.2)])) (v := (I x2.1)) rfl rfl) ?_
  refine arun_do rfl rfl rfl (ex_extract (vx := (Value.tuple #[(I x2.1), (Bo x2.2)])) (v := (Bo x2.2)) rfl rfl) ?_
  refine arun_do rfl rfl rfl (ex_assign (eV (v := (I x2.1)) rfl)) ?_
  refine arun_do rfl rfl rfl (ex_assign (eV (v := (Bo x2.2)) rfl)) ?_
  refine arun_keepE [0, 2, 8, 9, 10, 11] 1 0 (st' := ⟨47, 0, [(0, (SL 5 c_api_Node t0)), (2, (I t2)), (8, (LP 0 0)), (9, (I x1.2)), (10, (I x2.1)), (11, (Bo x2.2))], [(c_edit_spot x1.1)], ⟨0, []⟩⟩) (by kernel_rfl) (by kernel_rfl) ?_
  show AWp _ _ _ _
  refine awp_seqJ (fun s => ∃ (y3 : Int), s = ⟨47, 0, [(0, (SL 5 c_api_Node t0)), (9, (I y3))], [], ⟨0, []⟩⟩ ∧ M_edit_Make_k1 t0 y3 = some r) ?_ ?_
  · refine awp_block ?_
    refine awp_seq ?_
    refine awp_region ?_
    refine arun_do rfl rfl rfl (ex_move (eV (v := (I t2)) rfl)) ?_
    refine arun_do rfl rfl rfl (ex_bin (vx := (I t2)) (vy := (I 1)) rfl rfl neqI_ok) ?_
    refine arun_do rfl rfl rfl (ex_move (eV (v := (Bo (t2 != 1))) rfl)) ?_
    refine arun_guard (v := (I t2)) ((t2 != 1) == true) rfl rfl rfl (fun hc => ex_move (eV (v := (I t2)) rfl)) ?_
    refine arun_guard (v := (Bo (t2 != 2))) ((t2 != 1) == true) rfl rfl rfl (fun hc => ex_bin (vx := (I t2)) (vy := (I 2)) (cond_of hc) rfl neqI_ok) ?_
    refine arun_do rfl rfl rfl (ex_pick rfl pkAnd) ?_
    refine arun_do rfl rfl rfl (ex_assign (eV (v := (Bo ((t2 != 1) && (t2 != 2)))) rfl)) ?_
    refine arun_keepE [0, 2, 8, 9, 10, 11, 28] 1 0 (st' := ⟨47, 0, [(0, (SL 5 c_api_Node t0)), (2, (I t2)), (8, (LP 0 0)), (9, (I x1.2)), (10, (I x2.1)), (11, (Bo x2.2)), (28, (Bo ((t2 != 1) && (t2 != 2))))], [(c_edit_spot x1.1)], ⟨0, []⟩⟩) (by kernel_rfl) (by kernel_rfl) ?_
    show AWp _ _ _ _
    rcases Bool.eq_false_or_eq_true ((t2 != 1) && (t2 != 2)) with hb4 | hb4
    · rw [condT hb4] at h
      refine awp_condT (boT hb4) ?_
      refine awp_region ?_
      refine arun_do rfl rfl rfl (ex_assign (eV (v := (I 1)) rfl)) ?_
      refine arun_keepE [0, 9] 0 0 (st' := ⟨47, 0, [(0, (SL 5 c_api_Node t0)), (9, (I 1))], [], ⟨0, []⟩⟩) (by kernel_rfl) (by kernel_rfl) ?_
      exact (Exists.intro 1 (And.intro rfl h))
    · rw [condF hb4] at h
      refine awp_condF (boF hb4) ?_
      refine awp_seq ?_
      refine awp_region ?_
      refine arun_do rfl rfl rfl (ex_move (eV (v := (I x1.2)) rfl)) ?_
      refine arun_do rfl rfl rfl (ex_bin (vx := (I x1.2)) (vy := (I 0)) rfl rfl neqI_ok) ?_
      refine arun_do rfl rfl rfl (ex_assign (eV (v := (Bo (x1.2 != 0))) rfl)) ?_
      refine arun_keepE [0, 2, 8, 9, 10, 11, 35] 1 0 (st' := ⟨47, 0, [(0, (SL 5 c_api_Node t0)), (2, (I t2)), (8, (LP 0 0)), (9, (I x1.2)), (10, (I x2.1)), (11, (Bo x2.2)), (35, (Bo (x1.2 != 0)))], [(c_edit_spot x1.1)], ⟨0, []⟩⟩) (by kernel_rfl) (by kernel_rfl) ?_
      show AWp _ _ _ _
      rcases Bool.eq_false_or_eq_true (x1.2 != 0) with hb5 | hb5
      · rw [condT hb5] at h
        refine awp_condT (boT hb5) ?_
        refine awp_keepE [0, 9] 0 0 (st' := ⟨47, 0, [(0, (SL 5 c_api_Node t0)), (9, (I x1.2))], [], ⟨0, []⟩⟩) (by kernel_rfl) (by kernel_rfl) ?_
        refine awp_skip ?_
        exact (Exists.intro x1.2 (And.intro rfl h))
      · rw [condF hb5] at h
        refine awp_condF (boF hb5) ?_
        refine awp_seq ?_
        refine awp_region ?_
        refine arun_do rfl rfl rfl (tx_ldLA (vs := (c_edit_spot x1.1)) Tryd.underlying51 rfl s_51 (by decide) rfl rfl rfl rfl) ?_
        obtain ⟨x6, hx6, h⟩ := bindS h
        refine arun_do rfl rfl rfl (ex_call0 (vs := [(Value.agg (c_edit_spot x1.1).toArray)]) (v := (Bo x6)) rfl en_20 (cargs (evs rfl evs_nil)) rfl (ok_edit_spot_taken x1.1 x6 hx6) rfl) ?_
        refine arun_do rfl rfl rfl (ex_assign (eV (v := (Bo x6)) rfl)) ?_
        refine arun_keepE [0, 2, 8, 10, 11, 38] 1 0 (st' := ⟨47, 0, [(0, (SL 5 c_api_Node t0)), (2, (I t2)), (8, (LP 0 0)), (10, (I x2.1)), (11, (Bo x2.2)), (38, (Bo x6))], [(c_edit_spot x1.1)], ⟨0, []⟩⟩) (by kernel_rfl) (by kernel_rfl) ?_
        show AWp _ _ _ _
        rcases Bool.eq_false_or_eq_true x6 with hb7 | hb7
        · rw [condT hb7] at h
          refine awp_condT (boT hb7) ?_
          refine awp_region ?_
          refine arun_do rfl rfl rfl (ex_assign (eV (v := (I 3)) rfl)) ?_
          refine arun_keepE [0, 9] 0 0 (st' := ⟨47, 0, [(0, (SL 5 c_api_Node t0)), (9, (I 3))], [], ⟨0, []⟩⟩) (by kernel_rfl) (by kernel_rfl) ?_
          exact (Exists.intro 3 (And.intro rfl h))
        · rw [condF hb7] at h
          refine awp_condF (boF hb7) ?_
          refine awp_seq ?_
          refine awp_region ?_
          refine arun_do rfl rfl rfl (ex_move (eV (v := (Bo x2.2)) rfl)) ?_
          refine arun_do rfl rfl rfl (ex_un (vx := (Bo x2.2)) rfl notB_ok) ?_
          refine arun_do rfl rfl rfl (ex_assign (eV (v := (Bo (!x2.2))) rfl)) ?_
          refine arun_keepE [0, 2, 8, 10, 41] 1 0 (st' := ⟨47, 0, [(0, (SL 5 c_api_Node t0)), (2, (I t2)), (8, (LP 0 0)), (10, (I x2.1)), (41, (Bo (!x2.2)))], [(c_edit_spot x1.1)], ⟨0, []⟩⟩) (by kernel_rfl) (by kernel_rfl) ?_
          show AWp _ _ _ _
          rcases Bool.eq_false_or_eq_true (!x2.2) with hb8 | hb8
          · rw [condT hb8] at h
            refine awp_condT (boT hb8) ?_
            refine awp_region ?_
            refine arun_do rfl rfl rfl (ex_assign (eV (v := (I 8)) rfl)) ?_
            refine arun_keepE [0, 9] 0 0 (st' := ⟨47, 0, [(0, (SL 5 c_api_Node t0)), (9, (I 8))], [], ⟨0, []⟩⟩) (by kernel_rfl) (by kernel_rfl) ?_
            exact (Exists.intro 8 (And.intro rfl h))
          · rw [condF hb8] at h
            refine awp_condF (boF hb8) ?_
            refine awp_seq ?_
            refine awp_region ?_
            refine arun_do rfl rfl rfl (tx_ldLA (vs := (c_edit_spot x1.1)) Tryd.underlying51 rfl s_51 (by decide) rfl rfl rfl rfl) ?_
            refine arun_do rfl rfl rfl (ex_move (eV (v := (I x2.1)) rfl)) ?_
            refine arun_do rfl rfl rfl (ex_move (eV (v := (I t2)) rfl)) ?_
            refine arun_do rfl rfl rfl (ex_build (qs := [(0, (I t2))]) (v := (Value.agg (c_api_Node (G_api_Node.mk t2 0 [] [] 0)).toArray)) (evp rfl evp_nil) (by kernel_rfl)) ?_
            obtain ⟨x9, hx9, h⟩ := bindS h
            refine arun_do rfl rfl rfl (ex_callOw (vs := [(Value.agg (c_edit_spot x1.1).toArray), (I x2.1), (Value.agg (c_api_Node (G_api_Node.mk t2 0 [] [] 0)).toArray)]) (k := 0) (len := x9.length) (b := ⟨5, ((x9).flatMap c_api_Node), true⟩) (H' := ⟨1, [(0, ⟨5, ((x9).flatMap c_api_Node), true⟩)]⟩) rfl en_21 (cargs (evs rfl (evs rfl (evs rfl evs_nil)))) rfl (okw_edit_spot_put x1.1 x2.1 (G_api_Node.mk t2 0 [] [] 0) x9 hx9) rfl rfl) ?_
            refine arun_do rfl rfl rfl (ex_assign (eV (v := (GV 0 x9.length)) rfl)) ?_
            refine arun_do rfl rfl rfl (ex_assign (eV (v := (I 0)) rfl)) ?_
            refine arun_keepE [6, 7] 0 1 (st' := ⟨47, 0, [(6, (GV 0 x9.length)), (7, (I 0))], [], ⟨1, [(0, ⟨5, ((x9).flatMap c_api_Node), true⟩)]⟩⟩) (by kernel_rfl) (by kernel_rfl) ?_
            show AWp _ _ _ _
            refine awp_ret ?_
            cases h
            exact And.intro (aresN rfl (L2.cons (rtmp rfl (eV rfl)) (L2.cons (rtmp rfl (eV rfl)) L2.nil)) rfl) (And.intro rfl rfl)
  · rintro s ⟨y3, rfl, h⟩
    unfold M_edit_Make_k1 at h
    refine awp_seq ?_
    refine awp_region ?_
    refine arun_do rfl rfl rfl (ex_move (eV (v := (SL 5 c_api_Node t0)) rfl)) ?_
    obtain ⟨x10, hx10, h⟩ := bindS h
    refine arun_do rfl rfl rfl (ex_callOw (vs := [(SL 5 c_api_Node t0)]) (k := 0) (len := x10.length) (b := ⟨5, ((x10).flatMap c_api_Node), true⟩) (H' := ⟨1, [(0, ⟨5, ((x10).flatMap c_api_Node), true⟩)]⟩) rfl en_22 (cargs (evs rfl evs_nil)) rfl (okw_slices_Clone_api_Set_api_Node t0 x10 hx10) rfl rfl) ?_
    refine arun_do rfl rfl rfl (ex_move (eV (v := (I y3)) rfl)) ?_
    refine arun_do rfl rfl rfl (ex_assign (eV (v := (GV 0 x10.length)) rfl)) ?_
    refine arun_do rfl rfl rfl (ex_assign (eV (v := (I y3)) rfl)) ?_
    refine arun_keepE [6, 7] 0 1 (st' := ⟨47, 0, [(6, (GV 0 x10.length)), (7, (I y3))], [], ⟨1, [(0, ⟨5, ((x10).flatMap c_api_Node), true⟩)]⟩⟩) (by kernel_rfl) (by kernel_rfl) ?_
    show AWp _ _ _ _
    refine awp_ret ?_
    cases h
    exact And.intro (aresN rfl (L2.cons (rtmp rfl (eV rfl)) (L2.cons (rtmp rfl (eV rfl)) L2.nil)) rfl) (And.intro rfl rfl)

noncomputable def M_walk_Find (t0 : (List G_api_Node)) (t1 : Str) : Option (Int × Int) :=
  Option.bind (M_name_Parts t1) fun (x1 : ((List Str) × Bool)) => cond (!x1.2) (some (0, 1)) (Option.bind (M_walk_files_find (G_walk_files.mk t0) x1.1) fun (x3 : (Int × Int)) => some (x3.1, x3.2))
theorem ok_walk_Find (t0 : (List G_api_Node)) (t1 : Str) (r : (Int × Int)) (h : M_walk_Find t0 t1 = some r) : FFn Tryd.prog 23 [(SL 5 c_api_Node t0), (S t1)] (Value.tuple #[(I r.1), (I r.2)]) := by
  refine FFn.of_body (n := 21) Tryd.func23 rfl Tryd.ntmps23 rfl rfl rfl rfl ?_
  show AWp _ _ _ ⟨21, 0, [(0, (SL 5 c_api_Node t0)), (1, (S t1))], [], ⟨0, []⟩⟩
  unfold M_walk_Find at h
  refine awp_seq ?_
  refine awp_region ?_
  refine arun_do rfl rfl rfl (ex_assign (eV (v := (I 0)) rfl)) ?_
  refine arun_do rfl rfl rfl (ex_assign (eV (v := (I 0)) rfl)) ?_
  refine arun_keepE [0, 1] 0 0 (st' := ⟨21, 0, [(0, (SL 5 c_api_Node t0)), (1, (S t1))], [], ⟨0, []⟩⟩) (by kernel_rfl) (by kernel_rfl) ?_
  show AWp _ _ _ _
  refine awp_seq ?_
  refine awp_region ?_
  refine arun_do rfl rfl rfl (ex_move (eV (v := (S t1)) rfl)) ?_
  obtain ⟨x1, hx1, h⟩ := bindS h
  refine arun_do rfl rfl rfl (ex_call0 (vs := [(S t1)]) (v := (Value.tuple #[(SL 1 cS x1.1), (Bo x1.2)])) rfl en_34 (cargs (evs rfl evs_nil)) rfl (ok_name_Parts t1 x1 hx1) rfl) ?_
  refine arun_do rfl rfl rfl (ex_move (eV (v := (Value.tuple #[(SL 1 cS x1.1), (Bo x1.2)])) rfl)) ?_
  refine arun_do rfl rfl rfl (ex_extract (vx := (Value.tuple #[(SL 1 cS x1.1), (Bo x1.2)])) (v := (SL 1 cS x1.1)) rfl rfl) ?_
  refine arun_do rfl rfl rfl (ex_extract (vx := (Value.tuple #[(SL 1 cS x1.1), (Bo x1.2)])) (v := (Bo x1.2)) rfl rfl) ?_
  refine arun_do rfl rfl rfl (ex_assign (eV (v := (SL 1 cS x1.1)) rfl)) ?_
  refine arun_do rfl rfl rfl (ex_assign (eV (v := (Bo x1.2)) rfl)) ?_
  refine arun_keepE [0, 6, 7] 0 0 (st' := ⟨21, 0, [(0, (SL 5 c_api_Node t0)), (6, (SL 1 cS x1.1)), (7, (Bo x1.2))], [], ⟨0, []⟩⟩) (by kernel_rfl) (by kernel_rfl) ?_
  show AWp _ _ _ _
  refine awp_seq ?_
  refine awp_seq ?_
  refine awp_region ?_
  refine arun_do rfl rfl rfl (ex_move (eV (v := (Bo x1.2)) rfl)) ?_
  refine arun_do rfl rfl rfl (ex_un (vx := (Bo x1.2)) rfl notB_ok) ?_
  refine arun_keepE [0, 6, 14] 0 0 (st' := ⟨21, 0, [(0, (SL 5 c_api_Node t0)), (6, (SL 1 cS x1.1)), (14, (Bo (!x1.2)))], [], ⟨0, []⟩⟩) (by kernel_rfl) (by kernel_rfl) ?_
  show AWp _ _ _ _
  rcases Bool.eq_false_or_eq_true (!x1.2) with hb2 | hb2
  · rw [condT hb2] at h
    refine awp_condT (boT hb2) ?_
    refine awp_seq ?_
    refine awp_region ?_
    refine arun_do rfl rfl rfl (ex_assign (eV (v := (I 0)) rfl)) ?_
    refine arun_do rfl rfl rfl (ex_assign (eV (v := (I 1)) rfl)) ?_
    refine arun_keepE [4, 5] 0 0 (st' := ⟨21, 0, [(4, (I 0)), (5, (I 1))], [], ⟨0, []⟩⟩) (by kernel_rfl) (by kernel_rfl) ?_
    show AWp _ _ _ _
    refine awp_ret ?_
    cases h
    exact aresN rfl (L2.cons (rtmp rfl (eV rfl)) (L2.cons (rtmp rfl (eV rfl)) L2.nil)) rfl
  · rw [condF hb2] at h
    refine awp_condF (boF hb2) ?_
    refine awp_skip ?_
    show AWp _ _ _ _
    refine awp_seq ?_
    refine awp_region ?_
    refine arun_do rfl rfl rfl (ex_move (eV (v := (SL 5 c_api_Node t0)) rfl)) ?_
    refine arun_do rfl rfl rfl (ex_build (qs := [(0, (SL 5 c_api_Node t0))]) (v := (Value.agg (c_walk_files (G_walk_files.mk t0)).toArray)) (evp rfl evp_nil) (by kernel_rfl)) ?_
    refine arun_do rfl rfl rfl (ex_move (eV (v := (SL 1 cS x1.1)) rfl)) ?_
    obtain ⟨x3, hx3, h⟩ := bindS h
    refine arun_do rfl rfl rfl (ex_call0 (vs := [(Value.agg (c_walk_files (G_walk_files.mk t0)).toArray), (SL 1 cS x1.1)]) (v := (Value.tuple #[(I x3.1), (I x3.2)])) rfl en_35 (cargs (evs rfl (evs rfl evs_nil))) rfl (ok_walk_files_find (G_walk_files.mk t0) x1.1 x3 hx3) rfl) ?_
    refine arun_do rfl rfl rfl (ex_extract (vx := (Value.tuple #[(I x3.1), (I x3.2)])) (v := (I x3.1)) rfl rfl) ?_
    refine arun_do rfl rfl rfl (ex_extract (vx := (Value.tuple #[(I x3.1), (I x3.2)])) (v := (I x3.2)) rfl rfl) ?_
    refine arun_do rfl rfl rfl (ex_assign (eV (v := (I x3.1)) rfl)) ?_
    refine arun_do rfl rfl rfl (ex_assign (eV (v := (I x3.2)) rfl)) ?_
    refine arun_keepE [4, 5] 0 0 (st' := ⟨21, 0, [(4, (I x3.1)), (5, (I x3.2))], [], ⟨0, []⟩⟩) (by kernel_rfl) (by kernel_rfl) ?_
    show AWp _ _ _ _
    refine awp_ret ?_
    cases h
    exact aresN rfl (L2.cons (rtmp rfl (eV rfl)) (L2.cons (rtmp rfl (eV rfl)) L2.nil)) rfl

noncomputable def M_walk_files_up_k1 (y1 : List Int) : Option (List Int) :=
  some y1
noncomputable def M_walk_files_up_l1 (t0 : G_walk_files) : Nat → Int → List Int → Option (List Int)
  | 0, _, _ => none
  | n1 + 1, v2, v3 =>
  cond ((decide (v2 > 0)) && (decide (((v3.length : Nat) : Int) ≤ (t0.Set.length : Int)))) (Option.bind (M_walk_files_at t0 v2) fun (x5 : G_api_Node) => Option.bind (appL 8 v3 ([x5.Up] : List Int)) fun (x6 : List Int) => (M_walk_files_up_l1 t0 n1) x5.Up x6) (M_walk_files_up_k1 v3)
noncomputable def M_walk_files_up (t0 : G_walk_files) (t1 : Int) : Option (List Int) :=
  M_walk_files_up_l1 t0 fuel t1 ([t1] : List Int)
theorem ok_walk_files_up (t0 : G_walk_files) (t1 : Int) (r : (List Int)) (h : M_walk_files_up t0 t1 = some r) : FFn Tryd.prog 41 [(Value.agg (c_walk_files t0).toArray), (I t1)] (SL 1 cI r) := by
  refine FFn.of_body (n := 27) Tryd.func41 rfl Tryd.ntmps41 rfl rfl rfl rfl ?_
  show AWp _ _ _ ⟨27, 0, [(0, (Value.agg (c_walk_files t0).toArray)), (1, (I t1))], [], ⟨0, []⟩⟩
  unfold M_walk_files_up at h
  refine awp_seq ?_
  refine awp_region ?_
  refine arun_do rfl rfl rfl (ex_box (vx := (Value.agg (c_walk_files t0).toArray)) (cs := (c_walk_files t0)) (k := 0) (L' := [(c_walk_files t0)]) (eV (v := (Value.agg (c_walk_files t0).toArray)) rfl) rfl rfl rfl) ?_
  refine arun_do rfl rfl rfl (ex_assign (eV (v := (Value.slice none 0 0)) rfl)) ?_
  refine arun_keepE [1, 2] 1 0 (st' := ⟨27, 0, [(1, (I t1)), (2, (LP 0 0))], [(c_walk_files t0)], ⟨0, []⟩⟩) (by kernel_rfl) (by kernel_rfl) ?_
  show AWp _ _ _ _
  refine awp_seq ?_
  refine awp_region ?_
  refine arun_do rfl rfl rfl (ex_move (eV (v := (I t1)) rfl)) ?_
  refine arun_do rfl rfl rfl (ex_buildSliceG (k := 0) (qs := [(0, (I t1))]) (cells := (([t1] : List Int).flatMap cI)) (H' := ⟨1, [(0, ⟨1, (([t1] : List Int).flatMap cI), true⟩)]⟩) Tryd.underlying29 s_3 (by decide) (by decide) (evp rfl evp_nil) rfl (by kernel_rfl) (by kernel_rfl) (by kernel_rfl) rfl rfl) ?_
  refine arun_do rfl rfl rfl (ex_assign (eV (v := (GV 0 1)) rfl)) ?_
  refine arun_keepE [1, 2, 5] 1 1 (st' := ⟨27, 0, [(1, (I t1)), (2, (LP 0 0)), (5, (GV 0 1))], [(c_walk_files t0)], ⟨1, [(0, ⟨1, (([t1] : List Int).flatMap cI), true⟩)]⟩⟩) (by kernel_rfl) (by kernel_rfl) ?_
  show AWp _ _ _ _
  refine awp_seqJ (fun s => ∃ (y1 : List Int), s = ⟨27, 0, [(5, (GV 0 y1.length))], [], ⟨1, [(0, ⟨1, ((y1).flatMap cI), true⟩)]⟩⟩ ∧ M_walk_files_up_k1 y1 = some r) ?_ ?_
  · refine awp_block ?_
    refine awp_loop (fun n s => ∃ (v2 : Int) (v3 : List Int), s = ⟨27, 0, [(1, (I v2)), (2, (LP 0 0)), (5, (GV 0 v3.length))], [(c_walk_files t0)], ⟨1, [(0, ⟨1, ((v3).flatMap cI), true⟩)]⟩⟩ ∧ M_walk_files_up_l1 t0 n v2 v3 = some r) fuel (Exists.intro t1 (Exists.intro ([t1] : List Int) (And.intro rfl h))) ?_
    rintro n s ⟨v2, v3, rfl, h⟩ -
    cases n with
    | zero => cases h
    | succ n1 =>
      unfold M_walk_files_up_l1 at h
      refine awp_seq ?_
      refine awp_seq ?_
      refine awp_region ?_
      refine arun_do rfl rfl rfl (ex_move (eV (v := (I v2)) rfl)) ?_
      refine arun_do rfl rfl rfl (ex_bin (vx := (I v2)) (vy := (I 0)) rfl rfl gtrI_ok) ?_
      refine arun_do rfl rfl rfl (ex_move (eV (v := (Bo (decide (v2 > 0)))) rfl)) ?_
      refine arun_guard (v := (GV 0 v3.length)) ((decide (v2 > 0)) == true) rfl rfl rfl (fun hc => ex_move (eV (v := (GV 0 v3.length)) rfl)) ?_
      refine arun_guard (v := (I ((v3.length : Nat) : Int))) ((decide (v2 > 0)) == true) rfl rfl rfl (fun hc => ex_lenN (n := v3.length) Tryd.underlying29 (cond_of hc)) ?_
      refine arun_guard (v := (LP 0 0)) ((decide (v2 > 0)) == true) rfl rfl rfl (fun hc => ex_fieldAddr (v := (LP 0 0)) Tryd.underlying71 rfl s_25 (by decide) rfl rfl) ?_
      refine arun_guard (v := (SL 5 c_api_Node t0.Set)) ((decide (v2 > 0)) == true) rfl rfl rfl (fun hc => tx_ldL1 (v := (SL 5 c_api_Node t0.Set)) Tryd.underlying25 rfl (cond_of hc) rfl rfl) ?_
      refine arun_guard (v := (I (t0.Set.length : Int))) ((decide (v2 > 0)) == true) rfl rfl rfl (fun hc => tx_lenD (xs := t0.Set) ce_api_Node Tryd.underlying25 (cond_of hc)) ?_
      refine arun_guard (v := (Bo (decide (((v3.length : Nat) : Int) ≤ (t0.Set.length : Int))))) ((decide (v2 > 0)) == true) rfl rfl rfl (fun hc => ex_bin (vx := (I ((v3.length : Nat) : Int))) (vy := (I (t0.Set.length : Int))) (cond_of hc) (cond_of hc) leqI_ok) ?_
      refine arun_do rfl rfl rfl (ex_pick rfl pkAnd) ?_
      refine arun_keepE [1, 2, 5, 17] 1 1 (st' := ⟨27, 0, [(1, (I v2)), (2, (LP 0 0)), (5, (GV 0 v3.length)), (17, (Bo ((decide (v2 > 0)) && (decide (((v3.length : Nat) : Int) ≤ (t0.Set.length : Int))))))], [(c_walk_files t0)], ⟨1, [(0, ⟨1, ((v3).flatMap cI), true⟩)]⟩⟩) (by kernel_rfl) (by kernel_rfl) ?_
      show AWp _ _ _ _
      rcases Bool.eq_false_or_eq_true ((decide (v2 > 0)) && (decide (((v3.length : Nat) : Int) ≤ (t0.Set.length : Int)))) with hb4 | hb4
      · rw [condT hb4] at h
        refine awp_condT (boT hb4) ?_
        refine awp_skip ?_
        show AWp _ _ _ _
        refine awp_block ?_
        refine awp_seq ?_
        refine awp_region ?_
        refine arun_do rfl rfl rfl (tx_ldLA (vs := (c_walk_files t0)) Tryd.underlying71 rfl s_71 (by decide) rfl rfl rfl rfl) ?_
        refine arun_do rfl rfl rfl (ex_move (eV (v := (I v2)) rfl)) ?_
        obtain ⟨x5, hx5, h⟩ := bindS h
        refine arun_do rfl rfl rfl (ex_call0 (vs := [(Value.agg (c_walk_files t0).toArray), (I v2)]) (v := (Value.agg (c_api_Node x5).toArray)) rfl en_39 (cargs (evs rfl (evs rfl evs_nil))) rfl (ok_walk_files_at t0 v2 x5 hx5) rfl) ?_
        refine arun_do rfl rfl rfl (ex_field (vx := (Value.agg (c_api_Node x5).toArray)) (v := (I x5.Up)) rfl (by kernel_rfl)) ?_
        refine arun_do rfl rfl rfl (ex_assign (eV (v := (I x5.Up)) rfl)) ?_
        refine arun_keepE [1, 2, 5] 1 1 (st' := ⟨27, 0, [(1, (I x5.Up)), (2, (LP 0 0)), (5, (GV 0 v3.length))], [(c_walk_files t0)], ⟨1, [(0, ⟨1, ((v3).flatMap cI), true⟩)]⟩⟩) (by kernel_rfl) (by kernel_rfl) ?_
        show AWp _ _ _ _
        refine awp_region ?_
        refine arun_do rfl rfl rfl (ex_move (eV (v := (GV 0 v3.length)) rfl)) ?_
        refine arun_do rfl rfl rfl (ex_move (eV (v := (I x5.Up)) rfl)) ?_
        refine arun_do rfl rfl rfl (ex_buildSliceD (qs := [(0, (I x5.Up))]) (cells := (([x5.Up] : List Int).flatMap cI)) Tryd.underlying29 s_3 (by decide) (evp rfl evp_nil) rfl (by kernel_rfl) (by kernel_rfl) (by kernel_rfl)) ?_
        obtain ⟨x6, hx6, h⟩ := bindS h
        refine arun_do rfl rfl rfl (tx_appG (c := cI) (xs := v3) (H' := ⟨1, [(0, ⟨1, ((x6).flatMap cI), true⟩)]⟩) ceI e_3 rfl rfl rfl (tsrcD (ys := ([x5.Up] : List Int)) ceI Tryd.underlying29 s_3 Tryd.underlying29 rfl) hx6 rfl) ?_
        refine arun_do rfl rfl rfl (ex_assign (eV (v := (GV 0 x6.length)) rfl)) ?_
        refine arun_keepE [1, 2, 5] 1 1 (st' := ⟨27, 0, [(1, (I x5.Up)), (2, (LP 0 0)), (5, (GV 0 x6.length))], [(c_walk_files t0)], ⟨1, [(0, ⟨1, ((x6).flatMap cI), true⟩)]⟩⟩) (by kernel_rfl) (by kernel_rfl) ?_
        exact Exists.intro n1 (And.intro (Nat.lt_succ_self _) (Exists.intro x5.Up (Exists.intro x6 (And.intro rfl h))))
      · rw [condF hb4] at h
        refine awp_condF (boF hb4) ?_
        refine awp_keepE [5] 0 1 (st' := ⟨27, 0, [(5, (GV 0 v3.length))], [], ⟨1, [(0, ⟨1, ((v3).flatMap cI), true⟩)]⟩⟩) (by kernel_rfl) (by kernel_rfl) ?_
        refine awp_exit ?_
        exact (Exists.intro v3 (And.intro rfl h))
  · rintro s ⟨y1, rfl, h⟩
    unfold M_walk_files_up_k1 at h
    refine awp_seq ?_
    refine awp_region ?_
    refine arun_do rfl rfl rfl (ex_move (eV (v := (GV 0 y1.length)) rfl)) ?_
    refine arun_do rfl rfl rfl (ex_assign (eV (v := (GV 0 y1.length)) rfl)) ?_
    refine arun_keepE [4] 0 1 (st' := ⟨27, 0, [(4, (GV 0 y1.length))], [], ⟨1, [(0, ⟨1, ((y1).flatMap cI), true⟩)]⟩⟩) (by kernel_rfl) (by kernel_rfl) ?_
    show AWp _ _ _ _
    refine awp_freeze 0 (bk := ⟨1, ((y1).flatMap cI), true⟩) (T' := [(4, (SL 1 cI y1))]) (L' := []) rfl (fzG ceI rfl rfl FzT.nil) (FzL.refl _) ?_
    show AWp _ _ _ ⟨27, 0, [(4, (SL 1 cI y1))], [], ⟨1, []⟩⟩
    refine awp_ret ?_
    cases h
    exact ares1 (rtmp rfl (eV rfl))

end Go.Proofs
