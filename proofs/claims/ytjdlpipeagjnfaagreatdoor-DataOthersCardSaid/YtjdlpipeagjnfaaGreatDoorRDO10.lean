/- Pure models of functions of the program, and that its code does what they say: api Node] at a closure, data List, palimplaw15 begun. Written by a program. -/
import Derived.Test.YtjdlpipeagjnfaaGreatDoorRDO0
import Derived.Test.YtjdlpipeagjnfaaGreatDoorRDO2
import Derived.Test.YtjdlpipeagjnfaaGreatDoorRDO5
import Derived.Test.YtjdlpipeagjnfaaGreatDoorRDO6
import Derived.Test.YtjdlpipeagjnfaaGreatDoorRDO7
import Derived.Test.YtjdlpipeagjnfaaGreatDoorRDO8
import Derived.Test.YtjdlpipeagjnfaaGreatDoorRDO9
import Derived.Test.YtjdlpipeagjnfaaGreatDoorRDOB
set_option maxRecDepth 20000
set_option maxHeartbeats 4000000
namespace Go.Proofs
open Go Go.Fhl
set_option linter.unusedVariables false
set_option linter.unusedSimpArgs false
noncomputable def M_slices_ContainsFunc_api_Set_api_Node_c36 (t0 : (List G_api_Node)) : Option Bool :=
  Option.bind (M_slices_IndexFunc_api_Set_api_Node_c36 t0) fun (x1 : Int) => some (decide (x1 ≥ 0))
theorem ok_slices_ContainsFunc_api_Set_api_Node_c36 (t0 : (List G_api_Node)) (r : Bool) (h : M_slices_ContainsFunc_api_Set_api_Node_c36 t0 = some r) : FFn Tryz.prog 35 [(SL 5 cNd t0), (Value.func (Fn.func 36) #[] #[])] (Bo r) := by
  refine FFn.of_body (n := 9) Tryz.func35 rfl Tryz.ntmps35 rfl rfl rfl rfl ?_
  show AWp _ _ _ ⟨9, 0, [(0, (SL 5 cNd t0)), (1, (Value.func (Fn.func 36) #[] #[]))], [], ⟨0, []⟩⟩
  unfold M_slices_ContainsFunc_api_Set_api_Node_c36 at h
  refine awp_seq ?_
  refine awr ?_
  refine ado rfl rfl rfl (eas (eV (v := (Bo false)) rfl)) ?_
  refine ake [0, 1] 0 0 (st' := ⟨9, 0, [(0, (SL 5 cNd t0)), (1, (Value.func (Fn.func 36) #[] #[]))], [], ⟨0, []⟩⟩) (by kernel_rfl) (by kernel_rfl) ?_
  show AWp _ _ _ _
  refine awp_seq ?_
  refine awr ?_
  refine ado rfl rfl rfl (emv (eV (v := (SL 5 cNd t0)) rfl)) ?_
  refine ado rfl rfl rfl (emv (eV (v := (Value.func (Fn.func 36) #[] #[])) rfl)) ?_
  obtain ⟨x1, hx1, h⟩ := bindS h
  refine ado rfl rfl rfl (ex_callA (vs := [(SL 5 cNd t0), (Value.func (Fn.func 36) #[] #[])]) (v := (I x1)) rfl en_48 (cargs (evs rfl (evs rfl evs_nil))) rfl (ok_slices_IndexFunc_api_Set_api_Node_c36 t0 x1 hx1) rfl) ?_
  refine ado rfl rfl rfl (ex_bin (vx := (I x1)) (vy := (I 0)) rfl rfl geqI_ok) ?_
  refine ado rfl rfl rfl (eas (eV (v := (Bo (decide (x1 ≥ 0)))) rfl)) ?_
  refine ake [4] 0 0 (st' := ⟨9, 0, [(4, (Bo (decide (x1 ≥ 0))))], [], ⟨0, []⟩⟩) (by kernel_rfl) (by kernel_rfl) ?_
  show AWp _ _ _ _
  refine awp_ret ?_
  cases h
  exact ares1 (rtmp rfl (eV rfl))

noncomputable def M_data_List_l1 (t0 : (List G_api_Node)) (x6 : (List Int)) : Nat → Int → List Str → Option ((List Str) × Int)
  | 0, _, _ => none
  | n1 + 1, v7, v8 =>
  cond (decide (v7 < (x6.length : Int))) (Option.bind (getI x6 v7) fun (x10 : Int) => Option.bind (getI t0 x10) fun (x11 : G_api_Node) => Option.bind (appL 16 v8 ([x11.Name] : List Str)) fun (x12 : List Str) => (M_data_List_l1 t0 x6 n1) (w64 (v7 + 1)) x12) (some (v8, 0))
noncomputable def M_data_List (t0 : (List G_api_Node)) (t1 : Str) : Option ((List Str) × Int) :=
  Option.bind (M_data_open t0 t1) fun (x1 : (G_data_file × Int)) => cond (x1.2 == 0) (some ([], 5)) (cond (x1.2 != 4) (some ([], x1.2)) (Option.bind (M_slices_ContainsFunc_api_Set_api_Node_c36 t0) fun (x4 : Bool) => cond x4 (some ([], 12)) (Option.bind (M_node_Kids t0 x1.1.n) fun (x6 : (List Int)) => M_data_List_l1 t0 x6 fuel 0 ([] : List Str))))
theorem ok_data_List (t0 : (List G_api_Node)) (t1 : Str) (r : ((List Str) × Int)) (h : M_data_List t0 t1 = some r) : FFn Tryz.prog 17 [(SL 5 cNd t0), (S t1)] (Value.tuple #[(SL 1 cS r.1), (I r.2)]) := by
  refine FFn.of_body (n := 46) Tryz.func17 rfl Tryz.ntmps17 rfl rfl rfl rfl ?_
  show AWp _ _ _ ⟨46, 0, [(0, (SL 5 cNd t0)), (1, (S t1))], [], ⟨0, []⟩⟩
  unfold M_data_List at h
  refine awp_seq ?_
  refine awr ?_
  refine ado rfl rfl rfl (eas (eV (v := (Value.slice none 0 0)) rfl)) ?_
  refine ado rfl rfl rfl (eas (eV (v := (I 0)) rfl)) ?_
  refine ake [0, 1] 0 0 (st' := ⟨46, 0, [(0, (SL 5 cNd t0)), (1, (S t1))], [], ⟨0, []⟩⟩) (by kernel_rfl) (by kernel_rfl) ?_
  show AWp _ _ _ _
  refine awp_seq ?_
  refine awr ?_
  refine ado rfl rfl rfl (emv (eV (v := (SL 5 cNd t0)) rfl)) ?_
  refine ado rfl rfl rfl (emv (eV (v := (S t1)) rfl)) ?_
  obtain ⟨x1, hx1, h⟩ := bindS h
  refine ado rfl rfl rfl (ex_call0 (vs := [(SL 5 cNd t0), (S t1)]) (v := (Value.tuple #[(Value.agg (c_data_file x1.1).toArray), (I x1.2)])) rfl en_24 (cargs (evs rfl (evs rfl evs_nil))) rfl (ok_data_open t0 t1 x1 hx1) rfl) ?_
  refine ado rfl rfl rfl (emv (eV (v := (Value.tuple #[(Value.agg (c_data_file x1.1).toArray), (I x1.2)])) rfl)) ?_
  refine ado rfl rfl rfl (ex_extract (vx := (Value.tuple #[(Value.agg (c_data_file x1.1).toArray), (I x1.2)])) (v := (Value.agg (c_data_file x1.1).toArray)) rfl rfl) ?_
  refine ado rfl rfl rfl (ex_extract (vx := (Value.tuple #[(Value.agg (c_data_file x1.1).toArray), (I x1.2)])) (v := (I x1.2)) rfl rfl) ?_
  refine ado rfl rfl rfl (ex_alloc (k := 0) (zs := (c_data_file (G_data_file.mk (G_api_Node.mk 0 0 [] [] 0) 0))) (L' := [(c_data_file (G_data_file.mk (G_api_Node.mk 0 0 [] [] 0) 0))]) z_61 rfl rfl rfl rfl) ?_
  refine arun_do0 rfl rfl (ex_storeL (vy := (Value.agg (c_data_file x1.1).toArray)) (cs := (c_data_file (G_data_file.mk (G_api_Node.mk 0 0 [] [] 0) 0))) (vs := (c_data_file x1.1)) (L' := [(c_data_file x1.1)]) rfl (eV (v := (Value.agg (c_data_file x1.1).toArray)) rfl) rfl s_61 rfl (Nat.le_of_ble_eq_true rfl) (by kernel_rfl)) ?_
  refine ado rfl rfl rfl (eas (eV (v := (I x1.2)) rfl)) ?_
  refine ake [0, 6, 7] 1 0 (st' := ⟨46, 0, [(0, (SL 5 cNd t0)), (6, (LP 0 0)), (7, (I x1.2))], [(c_data_file x1.1)], ⟨0, []⟩⟩) (by kernel_rfl) (by kernel_rfl) ?_
  show AWp _ _ _ _
  refine awp_seq ?_
  refine awp_block ?_
  refine awp_seq ?_
  refine awr ?_
  refine ado rfl rfl rfl (emv (eV (v := (I x1.2)) rfl)) ?_
  refine ado rfl rfl rfl (ex_bin (vx := (I x1.2)) (vy := (I 0)) rfl rfl eqlI_ok) ?_
  refine ado rfl rfl rfl (eas (eV (v := (Bo (x1.2 == 0))) rfl)) ?_
  refine ake [0, 6, 7, 17] 1 0 (st' := ⟨46, 0, [(0, (SL 5 cNd t0)), (6, (LP 0 0)), (7, (I x1.2)), (17, (Bo (x1.2 == 0)))], [(c_data_file x1.1)], ⟨0, []⟩⟩) (by kernel_rfl) (by kernel_rfl) ?_
  show AWp _ _ _ _
  rcases Bool.eq_false_or_eq_true (x1.2 == 0) with hb2 | hb2
  · rw [condT hb2] at h
    refine awp_condT (boT hb2) ?_
    refine awp_seq ?_
    refine awr ?_
    refine ado rfl rfl rfl (eas (eV (v := (Value.slice none 0 0)) rfl)) ?_
    refine ado rfl rfl rfl (eas (eV (v := (I 5)) rfl)) ?_
    refine ake [4, 5] 0 0 (st' := ⟨46, 0, [(4, (Value.slice none 0 0)), (5, (I 5))], [], ⟨0, []⟩⟩) (by kernel_rfl) (by kernel_rfl) ?_
    show AWp _ _ _ _
    refine awp_ret ?_
    cases h
    exact aresN rfl (L2.cons (rtmp rfl (eN rfl)) (L2.cons (rtmp rfl (eV rfl)) L2.nil)) rfl
  · rw [condF hb2] at h
    refine awp_condF (boF hb2) ?_
    refine awp_seq ?_
    refine awr ?_
    refine ado rfl rfl rfl (emv (eV (v := (I x1.2)) rfl)) ?_
    refine ado rfl rfl rfl (ex_bin (vx := (I x1.2)) (vy := (I 4)) rfl rfl neqI_ok) ?_
    refine ado rfl rfl rfl (eas (eV (v := (Bo (x1.2 != 4))) rfl)) ?_
    refine ake [0, 6, 7, 20] 1 0 (st' := ⟨46, 0, [(0, (SL 5 cNd t0)), (6, (LP 0 0)), (7, (I x1.2)), (20, (Bo (x1.2 != 4)))], [(c_data_file x1.1)], ⟨0, []⟩⟩) (by kernel_rfl) (by kernel_rfl) ?_
    show AWp _ _ _ _
    rcases Bool.eq_false_or_eq_true (x1.2 != 4) with hb3 | hb3
    · rw [condT hb3] at h
      refine awp_condT (boT hb3) ?_
      refine awp_seq ?_
      refine awr ?_
      refine ado rfl rfl rfl (emv (eV (v := (I x1.2)) rfl)) ?_
      refine ado rfl rfl rfl (eas (eV (v := (Value.slice none 0 0)) rfl)) ?_
      refine ado rfl rfl rfl (eas (eV (v := (I x1.2)) rfl)) ?_
      refine ake [4, 5] 0 0 (st' := ⟨46, 0, [(4, (Value.slice none 0 0)), (5, (I x1.2))], [], ⟨0, []⟩⟩) (by kernel_rfl) (by kernel_rfl) ?_
      show AWp _ _ _ _
      refine awp_ret ?_
      cases h
      exact aresN rfl (L2.cons (rtmp rfl (eN rfl)) (L2.cons (rtmp rfl (eV rfl)) L2.nil)) rfl
    · rw [condF hb3] at h
      refine awp_condF (boF hb3) ?_
      refine awp_seq ?_
      refine awr ?_
      refine ado rfl rfl rfl (emv (eV (v := (SL 5 cNd t0)) rfl)) ?_
      obtain ⟨x4, hx4, h⟩ := bindS h
      refine ado rfl rfl rfl (ex_callA (vs := [(SL 5 cNd t0), (FN 36)]) (v := (Bo x4)) rfl en_35 (cargs (evs rfl (evs rfl evs_nil))) rfl (ok_slices_ContainsFunc_api_Set_api_Node_c36 t0 x4 hx4) rfl) ?_
      refine ado rfl rfl rfl (eas (eV (v := (Bo x4)) rfl)) ?_
      refine ake [0, 6, 24] 1 0 (st' := ⟨46, 0, [(0, (SL 5 cNd t0)), (6, (LP 0 0)), (24, (Bo x4))], [(c_data_file x1.1)], ⟨0, []⟩⟩) (by kernel_rfl) (by kernel_rfl) ?_
      show AWp _ _ _ _
      rcases Bool.eq_false_or_eq_true x4 with hb5 | hb5
      · rw [condT hb5] at h
        refine awp_condT (boT hb5) ?_
        refine awp_seq ?_
        refine awr ?_
        refine ado rfl rfl rfl (eas (eV (v := (Value.slice none 0 0)) rfl)) ?_
        refine ado rfl rfl rfl (eas (eV (v := (I 12)) rfl)) ?_
        refine ake [4, 5] 0 0 (st' := ⟨46, 0, [(4, (Value.slice none 0 0)), (5, (I 12))], [], ⟨0, []⟩⟩) (by kernel_rfl) (by kernel_rfl) ?_
        show AWp _ _ _ _
        refine awp_ret ?_
        cases h
        exact aresN rfl (L2.cons (rtmp rfl (eN rfl)) (L2.cons (rtmp rfl (eV rfl)) L2.nil)) rfl
      · rw [condF hb5] at h
        refine awp_condF (boF hb5) ?_
        refine awp_skip ?_
        show AWp _ _ _ _
        refine awp_seq ?_
        refine awr ?_
        refine ado rfl rfl rfl (eas (eV (v := (Value.slice none 0 0)) rfl)) ?_
        refine ake [0, 6, 8] 1 0 (st' := ⟨46, 0, [(0, (SL 5 cNd t0)), (6, (LP 0 0)), (8, (Value.slice none 0 0))], [(c_data_file x1.1)], ⟨0, []⟩⟩) (by kernel_rfl) (by kernel_rfl) ?_
        show AWp _ _ _ _
        refine awp_seq ?_
        refine awp_seq ?_
        refine awr ?_
        refine ado rfl rfl rfl (emv (eV (v := (SL 5 cNd t0)) rfl)) ?_
        refine ado rfl rfl rfl (ex_fieldAddr (v := (LP 0 5)) Tryz.underlying61 rfl s_3 (by decide) rfl rfl) ?_
        refine ado rfl rfl rfl (tx_ldL1 (v := (I x1.1.n)) Tryz.underlying3 rfl rfl rfl rfl) ?_
        obtain ⟨x6, hx6, h⟩ := bindS h
        refine ado rfl rfl rfl (ex_call0 (vs := [(SL 5 cNd t0), (I x1.1.n)]) (v := (SL 1 cI x6)) rfl en_37 (cargs (evs rfl (evs rfl evs_nil))) rfl (ok_node_Kids t0 x1.1.n x6 hx6) rfl) ?_
        refine ado rfl rfl rfl (tx_lenD (xs := x6) ceI Tryz.underlying75 rfl) ?_
        refine ado rfl rfl rfl (emv (eV (v := (I 0)) rfl)) ?_
        refine ake [0, 8, 30, 31, 32] 0 0 (st' := ⟨46, 0, [(0, (SL 5 cNd t0)), (8, (Value.slice none 0 0)), (30, (SL 1 cI x6)), (31, (I (x6.length : Int))), (32, (I 0))], [], ⟨0, []⟩⟩) (by kernel_rfl) (by kernel_rfl) ?_
        show AWp _ _ _ _
        refine awp_block ?_
        refine awp_nilGro 8 1 rfl (by decide) ?_
        refine awp_keepE [0, 8, 30, 31, 32] 0 1 (st' := ⟨46, 0, [(0, (SL 5 cNd t0)), (8, (GV 0 0)), (30, (SL 1 cI x6)), (31, (I (x6.length : Int))), (32, (I 0))], [], ⟨1, [(0, ⟨1, (([] : List Str).flatMap cS), true⟩)]⟩⟩) (by kernel_rfl) (by kernel_rfl) ?_
        refine awp_loop (fun n s => ∃ (v7 : Int) (v8 : List Str), s = ⟨46, 0, [(0, (SL 5 cNd t0)), (8, (GV 0 v8.length)), (30, (SL 1 cI x6)), (31, (I (x6.length : Int))), (32, (I v7))], [], ⟨1, [(0, ⟨1, ((v8).flatMap cS), true⟩)]⟩⟩ ∧ M_data_List_l1 t0 x6 n v7 v8 = some r) fuel (Exists.intro 0 (Exists.intro ([] : List Str) (And.intro rfl h))) ?_
        rintro n s ⟨v7, v8, rfl, h⟩ -
        cases n with
        | zero => cases h
        | succ n1 =>
          unfold M_data_List_l1 at h
          refine awp_seq ?_
          refine awr ?_
          refine ado rfl rfl rfl (ex_bin (vx := (I v7)) (vy := (I (x6.length : Int))) rfl rfl lssI_ok) ?_
          refine ake [0, 8, 30, 31, 32, 33] 0 1 (st' := ⟨46, 0, [(0, (SL 5 cNd t0)), (8, (GV 0 v8.length)), (30, (SL 1 cI x6)), (31, (I (x6.length : Int))), (32, (I v7)), (33, (Bo (decide (v7 < (x6.length : Int)))))], [], ⟨1, [(0, ⟨1, ((v8).flatMap cS), true⟩)]⟩⟩) (by kernel_rfl) (by kernel_rfl) ?_
          show AWp _ _ _ _
          refine awp_seq ?_
          rcases Bool.eq_false_or_eq_true (decide (v7 < (x6.length : Int))) with hb9 | hb9
          · rw [condT hb9] at h
            refine awp_condT (boT hb9) ?_
            refine awp_skip ?_
            show AWp _ _ _ _
            refine awp_seq ?_
            refine awp_block ?_
            refine awp_seq ?_
            refine awr ?_
            obtain ⟨x10, hx10, h⟩ := bindS h
            refine ado rfl rfl rfl (tx_idxD (c := cI) (xs := x6) (i := v7) ceI Tryz.underlying75 s_3 rfl rfl hx10) ?_
            refine ado rfl rfl rfl (tx_ldD1 (v := (I x10)) Tryz.underlying3 rfl rfl rfl) ?_
            refine ado rfl rfl rfl (eas (eV (v := (I x10)) rfl)) ?_
            refine ake [0, 8, 10, 30, 31, 32] 0 1 (st' := ⟨46, 0, [(0, (SL 5 cNd t0)), (8, (GV 0 v8.length)), (10, (I x10)), (30, (SL 1 cI x6)), (31, (I (x6.length : Int))), (32, (I v7))], [], ⟨1, [(0, ⟨1, ((v8).flatMap cS), true⟩)]⟩⟩) (by kernel_rfl) (by kernel_rfl) ?_
            show AWp _ _ _ _
            refine awr ?_
            refine ado rfl rfl rfl (emv (eV (v := (GV 0 v8.length)) rfl)) ?_
            refine ado rfl rfl rfl (emv (eV (v := (SL 5 cNd t0)) rfl)) ?_
            refine ado rfl rfl rfl (emv (eV (v := (I x10)) rfl)) ?_
            obtain ⟨x11, hx11, h⟩ := bindS h
            refine ado rfl rfl rfl (tx_idxD (c := cNd) (xs := t0) (i := x10) ce_api_Node Tryz.underlying25 s_38 rfl rfl hx11) ?_
            refine ado rfl rfl rfl (ex_fieldAddrD (vs := (List.drop 2 (cNd x11))) Tryz.underlying38 rfl s_9 (by decide) rfl rfl) ?_
            refine ado rfl rfl rfl (tx_ldD1 (v := (S x11.Name)) Tryz.underlying9 rfl rfl rfl) ?_
            refine ado rfl rfl rfl (ex_buildSliceD (qs := [(0, (S x11.Name))]) (cells := (([x11.Name] : List Str).flatMap cS)) Tryz.underlying48 s_9 (by decide) (evp rfl evp_nil) rfl (by kernel_rfl) (by kernel_rfl) (by kernel_rfl)) ?_
            obtain ⟨x12, hx12, h⟩ := bindS h
            refine ado rfl rfl rfl (tx_appG (c := cS) (xs := v8) (H' := ⟨1, [(0, ⟨1, ((x12).flatMap cS), true⟩)]⟩) ceS e_9 rfl rfl rfl (tsrcD (ys := ([x11.Name] : List Str)) ceS Tryz.underlying48 s_9 Tryz.underlying48 rfl) hx12 rfl) ?_
            refine ado rfl rfl rfl (eas (eV (v := (GV 0 x12.length)) rfl)) ?_
            refine ake [0, 8, 30, 31, 32] 0 1 (st' := ⟨46, 0, [(0, (SL 5 cNd t0)), (8, (GV 0 x12.length)), (30, (SL 1 cI x6)), (31, (I (x6.length : Int))), (32, (I v7))], [], ⟨1, [(0, ⟨1, ((x12).flatMap cS), true⟩)]⟩⟩) (by kernel_rfl) (by kernel_rfl) ?_
            show AWp _ _ _ _
            refine awr ?_
            refine ado rfl rfl rfl (ex_bin (vx := (I v7)) (vy := (I 1)) rfl rfl addI_ok) ?_
            refine ado rfl rfl rfl (emv (eV (v := (I (w64 (v7 + 1)))) rfl)) ?_
            refine ake [0, 8, 30, 31, 32] 0 1 (st' := ⟨46, 0, [(0, (SL 5 cNd t0)), (8, (GV 0 x12.length)), (30, (SL 1 cI x6)), (31, (I (x6.length : Int))), (32, (I (w64 (v7 + 1))))], [], ⟨1, [(0, ⟨1, ((x12).flatMap cS), true⟩)]⟩⟩) (by kernel_rfl) (by kernel_rfl) ?_
            exact Exists.intro n1 (And.intro (Nat.lt_succ_self _) (Exists.intro (w64 (v7 + 1)) (Exists.intro x12 (And.intro rfl h))))
          · rw [condF hb9] at h
            refine awp_condF (boF hb9) ?_
            refine awp_exit ?_
            show AWp _ _ _ _
            refine awp_seq ?_
            refine awr ?_
            refine ado rfl rfl rfl (emv (eV (v := (GV 0 v8.length)) rfl)) ?_
            refine ado rfl rfl rfl (eas (eV (v := (GV 0 v8.length)) rfl)) ?_
            refine ado rfl rfl rfl (eas (eV (v := (I 0)) rfl)) ?_
            refine ake [4, 5] 0 1 (st' := ⟨46, 0, [(4, (GV 0 v8.length)), (5, (I 0))], [], ⟨1, [(0, ⟨1, ((v8).flatMap cS), true⟩)]⟩⟩) (by kernel_rfl) (by kernel_rfl) ?_
            show AWp _ _ _ _
            refine awp_freeze 0 (bk := ⟨1, ((v8).flatMap cS), true⟩) (T' := [(4, (SL 1 cS v8)), (5, (I 0))]) (L' := []) rfl (fzG ceS rfl rfl (FzT.keep (v := (I 0)) rfl FzT.nil)) (FzL.refl _) ?_
            show AWp _ _ _ ⟨46, 0, [(4, (SL 1 cS v8)), (5, (I 0))], [], ⟨1, []⟩⟩
            refine awp_ret ?_
            cases h
            exact aresN rfl (L2.cons (rtmp rfl (eV rfl)) (L2.cons (rtmp rfl (eV rfl)) L2.nil)) rfl

noncomputable def M_law15_begun : Option Bool :=
  Option.bind (M_ref11_New) fun (x1 : (List G_api_Node)) => Option.bind (M_ref11_Make x1 ([97] : Str) 1) fun (x2 : ((List G_api_Node) × Int)) => Option.bind (M_data_Write x2.1 ([97] : Str) 40 ([120] : Str)) fun (x3 : ((List G_api_Node) × Int)) => Option.bind (M_data_Read x3.1 ([97] : Str) 39 9) fun (x4 : (Str × Int)) => Option.bind (M_data_Cut x3.1 ([97] : Str) 40) fun (x5 : ((List G_api_Node) × Int)) => Option.bind (M_data_Stat x5.1 ([97] : Str)) fun (x6 : (G_api_Stat × Int)) => Option.bind (M_data_List x5.1 ([] : Str)) fun (x7 : ((List Str) × Int)) => Option.bind (gd (((((((((x3.2 == 0) && (x4.2 == 0)) && (x4.1 == ([0, 120] : Str))) && (x5.2 == 0)) && (x6.2 == 0)) && (decide (x6.1 = (G_api_Stat.mk 1 1 40 0)))) && (x7.2 == 0)) && ((x7.1.length : Int) == 1)) == true) (getI x7.1 0)) fun (x8 : Str) => Option.bind (gd ((((((((((x3.2 == 0) && (x4.2 == 0)) && (x4.1 == ([0, 120] : Str))) && (x5.2 == 0)) && (x6.2 == 0)) && (decide (x6.1 = (G_api_Stat.mk 1 1 40 0)))) && (x7.2 == 0)) && ((x7.1.length : Int) == 1)) && (x8 == ([97] : Str))) == true) (M_data_Parts ([120] : Str))) fun (x9 : Int) => Option.bind (gd (((((((((((x3.2 == 0) && (x4.2 == 0)) && (x4.1 == ([0, 120] : Str))) && (x5.2 == 0)) && (x6.2 == 0)) && (decide (x6.1 = (G_api_Stat.mk 1 1 40 0)))) && (x7.2 == 0)) && ((x7.1.length : Int) == 1)) && (x8 == ([97] : Str))) && (x9 == 1)) == true) (M_data_Parts ([0] : Str))) fun (x10 : Int) => Option.bind (gd ((((((((((((x3.2 == 0) && (x4.2 == 0)) && (x4.1 == ([0, 120] : Str))) && (x5.2 == 0)) && (x6.2 == 0)) && (decide (x6.1 = (G_api_Stat.mk 1 1 40 0)))) && (x7.2 == 0)) && ((x7.1.length : Int) == 1)) && (x8 == ([97] : Str))) && (x9 == 1)) && (x10 == 0)) == true) (M_data_Part ([120] : Str) 0)) fun (x11 : Str) => some ((((((((((((x3.2 == 0) && (x4.2 == 0)) && (x4.1 == ([0, 120] : Str))) && (x5.2 == 0)) && (x6.2 == 0)) && (decide (x6.1 = (G_api_Stat.mk 1 1 40 0)))) && (x7.2 == 0)) && ((x7.1.length : Int) == 1)) && (x8 == ([97] : Str))) && (x9 == 1)) && (x10 == 0)) && ((x11.length : Int) == 32))
theorem ok_law15_begun (r : Bool) (h : M_law15_begun = some r) : FFn Tryz.prog 4 [] (Bo r) := by
  refine FFn.of_body (n := 94) Tryz.func4 rfl Tryz.ntmps4 rfl rfl rfl rfl ?_
  show AWp _ _ _ ⟨94, 0, [], [], ⟨0, []⟩⟩
  unfold M_law15_begun at h
  refine awp_seq ?_
  refine awr ?_
  refine ado rfl rfl rfl (eas (eV (v := (Bo false)) rfl)) ?_
  refine ake [] 0 0 (st' := ⟨94, 0, [], [], ⟨0, []⟩⟩) (by kernel_rfl) (by kernel_rfl) ?_
  show AWp _ _ _ _
  refine awp_seq ?_
  refine awr ?_
  obtain ⟨x1, hx1, h⟩ := bindS h
  refine ado rfl rfl rfl (ex_call0 (vs := []) (v := (SL 5 cNd x1)) rfl en_14 (cargs evs_nil) rfl (ok_ref11_New  x1 hx1) rfl) ?_
  obtain ⟨x2, hx2, h⟩ := bindS h
  refine ado rfl rfl rfl (ex_call0 (vs := [(SL 5 cNd x1), (S ([97] : Str)), (I 1)]) (v := (Value.tuple #[(SL 5 cNd x2.1), (I x2.2)])) rfl en_13 (cargs (evs rfl (evs rfl (evs rfl evs_nil)))) rfl (ok_ref11_Make x1 ([97] : Str) 1 x2 hx2) rfl) ?_
  refine ado rfl rfl rfl (emv (eV (v := (Value.tuple #[(SL 5 cNd x2.1), (I x2.2)])) rfl)) ?_
  refine ado rfl rfl rfl (ex_extract (vx := (Value.tuple #[(SL 5 cNd x2.1), (I x2.2)])) (v := (SL 5 cNd x2.1)) rfl rfl) ?_
  refine ado rfl rfl rfl (ex_extract (vx := (Value.tuple #[(SL 5 cNd x2.1), (I x2.2)])) (v := (I x2.2)) rfl rfl) ?_
  refine ado rfl rfl rfl (eas (eV (v := (SL 5 cNd x2.1)) rfl)) ?_
  refine ado rfl rfl rfl (eas (eV (v := (I x2.2)) rfl)) ?_
  refine ake [1] 0 0 (st' := ⟨94, 0, [(1, (SL 5 cNd x2.1))], [], ⟨0, []⟩⟩) (by kernel_rfl) (by kernel_rfl) ?_
  show AWp _ _ _ _
  refine awp_seq ?_
  refine awr ?_
  refine ado rfl rfl rfl (emv (eV (v := (SL 5 cNd x2.1)) rfl)) ?_
  obtain ⟨x3, hx3, h⟩ := bindS h
  refine ado rfl rfl rfl (ex_call0 (vs := [(SL 5 cNd x2.1), (S ([97] : Str)), (I 40), (S ([120] : Str))]) (v := (Value.tuple #[(SL 5 cNd x3.1), (I x3.2)])) rfl en_9 (cargs (evs rfl (evs rfl (evs rfl (evs rfl evs_nil))))) rfl (ok_data_Write x2.1 ([97] : Str) 40 ([120] : Str) x3 hx3) rfl) ?_
  refine ado rfl rfl rfl (emv (eV (v := (Value.tuple #[(SL 5 cNd x3.1), (I x3.2)])) rfl)) ?_
  refine ado rfl rfl rfl (ex_extract (vx := (Value.tuple #[(SL 5 cNd x3.1), (I x3.2)])) (v := (SL 5 cNd x3.1)) rfl rfl) ?_
  refine ado rfl rfl rfl (ex_extract (vx := (Value.tuple #[(SL 5 cNd x3.1), (I x3.2)])) (v := (I x3.2)) rfl rfl) ?_
  refine ado rfl rfl rfl (eas (eV (v := (SL 5 cNd x3.1)) rfl)) ?_
  refine ado rfl rfl rfl (eas (eV (v := (I x3.2)) rfl)) ?_
  refine ake [3, 4] 0 0 (st' := ⟨94, 0, [(3, (SL 5 cNd x3.1)), (4, (I x3.2))], [], ⟨0, []⟩⟩) (by kernel_rfl) (by kernel_rfl) ?_
  show AWp _ _ _ _
  refine awp_seq ?_
  refine awr ?_
  refine ado rfl rfl rfl (emv (eV (v := (SL 5 cNd x3.1)) rfl)) ?_
  obtain ⟨x4, hx4, h⟩ := bindS h
  refine ado rfl rfl rfl (ex_call0 (vs := [(SL 5 cNd x3.1), (S ([97] : Str)), (I 39), (I 9)]) (v := (Value.tuple #[(S x4.1), (I x4.2)])) rfl en_15 (cargs (evs rfl (evs rfl (evs rfl (evs rfl evs_nil))))) rfl (ok_data_Read x3.1 ([97] : Str) 39 9 x4 hx4) rfl) ?_
  refine ado rfl rfl rfl (emv (eV (v := (Value.tuple #[(S x4.1), (I x4.2)])) rfl)) ?_
  refine ado rfl rfl rfl (ex_extract (vx := (Value.tuple #[(S x4.1), (I x4.2)])) (v := (S x4.1)) rfl rfl) ?_
  refine ado rfl rfl rfl (ex_extract (vx := (Value.tuple #[(S x4.1), (I x4.2)])) (v := (I x4.2)) rfl rfl) ?_
  refine ado rfl rfl rfl (eas (eV (v := (S x4.1)) rfl)) ?_
  refine ado rfl rfl rfl (eas (eV (v := (I x4.2)) rfl)) ?_
  refine ake [3, 4, 5, 6] 0 0 (st' := ⟨94, 0, [(3, (SL 5 cNd x3.1)), (4, (I x3.2)), (5, (S x4.1)), (6, (I x4.2))], [], ⟨0, []⟩⟩) (by kernel_rfl) (by kernel_rfl) ?_
  show AWp _ _ _ _
  refine awp_seq ?_
  refine awr ?_
  refine ado rfl rfl rfl (emv (eV (v := (SL 5 cNd x3.1)) rfl)) ?_
  obtain ⟨x5, hx5, h⟩ := bindS h
  refine ado rfl rfl rfl (ex_call0 (vs := [(SL 5 cNd x3.1), (S ([97] : Str)), (I 40)]) (v := (Value.tuple #[(SL 5 cNd x5.1), (I x5.2)])) rfl en_10 (cargs (evs rfl (evs rfl (evs rfl evs_nil)))) rfl (ok_data_Cut x3.1 ([97] : Str) 40 x5 hx5) rfl) ?_
  refine ado rfl rfl rfl (emv (eV (v := (Value.tuple #[(SL 5 cNd x5.1), (I x5.2)])) rfl)) ?_
  refine ado rfl rfl rfl (ex_extract (vx := (Value.tuple #[(SL 5 cNd x5.1), (I x5.2)])) (v := (SL 5 cNd x5.1)) rfl rfl) ?_
  refine ado rfl rfl rfl (ex_extract (vx := (Value.tuple #[(SL 5 cNd x5.1), (I x5.2)])) (v := (I x5.2)) rfl rfl) ?_
  refine ado rfl rfl rfl (eas (eV (v := (SL 5 cNd x5.1)) rfl)) ?_
  refine ado rfl rfl rfl (eas (eV (v := (I x5.2)) rfl)) ?_
  refine ake [4, 5, 6, 7, 8] 0 0 (st' := ⟨94, 0, [(4, (I x3.2)), (5, (S x4.1)), (6, (I x4.2)), (7, (SL 5 cNd x5.1)), (8, (I x5.2))], [], ⟨0, []⟩⟩) (by kernel_rfl) (by kernel_rfl) ?_
  show AWp _ _ _ _
  refine awp_seq ?_
  refine awr ?_
  refine ado rfl rfl rfl (emv (eV (v := (SL 5 cNd x5.1)) rfl)) ?_
  obtain ⟨x6, hx6, h⟩ := bindS h
  refine ado rfl rfl rfl (ex_call0 (vs := [(SL 5 cNd x5.1), (S ([97] : Str))]) (v := (Value.tuple #[(Value.agg (c_api_Stat x6.1).toArray), (I x6.2)])) rfl en_16 (cargs (evs rfl (evs rfl evs_nil))) rfl (ok_data_Stat x5.1 ([97] : Str) x6 hx6) rfl) ?_
  refine ado rfl rfl rfl (emv (eV (v := (Value.tuple #[(Value.agg (c_api_Stat x6.1).toArray), (I x6.2)])) rfl)) ?_
  refine ado rfl rfl rfl (ex_extract (vx := (Value.tuple #[(Value.agg (c_api_Stat x6.1).toArray), (I x6.2)])) (v := (Value.agg (c_api_Stat x6.1).toArray)) rfl rfl) ?_
  refine ado rfl rfl rfl (ex_extract (vx := (Value.tuple #[(Value.agg (c_api_Stat x6.1).toArray), (I x6.2)])) (v := (I x6.2)) rfl rfl) ?_
  refine ado rfl rfl rfl (ex_alloc (k := 0) (zs := (c_api_Stat (G_api_Stat.mk 0 0 0 0))) (L' := [(c_api_Stat (G_api_Stat.mk 0 0 0 0))]) z_45 rfl rfl rfl rfl) ?_
  refine arun_do0 rfl rfl (ex_storeL (vy := (Value.agg (c_api_Stat x6.1).toArray)) (cs := (c_api_Stat (G_api_Stat.mk 0 0 0 0))) (vs := (c_api_Stat x6.1)) (L' := [(c_api_Stat x6.1)]) rfl (eV (v := (Value.agg (c_api_Stat x6.1).toArray)) rfl) rfl s_45 rfl (Nat.le_of_ble_eq_true rfl) (by kernel_rfl)) ?_
  refine ado rfl rfl rfl (eas (eV (v := (I x6.2)) rfl)) ?_
  refine ake [4, 5, 6, 7, 8, 9, 10] 1 0 (st' := ⟨94, 0, [(4, (I x3.2)), (5, (S x4.1)), (6, (I x4.2)), (7, (SL 5 cNd x5.1)), (8, (I x5.2)), (9, (LP 0 0)), (10, (I x6.2))], [(c_api_Stat x6.1)], ⟨0, []⟩⟩) (by kernel_rfl) (by kernel_rfl) ?_
  show AWp _ _ _ _
  refine awp_seq ?_
  refine awr ?_
  refine ado rfl rfl rfl (emv (eV (v := (SL 5 cNd x5.1)) rfl)) ?_
  obtain ⟨x7, hx7, h⟩ := bindS h
  refine ado rfl rfl rfl (ex_call0 (vs := [(SL 5 cNd x5.1), (S [])]) (v := (Value.tuple #[(SL 1 cS x7.1), (I x7.2)])) rfl en_17 (cargs (evs rfl (evs rfl evs_nil))) rfl (ok_data_List x5.1 ([] : Str) x7 hx7) rfl) ?_
  refine ado rfl rfl rfl (emv (eV (v := (Value.tuple #[(SL 1 cS x7.1), (I x7.2)])) rfl)) ?_
  refine ado rfl rfl rfl (ex_extract (vx := (Value.tuple #[(SL 1 cS x7.1), (I x7.2)])) (v := (SL 1 cS x7.1)) rfl rfl) ?_
  refine ado rfl rfl rfl (ex_extract (vx := (Value.tuple #[(SL 1 cS x7.1), (I x7.2)])) (v := (I x7.2)) rfl rfl) ?_
  refine ado rfl rfl rfl (eas (eV (v := (SL 1 cS x7.1)) rfl)) ?_
  refine ado rfl rfl rfl (eas (eV (v := (I x7.2)) rfl)) ?_
  refine ake [4, 5, 6, 8, 9, 10, 11, 12] 1 0 (st' := ⟨94, 0, [(4, (I x3.2)), (5, (S x4.1)), (6, (I x4.2)), (8, (I x5.2)), (9, (LP 0 0)), (10, (I x6.2)), (11, (SL 1 cS x7.1)), (12, (I x7.2))], [(c_api_Stat x6.1)], ⟨0, []⟩⟩) (by kernel_rfl) (by kernel_rfl) ?_
  show AWp _ _ _ _
  refine awp_seq ?_
  refine awr ?_
  refine ado rfl rfl rfl (emv (eV (v := (I x3.2)) rfl)) ?_
  refine ado rfl rfl rfl (ex_bin (vx := (I x3.2)) (vy := (I 0)) rfl rfl eqlI_ok) ?_
  refine ado rfl rfl rfl (emv (eV (v := (Bo (x3.2 == 0))) rfl)) ?_
  refine arun_guard (v := (I x4.2)) ((x3.2 == 0) == true) rfl rfl rfl (fun hc => emv (eV (v := (I x4.2)) rfl)) ?_
  refine arun_guard (v := (Bo (x4.2 == 0))) ((x3.2 == 0) == true) rfl rfl rfl (fun hc => ex_bin (vx := (I x4.2)) (vy := (I 0)) (cond_of hc) rfl eqlI_ok) ?_
  refine ado rfl rfl rfl (ex_pick rfl pkAnd) ?_
  refine ado rfl rfl rfl (emv (eV (v := (Bo ((x3.2 == 0) && (x4.2 == 0)))) rfl)) ?_
  refine arun_guard (v := (S x4.1)) (((x3.2 == 0) && (x4.2 == 0)) == true) rfl rfl rfl (fun hc => emv (eV (v := (S x4.1)) rfl)) ?_
  refine arun_guard (v := (Bo (x4.1 == ([0, 120] : Str)))) (((x3.2 == 0) && (x4.2 == 0)) == true) rfl rfl rfl (fun hc => ex_bin (vx := (S x4.1)) (vy := (S ([0, 120] : Str))) (cond_of hc) rfl eqlS_ok) ?_
  refine ado rfl rfl rfl (ex_pick rfl pkAnd) ?_
  refine ado rfl rfl rfl (emv (eV (v := (Bo (((x3.2 == 0) && (x4.2 == 0)) && (x4.1 == ([0, 120] : Str))))) rfl)) ?_
  refine arun_guard (v := (I x5.2)) ((((x3.2 == 0) && (x4.2 == 0)) && (x4.1 == ([0, 120] : Str))) == true) rfl rfl rfl (fun hc => emv (eV (v := (I x5.2)) rfl)) ?_
  refine arun_guard (v := (Bo (x5.2 == 0))) ((((x3.2 == 0) && (x4.2 == 0)) && (x4.1 == ([0, 120] : Str))) == true) rfl rfl rfl (fun hc => ex_bin (vx := (I x5.2)) (vy := (I 0)) (cond_of hc) rfl eqlI_ok) ?_
  refine ado rfl rfl rfl (ex_pick rfl pkAnd) ?_
  refine ado rfl rfl rfl (emv (eV (v := (Bo ((((x3.2 == 0) && (x4.2 == 0)) && (x4.1 == ([0, 120] : Str))) && (x5.2 == 0)))) rfl)) ?_
  refine arun_guard (v := (I x6.2)) (((((x3.2 == 0) && (x4.2 == 0)) && (x4.1 == ([0, 120] : Str))) && (x5.2 == 0)) == true) rfl rfl rfl (fun hc => emv (eV (v := (I x6.2)) rfl)) ?_
  refine arun_guard (v := (Bo (x6.2 == 0))) (((((x3.2 == 0) && (x4.2 == 0)) && (x4.1 == ([0, 120] : Str))) && (x5.2 == 0)) == true) rfl rfl rfl (fun hc => ex_bin (vx := (I x6.2)) (vy := (I 0)) (cond_of hc) rfl eqlI_ok) ?_
  refine ado rfl rfl rfl (ex_pick rfl pkAnd) ?_
  refine ado rfl rfl rfl (emv (eV (v := (Bo (((((x3.2 == 0) && (x4.2 == 0)) && (x4.1 == ([0, 120] : Str))) && (x5.2 == 0)) && (x6.2 == 0)))) rfl)) ?_
  refine arun_guard (v := (Value.agg (c_api_Stat x6.1).toArray)) ((((((x3.2 == 0) && (x4.2 == 0)) && (x4.1 == ([0, 120] : Str))) && (x5.2 == 0)) && (x6.2 == 0)) == true) rfl rfl rfl (fun hc => tx_ldLA (vs := (c_api_Stat x6.1)) Tryz.underlying45 rfl s_45 (by decide) rfl rfl rfl rfl) ?_
  refine arun_guard (v := (Value.agg (c_api_Stat (G_api_Stat.mk 1 1 40 0)).toArray)) ((((((x3.2 == 0) && (x4.2 == 0)) && (x4.1 == ([0, 120] : Str))) && (x5.2 == 0)) && (x6.2 == 0)) == true) rfl rfl rfl (fun hc => ex_build (qs := [(0, (I 1)), (1, (I 1)), (2, (I 40))]) (v := (Value.agg (c_api_Stat (G_api_Stat.mk 1 1 40 0)).toArray)) (evp rfl (evp rfl (evp rfl evp_nil))) (by kernel_rfl)) ?_
  refine arun_guard (v := (Bo (decide (x6.1 = (G_api_Stat.mk 1 1 40 0))))) ((((((x3.2 == 0) && (x4.2 == 0)) && (x4.1 == ([0, 120] : Str))) && (x5.2 == 0)) && (x6.2 == 0)) == true) rfl rfl rfl (fun hc => ex_bin (vx := (Value.agg (c_api_Stat x6.1).toArray)) (vy := (Value.agg (c_api_Stat (G_api_Stat.mk 1 1 40 0)).toArray)) (cond_of hc) (cond_of hc) eql_45) ?_
  refine ado rfl rfl rfl (ex_pick rfl pkAnd) ?_
  refine ado rfl rfl rfl (emv (eV (v := (Bo ((((((x3.2 == 0) && (x4.2 == 0)) && (x4.1 == ([0, 120] : Str))) && (x5.2 == 0)) && (x6.2 == 0)) && (decide (x6.1 = (G_api_Stat.mk 1 1 40 0)))))) rfl)) ?_
  refine arun_guard (v := (I x7.2)) (((((((x3.2 == 0) && (x4.2 == 0)) && (x4.1 == ([0, 120] : Str))) && (x5.2 == 0)) && (x6.2 == 0)) && (decide (x6.1 = (G_api_Stat.mk 1 1 40 0)))) == true) rfl rfl rfl (fun hc => emv (eV (v := (I x7.2)) rfl)) ?_
  refine arun_guard (v := (Bo (x7.2 == 0))) (((((((x3.2 == 0) && (x4.2 == 0)) && (x4.1 == ([0, 120] : Str))) && (x5.2 == 0)) && (x6.2 == 0)) && (decide (x6.1 = (G_api_Stat.mk 1 1 40 0)))) == true) rfl rfl rfl (fun hc => ex_bin (vx := (I x7.2)) (vy := (I 0)) (cond_of hc) rfl eqlI_ok) ?_
  refine ado rfl rfl rfl (ex_pick rfl pkAnd) ?_
  refine ado rfl rfl rfl (emv (eV (v := (Bo (((((((x3.2 == 0) && (x4.2 == 0)) && (x4.1 == ([0, 120] : Str))) && (x5.2 == 0)) && (x6.2 == 0)) && (decide (x6.1 = (G_api_Stat.mk 1 1 40 0)))) && (x7.2 == 0)))) rfl)) ?_
  refine arun_guard (v := (SL 1 cS x7.1)) ((((((((x3.2 == 0) && (x4.2 == 0)) && (x4.1 == ([0, 120] : Str))) && (x5.2 == 0)) && (x6.2 == 0)) && (decide (x6.1 = (G_api_Stat.mk 1 1 40 0)))) && (x7.2 == 0)) == true) rfl rfl rfl (fun hc => emv (eV (v := (SL 1 cS x7.1)) rfl)) ?_
  refine arun_guard (v := (I (x7.1.length : Int))) ((((((((x3.2 == 0) && (x4.2 == 0)) && (x4.1 == ([0, 120] : Str))) && (x5.2 == 0)) && (x6.2 == 0)) && (decide (x6.1 = (G_api_Stat.mk 1 1 40 0)))) && (x7.2 == 0)) == true) rfl rfl rfl (fun hc => tx_lenD (xs := x7.1) ceS Tryz.underlying48 (cond_of hc)) ?_
  refine arun_guard (v := (Bo ((x7.1.length : Int) == 1))) ((((((((x3.2 == 0) && (x4.2 == 0)) && (x4.1 == ([0, 120] : Str))) && (x5.2 == 0)) && (x6.2 == 0)) && (decide (x6.1 = (G_api_Stat.mk 1 1 40 0)))) && (x7.2 == 0)) == true) rfl rfl rfl (fun hc => ex_bin (vx := (I (x7.1.length : Int))) (vy := (I 1)) (cond_of hc) rfl eqlI_ok) ?_
  refine ado rfl rfl rfl (ex_pick rfl pkAnd) ?_
  refine ado rfl rfl rfl (emv (eV (v := (Bo ((((((((x3.2 == 0) && (x4.2 == 0)) && (x4.1 == ([0, 120] : Str))) && (x5.2 == 0)) && (x6.2 == 0)) && (decide (x6.1 = (G_api_Stat.mk 1 1 40 0)))) && (x7.2 == 0)) && ((x7.1.length : Int) == 1)))) rfl)) ?_
  refine arun_guard (v := (SL 1 cS x7.1)) (((((((((x3.2 == 0) && (x4.2 == 0)) && (x4.1 == ([0, 120] : Str))) && (x5.2 == 0)) && (x6.2 == 0)) && (decide (x6.1 = (G_api_Stat.mk 1 1 40 0)))) && (x7.2 == 0)) && ((x7.1.length : Int) == 1)) == true) rfl rfl rfl (fun hc => emv (eV (v := (SL 1 cS x7.1)) rfl)) ?_
  obtain ⟨x8, hx8, h⟩ := bindS h
  refine arun_guard (v := (DP (cS x8))) (((((((((x3.2 == 0) && (x4.2 == 0)) && (x4.1 == ([0, 120] : Str))) && (x5.2 == 0)) && (x6.2 == 0)) && (decide (x6.1 = (G_api_Stat.mk 1 1 40 0)))) && (x7.2 == 0)) && ((x7.1.length : Int) == 1)) == true) rfl rfl rfl (fun hc => tx_idxD (c := cS) (xs := x7.1) (i := 0) ceS Tryz.underlying48 s_9 (cond_of hc) rfl (gd_of hc hx8)) ?_
  refine arun_guard (v := (S x8)) (((((((((x3.2 == 0) && (x4.2 == 0)) && (x4.1 == ([0, 120] : Str))) && (x5.2 == 0)) && (x6.2 == 0)) && (decide (x6.1 = (G_api_Stat.mk 1 1 40 0)))) && (x7.2 == 0)) && ((x7.1.length : Int) == 1)) == true) rfl rfl rfl (fun hc => tx_ldD1 (v := (S x8)) Tryz.underlying9 rfl (cond_of hc) rfl) ?_
  refine arun_guard (v := (Bo (x8 == ([97] : Str)))) (((((((((x3.2 == 0) && (x4.2 == 0)) && (x4.1 == ([0, 120] : Str))) && (x5.2 == 0)) && (x6.2 == 0)) && (decide (x6.1 = (G_api_Stat.mk 1 1 40 0)))) && (x7.2 == 0)) && ((x7.1.length : Int) == 1)) == true) rfl rfl rfl (fun hc => ex_bin (vx := (S x8)) (vy := (S ([97] : Str))) (cond_of hc) rfl eqlS_ok) ?_
  refine ado rfl rfl rfl (ex_pick rfl pkAnd) ?_
  refine ado rfl rfl rfl (emv (eV (v := (Bo (((((((((x3.2 == 0) && (x4.2 == 0)) && (x4.1 == ([0, 120] : Str))) && (x5.2 == 0)) && (x6.2 == 0)) && (decide (x6.1 = (G_api_Stat.mk 1 1 40 0)))) && (x7.2 == 0)) && ((x7.1.length : Int) == 1)) && (x8 == ([97] : Str))))) rfl)) ?_
  obtain ⟨x9, hx9, h⟩ := bindS h
  refine arun_guard (v := (I x9)) ((((((((((x3.2 == 0) && (x4.2 == 0)) && (x4.1 == ([0, 120] : Str))) && (x5.2 == 0)) && (x6.2 == 0)) && (decide (x6.1 = (G_api_Stat.mk 1 1 40 0)))) && (x7.2 == 0)) && ((x7.1.length : Int) == 1)) && (x8 == ([97] : Str))) == true) rfl rfl rfl (fun hc => ex_call0 (vs := [(S ([120] : Str))]) (v := (I x9)) rfl en_18 (cargs (evs rfl evs_nil)) rfl (ok_data_Parts ([120] : Str) x9 (gd_of hc hx9)) rfl) ?_
  refine arun_guard (v := (Bo (x9 == 1))) ((((((((((x3.2 == 0) && (x4.2 == 0)) && (x4.1 == ([0, 120] : Str))) && (x5.2 == 0)) && (x6.2 == 0)) && (decide (x6.1 = (G_api_Stat.mk 1 1 40 0)))) && (x7.2 == 0)) && ((x7.1.length : Int) == 1)) && (x8 == ([97] : Str))) == true) rfl rfl rfl (fun hc => ex_bin (vx := (I x9)) (vy := (I 1)) (cond_of hc) rfl eqlI_ok) ?_
  refine ado rfl rfl rfl (ex_pick rfl pkAnd) ?_
  refine ado rfl rfl rfl (emv (eV (v := (Bo ((((((((((x3.2 == 0) && (x4.2 == 0)) && (x4.1 == ([0, 120] : Str))) && (x5.2 == 0)) && (x6.2 == 0)) && (decide (x6.1 = (G_api_Stat.mk 1 1 40 0)))) && (x7.2 == 0)) && ((x7.1.length : Int) == 1)) && (x8 == ([97] : Str))) && (x9 == 1)))) rfl)) ?_
  obtain ⟨x10, hx10, h⟩ := bindS h
  refine arun_guard (v := (I x10)) (((((((((((x3.2 == 0) && (x4.2 == 0)) && (x4.1 == ([0, 120] : Str))) && (x5.2 == 0)) && (x6.2 == 0)) && (decide (x6.1 = (G_api_Stat.mk 1 1 40 0)))) && (x7.2 == 0)) && ((x7.1.length : Int) == 1)) && (x8 == ([97] : Str))) && (x9 == 1)) == true) rfl rfl rfl (fun hc => ex_call0 (vs := [(S ([0] : Str))]) (v := (I x10)) rfl en_18 (cargs (evs rfl evs_nil)) rfl (ok_data_Parts ([0] : Str) x10 (gd_of hc hx10)) rfl) ?_
  refine arun_guard (v := (Bo (x10 == 0))) (((((((((((x3.2 == 0) && (x4.2 == 0)) && (x4.1 == ([0, 120] : Str))) && (x5.2 == 0)) && (x6.2 == 0)) && (decide (x6.1 = (G_api_Stat.mk 1 1 40 0)))) && (x7.2 == 0)) && ((x7.1.length : Int) == 1)) && (x8 == ([97] : Str))) && (x9 == 1)) == true) rfl rfl rfl (fun hc => ex_bin (vx := (I x10)) (vy := (I 0)) (cond_of hc) rfl eqlI_ok) ?_
  refine ado rfl rfl rfl (ex_pick rfl pkAnd) ?_
  refine ado rfl rfl rfl (emv (eV (v := (Bo (((((((((((x3.2 == 0) && (x4.2 == 0)) && (x4.1 == ([0, 120] : Str))) && (x5.2 == 0)) && (x6.2 == 0)) && (decide (x6.1 = (G_api_Stat.mk 1 1 40 0)))) && (x7.2 == 0)) && ((x7.1.length : Int) == 1)) && (x8 == ([97] : Str))) && (x9 == 1)) && (x10 == 0)))) rfl)) ?_
  obtain ⟨x11, hx11, h⟩ := bindS h
  refine arun_guard (v := (S x11)) ((((((((((((x3.2 == 0) && (x4.2 == 0)) && (x4.1 == ([0, 120] : Str))) && (x5.2 == 0)) && (x6.2 == 0)) && (decide (x6.1 = (G_api_Stat.mk 1 1 40 0)))) && (x7.2 == 0)) && ((x7.1.length : Int) == 1)) && (x8 == ([97] : Str))) && (x9 == 1)) && (x10 == 0)) == true) rfl rfl rfl (fun hc => ex_call0 (vs := [(S ([120] : Str)), (I 0)]) (v := (S x11)) rfl en_19 (cargs (evs rfl (evs rfl evs_nil))) rfl (ok_data_Part ([120] : Str) 0 x11 (gd_of hc hx11)) rfl) ?_
  refine arun_guard (v := (I (x11.length : Int))) ((((((((((((x3.2 == 0) && (x4.2 == 0)) && (x4.1 == ([0, 120] : Str))) && (x5.2 == 0)) && (x6.2 == 0)) && (decide (x6.1 = (G_api_Stat.mk 1 1 40 0)))) && (x7.2 == 0)) && ((x7.1.length : Int) == 1)) && (x8 == ([97] : Str))) && (x9 == 1)) && (x10 == 0)) == true) rfl rfl rfl (fun hc => tx_lenS Tryz.underlying9 (cond_of hc)) ?_
  refine arun_guard (v := (Bo ((x11.length : Int) == 32))) ((((((((((((x3.2 == 0) && (x4.2 == 0)) && (x4.1 == ([0, 120] : Str))) && (x5.2 == 0)) && (x6.2 == 0)) && (decide (x6.1 = (G_api_Stat.mk 1 1 40 0)))) && (x7.2 == 0)) && ((x7.1.length : Int) == 1)) && (x8 == ([97] : Str))) && (x9 == 1)) && (x10 == 0)) == true) rfl rfl rfl (fun hc => ex_bin (vx := (I (x11.length : Int))) (vy := (I 32)) (cond_of hc) rfl eqlI_ok) ?_
  refine ado rfl rfl rfl (ex_pick rfl pkAnd) ?_
  refine ado rfl rfl rfl (eas (eV (v := (Bo ((((((((((((x3.2 == 0) && (x4.2 == 0)) && (x4.1 == ([0, 120] : Str))) && (x5.2 == 0)) && (x6.2 == 0)) && (decide (x6.1 = (G_api_Stat.mk 1 1 40 0)))) && (x7.2 == 0)) && ((x7.1.length : Int) == 1)) && (x8 == ([97] : Str))) && (x9 == 1)) && (x10 == 0)) && ((x11.length : Int) == 32)))) rfl)) ?_
  refine ake [0] 0 0 (st' := ⟨94, 0, [(0, (Bo ((((((((((((x3.2 == 0) && (x4.2 == 0)) && (x4.1 == ([0, 120] : Str))) && (x5.2 == 0)) && (x6.2 == 0)) && (decide (x6.1 = (G_api_Stat.mk 1 1 40 0)))) && (x7.2 == 0)) && ((x7.1.length : Int) == 1)) && (x8 == ([97] : Str))) && (x9 == 1)) && (x10 == 0)) && ((x11.length : Int) == 32))))], [], ⟨0, []⟩⟩) (by kernel_rfl) (by kernel_rfl) ?_
  show AWp _ _ _ _
  refine awp_ret ?_
  cases h
  exact ares1 (rtmp rfl (eV rfl))

end Go.Proofs
