/- Pure models of functions of the program, and that its code does what they say: api Node], data noughts, data file with, data Write. Written by a program. -/
import Derived.Test.YtjdlpipeagjnfaaGreatDoorRDO6
import Derived.Test.YtjdlpipeagjnfaaGreatDoorRDOB
import Derived.Test.YtjdlpipeagjnfaaGreatDoorRDOX
set_option maxRecDepth 20000
set_option maxHeartbeats 4000000
namespace Go.Proofs
open Go Go.Fhl
set_option linter.unusedVariables false
set_option linter.unusedSimpArgs false
noncomputable def M_slices_Clone_api_Set_api_Node (t0 : (List G_api_Node)) : Option (List G_api_Node) :=
  Option.bind (appL 56 ([] : List G_api_Node) t0) fun (x3 : List G_api_Node) => some x3
theorem ok_slices_Clone_api_Set_api_Node (t0 : (List G_api_Node)) (r : (List G_api_Node)) (h : M_slices_Clone_api_Set_api_Node t0 = some r) : FFn Tryz.prog 25 [(SL 5 cNd t0)] (SL 5 cNd r) := by
  refine FFn.of_body (n := 8) Tryz.func25 rfl Tryz.ntmps25 rfl rfl rfl rfl ?_
  show AWp _ _ _ ⟨8, 0, [(0, (SL 5 cNd t0))], [], ⟨0, []⟩⟩
  unfold M_slices_Clone_api_Set_api_Node at h
  refine awp_seq ?_
  refine awr ?_
  refine ado rfl rfl rfl (eas (eV (v := (Value.slice none 0 0)) rfl)) ?_
  refine ake [0] 0 0 (st' := ⟨8, 0, [(0, (SL 5 cNd t0))], [], ⟨0, []⟩⟩) (by kernel_rfl) (by kernel_rfl) ?_
  show AWp _ _ _ _
  refine awp_seq ?_
  refine awp_seq ?_
  refine awr ?_
  refine ado rfl rfl rfl (emv (eV (v := (SL 5 cNd t0)) rfl)) ?_
  refine arun_stepE (F := fun b : Bool => Bo b) (hp := fun b => b = true → t0 = []) rfl rfl rfl (isNil_ok (c := cNd) (xs := t0) ce_api_Node Tryz.underlying25 rfl rfl) ?_
  intro bN1 hN_bN1
  refine ake [0, 4] 0 0 (st' := ⟨8, 0, [(0, (SL 5 cNd t0)), (4, (Bo bN1))], [], ⟨0, []⟩⟩) (by kernel_rfl) (by kernel_rfl) ?_
  show AWp _ _ _ _
  rcases Bool.eq_false_or_eq_true bN1 with hb2 | hb2
  · skip
    refine awp_condT (boT hb2) ?_
    refine awp_seq ?_
    refine awr ?_
    refine ado rfl rfl rfl (eas (eV (v := (Value.slice none 0 0)) rfl)) ?_
    refine ake [2] 0 0 (st' := ⟨8, 0, [(2, (Value.slice none 0 0))], [], ⟨0, []⟩⟩) (by kernel_rfl) (by kernel_rfl) ?_
    show AWp _ _ _ _
    obtain rfl := clone_nil (hN_bN1 hb2) h
    refine awp_ret ?_
    exact ares1 (rtmp rfl (eN rfl))
  · skip
    refine awp_condF (boF hb2) ?_
    refine awp_skip ?_
    show AWp _ _ _ _
    refine awp_seq ?_
    refine awr ?_
    refine ado rfl rfl rfl (ex_buildSliceG (k := 0) (qs := []) (cells := (([] : List G_api_Node).flatMap cNd)) (H' := ⟨1, [(0, ⟨5, (([] : List G_api_Node).flatMap cNd), true⟩)]⟩) Tryz.underlying25 s_38 (by decide) (by decide) evp_nil rfl (by kernel_rfl) (by kernel_rfl) (by kernel_rfl) rfl rfl) ?_
    refine ado rfl rfl rfl (emv (eV (v := (SL 5 cNd t0)) rfl)) ?_
    obtain ⟨x3, hx3, h⟩ := bindS h
    refine ado rfl rfl rfl (tx_appG (c := cNd) (xs := []) (H' := ⟨1, [(0, ⟨5, ((x3).flatMap cNd), true⟩)]⟩) ce_api_Node e_38 rfl rfl rfl (tsrcD (ys := t0) ce_api_Node Tryz.underlying25 s_38 Tryz.underlying25 rfl) hx3 rfl) ?_
    refine ado rfl rfl rfl (eas (eV (v := (GV 0 x3.length)) rfl)) ?_
    refine ake [2] 0 1 (st' := ⟨8, 0, [(2, (GV 0 x3.length))], [], ⟨1, [(0, ⟨5, ((x3).flatMap cNd), true⟩)]⟩⟩) (by kernel_rfl) (by kernel_rfl) ?_
    show AWp _ _ _ _
    refine awp_freeze 0 (bk := ⟨5, ((x3).flatMap cNd), true⟩) (T' := [(2, (SL 5 cNd x3))]) (L' := []) rfl (fzG ce_api_Node rfl rfl FzT.nil) (FzL.refl _) ?_
    show AWp _ _ _ ⟨8, 0, [(2, (SL 5 cNd x3))], [], ⟨1, []⟩⟩
    refine awp_ret ?_
    cases h
    exact ares1 (rtmp rfl (eV rfl))


theorem okw_slices_Clone_api_Set_api_Node (t0 : (List G_api_Node)) (r : (List G_api_Node)) (h : M_slices_Clone_api_Set_api_Node t0 = some r) : FOw Tryz.prog 25 [(SL 5 cNd t0)] r.length ⟨5, (r).flatMap cNd, true⟩ := by
  refine FOw.of_body (n := 8) Tryz.func25 rfl Tryz.ntmps25 rfl rfl rfl ?_
  show AWp _ _ _ ⟨8, 0, [(0, (SL 5 cNd t0))], [], ⟨0, []⟩⟩
  unfold M_slices_Clone_api_Set_api_Node at h
  refine awp_seq ?_
  refine awr ?_
  refine ado rfl rfl rfl (eas (eV (v := (Value.slice none 0 0)) rfl)) ?_
  refine ake [0] 0 0 (st' := ⟨8, 0, [(0, (SL 5 cNd t0))], [], ⟨0, []⟩⟩) (by kernel_rfl) (by kernel_rfl) ?_
  show AWp _ _ _ _
  refine awp_seq ?_
  refine awp_seq ?_
  refine awr ?_
  refine ado rfl rfl rfl (emv (eV (v := (SL 5 cNd t0)) rfl)) ?_
  refine arun_stepE (F := fun b : Bool => Bo b) (hp := fun b => b = true → t0 = []) rfl rfl rfl (isNil_ok (c := cNd) (xs := t0) ce_api_Node Tryz.underlying25 rfl rfl) ?_
  intro bN1 hN_bN1
  refine ake [0, 4] 0 0 (st' := ⟨8, 0, [(0, (SL 5 cNd t0)), (4, (Bo bN1))], [], ⟨0, []⟩⟩) (by kernel_rfl) (by kernel_rfl) ?_
  show AWp _ _ _ _
  rcases Bool.eq_false_or_eq_true bN1 with hb2 | hb2
  · skip
    refine awp_condT (boT hb2) ?_
    refine awp_seq ?_
    refine awr ?_
    refine ado rfl rfl rfl (eas (eV (v := (Value.slice none 0 0)) rfl)) ?_
    refine ake [2] 0 0 (st' := ⟨8, 0, [(2, (Value.slice none 0 0))], [], ⟨0, []⟩⟩) (by kernel_rfl) (by kernel_rfl) ?_
    show AWp _ _ _ _
    obtain rfl := clone_nil (hN_bN1 hb2) h
    refine awp_nilGro 2 5 rfl (by decide) ?_
    refine awp_ret ?_
    exact And.intro (ares1 (rtmp rfl (eV rfl))) (And.intro rfl rfl)
  · skip
    refine awp_condF (boF hb2) ?_
    refine awp_skip ?_
    show AWp _ _ _ _
    refine awp_seq ?_
    refine awr ?_
    refine ado rfl rfl rfl (ex_buildSliceG (k := 0) (qs := []) (cells := (([] : List G_api_Node).flatMap cNd)) (H' := ⟨1, [(0, ⟨5, (([] : List G_api_Node).flatMap cNd), true⟩)]⟩) Tryz.underlying25 s_38 (by decide) (by decide) evp_nil rfl (by kernel_rfl) (by kernel_rfl) (by kernel_rfl) rfl rfl) ?_
    refine ado rfl rfl rfl (emv (eV (v := (SL 5 cNd t0)) rfl)) ?_
    obtain ⟨x3, hx3, h⟩ := bindS h
    refine ado rfl rfl rfl (tx_appG (c := cNd) (xs := []) (H' := ⟨1, [(0, ⟨5, ((x3).flatMap cNd), true⟩)]⟩) ce_api_Node e_38 rfl rfl rfl (tsrcD (ys := t0) ce_api_Node Tryz.underlying25 s_38 Tryz.underlying25 rfl) hx3 rfl) ?_
    refine ado rfl rfl rfl (eas (eV (v := (GV 0 x3.length)) rfl)) ?_
    refine ake [2] 0 1 (st' := ⟨8, 0, [(2, (GV 0 x3.length))], [], ⟨1, [(0, ⟨5, ((x3).flatMap cNd), true⟩)]⟩⟩) (by kernel_rfl) (by kernel_rfl) ?_
    show AWp _ _ _ _
    refine awp_ret ?_
    cases h
    exact And.intro (ares1 (rtmp rfl (eV rfl))) (And.intro rfl rfl)

noncomputable def M_data_noughts (t0 : Int) : Option Str :=
  Option.bind (M_strings_Repeat ([0] : Str) (max t0 0)) fun (x1 : Str) => some x1
theorem ok_data_noughts (t0 : Int) (r : Str) (h : M_data_noughts t0 = some r) : FFn Tryz.prog 26 [(I t0)] (S r) := by
  refine FFn.of_body (n := 6) Tryz.func26 rfl Tryz.ntmps26 rfl rfl rfl rfl ?_
  show AWp _ _ _ ⟨6, 0, [(0, (I t0))], [], ⟨0, []⟩⟩
  unfold M_data_noughts at h
  refine awp_seq ?_
  refine awr ?_
  refine ado rfl rfl rfl (eas (eV (v := (S [])) rfl)) ?_
  refine ake [0] 0 0 (st' := ⟨6, 0, [(0, (I t0))], [], ⟨0, []⟩⟩) (by kernel_rfl) (by kernel_rfl) ?_
  show AWp _ _ _ _
  refine awp_seq ?_
  refine awr ?_
  refine ado rfl rfl rfl (emv (eV (v := (I t0)) rfl)) ?_
  refine ado rfl rfl rfl (ex_max (m := t0) (n := 0) rfl rfl) ?_
  obtain ⟨x1, hx1, h⟩ := bindS h
  refine ado rfl rfl rfl (ex_call0 (vs := [(S ([0] : Str)), (I (max t0 0))]) (v := (S x1)) rfl en_44 (cargs (evs rfl (evs rfl evs_nil))) rfl (ok_strings_Repeat ([0] : Str) (max t0 0) x1 hx1) rfl) ?_
  refine ado rfl rfl rfl (eas (eV (v := (S x1)) rfl)) ?_
  refine ake [2] 0 0 (st' := ⟨6, 0, [(2, (S x1))], [], ⟨0, []⟩⟩) (by kernel_rfl) (by kernel_rfl) ?_
  show AWp _ _ _ _
  refine awp_ret ?_
  cases h
  exact ares1 (rtmp rfl (eV rfl))

noncomputable def M_data_file_with (t0 : G_data_file) (t1 : (List G_api_Node)) : Option (List G_api_Node) :=
  Option.bind (M_slices_Clone_api_Set_api_Node t1) fun (x1 : (List G_api_Node)) => Option.bind (getI x1 t0.n) fun (x2 : G_api_Node) => Option.bind (setI x1 t0.n t0.Node) fun (x3 : List G_api_Node) => some x3
theorem ok_data_file_with (t0 : G_data_file) (t1 : (List G_api_Node)) (r : (List G_api_Node)) (h : M_data_file_with t0 t1 = some r) : FFn Tryz.prog 27 [(Value.agg (c_data_file t0).toArray), (SL 5 cNd t1)] (SL 5 cNd r) := by
  refine FFn.of_body (n := 14) Tryz.func27 rfl Tryz.ntmps27 rfl rfl rfl rfl ?_
  show AWp _ _ _ ⟨14, 0, [(0, (Value.agg (c_data_file t0).toArray)), (1, (SL 5 cNd t1))], [], ⟨0, []⟩⟩
  unfold M_data_file_with at h
  refine awp_seq ?_
  refine awr ?_
  refine ado rfl rfl rfl (ex_box (vx := (Value.agg (c_data_file t0).toArray)) (cs := (c_data_file t0)) (k := 0) (L' := [(c_data_file t0)]) (eV (v := (Value.agg (c_data_file t0).toArray)) rfl) rfl rfl rfl) ?_
  refine ado rfl rfl rfl (eas (eV (v := (Value.slice none 0 0)) rfl)) ?_
  refine ake [1, 2] 1 0 (st' := ⟨14, 0, [(1, (SL 5 cNd t1)), (2, (LP 0 0))], [(c_data_file t0)], ⟨0, []⟩⟩) (by kernel_rfl) (by kernel_rfl) ?_
  show AWp _ _ _ _
  refine awp_seq ?_
  refine awr ?_
  refine ado rfl rfl rfl (emv (eV (v := (SL 5 cNd t1)) rfl)) ?_
  obtain ⟨x1, hx1, h⟩ := bindS h
  refine ado rfl rfl rfl (ex_callOw (vs := [(SL 5 cNd t1)]) (k := 0) (len := x1.length) (b := ⟨5, ((x1).flatMap cNd), true⟩) (H' := ⟨1, [(0, ⟨5, ((x1).flatMap cNd), true⟩)]⟩) rfl en_25 (cargs (evs rfl evs_nil)) rfl (okw_slices_Clone_api_Set_api_Node t1 x1 hx1) rfl rfl) ?_
  refine ado rfl rfl rfl (eas (eV (v := (GV 0 x1.length)) rfl)) ?_
  refine ake [1, 2] 1 1 (st' := ⟨14, 0, [(1, (GV 0 x1.length)), (2, (LP 0 0))], [(c_data_file t0)], ⟨1, [(0, ⟨5, ((x1).flatMap cNd), true⟩)]⟩⟩) (by kernel_rfl) (by kernel_rfl) ?_
  show AWp _ _ _ _
  refine awp_seq ?_
  refine awr ?_
  refine ado rfl rfl rfl (emv (eV (v := (GV 0 x1.length)) rfl)) ?_
  refine ado rfl rfl rfl (ex_fieldAddr (v := (LP 0 5)) Tryz.underlying61 rfl s_3 (by decide) rfl rfl) ?_
  refine ado rfl rfl rfl (tx_ldL1 (v := (I t0.n)) Tryz.underlying3 rfl rfl rfl rfl) ?_
  refine ado rfl rfl rfl (ex_fieldAddr (v := (LP 0 0)) Tryz.underlying61 rfl s_38 (by decide) rfl rfl) ?_
  refine ado rfl rfl rfl (tx_ldLA (vs := (cNd t0.Node)) Tryz.underlying38 rfl s_38 (by decide) rfl rfl rfl rfl) ?_
  obtain ⟨x2, hx2, h⟩ := bindS h
  refine ado rfl rfl rfl (tx_idxG (c := cNd) (xs := x1) (i := t0.n) ce_api_Node Tryz.underlying25 s_38 rfl rfl rfl rfl hx2) ?_
  obtain ⟨x3, hx3, h⟩ := bindS h
  refine arun_do0 rfl rfl (tx_stG (c := cNd) (xs := x1) (e := t0.Node) (H' := ⟨1, [(0, ⟨5, ((x3).flatMap cNd), true⟩)]⟩) ce_api_Node s_38 rfl (eV (v := (Value.agg (cNd t0.Node).toArray)) rfl) rfl rfl hx3 rfl) ?_
  refine arun_fewer (T' := [(1, (GV 0 x3.length)), (2, (LP 0 0)), (7, (GV 0 x3.length)), (8, (LP 0 5)), (9, (I t0.n)), (10, (LP 0 0)), (11, (Value.agg (cNd t0.Node).toArray))]) (ReT.gv rfl (setI_len hx3) (ReT.keep (v := (LP 0 0)) rfl (ReT.gv rfl (setI_len hx3) (ReT.keep (v := (LP 0 5)) rfl (ReT.keep (v := (I t0.n)) rfl (ReT.keep (v := (LP 0 0)) rfl (ReT.keep (v := (Value.agg (cNd t0.Node).toArray)) rfl ReT.nil))))))) ?_
  refine ake [1] 0 1 (st' := ⟨14, 0, [(1, (GV 0 x3.length))], [], ⟨1, [(0, ⟨5, ((x3).flatMap cNd), true⟩)]⟩⟩) (by kernel_rfl) (by kernel_rfl) ?_
  show AWp _ _ _ _
  refine awp_seq ?_
  refine awr ?_
  refine ado rfl rfl rfl (emv (eV (v := (GV 0 x3.length)) rfl)) ?_
  refine ado rfl rfl rfl (eas (eV (v := (GV 0 x3.length)) rfl)) ?_
  refine ake [4] 0 1 (st' := ⟨14, 0, [(4, (GV 0 x3.length))], [], ⟨1, [(0, ⟨5, ((x3).flatMap cNd), true⟩)]⟩⟩) (by kernel_rfl) (by kernel_rfl) ?_
  show AWp _ _ _ _
  refine awp_freeze 0 (bk := ⟨5, ((x3).flatMap cNd), true⟩) (T' := [(4, (SL 5 cNd x3))]) (L' := []) rfl (fzG ce_api_Node rfl rfl FzT.nil) (FzL.refl _) ?_
  show AWp _ _ _ ⟨14, 0, [(4, (SL 5 cNd x3))], [], ⟨1, []⟩⟩
  refine awp_ret ?_
  cases h
  exact ares1 (rtmp rfl (eV rfl))

noncomputable def M_data_Write_k1 (t0 : (List G_api_Node)) (t2 : Int) (t3 : Str) (x1 : (G_data_file × Int)) (y2 : Int) : Option ((List G_api_Node) × Int) :=
  cond ((y2 != 0) || (t3 == [])) (Option.bind (M_slices_Clone_api_Set_api_Node t0) fun (x7 : (List G_api_Node)) => some (x7, y2)) (Option.bind (M_data_noughts (w64 (t2 - (x1.1.Node.Body.length : Int)))) fun (x8 : Str) => Option.bind (addS x1.1.Node.Body x8) fun (x9 : Str) => Option.bind (slL x9 0 t2) fun (x10 : Str) => Option.bind (addS x10 t3) fun (x11 : Str) => Option.bind (slL x9 (min (w64 (t2 + (t3.length : Int))) (x9.length : Int)) (x9.length : Int)) fun (x12 : Str) => Option.bind (addS x11 x12) fun (x13 : Str) => Option.bind (M_data_file_with (G_data_file.mk (G_api_Node.mk x1.1.Node.Kind x1.1.Node.Up x1.1.Node.Name x13 x1.1.Node.Bad) x1.1.n) t0) fun (x14 : (List G_api_Node)) => some (x14, 0))
noncomputable def M_data_Write (t0 : (List G_api_Node)) (t1 : Str) (t2 : Int) (t3 : Str) : Option ((List G_api_Node) × Int) :=
  Option.bind (M_data_open t0 t1) fun (x1 : (G_data_file × Int)) => cond (x1.2 != 0) (M_data_Write_k1 t0 t2 t3 x1 x1.2) (cond (decide (t2 < 0)) (M_data_Write_k1 t0 t2 t3 x1 1) (cond ((decide (t2 > 128)) || (decide ((t3.length : Int) > (w64 (128 - t2))))) (M_data_Write_k1 t0 t2 t3 x1 8) (M_data_Write_k1 t0 t2 t3 x1 x1.2)))
theorem ok_data_Write (t0 : (List G_api_Node)) (t1 : Str) (t2 : Int) (t3 : Str) (r : ((List G_api_Node) × Int)) (h : M_data_Write t0 t1 t2 t3 = some r) : FFn Tryz.prog 9 [(SL 5 cNd t0), (S t1), (I t2), (S t3)] (Value.tuple #[(SL 5 cNd r.1), (I r.2)]) := by
  refine FFn.of_body (n := 75) Tryz.func9 rfl Tryz.ntmps9 rfl rfl rfl rfl ?_
  show AWp _ _ _ ⟨75, 0, [(0, (SL 5 cNd t0)), (1, (S t1)), (2, (I t2)), (3, (S t3))], [], ⟨0, []⟩⟩
  unfold M_data_Write at h
  refine awp_seq ?_
  refine awr ?_
  refine ado rfl rfl rfl (eas (eV (v := (Value.slice none 0 0)) rfl)) ?_
  refine ado rfl rfl rfl (eas (eV (v := (I 0)) rfl)) ?_
  refine ake [0, 1, 2, 3] 0 0 (st' := ⟨75, 0, [(0, (SL 5 cNd t0)), (1, (S t1)), (2, (I t2)), (3, (S t3))], [], ⟨0, []⟩⟩) (by kernel_rfl) (by kernel_rfl) ?_
  show AWp _ _ _ _
  refine awp_seq ?_
  refine awr ?_
  refine ado rfl rfl rfl (emv (eV (v := (SL 5 cNd t0)) rfl)) ?_
  refine ado rfl rfl rfl (emv (eV (v := (S t1)) rfl)) ?_
  obtain ⟨x1, hx1, h⟩ := bindS h
  refine ado rfl rfl rfl (ex_call0 (vs := [(SL 5 cNd t0), (S t1)]) (v := (Value.tuple #[(Value.agg (c_data_file x1.1).toArray), (I x1.2)])) rfl en_24 (cargs (evs rfl (evs rfl evs_nil))) rfl (ok_data_open t0 t1 x1 hx1) rfl) ?_
  refine ado rfl rfl rfl (emv (eV (v := (Value.tuple #[(Value.agg (c_data_file x1.1).toArray), (I x1.2)])) rfl)) ?_
  refine ado rfl rfl rfl (ex_extract (vx := (Value.tuple #[(Value.agg (c_data_file x1.1).toArray), (I x1.2)])) (v := (Value.agg (c_data_file x1.1).toArray)) rfl rfl) ?_
  refine ado rfl rfl rfl (ex_extract (vx := (Value.tuple #[(Value.agg (c_data_file x1.1).toArray), (I x1.2)])) (v := (I x1.2)) rfl rfl) ?_
  refine ado rfl rfl rfl (ex_alloc (k := 0) (zs := (c_data_file (G_data_file.mk (G_api_Node.mk 0 0 [] [] 0) 0))) (L' := [(c_data_file (G_data_file.mk (G_api_Node.mk 0 0 [] [] 0) 0))]) z_61 rfl rfl rfl rfl) ?_
  refine arun_do0 rfl rfl (ex_storeL (vy := (Value.agg (c_data_file x1.1).toArray)) (cs := (c_data_file (G_data_file.mk (G_api_Node.mk 0 0 [] [] 0) 0))) (vs := (c_data_file x1.1)) (L' := [(c_data_file x1.1)]) rfl (eV (v := (Value.agg (c_data_file x1.1).toArray)) rfl) rfl s_61 rfl (Nat.le_of_ble_eq_true rfl) (by kernel_rfl)) ?_
  refine ado rfl rfl rfl (eas (eV (v := (I x1.2)) rfl)) ?_
  refine ake [0, 2, 3, 10, 11] 1 0 (st' := ⟨75, 0, [(0, (SL 5 cNd t0)), (2, (I t2)), (3, (S t3)), (10, (LP 0 0)), (11, (I x1.2))], [(c_data_file x1.1)], ⟨0, []⟩⟩) (by kernel_rfl) (by kernel_rfl) ?_
  show AWp _ _ _ _
  refine awp_seqJ (fun s => ∃ (y2 : Int), s = ⟨75, 0, [(0, (SL 5 cNd t0)), (2, (I t2)), (3, (S t3)), (10, (LP 0 0)), (11, (I y2))], [(c_data_file x1.1)], ⟨0, []⟩⟩ ∧ M_data_Write_k1 t0 t2 t3 x1 y2 = some r) ?_ ?_
  · refine awp_block ?_
    refine awp_seq ?_
    refine awr ?_
    refine ado rfl rfl rfl (emv (eV (v := (I x1.2)) rfl)) ?_
    refine ado rfl rfl rfl (ex_bin (vx := (I x1.2)) (vy := (I 0)) rfl rfl neqI_ok) ?_
    refine ado rfl rfl rfl (eas (eV (v := (Bo (x1.2 != 0))) rfl)) ?_
    refine ake [0, 2, 3, 10, 11, 19] 1 0 (st' := ⟨75, 0, [(0, (SL 5 cNd t0)), (2, (I t2)), (3, (S t3)), (10, (LP 0 0)), (11, (I x1.2)), (19, (Bo (x1.2 != 0)))], [(c_data_file x1.1)], ⟨0, []⟩⟩) (by kernel_rfl) (by kernel_rfl) ?_
    show AWp _ _ _ _
    rcases Bool.eq_false_or_eq_true (x1.2 != 0) with hb3 | hb3
    · rw [condT hb3] at h
      refine awp_condT (boT hb3) ?_
      refine awp_keepE [0, 2, 3, 10, 11] 1 0 (st' := ⟨75, 0, [(0, (SL 5 cNd t0)), (2, (I t2)), (3, (S t3)), (10, (LP 0 0)), (11, (I x1.2))], [(c_data_file x1.1)], ⟨0, []⟩⟩) (by kernel_rfl) (by kernel_rfl) ?_
      refine awp_skip ?_
      exact (Exists.intro x1.2 (And.intro rfl h))
    · rw [condF hb3] at h
      refine awp_condF (boF hb3) ?_
      refine awp_seq ?_
      refine awr ?_
      refine ado rfl rfl rfl (emv (eV (v := (I t2)) rfl)) ?_
      refine ado rfl rfl rfl (ex_bin (vx := (I t2)) (vy := (I 0)) rfl rfl lssI_ok) ?_
      refine ado rfl rfl rfl (eas (eV (v := (Bo (decide (t2 < 0)))) rfl)) ?_
      refine ake [0, 2, 3, 10, 11, 22] 1 0 (st' := ⟨75, 0, [(0, (SL 5 cNd t0)), (2, (I t2)), (3, (S t3)), (10, (LP 0 0)), (11, (I x1.2)), (22, (Bo (decide (t2 < 0))))], [(c_data_file x1.1)], ⟨0, []⟩⟩) (by kernel_rfl) (by kernel_rfl) ?_
      show AWp _ _ _ _
      rcases Bool.eq_false_or_eq_true (decide (t2 < 0)) with hb4 | hb4
      · rw [condT hb4] at h
        refine awp_condT (boT hb4) ?_
        refine awr ?_
        refine ado rfl rfl rfl (eas (eV (v := (I 1)) rfl)) ?_
        refine ake [0, 2, 3, 10, 11] 1 0 (st' := ⟨75, 0, [(0, (SL 5 cNd t0)), (2, (I t2)), (3, (S t3)), (10, (LP 0 0)), (11, (I 1))], [(c_data_file x1.1)], ⟨0, []⟩⟩) (by kernel_rfl) (by kernel_rfl) ?_
        exact (Exists.intro 1 (And.intro rfl h))
      · rw [condF hb4] at h
        refine awp_condF (boF hb4) ?_
        refine awp_seq ?_
        refine awr ?_
        refine ado rfl rfl rfl (emv (eV (v := (I t2)) rfl)) ?_
        refine ado rfl rfl rfl (ex_bin (vx := (I t2)) (vy := (I 128)) rfl rfl gtrI_ok) ?_
        refine ado rfl rfl rfl (emv (eV (v := (Bo (decide (t2 > 128)))) rfl)) ?_
        refine arun_guard (v := (S t3)) ((decide (t2 > 128)) == false) rfl rfl rfl (fun hc => emv (eV (v := (S t3)) rfl)) ?_
        refine arun_guard (v := (I (t3.length : Int))) ((decide (t2 > 128)) == false) rfl rfl rfl (fun hc => tx_lenS Tryz.underlying9 (cond_of hc)) ?_
        refine arun_guard (v := (I t2)) ((decide (t2 > 128)) == false) rfl rfl rfl (fun hc => emv (eV (v := (I t2)) rfl)) ?_
        refine arun_guard (v := (I (w64 (128 - t2)))) ((decide (t2 > 128)) == false) rfl rfl rfl (fun hc => ex_bin (vx := (I 128)) (vy := (I t2)) rfl (cond_of hc) subI_ok) ?_
        refine arun_guard (v := (Bo (decide ((t3.length : Int) > (w64 (128 - t2)))))) ((decide (t2 > 128)) == false) rfl rfl rfl (fun hc => ex_bin (vx := (I (t3.length : Int))) (vy := (I (w64 (128 - t2)))) (cond_of hc) (cond_of hc) gtrI_ok) ?_
        refine ado rfl rfl rfl (ex_pick rfl pkOr) ?_
        refine ado rfl rfl rfl (eas (eV (v := (Bo ((decide (t2 > 128)) || (decide ((t3.length : Int) > (w64 (128 - t2))))))) rfl)) ?_
        refine ake [0, 2, 3, 10, 11, 25] 1 0 (st' := ⟨75, 0, [(0, (SL 5 cNd t0)), (2, (I t2)), (3, (S t3)), (10, (LP 0 0)), (11, (I x1.2)), (25, (Bo ((decide (t2 > 128)) || (decide ((t3.length : Int) > (w64 (128 - t2)))))))], [(c_data_file x1.1)], ⟨0, []⟩⟩) (by kernel_rfl) (by kernel_rfl) ?_
        show AWp _ _ _ _
        rcases Bool.eq_false_or_eq_true ((decide (t2 > 128)) || (decide ((t3.length : Int) > (w64 (128 - t2))))) with hb5 | hb5
        · rw [condT hb5] at h
          refine awp_condT (boT hb5) ?_
          refine awr ?_
          refine ado rfl rfl rfl (eas (eV (v := (I 8)) rfl)) ?_
          refine ake [0, 2, 3, 10, 11] 1 0 (st' := ⟨75, 0, [(0, (SL 5 cNd t0)), (2, (I t2)), (3, (S t3)), (10, (LP 0 0)), (11, (I 8))], [(c_data_file x1.1)], ⟨0, []⟩⟩) (by kernel_rfl) (by kernel_rfl) ?_
          exact (Exists.intro 8 (And.intro rfl h))
        · rw [condF hb5] at h
          refine awp_condF (boF hb5) ?_
          refine awp_keepE [0, 2, 3, 10, 11] 1 0 (st' := ⟨75, 0, [(0, (SL 5 cNd t0)), (2, (I t2)), (3, (S t3)), (10, (LP 0 0)), (11, (I x1.2))], [(c_data_file x1.1)], ⟨0, []⟩⟩) (by kernel_rfl) (by kernel_rfl) ?_
          refine awp_skip ?_
          exact (Exists.intro x1.2 (And.intro rfl h))
  · rintro s ⟨y2, rfl, h⟩
    unfold M_data_Write_k1 at h
    refine awp_seq ?_
    refine awp_seq ?_
    refine awr ?_
    refine ado rfl rfl rfl (emv (eV (v := (I y2)) rfl)) ?_
    refine ado rfl rfl rfl (ex_bin (vx := (I y2)) (vy := (I 0)) rfl rfl neqI_ok) ?_
    refine ado rfl rfl rfl (emv (eV (v := (Bo (y2 != 0))) rfl)) ?_
    refine arun_guard (v := (S t3)) ((y2 != 0) == false) rfl rfl rfl (fun hc => emv (eV (v := (S t3)) rfl)) ?_
    refine arun_guard (v := (Bo (t3 == []))) ((y2 != 0) == false) rfl rfl rfl (fun hc => ex_bin (vx := (S t3)) (vy := (S [])) (cond_of hc) rfl eqlS_ok) ?_
    refine ado rfl rfl rfl (ex_pick rfl pkOr) ?_
    refine ake [0, 2, 3, 10, 11, 40] 1 0 (st' := ⟨75, 0, [(0, (SL 5 cNd t0)), (2, (I t2)), (3, (S t3)), (10, (LP 0 0)), (11, (I y2)), (40, (Bo ((y2 != 0) || (t3 == []))))], [(c_data_file x1.1)], ⟨0, []⟩⟩) (by kernel_rfl) (by kernel_rfl) ?_
    show AWp _ _ _ _
    rcases Bool.eq_false_or_eq_true ((y2 != 0) || (t3 == [])) with hb6 | hb6
    · rw [condT hb6] at h
      refine awp_condT (boT hb6) ?_
      refine awp_seq ?_
      refine awr ?_
      refine ado rfl rfl rfl (emv (eV (v := (SL 5 cNd t0)) rfl)) ?_
      obtain ⟨x7, hx7, h⟩ := bindS h
      refine ado rfl rfl rfl (ex_call0 (vs := [(SL 5 cNd t0)]) (v := (SL 5 cNd x7)) rfl en_25 (cargs (evs rfl evs_nil)) rfl (ok_slices_Clone_api_Set_api_Node t0 x7 hx7) rfl) ?_
      refine ado rfl rfl rfl (emv (eV (v := (I y2)) rfl)) ?_
      refine ado rfl rfl rfl (eas (eV (v := (SL 5 cNd x7)) rfl)) ?_
      refine ado rfl rfl rfl (eas (eV (v := (I y2)) rfl)) ?_
      refine ake [8, 9] 0 0 (st' := ⟨75, 0, [(8, (SL 5 cNd x7)), (9, (I y2))], [], ⟨0, []⟩⟩) (by kernel_rfl) (by kernel_rfl) ?_
      show AWp _ _ _ _
      refine awp_ret ?_
      cases h
      exact aresN rfl (L2.cons (rtmp rfl (eV rfl)) (L2.cons (rtmp rfl (eV rfl)) L2.nil)) rfl
    · rw [condF hb6] at h
      refine awp_condF (boF hb6) ?_
      refine awp_skip ?_
      show AWp _ _ _ _
      refine awp_seq ?_
      obtain ⟨x8, hx8, h⟩ := bindS h
      obtain ⟨x9, hx9, h⟩ := bindS h
      refine awp_kn [0, 2, 3, 10, 12] 1 0 (st' := ⟨75, 0, [(0, (SL 5 cNd t0)), (2, (I t2)), (3, (S t3)), (10, (LP 0 0)), (12, (S x9))], [(c_data_file x1.1)], ⟨0, []⟩⟩) (awp_draw (T := [(LP 0 0), (LP 0 3), (S x1.1.Node.Body), (I t2), (LP 0 0), (LP 0 3), (S x1.1.Node.Body), (I (x1.1.Node.Body.length : Int)), (I (w64 (t2 - (x1.1.Node.Body.length : Int)))), (S x8), (S x9), (S x9)]) (LH := [([(c_data_file x1.1)], ⟨0, []⟩)]) (D := [⟨[(10, none)], [], [0], false⟩, ⟨[(44, some 0)], [0], [0], false⟩, ⟨[(45, some 1)], [0, 1], [0], false⟩, ⟨[(2, none)], [], [0], false⟩, ⟨[(10, none)], [], [0], false⟩, ⟨[(48, some 4)], [4], [0], false⟩, ⟨[(49, some 5)], [4, 5], [0], false⟩, ⟨[(50, some 6)], [4, 5, 6], [0], false⟩, ⟨[(47, some 3), (51, some 7)], [3, 4, 5, 6, 7], [0], false⟩, ⟨[(52, some 8)], [3, 4, 5, 6, 7, 8], [0], false⟩, ⟨[(46, some 2), (53, some 9)], [0, 1, 2, 3, 4, 5, 6, 7, 8, 9], [0], false⟩, ⟨[(54, some 10)], [0, 1, 2, 3, 4, 5, 6, 7, 8, 9, 10], [0], false⟩]) (S := []) (plan := [0, 1, 2, 3, 4, 5, 6, 7, 8, 9, 10, 11]) mo (by kernel_rfl) rfl rfl rfl (dcons (dstep1 (Tm := [(10, (LP 0 0))]) (L := [(c_data_file x1.1)]) (H := ⟨0, []⟩) rfl rfl rfl rfl rfl (astep_do rfl (ex_fieldAddr (v := (LP 0 0)) Tryz.underlying61 rfl s_38 (by decide) rfl rfl))) (dcons (dstep1 (Tm := [(44, (LP 0 0))]) (L := [(c_data_file x1.1)]) (H := ⟨0, []⟩) rfl rfl rfl rfl rfl (astep_do rfl (ex_fieldAddr (v := (LP 0 3)) Tryz.underlying38 rfl s_9 (by decide) rfl rfl))) (dcons (dstep1 (Tm := [(45, (LP 0 3))]) (L := [(c_data_file x1.1)]) (H := ⟨0, []⟩) rfl rfl rfl rfl rfl (astep_do rfl (tx_ldL1 (v := (S x1.1.Node.Body)) Tryz.underlying9 rfl rfl rfl rfl))) (dcons (dstep1 (Tm := [(2, (I t2))]) (L := [(c_data_file x1.1)]) (H := ⟨0, []⟩) rfl rfl rfl rfl rfl (astep_do rfl (emv (eV (v := (I t2)) rfl)))) (dcons (dstep1 (Tm := [(10, (LP 0 0))]) (L := [(c_data_file x1.1)]) (H := ⟨0, []⟩) rfl rfl rfl rfl rfl (astep_do rfl (ex_fieldAddr (v := (LP 0 0)) Tryz.underlying61 rfl s_38 (by decide) rfl rfl))) (dcons (dstep1 (Tm := [(48, (LP 0 0))]) (L := [(c_data_file x1.1)]) (H := ⟨0, []⟩) rfl rfl rfl rfl rfl (astep_do rfl (ex_fieldAddr (v := (LP 0 3)) Tryz.underlying38 rfl s_9 (by decide) rfl rfl))) (dcons (dstep1 (Tm := [(49, (LP 0 3))]) (L := [(c_data_file x1.1)]) (H := ⟨0, []⟩) rfl rfl rfl rfl rfl (astep_do rfl (tx_ldL1 (v := (S x1.1.Node.Body)) Tryz.underlying9 rfl rfl rfl rfl))) (dcons (dstep1 (Tm := [(50, (S x1.1.Node.Body))]) (L := [(c_data_file x1.1)]) (H := ⟨0, []⟩) rfl rfl rfl rfl rfl (astep_do rfl (tx_lenS Tryz.underlying9 rfl))) (dcons (dstep1 (Tm := [(47, (I t2)), (51, (I (x1.1.Node.Body.length : Int)))]) (L := [(c_data_file x1.1)]) (H := ⟨0, []⟩) rfl rfl rfl rfl rfl (astep_do rfl (ex_bin (vx := (I t2)) (vy := (I (x1.1.Node.Body.length : Int))) rfl rfl subI_ok))) (dcons (dstep1 (Tm := [(52, (I (w64 (t2 - (x1.1.Node.Body.length : Int)))))]) (L := [(c_data_file x1.1)]) (H := ⟨0, []⟩) rfl rfl rfl rfl rfl (astep_do rfl (ex_call0 (vs := [(I (w64 (t2 - (x1.1.Node.Body.length : Int))))]) (v := (S x8)) rfl en_26 (cargs (evs rfl evs_nil)) rfl (ok_data_noughts (w64 (t2 - (x1.1.Node.Body.length : Int))) x8 hx8) rfl))) (dcons (dstep1 (Tm := [(46, (S x1.1.Node.Body)), (53, (S x8))]) (L := [(c_data_file x1.1)]) (H := ⟨0, []⟩) rfl rfl rfl rfl rfl (astep_do rfl (ex_bin (vx := (S x1.1.Node.Body)) (vy := (S x8)) rfl rfl (addS_ok hx9)))) (dcons (dstep1 (Tm := [(54, (S x9))]) (L := [(c_data_file x1.1)]) (H := ⟨0, []⟩) rfl rfl rfl rfl rfl (astep_do rfl (eas (eV (v := (S x9)) rfl)))) dnil)))))))))))) ⟨rfl, rfl⟩) (by kernel_rfl) (by kernel_rfl) ?_
      show AWp _ _ _ _
      refine awp_seq ?_
      obtain ⟨x10, hx10, h⟩ := bindS h
      obtain ⟨x11, hx11, h⟩ := bindS h
      obtain ⟨x12, hx12, h⟩ := bindS h
      obtain ⟨x13, hx13, h⟩ := bindS h
      refine awp_kn [0, 10] 1 0 (st' := ⟨75, 0, [(0, (SL 5 cNd t0)), (10, (LP 0 0))], [(c_data_file (G_data_file.mk (G_api_Node.mk x1.1.Node.Kind x1.1.Node.Up x1.1.Node.Name x13 x1.1.Node.Bad) x1.1.n))], ⟨0, []⟩⟩) (awp_draw (T := [(S x9), (I t2), (S x10), (S t3), (S x11), (S x9), (I t2), (S t3), (I (t3.length : Int)), (I (w64 (t2 + (t3.length : Int)))), (S x9), (I (x9.length : Int)), (I (min (w64 (t2 + (t3.length : Int))) (x9.length : Int))), (S x12), (S x13), (LP 0 0), (LP 0 3), undef]) (LH := [([(c_data_file x1.1)], ⟨0, []⟩), ([(c_data_file (G_data_file.mk (G_api_Node.mk x1.1.Node.Kind x1.1.Node.Up x1.1.Node.Name x13 x1.1.Node.Bad) x1.1.n))], ⟨0, []⟩)]) (D := [⟨[(12, none)], [], [0], false⟩, ⟨[(2, none)], [], [0], false⟩, ⟨[(55, some 0), (56, some 1)], [0, 1], [0], false⟩, ⟨[(3, none)], [], [0], false⟩, ⟨[(57, some 2), (58, some 3)], [0, 1, 2, 3], [0], false⟩, ⟨[(12, none)], [], [0], false⟩, ⟨[(2, none)], [], [0], false⟩, ⟨[(3, none)], [], [0], false⟩, ⟨[(62, some 7)], [7], [0], false⟩, ⟨[(61, some 6), (63, some 8)], [6, 7, 8], [0], false⟩, ⟨[(12, none)], [], [0], false⟩, ⟨[(65, some 10)], [10], [0], false⟩, ⟨[(64, some 9), (66, some 11)], [6, 7, 8, 9, 10, 11], [0], false⟩, ⟨[(60, some 5), (67, some 12)], [5, 6, 7, 8, 9, 10, 11, 12], [0], false⟩, ⟨[(59, some 4), (68, some 13)], [0, 1, 2, 3, 4, 5, 6, 7, 8, 9, 10, 11, 12, 13], [0], false⟩, ⟨[(10, none)], [0, 1, 2, 3, 4, 5, 6, 7, 8, 9, 10, 11, 12, 13, 14], [0], false⟩, ⟨[(70, some 15)], [0, 1, 2, 3, 4, 5, 6, 7, 8, 9, 10, 11, 12, 13, 14, 15], [0], false⟩, ⟨[(71, some 16), (69, some 14)], [0, 1, 2, 3, 4, 5, 6, 7, 8, 9, 10, 11, 12, 13, 14, 15, 16], [0], true⟩]) (S := [17]) (plan := [0, 1, 2, 3, 4, 5, 6, 7, 8, 9, 10, 11, 12, 13, 14, 15, 16, 17]) mo (by kernel_rfl) rfl rfl rfl (dcons (dstep1 (Tm := [(12, (S x9))]) (L := [(c_data_file x1.1)]) (H := ⟨0, []⟩) rfl rfl rfl rfl rfl (astep_do rfl (emv (eV (v := (S x9)) rfl)))) (dcons (dstep1 (Tm := [(2, (I t2))]) (L := [(c_data_file x1.1)]) (H := ⟨0, []⟩) rfl rfl rfl rfl rfl (astep_do rfl (emv (eV (v := (I t2)) rfl)))) (dcons (dstep1 (Tm := [(55, (S x9)), (56, (I t2))]) (L := [(c_data_file x1.1)]) (H := ⟨0, []⟩) rfl rfl rfl rfl rfl (astep_do rfl (tx_slS (u := x9) Tryz.underlying9 rfl lo0 (hiX (l := t2) rfl) hx10))) (dcons (dstep1 (Tm := [(3, (S t3))]) (L := [(c_data_file x1.1)]) (H := ⟨0, []⟩) rfl rfl rfl rfl rfl (astep_do rfl (emv (eV (v := (S t3)) rfl)))) (dcons (dstep1 (Tm := [(57, (S x10)), (58, (S t3))]) (L := [(c_data_file x1.1)]) (H := ⟨0, []⟩) rfl rfl rfl rfl rfl (astep_do rfl (ex_bin (vx := (S x10)) (vy := (S t3)) rfl rfl (addS_ok hx11)))) (dcons (dstep1 (Tm := [(12, (S x9))]) (L := [(c_data_file x1.1)]) (H := ⟨0, []⟩) rfl rfl rfl rfl rfl (astep_do rfl (emv (eV (v := (S x9)) rfl)))) (dcons (dstep1 (Tm := [(2, (I t2))]) (L := [(c_data_file x1.1)]) (H := ⟨0, []⟩) rfl rfl rfl rfl rfl (astep_do rfl (emv (eV (v := (I t2)) rfl)))) (dcons (dstep1 (Tm := [(3, (S t3))]) (L := [(c_data_file x1.1)]) (H := ⟨0, []⟩) rfl rfl rfl rfl rfl (astep_do rfl (emv (eV (v := (S t3)) rfl)))) (dcons (dstep1 (Tm := [(62, (S t3))]) (L := [(c_data_file x1.1)]) (H := ⟨0, []⟩) rfl rfl rfl rfl rfl (astep_do rfl (tx_lenS Tryz.underlying9 rfl))) (dcons (dstep1 (Tm := [(61, (I t2)), (63, (I (t3.length : Int)))]) (L := [(c_data_file x1.1)]) (H := ⟨0, []⟩) rfl rfl rfl rfl rfl (astep_do rfl (ex_bin (vx := (I t2)) (vy := (I (t3.length : Int))) rfl rfl addI_ok))) (dcons (dstep1 (Tm := [(12, (S x9))]) (L := [(c_data_file x1.1)]) (H := ⟨0, []⟩) rfl rfl rfl rfl rfl (astep_do rfl (emv (eV (v := (S x9)) rfl)))) (dcons (dstep1 (Tm := [(65, (S x9))]) (L := [(c_data_file x1.1)]) (H := ⟨0, []⟩) rfl rfl rfl rfl rfl (astep_do rfl (tx_lenS Tryz.underlying9 rfl))) (dcons (dstep1 (Tm := [(64, (I (w64 (t2 + (t3.length : Int))))), (66, (I (x9.length : Int)))]) (L := [(c_data_file x1.1)]) (H := ⟨0, []⟩) rfl rfl rfl rfl rfl (astep_do rfl (ex_min (m := (w64 (t2 + (t3.length : Int)))) (n := (x9.length : Int)) rfl rfl))) (dcons (dstep1 (Tm := [(60, (S x9)), (67, (I (min (w64 (t2 + (t3.length : Int))) (x9.length : Int))))]) (L := [(c_data_file x1.1)]) (H := ⟨0, []⟩) rfl rfl rfl rfl rfl (astep_do rfl (tx_slS (u := x9) Tryz.underlying9 rfl (loX (l := (min (w64 (t2 + (t3.length : Int))) (x9.length : Int))) rfl) hiN hx12))) (dcons (dstep1 (Tm := [(59, (S x11)), (68, (S x12))]) (L := [(c_data_file x1.1)]) (H := ⟨0, []⟩) rfl rfl rfl rfl rfl (astep_do rfl (ex_bin (vx := (S x11)) (vy := (S x12)) rfl rfl (addS_ok hx13)))) (dcons (dstep1 (Tm := [(10, (LP 0 0))]) (L := [(c_data_file x1.1)]) (H := ⟨0, []⟩) rfl rfl rfl rfl rfl (astep_do rfl (ex_fieldAddr (v := (LP 0 0)) Tryz.underlying61 rfl s_38 (by decide) rfl rfl))) (dcons (dstep1 (Tm := [(70, (LP 0 0))]) (L := [(c_data_file x1.1)]) (H := ⟨0, []⟩) rfl rfl rfl rfl rfl (astep_do rfl (ex_fieldAddr (v := (LP 0 3)) Tryz.underlying38 rfl s_9 (by decide) rfl rfl))) (dcons (dstep1 (Tm := [(71, (LP 0 3)), (69, (S x13))]) (L := [(c_data_file x1.1)]) (H := ⟨0, []⟩) rfl rfl rfl rfl rfl (astep_do rfl (ex_storeL (vy := (S x13)) (cs := (c_data_file x1.1)) (vs := [(S x13)]) (L' := [(c_data_file (G_data_file.mk (G_api_Node.mk x1.1.Node.Kind x1.1.Node.Up x1.1.Node.Name x13 x1.1.Node.Bad) x1.1.n))]) rfl (eV (v := (S x13)) rfl) rfl s_9 rfl (Nat.le_of_ble_eq_true rfl) (by kernel_rfl)))) dnil)))))))))))))))))) ⟨rfl, rfl⟩) (by kernel_rfl) (by kernel_rfl) ?_
      show AWp _ _ _ _
      refine awp_seq ?_
      refine awr ?_
      refine ado rfl rfl rfl (tx_ldLA (vs := (c_data_file (G_data_file.mk (G_api_Node.mk x1.1.Node.Kind x1.1.Node.Up x1.1.Node.Name x13 x1.1.Node.Bad) x1.1.n))) Tryz.underlying61 rfl s_61 (by decide) rfl rfl rfl rfl) ?_
      refine ado rfl rfl rfl (emv (eV (v := (SL 5 cNd t0)) rfl)) ?_
      obtain ⟨x14, hx14, h⟩ := bindS h
      refine ado rfl rfl rfl (ex_call0 (vs := [(Value.agg (c_data_file (G_data_file.mk (G_api_Node.mk x1.1.Node.Kind x1.1.Node.Up x1.1.Node.Name x13 x1.1.Node.Bad) x1.1.n)).toArray), (SL 5 cNd t0)]) (v := (SL 5 cNd x14)) rfl en_27 (cargs (evs rfl (evs rfl evs_nil))) rfl (ok_data_file_with (G_data_file.mk (G_api_Node.mk x1.1.Node.Kind x1.1.Node.Up x1.1.Node.Name x13 x1.1.Node.Bad) x1.1.n) t0 x14 hx14) rfl) ?_
      refine ado rfl rfl rfl (eas (eV (v := (SL 5 cNd x14)) rfl)) ?_
      refine ado rfl rfl rfl (eas (eV (v := (I 0)) rfl)) ?_
      refine ake [8, 9] 0 0 (st' := ⟨75, 0, [(8, (SL 5 cNd x14)), (9, (I 0))], [], ⟨0, []⟩⟩) (by kernel_rfl) (by kernel_rfl) ?_
      show AWp _ _ _ _
      refine awp_ret ?_
      cases h
      exact aresN rfl (L2.cons (rtmp rfl (eV rfl)) (L2.cons (rtmp rfl (eV rfl)) L2.nil)) rfl

end Go.Proofs
