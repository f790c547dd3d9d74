/- Pure models of functions of the program, and that its code does what they say: palimpmade Done, palimpmade Picks Grown, palimpmade Picks Set, palimpref11 Same. Written by a program. -/
import Derived.Test.YtjdlpipeagjnfaaGreatDoorRDO0
import Derived.Test.YtjdlpipeagjnfaaGreatDoorRDO11
import Derived.Test.YtjdlpipeagjnfaaGreatDoorRDO12
import Derived.Test.YtjdlpipeagjnfaaGreatDoorRDO13
import Derived.Test.YtjdlpipeagjnfaaGreatDoorRDO14
import Derived.Test.YtjdlpipeagjnfaaGreatDoorRDO2
import Derived.Test.YtjdlpipeagjnfaaGreatDoorRDOB
set_option maxRecDepth 20000
set_option maxHeartbeats 4000000
namespace Go.Proofs
open Go Go.Fhl
set_option linter.unusedVariables false
set_option linter.unusedSimpArgs false
noncomputable def M_made_Done (t0 : (List G_api_Node)) (t1 : G_api_Step) : Option ((List G_api_Node) × Int) :=
  cond (t1.Kind == 1) (Option.bind (M_ref11_Make t0 t1.Path t1.N) fun (x2 : ((List G_api_Node) × Int)) => some (x2.1, x2.2)) (cond (t1.Kind == 2) (Option.bind (M_ref11_Drop t0 t1.Path) fun (x4 : ((List G_api_Node) × Int)) => some (x4.1, x4.2)) (cond (t1.Kind == 3) (Option.bind (M_ref11_Move t0 t1.Path t1.To) fun (x6 : ((List G_api_Node) × Int)) => some (x6.1, x6.2)) (cond (t1.Kind == 4) (Option.bind (M_ref11_Write t0 t1.Path t1.N t1.Text) fun (x8 : ((List G_api_Node) × Int)) => some (x8.1, x8.2)) (Option.bind (M_ref11_Cut t0 t1.Path t1.N) fun (x9 : ((List G_api_Node) × Int)) => some (x9.1, x9.2)))))
theorem ok_made_Done (t0 : (List G_api_Node)) (t1 : G_api_Step) (r : ((List G_api_Node) × Int)) (h : M_made_Done t0 t1 = some r) : FFn Tryz.prog 39 [(SL 5 cNd t0), (Value.agg (c_api_Step t1).toArray)] (Value.tuple #[(SL 5 cNd r.1), (I r.2)]) := by
  refine FFn.of_body (n := 56) Tryz.func39 rfl Tryz.ntmps39 rfl rfl rfl rfl ?_
  show AWp _ _ _ ⟨56, 0, [(0, (SL 5 cNd t0)), (1, (Value.agg (c_api_Step t1).toArray))], [], ⟨0, []⟩⟩
  unfold M_made_Done at h
  refine awp_seq ?_
  refine awr ?_
  refine ado rfl rfl rfl (ex_box (vx := (Value.agg (c_api_Step t1).toArray)) (cs := (c_api_Step t1)) (k := 0) (L' := [(c_api_Step t1)]) (eV (v := (Value.agg (c_api_Step t1).toArray)) rfl) rfl rfl rfl) ?_
  refine ado rfl rfl rfl (eas (eV (v := (Value.slice none 0 0)) rfl)) ?_
  refine ado rfl rfl rfl (eas (eV (v := (I 0)) rfl)) ?_
  refine ake [0, 3] 1 0 (st' := ⟨56, 0, [(0, (SL 5 cNd t0)), (3, (LP 0 0))], [(c_api_Step t1)], ⟨0, []⟩⟩) (by kernel_rfl) (by kernel_rfl) ?_
  show AWp _ _ _ _
  refine awp_seq ?_
  refine awp_seq ?_
  refine awr ?_
  refine ado rfl rfl rfl (ex_fieldAddr (v := (LP 0 0)) Tryz.underlying79 rfl s_3 (by decide) rfl rfl) ?_
  refine ado rfl rfl rfl (tx_ldL1 (v := (I t1.Kind)) Tryz.underlying3 rfl rfl rfl rfl) ?_
  refine ake [0, 3, 7] 1 0 (st' := ⟨56, 0, [(0, (SL 5 cNd t0)), (3, (LP 0 0)), (7, (I t1.Kind))], [(c_api_Step t1)], ⟨0, []⟩⟩) (by kernel_rfl) (by kernel_rfl) ?_
  show AWp _ _ _ _
  refine awp_block ?_
  refine awp_seq ?_
  refine awr ?_
  refine ado rfl rfl rfl (ex_bin (vx := (I t1.Kind)) (vy := (I 1)) rfl rfl eqlI_ok) ?_
  refine ado rfl rfl rfl (eas (eV (v := (Bo (t1.Kind == 1))) rfl)) ?_
  refine ake [0, 3, 7, 8] 1 0 (st' := ⟨56, 0, [(0, (SL 5 cNd t0)), (3, (LP 0 0)), (7, (I t1.Kind)), (8, (Bo (t1.Kind == 1)))], [(c_api_Step t1)], ⟨0, []⟩⟩) (by kernel_rfl) (by kernel_rfl) ?_
  show AWp _ _ _ _
  rcases Bool.eq_false_or_eq_true (t1.Kind == 1) with hb1 | hb1
  · rw [condT hb1] at h
    refine awp_condT (boT hb1) ?_
    refine awp_seq ?_
    refine awr ?_
    refine ado rfl rfl rfl (emv (eV (v := (SL 5 cNd t0)) rfl)) ?_
    refine ado rfl rfl rfl (ex_fieldAddr (v := (LP 0 5)) Tryz.underlying79 rfl s_9 (by decide) rfl rfl) ?_
    refine ado rfl rfl rfl (tx_ldL1 (v := (S t1.Path)) Tryz.underlying9 rfl rfl rfl rfl) ?_
    refine ado rfl rfl rfl (ex_fieldAddr (v := (LP 0 2)) Tryz.underlying79 rfl s_3 (by decide) rfl rfl) ?_
    refine ado rfl rfl rfl (tx_ldL1 (v := (I t1.N)) Tryz.underlying3 rfl rfl rfl rfl) ?_
    obtain ⟨x2, hx2, h⟩ := bindS h
    refine ado rfl rfl rfl (ex_call0 (vs := [(SL 5 cNd t0), (S t1.Path), (I t1.N)]) (v := (Value.tuple #[(SL 5 cNd x2.1), (I x2.2)])) rfl en_13 (cargs (evs rfl (evs rfl (evs rfl evs_nil)))) rfl (ok_ref11_Make t0 t1.Path t1.N x2 hx2) rfl) ?_
    refine ado rfl rfl rfl (ex_extract (vx := (Value.tuple #[(SL 5 cNd x2.1), (I x2.2)])) (v := (SL 5 cNd x2.1)) rfl rfl) ?_
    refine ado rfl rfl rfl (ex_extract (vx := (Value.tuple #[(SL 5 cNd x2.1), (I x2.2)])) (v := (I x2.2)) rfl rfl) ?_
    refine ado rfl rfl rfl (eas (eV (v := (SL 5 cNd x2.1)) rfl)) ?_
    refine ado rfl rfl rfl (eas (eV (v := (I x2.2)) rfl)) ?_
    refine ake [4, 5] 0 0 (st' := ⟨56, 0, [(4, (SL 5 cNd x2.1)), (5, (I x2.2))], [], ⟨0, []⟩⟩) (by kernel_rfl) (by kernel_rfl) ?_
    show AWp _ _ _ _
    refine awp_ret ?_
    cases h
    exact aresN rfl (L2.cons (rtmp rfl (eV rfl)) (L2.cons (rtmp rfl (eV rfl)) L2.nil)) rfl
  · rw [condF hb1] at h
    refine awp_condF (boF hb1) ?_
    refine awp_seq ?_
    refine awr ?_
    refine ado rfl rfl rfl (ex_bin (vx := (I t1.Kind)) (vy := (I 2)) rfl rfl eqlI_ok) ?_
    refine ado rfl rfl rfl (eas (eV (v := (Bo (t1.Kind == 2))) rfl)) ?_
    refine ake [0, 3, 7, 18] 1 0 (st' := ⟨56, 0, [(0, (SL 5 cNd t0)), (3, (LP 0 0)), (7, (I t1.Kind)), (18, (Bo (t1.Kind == 2)))], [(c_api_Step t1)], ⟨0, []⟩⟩) (by kernel_rfl) (by kernel_rfl) ?_
    show AWp _ _ _ _
    rcases Bool.eq_false_or_eq_true (t1.Kind == 2) with hb3 | hb3
    · rw [condT hb3] at h
      refine awp_condT (boT hb3) ?_
      refine awp_seq ?_
      refine awr ?_
      refine ado rfl rfl rfl (emv (eV (v := (SL 5 cNd t0)) rfl)) ?_
      refine ado rfl rfl rfl (ex_fieldAddr (v := (LP 0 5)) Tryz.underlying79 rfl s_9 (by decide) rfl rfl) ?_
      refine ado rfl rfl rfl (tx_ldL1 (v := (S t1.Path)) Tryz.underlying9 rfl rfl rfl rfl) ?_
      obtain ⟨x4, hx4, h⟩ := bindS h
      refine ado rfl rfl rfl (ex_call0 (vs := [(SL 5 cNd t0), (S t1.Path)]) (v := (Value.tuple #[(SL 5 cNd x4.1), (I x4.2)])) rfl en_52 (cargs (evs rfl (evs rfl evs_nil))) rfl (ok_ref11_Drop t0 t1.Path x4 hx4) rfl) ?_
      refine ado rfl rfl rfl (ex_extract (vx := (Value.tuple #[(SL 5 cNd x4.1), (I x4.2)])) (v := (SL 5 cNd x4.1)) rfl rfl) ?_
      refine ado rfl rfl rfl (ex_extract (vx := (Value.tuple #[(SL 5 cNd x4.1), (I x4.2)])) (v := (I x4.2)) rfl rfl) ?_
      refine ado rfl rfl rfl (eas (eV (v := (SL 5 cNd x4.1)) rfl)) ?_
      refine ado rfl rfl rfl (eas (eV (v := (I x4.2)) rfl)) ?_
      refine ake [4, 5] 0 0 (st' := ⟨56, 0, [(4, (SL 5 cNd x4.1)), (5, (I x4.2))], [], ⟨0, []⟩⟩) (by kernel_rfl) (by kernel_rfl) ?_
      show AWp _ _ _ _
      refine awp_ret ?_
      cases h
      exact aresN rfl (L2.cons (rtmp rfl (eV rfl)) (L2.cons (rtmp rfl (eV rfl)) L2.nil)) rfl
    · rw [condF hb3] at h
      refine awp_condF (boF hb3) ?_
      refine awp_seq ?_
      refine awr ?_
      refine ado rfl rfl rfl (ex_bin (vx := (I t1.Kind)) (vy := (I 3)) rfl rfl eqlI_ok) ?_
      refine ado rfl rfl rfl (eas (eV (v := (Bo (t1.Kind == 3))) rfl)) ?_
      refine ake [0, 3, 7, 26] 1 0 (st' := ⟨56, 0, [(0, (SL 5 cNd t0)), (3, (LP 0 0)), (7, (I t1.Kind)), (26, (Bo (t1.Kind == 3)))], [(c_api_Step t1)], ⟨0, []⟩⟩) (by kernel_rfl) (by kernel_rfl) ?_
      show AWp _ _ _ _
      rcases Bool.eq_false_or_eq_true (t1.Kind == 3) with hb5 | hb5
      · rw [condT hb5] at h
        refine awp_condT (boT hb5) ?_
        refine awp_seq ?_
        refine awr ?_
        refine ado rfl rfl rfl (emv (eV (v := (SL 5 cNd t0)) rfl)) ?_
        refine ado rfl rfl rfl (ex_fieldAddr (v := (LP 0 5)) Tryz.underlying79 rfl s_9 (by decide) rfl rfl) ?_
        refine ado rfl rfl rfl (tx_ldL1 (v := (S t1.Path)) Tryz.underlying9 rfl rfl rfl rfl) ?_
        refine ado rfl rfl rfl (ex_fieldAddr (v := (LP 0 6)) Tryz.underlying79 rfl s_9 (by decide) rfl rfl) ?_
        refine ado rfl rfl rfl (tx_ldL1 (v := (S t1.To)) Tryz.underlying9 rfl rfl rfl rfl) ?_
        obtain ⟨x6, hx6, h⟩ := bindS h
        refine ado rfl rfl rfl (ex_call0 (vs := [(SL 5 cNd t0), (S t1.Path), (S t1.To)]) (v := (Value.tuple #[(SL 5 cNd x6.1), (I x6.2)])) rfl en_53 (cargs (evs rfl (evs rfl (evs rfl evs_nil)))) rfl (ok_ref11_Move t0 t1.Path t1.To x6 hx6) rfl) ?_
        refine ado rfl rfl rfl (ex_extract (vx := (Value.tuple #[(SL 5 cNd x6.1), (I x6.2)])) (v := (SL 5 cNd x6.1)) rfl rfl) ?_
        refine ado rfl rfl rfl (ex_extract (vx := (Value.tuple #[(SL 5 cNd x6.1), (I x6.2)])) (v := (I x6.2)) rfl rfl) ?_
        refine ado rfl rfl rfl (eas (eV (v := (SL 5 cNd x6.1)) rfl)) ?_
        refine ado rfl rfl rfl (eas (eV (v := (I x6.2)) rfl)) ?_
        refine ake [4, 5] 0 0 (st' := ⟨56, 0, [(4, (SL 5 cNd x6.1)), (5, (I x6.2))], [], ⟨0, []⟩⟩) (by kernel_rfl) (by kernel_rfl) ?_
        show AWp _ _ _ _
        refine awp_ret ?_
        cases h
        exact aresN rfl (L2.cons (rtmp rfl (eV rfl)) (L2.cons (rtmp rfl (eV rfl)) L2.nil)) rfl
      · rw [condF hb5] at h
        refine awp_condF (boF hb5) ?_
        refine awp_seq ?_
        refine awr ?_
        refine ado rfl rfl rfl (ex_bin (vx := (I t1.Kind)) (vy := (I 4)) rfl rfl eqlI_ok) ?_
        refine ado rfl rfl rfl (eas (eV (v := (Bo (t1.Kind == 4))) rfl)) ?_
        refine ake [0, 3, 36] 1 0 (st' := ⟨56, 0, [(0, (SL 5 cNd t0)), (3, (LP 0 0)), (36, (Bo (t1.Kind == 4)))], [(c_api_Step t1)], ⟨0, []⟩⟩) (by kernel_rfl) (by kernel_rfl) ?_
        show AWp _ _ _ _
        rcases Bool.eq_false_or_eq_true (t1.Kind == 4) with hb7 | hb7
        · rw [condT hb7] at h
          refine awp_condT (boT hb7) ?_
          refine awp_seq ?_
          refine awr ?_
          refine ado rfl rfl rfl (emv (eV (v := (SL 5 cNd t0)) rfl)) ?_
          refine ado rfl rfl rfl (ex_fieldAddr (v := (LP 0 5)) Tryz.underlying79 rfl s_9 (by decide) rfl rfl) ?_
          refine ado rfl rfl rfl (tx_ldL1 (v := (S t1.Path)) Tryz.underlying9 rfl rfl rfl rfl) ?_
          refine ado rfl rfl rfl (ex_fieldAddr (v := (LP 0 2)) Tryz.underlying79 rfl s_3 (by decide) rfl rfl) ?_
          refine ado rfl rfl rfl (tx_ldL1 (v := (I t1.N)) Tryz.underlying3 rfl rfl rfl rfl) ?_
          refine ado rfl rfl rfl (ex_fieldAddr (v := (LP 0 7)) Tryz.underlying79 rfl s_9 (by decide) rfl rfl) ?_
          refine ado rfl rfl rfl (tx_ldL1 (v := (S t1.Text)) Tryz.underlying9 rfl rfl rfl rfl) ?_
          obtain ⟨x8, hx8, h⟩ := bindS h
          refine ado rfl rfl rfl (ex_call0 (vs := [(SL 5 cNd t0), (S t1.Path), (I t1.N), (S t1.Text)]) (v := (Value.tuple #[(SL 5 cNd x8.1), (I x8.2)])) rfl en_54 (cargs (evs rfl (evs rfl (evs rfl (evs rfl evs_nil))))) rfl (ok_ref11_Write t0 t1.Path t1.N t1.Text x8 hx8) rfl) ?_
          refine ado rfl rfl rfl (ex_extract (vx := (Value.tuple #[(SL 5 cNd x8.1), (I x8.2)])) (v := (SL 5 cNd x8.1)) rfl rfl) ?_
          refine ado rfl rfl rfl (ex_extract (vx := (Value.tuple #[(SL 5 cNd x8.1), (I x8.2)])) (v := (I x8.2)) rfl rfl) ?_
          refine ado rfl rfl rfl (eas (eV (v := (SL 5 cNd x8.1)) rfl)) ?_
          refine ado rfl rfl rfl (eas (eV (v := (I x8.2)) rfl)) ?_
          refine ake [4, 5] 0 0 (st' := ⟨56, 0, [(4, (SL 5 cNd x8.1)), (5, (I x8.2))], [], ⟨0, []⟩⟩) (by kernel_rfl) (by kernel_rfl) ?_
          show AWp _ _ _ _
          refine awp_ret ?_
          cases h
          exact aresN rfl (L2.cons (rtmp rfl (eV rfl)) (L2.cons (rtmp rfl (eV rfl)) L2.nil)) rfl
        · rw [condF hb7] at h
          refine awp_condF (boF hb7) ?_
          refine awp_skip ?_
          show AWp _ _ _ _
          refine awp_seq ?_
          refine awr ?_
          refine ado rfl rfl rfl (emv (eV (v := (SL 5 cNd t0)) rfl)) ?_
          refine ado rfl rfl rfl (ex_fieldAddr (v := (LP 0 5)) Tryz.underlying79 rfl s_9 (by decide) rfl rfl) ?_
          refine ado rfl rfl rfl (tx_ldL1 (v := (S t1.Path)) Tryz.underlying9 rfl rfl rfl rfl) ?_
          refine ado rfl rfl rfl (ex_fieldAddr (v := (LP 0 2)) Tryz.underlying79 rfl s_3 (by decide) rfl rfl) ?_
          refine ado rfl rfl rfl (tx_ldL1 (v := (I t1.N)) Tryz.underlying3 rfl rfl rfl rfl) ?_
          obtain ⟨x9, hx9, h⟩ := bindS h
          refine ado rfl rfl rfl (ex_call0 (vs := [(SL 5 cNd t0), (S t1.Path), (I t1.N)]) (v := (Value.tuple #[(SL 5 cNd x9.1), (I x9.2)])) rfl en_55 (cargs (evs rfl (evs rfl (evs rfl evs_nil)))) rfl (ok_ref11_Cut t0 t1.Path t1.N x9 hx9) rfl) ?_
          refine ado rfl rfl rfl (ex_extract (vx := (Value.tuple #[(SL 5 cNd x9.1), (I x9.2)])) (v := (SL 5 cNd x9.1)) rfl rfl) ?_
          refine ado rfl rfl rfl (ex_extract (vx := (Value.tuple #[(SL 5 cNd x9.1), (I x9.2)])) (v := (I x9.2)) rfl rfl) ?_
          refine ado rfl rfl rfl (eas (eV (v := (SL 5 cNd x9.1)) rfl)) ?_
          refine ado rfl rfl rfl (eas (eV (v := (I x9.2)) rfl)) ?_
          refine ake [4, 5] 0 0 (st' := ⟨56, 0, [(4, (SL 5 cNd x9.1)), (5, (I x9.2))], [], ⟨0, []⟩⟩) (by kernel_rfl) (by kernel_rfl) ?_
          show AWp _ _ _ _
          refine awp_ret ?_
          cases h
          exact aresN rfl (L2.cons (rtmp rfl (eV rfl)) (L2.cons (rtmp rfl (eV rfl)) L2.nil)) rfl

noncomputable def M_made_Picks_Grown_l1 (t2 : Int) : Nat → (List G_api_Node) → Int → G_palimpmade_Picks → Option ((List G_api_Node) × G_palimpmade_Picks)
  | 0, _, _, _ => none
  | n1 + 1, v1, v2, v3 =>
  cond ((decide (v2 < t2)) == true) (Option.bind (M_made_Picks_Over v3 ) fun (x4 : (Bool × G_palimpmade_Picks)) => cond ((decide (v2 < t2)) && (!x4.1)) (Option.bind (M_made_Picks_Edit x4.2 1) fun (x6 : (G_api_Step × G_palimpmade_Picks)) => Option.bind (M_made_Done v1 x6.1) fun (x7 : ((List G_api_Node) × Int)) => (M_made_Picks_Grown_l1 t2 n1) x7.1 (w64 (v2 + 1)) x6.2) (some (v1, x4.2))) (cond (decide (v2 < t2)) (Option.bind (M_made_Picks_Edit v3 1) fun (x5 : (G_api_Step × G_palimpmade_Picks)) => Option.bind (M_made_Done v1 x5.1) fun (x6 : ((List G_api_Node) × Int)) => (M_made_Picks_Grown_l1 t2 n1) x6.1 (w64 (v2 + 1)) x5.2) (some (v1, v3)))
noncomputable def M_made_Picks_Grown (t0 : G_palimpmade_Picks) (t1 : (List G_api_Node)) (t2 : Int) : Option ((List G_api_Node) × G_palimpmade_Picks) :=
  M_made_Picks_Grown_l1 t2 fuel t1 0 t0
theorem ok_made_Picks_Grown (t0 : G_palimpmade_Picks) (t1 : (List G_api_Node)) (t2 : Int) (r : ((List G_api_Node) × G_palimpmade_Picks)) (h : M_made_Picks_Grown t0 t1 t2 = some r) : F1n Tryz.prog 20 [(NP 0 0), (SL 5 cNd t1), (I t2)] ⟨1, (cPk t0), false⟩ (SL 5 cNd r.1) ⟨1, (cPk r.2), false⟩ := by
  refine F1n.of_body (n := 26) Tryz.func20 rfl Tryz.ntmps20 rfl rfl rfl rfl ?_
  show AWp _ _ _ ⟨26, 1, [(0, (NP 0 0)), (1, (SL 5 cNd t1)), (2, (I t2))], [], ⟨1, [(0, ⟨1, (cPk t0), false⟩)]⟩⟩
  unfold M_made_Picks_Grown at h
  refine awp_seq ?_
  refine awr ?_
  refine ado rfl rfl rfl (eas (eV (v := (Value.slice none 0 0)) rfl)) ?_
  refine ake [0, 1, 2] 0 1 (st' := ⟨26, 1, [(0, (NP 0 0)), (1, (SL 5 cNd t1)), (2, (I t2))], [], ⟨1, [(0, ⟨1, (cPk t0), false⟩)]⟩⟩) (by kernel_rfl) (by kernel_rfl) ?_
  show AWp _ _ _ _
  refine awp_seq ?_
  refine awp_seq ?_
  refine awr ?_
  refine ado rfl rfl rfl (eas (eV (v := (I 0)) rfl)) ?_
  refine ake [0, 1, 2, 7] 0 1 (st' := ⟨26, 1, [(0, (NP 0 0)), (1, (SL 5 cNd t1)), (2, (I t2)), (7, (I 0))], [], ⟨1, [(0, ⟨1, (cPk t0), false⟩)]⟩⟩) (by kernel_rfl) (by kernel_rfl) ?_
  show AWp _ _ _ _
  refine awp_block ?_
  refine awp_loop (fun n s => ∃ (v1 : (List G_api_Node)) (v2 : Int) (v3 : G_palimpmade_Picks), s = ⟨26, 1, [(0, (NP 0 0)), (1, (SL 5 cNd v1)), (2, (I t2)), (7, (I v2))], [], ⟨1, [(0, ⟨1, (cPk v3), false⟩)]⟩⟩ ∧ M_made_Picks_Grown_l1 t2 n v1 v2 v3 = some r) fuel (Exists.intro t1 (Exists.intro 0 (Exists.intro t0 (And.intro rfl h)))) ?_
  rintro n s ⟨v1, v2, v3, rfl, h⟩ -
  cases n with
  | zero => cases h
  | succ n1 =>
    unfold M_made_Picks_Grown_l1 at h
    refine awp_seq ?_
    refine awp_seq ?_
    rcases Bool.eq_false_or_eq_true ((decide (v2 < t2)) == true) with hg2_0 | hg2_0
    · rw [condT hg2_0] at h
      refine awr ?_
      refine ado rfl rfl rfl (emv (eV (v := (I v2)) rfl)) ?_
      refine ado rfl rfl rfl (emv (eV (v := (I t2)) rfl)) ?_
      refine ado rfl rfl rfl (ex_bin (vx := (I v2)) (vy := (I t2)) rfl rfl lssI_ok) ?_
      refine ado rfl rfl rfl (emv (eV (v := (Bo (decide (v2 < t2)))) rfl)) ?_
      refine ado rfl rfl (gT rfl hg2_0) (emv (eV (v := (NP 0 0)) rfl)) ?_
      obtain ⟨x4, hx4, h⟩ := bindS h
      refine ado rfl rfl (gT rfl hg2_0) (ex_call1 (vs := [(NP 0 0)]) (vs' := [(NP 0 0)]) (v := (Bo x4.1)) (n := 0) (b := ⟨1, (cPk v3), false⟩) (b' := ⟨1, (cPk x4.2), false⟩) (H' := ⟨1, [(0, ⟨1, (cPk x4.2), false⟩)]⟩) rfl en_38 (cargs (evs rfl evs_nil)) rfl rfl (.cons (.inr ⟨_, rfl, rfl⟩) .nil) (ok_made_Picks_Over v3  x4 hx4) rfl rfl) ?_
      refine ado rfl rfl (gT rfl hg2_0) (ex_un (vx := (Bo x4.1)) rfl notB_ok) ?_
      refine ado rfl rfl rfl (ex_pick rfl pkAndD) ?_
      refine ake [0, 1, 2, 7, 15] 0 1 (st' := ⟨26, 1, [(0, (NP 0 0)), (1, (SL 5 cNd v1)), (2, (I t2)), (7, (I v2)), (15, (Bo ((decide (v2 < t2)) && (!x4.1))))], [], ⟨1, [(0, ⟨1, (cPk x4.2), false⟩)]⟩⟩) (by kernel_rfl) (by kernel_rfl) ?_
      show AWp _ _ _ _
      rcases Bool.eq_false_or_eq_true ((decide (v2 < t2)) && (!x4.1)) with hb5 | hb5
      · rw [condT hb5] at h
        refine awp_condT (boT hb5) ?_
        refine awp_skip ?_
        show AWp _ _ _ _
        refine awp_seq ?_
        refine awp_block ?_
        refine awr ?_
        refine ado rfl rfl rfl (emv (eV (v := (SL 5 cNd v1)) rfl)) ?_
        refine ado rfl rfl rfl (emv (eV (v := (NP 0 0)) rfl)) ?_
        obtain ⟨x6, hx6, h⟩ := bindS h
        refine ado rfl rfl rfl (ex_call1 (vs := [(NP 0 0), (I 1)]) (vs' := [(NP 0 0), (I 1)]) (v := (Value.agg (c_api_Step x6.1).toArray)) (n := 0) (b := ⟨1, (cPk x4.2), false⟩) (b' := ⟨1, (cPk x6.2), false⟩) (H' := ⟨1, [(0, ⟨1, (cPk x6.2), false⟩)]⟩) rfl en_40 (cargs (evs rfl (evs rfl evs_nil))) rfl rfl (.cons (.inr ⟨_, rfl, rfl⟩) (.cons (.inl ⟨rfl, rfl⟩) .nil)) (ok_made_Picks_Edit x4.2 1 x6 hx6) rfl rfl) ?_
        obtain ⟨x7, hx7, h⟩ := bindS h
        refine ado rfl rfl rfl (ex_call0 (vs := [(SL 5 cNd v1), (Value.agg (c_api_Step x6.1).toArray)]) (v := (Value.tuple #[(SL 5 cNd x7.1), (I x7.2)])) rfl en_39 (cargs (evs rfl (evs rfl evs_nil))) rfl (ok_made_Done v1 x6.1 x7 hx7) rfl) ?_
        refine ado rfl rfl rfl (emv (eV (v := (Value.tuple #[(SL 5 cNd x7.1), (I x7.2)])) rfl)) ?_
        refine ado rfl rfl rfl (ex_extract (vx := (Value.tuple #[(SL 5 cNd x7.1), (I x7.2)])) (v := (SL 5 cNd x7.1)) rfl rfl) ?_
        refine ado rfl rfl rfl (ex_extract (vx := (Value.tuple #[(SL 5 cNd x7.1), (I x7.2)])) (v := (I x7.2)) rfl rfl) ?_
        refine ado rfl rfl rfl (eas (eV (v := (SL 5 cNd x7.1)) rfl)) ?_
        refine ake [0, 1, 2, 7] 0 1 (st' := ⟨26, 1, [(0, (NP 0 0)), (1, (SL 5 cNd x7.1)), (2, (I t2)), (7, (I v2))], [], ⟨1, [(0, ⟨1, (cPk x6.2), false⟩)]⟩⟩) (by kernel_rfl) (by kernel_rfl) ?_
        show AWp _ _ _ _
        refine awr ?_
        refine ado rfl rfl rfl (emv (eV (v := (I v2)) rfl)) ?_
        refine ado rfl rfl rfl (ex_bin (vx := (I v2)) (vy := (I 1)) rfl rfl addI_ok) ?_
        refine ado rfl rfl rfl (eas (eV (v := (I (w64 (v2 + 1)))) rfl)) ?_
        refine ake [0, 1, 2, 7] 0 1 (st' := ⟨26, 1, [(0, (NP 0 0)), (1, (SL 5 cNd x7.1)), (2, (I t2)), (7, (I (w64 (v2 + 1))))], [], ⟨1, [(0, ⟨1, (cPk x6.2), false⟩)]⟩⟩) (by kernel_rfl) (by kernel_rfl) ?_
        exact Exists.intro n1 (And.intro (Nat.lt_succ_self _) (Exists.intro x7.1 (Exists.intro (w64 (v2 + 1)) (Exists.intro x6.2 (And.intro rfl h)))))
      · rw [condF hb5] at h
        refine awp_condF (boF hb5) ?_
        refine awp_exit ?_
        show AWp _ _ _ _
        refine awp_seq ?_
        refine awr ?_
        refine ado rfl rfl rfl (emv (eV (v := (SL 5 cNd v1)) rfl)) ?_
        refine ado rfl rfl rfl (eas (eV (v := (SL 5 cNd v1)) rfl)) ?_
        refine ake [6] 0 1 (st' := ⟨26, 1, [(6, (SL 5 cNd v1))], [], ⟨1, [(0, ⟨1, (cPk x4.2), false⟩)]⟩⟩) (by kernel_rfl) (by kernel_rfl) ?_
        show AWp _ _ _ _
        refine awp_ret ?_
        cases h
        exact And.intro (ares1 (rtmp rfl (eV rfl))) rfl
    · rw [condF hg2_0] at h
      refine awr ?_
      refine ado rfl rfl rfl (emv (eV (v := (I v2)) rfl)) ?_
      refine ado rfl rfl rfl (emv (eV (v := (I t2)) rfl)) ?_
      refine ado rfl rfl rfl (ex_bin (vx := (I v2)) (vy := (I t2)) rfl rfl lssI_ok) ?_
      refine ado rfl rfl rfl (emv (eV (v := (Bo (decide (v2 < t2)))) rfl)) ?_
      refine arun_skip rfl rfl (gF rfl hg2_0) ?_
      refine arun_skip rfl rfl (gF rfl hg2_0) ?_
      refine arun_skip rfl rfl (gF rfl hg2_0) ?_
      refine ado rfl rfl rfl (ex_pick rfl (pkAndS hg2_0)) ?_
      refine ake [0, 1, 2, 7, 15] 0 1 (st' := ⟨26, 1, [(0, (NP 0 0)), (1, (SL 5 cNd v1)), (2, (I t2)), (7, (I v2)), (15, (Bo (decide (v2 < t2))))], [], ⟨1, [(0, ⟨1, (cPk v3), false⟩)]⟩⟩) (by kernel_rfl) (by kernel_rfl) ?_
      show AWp _ _ _ _
      rcases Bool.eq_false_or_eq_true (decide (v2 < t2)) with hb4 | hb4
      · rw [condT hb4] at h
        refine awp_condT (boT hb4) ?_
        refine awp_skip ?_
        show AWp _ _ _ _
        refine awp_seq ?_
        refine awp_block ?_
        refine awr ?_
        refine ado rfl rfl rfl (emv (eV (v := (SL 5 cNd v1)) rfl)) ?_
        refine ado rfl rfl rfl (emv (eV (v := (NP 0 0)) rfl)) ?_
        obtain ⟨x5, hx5, h⟩ := bindS h
        refine ado rfl rfl rfl (ex_call1 (vs := [(NP 0 0), (I 1)]) (vs' := [(NP 0 0), (I 1)]) (v := (Value.agg (c_api_Step x5.1).toArray)) (n := 0) (b := ⟨1, (cPk v3), false⟩) (b' := ⟨1, (cPk x5.2), false⟩) (H' := ⟨1, [(0, ⟨1, (cPk x5.2), false⟩)]⟩) rfl en_40 (cargs (evs rfl (evs rfl evs_nil))) rfl rfl (.cons (.inr ⟨_, rfl, rfl⟩) (.cons (.inl ⟨rfl, rfl⟩) .nil)) (ok_made_Picks_Edit v3 1 x5 hx5) rfl rfl) ?_
        obtain ⟨x6, hx6, h⟩ := bindS h
        refine ado rfl rfl rfl (ex_call0 (vs := [(SL 5 cNd v1), (Value.agg (c_api_Step x5.1).toArray)]) (v := (Value.tuple #[(SL 5 cNd x6.1), (I x6.2)])) rfl en_39 (cargs (evs rfl (evs rfl evs_nil))) rfl (ok_made_Done v1 x5.1 x6 hx6) rfl) ?_
        refine ado rfl rfl rfl (emv (eV (v := (Value.tuple #[(SL 5 cNd x6.1), (I x6.2)])) rfl)) ?_
        refine ado rfl rfl rfl (ex_extract (vx := (Value.tuple #[(SL 5 cNd x6.1), (I x6.2)])) (v := (SL 5 cNd x6.1)) rfl rfl) ?_
        refine ado rfl rfl rfl (ex_extract (vx := (Value.tuple #[(SL 5 cNd x6.1), (I x6.2)])) (v := (I x6.2)) rfl rfl) ?_
        refine ado rfl rfl rfl (eas (eV (v := (SL 5 cNd x6.1)) rfl)) ?_
        refine ake [0, 1, 2, 7] 0 1 (st' := ⟨26, 1, [(0, (NP 0 0)), (1, (SL 5 cNd x6.1)), (2, (I t2)), (7, (I v2))], [], ⟨1, [(0, ⟨1, (cPk x5.2), false⟩)]⟩⟩) (by kernel_rfl) (by kernel_rfl) ?_
        show AWp _ _ _ _
        refine awr ?_
        refine ado rfl rfl rfl (emv (eV (v := (I v2)) rfl)) ?_
        refine ado rfl rfl rfl (ex_bin (vx := (I v2)) (vy := (I 1)) rfl rfl addI_ok) ?_
        refine ado rfl rfl rfl (eas (eV (v := (I (w64 (v2 + 1)))) rfl)) ?_
        refine ake [0, 1, 2, 7] 0 1 (st' := ⟨26, 1, [(0, (NP 0 0)), (1, (SL 5 cNd x6.1)), (2, (I t2)), (7, (I (w64 (v2 + 1))))], [], ⟨1, [(0, ⟨1, (cPk x5.2), false⟩)]⟩⟩) (by kernel_rfl) (by kernel_rfl) ?_
        exact Exists.intro n1 (And.intro (Nat.lt_succ_self _) (Exists.intro x6.1 (Exists.intro (w64 (v2 + 1)) (Exists.intro x5.2 (And.intro rfl h)))))
      · rw [condF hb4] at h
        refine awp_condF (boF hb4) ?_
        refine awp_exit ?_
        show AWp _ _ _ _
        refine awp_seq ?_
        refine awr ?_
        refine ado rfl rfl rfl (emv (eV (v := (SL 5 cNd v1)) rfl)) ?_
        refine ado rfl rfl rfl (eas (eV (v := (SL 5 cNd v1)) rfl)) ?_
        refine ake [6] 0 1 (st' := ⟨26, 1, [(6, (SL 5 cNd v1))], [], ⟨1, [(0, ⟨1, (cPk v3), false⟩)]⟩⟩) (by kernel_rfl) (by kernel_rfl) ?_
        show AWp _ _ _ _
        refine awp_ret ?_
        cases h
        exact And.intro (ares1 (rtmp rfl (eV rfl))) rfl

noncomputable def M_made_Picks_Set (t0 : G_palimpmade_Picks) (t1 : Int) : Option ((List G_api_Node) × G_palimpmade_Picks) :=
  Option.bind (M_ref11_New) fun (x1 : (List G_api_Node)) => Option.bind (M_made_Picks_Grown t0 x1 t1) fun (x2 : ((List G_api_Node) × G_palimpmade_Picks)) => some (x2.1, x2.2)
theorem ok_made_Picks_Set (t0 : G_palimpmade_Picks) (t1 : Int) (r : ((List G_api_Node) × G_palimpmade_Picks)) (h : M_made_Picks_Set t0 t1 = some r) : F1n Tryz.prog 6 [(NP 0 0), (I t1)] ⟨1, (cPk t0), false⟩ (SL 5 cNd r.1) ⟨1, (cPk r.2), false⟩ := by
  refine F1n.of_body (n := 9) Tryz.func6 rfl Tryz.ntmps6 rfl rfl rfl rfl ?_
  show AWp _ _ _ ⟨9, 1, [(0, (NP 0 0)), (1, (I t1))], [], ⟨1, [(0, ⟨1, (cPk t0), false⟩)]⟩⟩
  unfold M_made_Picks_Set at h
  refine awp_seq ?_
  refine awr ?_
  refine ado rfl rfl rfl (eas (eV (v := (Value.slice none 0 0)) rfl)) ?_
  refine ake [0, 1] 0 1 (st' := ⟨9, 1, [(0, (NP 0 0)), (1, (I t1))], [], ⟨1, [(0, ⟨1, (cPk t0), false⟩)]⟩⟩) (by kernel_rfl) (by kernel_rfl) ?_
  show AWp _ _ _ _
  refine awp_seq ?_
  refine awr ?_
  refine ado rfl rfl rfl (emv (eV (v := (NP 0 0)) rfl)) ?_
  obtain ⟨x1, hx1, h⟩ := bindS h
  refine ado rfl rfl rfl (ex_call0 (vs := []) (v := (SL 5 cNd x1)) rfl en_14 (cargs evs_nil) rfl (ok_ref11_New  x1 hx1) rfl) ?_
  refine ado rfl rfl rfl (emv (eV (v := (I t1)) rfl)) ?_
  obtain ⟨x2, hx2, h⟩ := bindS h
  refine ado rfl rfl rfl (ex_call1 (vs := [(NP 0 0), (SL 5 cNd x1), (I t1)]) (vs' := [(NP 0 0), (SL 5 cNd x1), (I t1)]) (v := (SL 5 cNd x2.1)) (n := 0) (b := ⟨1, (cPk t0), false⟩) (b' := ⟨1, (cPk x2.2), false⟩) (H' := ⟨1, [(0, ⟨1, (cPk x2.2), false⟩)]⟩) rfl en_20 (cargs (evs rfl (evs rfl (evs rfl evs_nil)))) rfl rfl (.cons (.inr ⟨_, rfl, rfl⟩) (.cons (.inl ⟨rfl, rfl⟩) (.cons (.inl ⟨rfl, rfl⟩) .nil))) (ok_made_Picks_Grown t0 x1 t1 x2 hx2) rfl rfl) ?_
  refine ado rfl rfl rfl (eas (eV (v := (SL 5 cNd x2.1)) rfl)) ?_
  refine ake [4] 0 1 (st' := ⟨9, 1, [(4, (SL 5 cNd x2.1))], [], ⟨1, [(0, ⟨1, (cPk x2.2), false⟩)]⟩⟩) (by kernel_rfl) (by kernel_rfl) ?_
  show AWp _ _ _ _
  refine awp_ret ?_
  cases h
  exact And.intro (ares1 (rtmp rfl (eV rfl))) rfl

noncomputable def M_ref11_Same_l1 (t0 : (List G_api_Node)) (t1 : (List G_api_Node)) : Nat → Int → Option Bool
  | 0, _ => none
  | n1 + 1, v2 =>
  cond (decide (v2 < (t0.length : Int))) (Option.bind (getI t0 v2) fun (x4 : G_api_Node) => Option.bind (getI t1 v2) fun (x5 : G_api_Node) => cond (!decide (x4 = x5)) (some false) ((M_ref11_Same_l1 t0 t1 n1) (w64 (v2 + 1)))) (some true)
noncomputable def M_ref11_Same (t0 : (List G_api_Node)) (t1 : (List G_api_Node)) : Option Bool :=
  cond ((t0.length : Int) != (t1.length : Int)) (some false) (M_ref11_Same_l1 t0 t1 fuel 0)
theorem ok_ref11_Same (t0 : (List G_api_Node)) (t1 : (List G_api_Node)) (r : Bool) (h : M_ref11_Same t0 t1 = some r) : FFn Tryz.prog 11 [(SL 5 cNd t0), (SL 5 cNd t1)] (Bo r) := by
  refine FFn.of_body (n := 26) Tryz.func11 rfl Tryz.ntmps11 rfl rfl rfl rfl ?_
  show AWp _ _ _ ⟨26, 0, [(0, (SL 5 cNd t0)), (1, (SL 5 cNd t1))], [], ⟨0, []⟩⟩
  unfold M_ref11_Same at h
  refine awp_seq ?_
  refine awr ?_
  refine ado rfl rfl rfl (eas (eV (v := (Bo false)) rfl)) ?_
  refine ake [0, 1] 0 0 (st' := ⟨26, 0, [(0, (SL 5 cNd t0)), (1, (SL 5 cNd t1))], [], ⟨0, []⟩⟩) (by kernel_rfl) (by kernel_rfl) ?_
  show AWp _ _ _ _
  refine awp_seq ?_
  refine awp_seq ?_
  refine awr ?_
  refine ado rfl rfl rfl (emv (eV (v := (SL 5 cNd t0)) rfl)) ?_
  refine ado rfl rfl rfl (tx_lenD (xs := t0) ce_api_Node Tryz.underlying25 rfl) ?_
  refine ado rfl rfl rfl (emv (eV (v := (SL 5 cNd t1)) rfl)) ?_
  refine ado rfl rfl rfl (tx_lenD (xs := t1) ce_api_Node Tryz.underlying25 rfl) ?_
  refine ado rfl rfl rfl (ex_bin (vx := (I (t0.length : Int))) (vy := (I (t1.length : Int))) rfl rfl neqI_ok) ?_
  refine ake [0, 1, 10] 0 0 (st' := ⟨26, 0, [(0, (SL 5 cNd t0)), (1, (SL 5 cNd t1)), (10, (Bo ((t0.length : Int) != (t1.length : Int))))], [], ⟨0, []⟩⟩) (by kernel_rfl) (by kernel_rfl) ?_
  show AWp _ _ _ _
  rcases Bool.eq_false_or_eq_true ((t0.length : Int) != (t1.length : Int)) with hb1 | hb1
  · rw [condT hb1] at h
    refine awp_condT (boT hb1) ?_
    refine awp_seq ?_
    refine awr ?_
    refine ado rfl rfl rfl (eas (eV (v := (Bo false)) rfl)) ?_
    refine ake [4] 0 0 (st' := ⟨26, 0, [(4, (Bo false))], [], ⟨0, []⟩⟩) (by kernel_rfl) (by kernel_rfl) ?_
    show AWp _ _ _ _
    refine awp_ret ?_
    cases h
    exact ares1 (rtmp rfl (eV rfl))
  · rw [condF hb1] at h
    refine awp_condF (boF hb1) ?_
    refine awp_skip ?_
    show AWp _ _ _ _
    refine awp_seq ?_
    refine awp_seq ?_
    refine awr ?_
    refine ado rfl rfl rfl (eas (eV (v := (I 0)) rfl)) ?_
    refine ake [0, 1, 5] 0 0 (st' := ⟨26, 0, [(0, (SL 5 cNd t0)), (1, (SL 5 cNd t1)), (5, (I 0))], [], ⟨0, []⟩⟩) (by kernel_rfl) (by kernel_rfl) ?_
    show AWp _ _ _ _
    refine awp_block ?_
    refine awp_loop (fun n s => ∃ (v2 : Int), s = ⟨26, 0, [(0, (SL 5 cNd t0)), (1, (SL 5 cNd t1)), (5, (I v2))], [], ⟨0, []⟩⟩ ∧ M_ref11_Same_l1 t0 t1 n v2 = some r) fuel (Exists.intro 0 (And.intro rfl h)) ?_
    rintro n s ⟨v2, rfl, h⟩ -
    cases n with
    | zero => cases h
    | succ n1 =>
      unfold M_ref11_Same_l1 at h
      refine awp_seq ?_
      refine awp_seq ?_
      refine awr ?_
      refine ado rfl rfl rfl (emv (eV (v := (I v2)) rfl)) ?_
      refine ado rfl rfl rfl (emv (eV (v := (SL 5 cNd t0)) rfl)) ?_
      refine ado rfl rfl rfl (tx_lenD (xs := t0) ce_api_Node Tryz.underlying25 rfl) ?_
      refine ado rfl rfl rfl (ex_bin (vx := (I v2)) (vy := (I (t0.length : Int))) rfl rfl lssI_ok) ?_
      refine ake [0, 1, 5, 14] 0 0 (st' := ⟨26, 0, [(0, (SL 5 cNd t0)), (1, (SL 5 cNd t1)), (5, (I v2)), (14, (Bo (decide (v2 < (t0.length : Int)))))], [], ⟨0, []⟩⟩) (by kernel_rfl) (by kernel_rfl) ?_
      show AWp _ _ _ _
      rcases Bool.eq_false_or_eq_true (decide (v2 < (t0.length : Int))) with hb3 | hb3
      · rw [condT hb3] at h
        refine awp_condT (boT hb3) ?_
        refine awp_skip ?_
        show AWp _ _ _ _
        refine awp_seq ?_
        refine awp_block ?_
        refine awp_seq ?_
        obtain ⟨x4, hx4, h⟩ := bindS h
        obtain ⟨x5, hx5, h⟩ := bindS h
        refine awp_kn [0, 1, 5, 25] 0 0 (st' := ⟨26, 0, [(0, (SL 5 cNd t0)), (1, (SL 5 cNd t1)), (5, (I v2)), (25, (Bo (!decide (x4 = x5))))], [], ⟨0, []⟩⟩) (awp_draw (T := [(SL 5 cNd t0), (I v2), (DP (cNd x4)), (Value.agg (cNd x4).toArray), (SL 5 cNd t1), (I v2), (DP (cNd x5)), (Value.agg (cNd x5).toArray), (Bo (!decide (x4 = x5)))]) (LH := [([], ⟨0, []⟩)]) (D := [⟨[(0, none)], [], [0], false⟩, ⟨[(5, none)], [], [0], false⟩, ⟨[(17, some 0), (18, some 1)], [0, 1], [0], false⟩, ⟨[(19, some 2)], [0, 1, 2], [0], false⟩, ⟨[(1, none)], [], [0], false⟩, ⟨[(5, none)], [], [0], false⟩, ⟨[(21, some 4), (22, some 5)], [4, 5], [0], false⟩, ⟨[(23, some 6)], [4, 5, 6], [0], false⟩, ⟨[(20, some 3), (24, some 7)], [0, 1, 2, 3, 4, 5, 6, 7], [0], false⟩]) (S := []) (plan := [0, 1, 2, 3, 4, 5, 6, 7, 8]) mo (by kernel_rfl) rfl rfl rfl (dcons (dstep1 (Tm := [(0, (SL 5 cNd t0))]) (L := []) (H := ⟨0, []⟩) rfl rfl rfl rfl rfl (astep_do rfl (emv (eV (v := (SL 5 cNd t0)) rfl)))) (dcons (dstep1 (Tm := [(5, (I v2))]) (L := []) (H := ⟨0, []⟩) rfl rfl rfl rfl rfl (astep_do rfl (emv (eV (v := (I v2)) rfl)))) (dcons (dstep1 (Tm := [(17, (SL 5 cNd t0)), (18, (I v2))]) (L := []) (H := ⟨0, []⟩) rfl rfl rfl rfl rfl (astep_do rfl (tx_idxD (c := cNd) (xs := t0) (i := v2) ce_api_Node Tryz.underlying25 s_38 rfl rfl hx4))) (dcons (dstep1 (Tm := [(19, (DP (cNd x4)))]) (L := []) (H := ⟨0, []⟩) rfl rfl rfl rfl rfl (astep_do rfl (tx_ldDA (vs := (cNd x4)) Tryz.underlying38 rfl s_38 (by decide) rfl (Nat.le_of_ble_eq_true rfl) rfl))) (dcons (dstep1 (Tm := [(1, (SL 5 cNd t1))]) (L := []) (H := ⟨0, []⟩) rfl rfl rfl rfl rfl (astep_do rfl (emv (eV (v := (SL 5 cNd t1)) rfl)))) (dcons (dstep1 (Tm := [(5, (I v2))]) (L := []) (H := ⟨0, []⟩) rfl rfl rfl rfl rfl (astep_do rfl (emv (eV (v := (I v2)) rfl)))) (dcons (dstep1 (Tm := [(21, (SL 5 cNd t1)), (22, (I v2))]) (L := []) (H := ⟨0, []⟩) rfl rfl rfl rfl rfl (astep_do rfl (tx_idxD (c := cNd) (xs := t1) (i := v2) ce_api_Node Tryz.underlying25 s_38 rfl rfl hx5))) (dcons (dstep1 (Tm := [(23, (DP (cNd x5)))]) (L := []) (H := ⟨0, []⟩) rfl rfl rfl rfl rfl (astep_do rfl (tx_ldDA (vs := (cNd x5)) Tryz.underlying38 rfl s_38 (by decide) rfl (Nat.le_of_ble_eq_true rfl) rfl))) (dcons (dstep1 (Tm := [(20, (Value.agg (cNd x4).toArray)), (24, (Value.agg (cNd x5).toArray))]) (L := []) (H := ⟨0, []⟩) rfl rfl rfl rfl rfl (astep_do rfl (ex_bin (vx := (Value.agg (cNd x4).toArray)) (vy := (Value.agg (cNd x5).toArray)) rfl rfl neq_38))) dnil))))))))) ⟨rfl, rfl⟩) (by kernel_rfl) (by kernel_rfl) ?_
        show AWp _ _ _ _
        rcases Bool.eq_false_or_eq_true (!decide (x4 = x5)) with hb6 | hb6
        · rw [condT hb6] at h
          refine awp_condT (boT hb6) ?_
          refine awp_seq ?_
          refine awr ?_
          refine ado rfl rfl rfl (eas (eV (v := (Bo false)) rfl)) ?_
          refine ake [4] 0 0 (st' := ⟨26, 0, [(4, (Bo false))], [], ⟨0, []⟩⟩) (by kernel_rfl) (by kernel_rfl) ?_
          show AWp _ _ _ _
          refine awp_ret ?_
          cases h
          exact ares1 (rtmp rfl (eV rfl))
        · rw [condF hb6] at h
          refine awp_condF (boF hb6) ?_
          refine awp_skip ?_
          show AWp _ _ _ _
          refine awr ?_
          refine ado rfl rfl rfl (emv (eV (v := (I v2)) rfl)) ?_
          refine ado rfl rfl rfl (ex_bin (vx := (I v2)) (vy := (I 1)) rfl rfl addI_ok) ?_
          refine ado rfl rfl rfl (eas (eV (v := (I (w64 (v2 + 1)))) rfl)) ?_
          refine ake [0, 1, 5] 0 0 (st' := ⟨26, 0, [(0, (SL 5 cNd t0)), (1, (SL 5 cNd t1)), (5, (I (w64 (v2 + 1))))], [], ⟨0, []⟩⟩) (by kernel_rfl) (by kernel_rfl) ?_
          exact Exists.intro n1 (And.intro (Nat.lt_succ_self _) (Exists.intro (w64 (v2 + 1)) (And.intro rfl h)))
      · rw [condF hb3] at h
        refine awp_condF (boF hb3) ?_
        refine awp_exit ?_
        show AWp _ _ _ _
        refine awp_seq ?_
        refine awr ?_
        refine ado rfl rfl rfl (eas (eV (v := (Bo true)) rfl)) ?_
        refine ake [4] 0 0 (st' := ⟨26, 0, [(4, (Bo true))], [], ⟨0, []⟩⟩) (by kernel_rfl) (by kernel_rfl) ?_
        show AWp _ _ _ _
        refine awp_ret ?_
        cases h
        exact ares1 (rtmp rfl (eV rfl))

end Go.Proofs
