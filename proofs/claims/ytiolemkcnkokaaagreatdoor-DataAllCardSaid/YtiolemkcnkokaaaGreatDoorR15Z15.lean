/- Pure models of functions of the program, and that its code does what they say: palimpmade Done, palimpmade Picks Grown, palimpmade Picks Set, palimpmade Picks Torn. Written by a program. -/
import Derived.Test.YtiolemkcnkokaaaGreatDoorR15Z0
import Derived.Test.YtiolemkcnkokaaaGreatDoorR15Z11
import Derived.Test.YtiolemkcnkokaaaGreatDoorR15Z12
import Derived.Test.YtiolemkcnkokaaaGreatDoorR15Z13
import Derived.Test.YtiolemkcnkokaaaGreatDoorR15Z14
import Derived.Test.YtiolemkcnkokaaaGreatDoorR15Z2
import Derived.Test.YtiolemkcnkokaaaGreatDoorR15ZB
set_option maxRecDepth 20000
set_option maxHeartbeats 4000000
namespace Go.Proofs
open Go Go.Fhl
set_option linter.unusedVariables false
set_option linter.unusedSimpArgs false
noncomputable def M_made_Done (t0 : (List G_api_Node)) (t1 : G_api_Step) : Option ((List G_api_Node) × Int) :=
  cond (t1.Kind == 1) (Option.bind (M_ref11_Make t0 t1.Path t1.N) fun (x2 : ((List G_api_Node) × Int)) => some (x2.1, x2.2)) (cond (t1.Kind == 2) (Option.bind (M_ref11_Drop t0 t1.Path) fun (x4 : ((List G_api_Node) × Int)) => some (x4.1, x4.2)) (cond (t1.Kind == 3) (Option.bind (M_ref11_Move t0 t1.Path t1.To) fun (x6 : ((List G_api_Node) × Int)) => some (x6.1, x6.2)) (cond (t1.Kind == 4) (Option.bind (M_ref11_Write t0 t1.Path t1.N t1.Text) fun (x8 : ((List G_api_Node) × Int)) => some (x8.1, x8.2)) (Option.bind (M_ref11_Cut t0 t1.Path t1.N) fun (x9 : ((List G_api_Node) × Int)) => some (x9.1, x9.2)))))
theorem ok_made_Done (t0 : (List G_api_Node)) (t1 : G_api_Step) (r : ((List G_api_Node) × Int)) (h : M_made_Done t0 t1 = some r) : FFn Tryz.prog 54 [(SL 5 cNd t0), (Value.agg (c_api_Step t1).toArray)] (Value.tuple #[(SL 5 cNd r.1), (I r.2)]) := by
  refine FFn.of_body (n := 56) Tryz.func54 rfl Tryz.ntmps54 rfl rfl rfl rfl ?_
  show AWp _ _ _ ⟨56, 0, [(0, (SL 5 cNd t0)), (1, (Value.agg (c_api_Step t1).toArray))], [], ⟨0, []⟩⟩
  unfold M_made_Done at h
  refine awp_seq ?_
  refine awr ?_
  refine ado rfl rfl rfl (ex_box (vx := (Value.agg (c_api_Step t1).toArray)) (cs := (c_api_Step t1)) (k := 0) (L' := [(c_api_Step t1)]) (eV (v := (Value.agg (c_api_Step t1).toArray)) rfl) rfl rfl rfl) ?_
  refine ado rfl rfl rfl (eas (eV (v := (Value.slice none 0 0)) rfl)) ?_
  refine ado rfl rfl rfl (eas (eV (v := (I 0)) rfl)) ?_
  refine ake [0, 3] 1 0 (st' := ⟨56, 0, [(0, (SL 5 cNd t0)), (3, (LP 0 0))], [(c_api_Step t1)], ⟨0, []⟩⟩) (by kernel_rfl) (by kernel_rfl) ?_
  show AWp _ _ _ _
  refine awp_seq ?_
  refine awp_seq ?_
  refine awr ?_
  refine ado rfl rfl rfl (ex_fieldAddr (v := (LP 0 0)) Tryz.underlying82 rfl s_3 (by decide) rfl rfl) ?_
  refine ado rfl rfl rfl (tx_ldL1 (v := (I t1.Kind)) Tryz.underlying3 rfl rfl rfl rfl) ?_
  refine ake [0, 3, 7] 1 0 (st' := ⟨56, 0, [(0, (SL 5 cNd t0)), (3, (LP 0 0)), (7, (I t1.Kind))], [(c_api_Step t1)], ⟨0, []⟩⟩) (by kernel_rfl) (by kernel_rfl) ?_
  show AWp _ _ _ _
  refine awp_block ?_
  refine awp_seq ?_
  refine awr ?_
  refine ado rfl rfl rfl (ex_bin (vx := (I t1.Kind)) (vy := (I 1)) rfl rfl eqlI_ok) ?_
  refine ado rfl rfl rfl (eas (eV (v := (Bo (t1.Kind == 1))) rfl)) ?_
  refine ake [0, 3, 7, 8] 1 0 (st' := ⟨56, 0, [(0, (SL 5 cNd t0)), (3, (LP 0 0)), (7, (I t1.Kind)), (8, (Bo (t1.Kind == 1)))], [(c_api_Step t1)], ⟨0, []⟩⟩) (by kernel_rfl) (by kernel_rfl) ?_
  show AWp _ _ _ _
  rcases Bool.eq_false_or_eq_true (t1.Kind == 1) with hb1 | hb1
  · rw [condT hb1] at h
    refine awp_condT (boT hb1) ?_
    refine awp_seq ?_
    refine awr ?_
    refine ado rfl rfl rfl (emv (eV (v := (SL 5 cNd t0)) rfl)) ?_
    refine ado rfl rfl rfl (ex_fieldAddr (v := (LP 0 5)) Tryz.underlying82 rfl s_9 (by decide) rfl rfl) ?_
    refine ado rfl rfl rfl (tx_ldL1 (v := (S t1.Path)) Tryz.underlying9 rfl rfl rfl rfl) ?_
    refine ado rfl rfl rfl (ex_fieldAddr (v := (LP 0 2)) Tryz.underlying82 rfl s_3 (by decide) rfl rfl) ?_
    refine ado rfl rfl rfl (tx_ldL1 (v := (I t1.N)) Tryz.underlying3 rfl rfl rfl rfl) ?_
    obtain ⟨x2, hx2, h⟩ := bindS h
    refine ado rfl rfl rfl (ex_call0 (vs := [(SL 5 cNd t0), (S t1.Path), (I t1.N)]) (v := (Value.tuple #[(SL 5 cNd x2.1), (I x2.2)])) rfl en_30 (cargs (evs rfl (evs rfl (evs rfl evs_nil)))) rfl (ok_ref11_Make t0 t1.Path t1.N x2 hx2) rfl) ?_
    refine ado rfl rfl rfl (ex_extract (vx := (Value.tuple #[(SL 5 cNd x2.1), (I x2.2)])) (v := (SL 5 cNd x2.1)) rfl rfl) ?_
    refine ado rfl rfl rfl (ex_extract (vx := (Value.tuple #[(SL 5 cNd x2.1), (I x2.2)])) (v := (I x2.2)) rfl rfl) ?_
    refine ado rfl rfl rfl (eas (eV (v := (SL 5 cNd x2.1)) rfl)) ?_
    refine ado rfl rfl rfl (eas (eV (v := (I x2.2)) rfl)) ?_
    refine ake [4, 5] 0 0 (st' := ⟨56, 0, [(4, (SL 5 cNd x2.1)), (5, (I x2.2))], [], ⟨0, []⟩⟩) (by kernel_rfl) (by kernel_rfl) ?_
    show AWp _ _ _ _
    refine awp_ret ?_
    cases h
    exact aresN rfl (L2.cons (rtmp rfl (eV rfl)) (L2.cons (rtmp rfl (eV rfl)) L2.nil)) rfl
  · rw [condF hb1] at h
    refine awp_condF (boF hb1) ?_
    refine awp_seq ?_
    refine awr ?_
    refine ado rfl rfl rfl (ex_bin (vx := (I t1.Kind)) (vy := (I 2)) rfl rfl eqlI_ok) ?_
    refine ado rfl rfl rfl (eas (eV (v := (Bo (t1.Kind == 2))) rfl)) ?_
    refine ake [0, 3, 7, 18] 1 0 (st' := ⟨56, 0, [(0, (SL 5 cNd t0)), (3, (LP 0 0)), (7, (I t1.Kind)), (18, (Bo (t1.Kind == 2)))], [(c_api_Step t1)], ⟨0, []⟩⟩) (by kernel_rfl) (by kernel_rfl) ?_
    show AWp _ _ _ _
    rcases Bool.eq_false_or_eq_true (t1.Kind == 2) with hb3 | hb3
    · rw [condT hb3] at h
      refine awp_condT (boT hb3) ?_
      refine awp_seq ?_
      refine awr ?_
      refine ado rfl rfl rfl (emv (eV (v := (SL 5 cNd t0)) rfl)) ?_
      refine ado rfl rfl rfl (ex_fieldAddr (v := (LP 0 5)) Tryz.underlying82 rfl s_9 (by decide) rfl rfl) ?_
      refine ado rfl rfl rfl (tx_ldL1 (v := (S t1.Path)) Tryz.underlying9 rfl rfl rfl rfl) ?_
      obtain ⟨x4, hx4, h⟩ := bindS h
      refine ado rfl rfl rfl (ex_call0 (vs := [(SL 5 cNd t0), (S t1.Path)]) (v := (Value.tuple #[(SL 5 cNd x4.1), (I x4.2)])) rfl en_65 (cargs (evs rfl (evs rfl evs_nil))) rfl (ok_ref11_Drop t0 t1.Path x4 hx4) rfl) ?_
      refine ado rfl rfl rfl (ex_extract (vx := (Value.tuple #[(SL 5 cNd x4.1), (I x4.2)])) (v := (SL 5 cNd x4.1)) rfl rfl) ?_
      refine ado rfl rfl rfl (ex_extract (vx := (Value.tuple #[(SL 5 cNd x4.1), (I x4.2)])) (v := (I x4.2)) rfl rfl) ?_
      refine ado rfl rfl rfl (eas (eV (v := (SL 5 cNd x4.1)) rfl)) ?_
      refine ado rfl rfl rfl (eas (eV (v := (I x4.2)) rfl)) ?_
      refine ake [4, 5] 0 0 (st' := ⟨56, 0, [(4, (SL 5 cNd x4.1)), (5, (I x4.2))], [], ⟨0, []⟩⟩) (by kernel_rfl) (by kernel_rfl) ?_
      show AWp _ _ _ _
      refine awp_ret ?_
      cases h
      exact aresN rfl (L2.cons (rtmp rfl (eV rfl)) (L2.cons (rtmp rfl (eV rfl)) L2.nil)) rfl
    · rw [condF hb3] at h
      refine awp_condF (boF hb3) ?_
      refine awp_seq ?_
      refine awr ?_
      refine ado rfl rfl rfl (ex_bin (vx := (I t1.Kind)) (vy := (I 3)) rfl rfl eqlI_ok) ?_
      refine ado rfl rfl rfl (eas (eV (v := (Bo (t1.Kind == 3))) rfl)) ?_
      refine ake [0, 3, 7, 26] 1 0 (st' := ⟨56, 0, [(0, (SL 5 cNd t0)), (3, (LP 0 0)), (7, (I t1.Kind)), (26, (Bo (t1.Kind == 3)))], [(c_api_Step t1)], ⟨0, []⟩⟩) (by kernel_rfl) (by kernel_rfl) ?_
      show AWp _ _ _ _
      rcases Bool.eq_false_or_eq_true (t1.Kind == 3) with hb5 | hb5
      · rw [condT hb5] at h
        refine awp_condT (boT hb5) ?_
        refine awp_seq ?_
        refine awr ?_
        refine ado rfl rfl rfl (emv (eV (v := (SL 5 cNd t0)) rfl)) ?_
        refine ado rfl rfl rfl (ex_fieldAddr (v := (LP 0 5)) Tryz.underlying82 rfl s_9 (by decide) rfl rfl) ?_
        refine ado rfl rfl rfl (tx_ldL1 (v := (S t1.Path)) Tryz.underlying9 rfl rfl rfl rfl) ?_
        refine ado rfl rfl rfl (ex_fieldAddr (v := (LP 0 6)) Tryz.underlying82 rfl s_9 (by decide) rfl rfl) ?_
        refine ado rfl rfl rfl (tx_ldL1 (v := (S t1.To)) Tryz.underlying9 rfl rfl rfl rfl) ?_
        obtain ⟨x6, hx6, h⟩ := bindS h
        refine ado rfl rfl rfl (ex_call0 (vs := [(SL 5 cNd t0), (S t1.Path), (S t1.To)]) (v := (Value.tuple #[(SL 5 cNd x6.1), (I x6.2)])) rfl en_66 (cargs (evs rfl (evs rfl (evs rfl evs_nil)))) rfl (ok_ref11_Move t0 t1.Path t1.To x6 hx6) rfl) ?_
        refine ado rfl rfl rfl (ex_extract (vx := (Value.tuple #[(SL 5 cNd x6.1), (I x6.2)])) (v := (SL 5 cNd x6.1)) rfl rfl) ?_
        refine ado rfl rfl rfl (ex_extract (vx := (Value.tuple #[(SL 5 cNd x6.1), (I x6.2)])) (v := (I x6.2)) rfl rfl) ?_
        refine ado rfl rfl rfl (eas (eV (v := (SL 5 cNd x6.1)) rfl)) ?_
        refine ado rfl rfl rfl (eas (eV (v := (I x6.2)) rfl)) ?_
        refine ake [4, 5] 0 0 (st' := ⟨56, 0, [(4, (SL 5 cNd x6.1)), (5, (I x6.2))], [], ⟨0, []⟩⟩) (by kernel_rfl) (by kernel_rfl) ?_
        show AWp _ _ _ _
        refine awp_ret ?_
        cases h
        exact aresN rfl (L2.cons (rtmp rfl (eV rfl)) (L2.cons (rtmp rfl (eV rfl)) L2.nil)) rfl
      · rw [condF hb5] at h
        refine awp_condF (boF hb5) ?_
        refine awp_seq ?_
        refine awr ?_
        refine ado rfl rfl rfl (ex_bin (vx := (I t1.Kind)) (vy := (I 4)) rfl rfl eqlI_ok) ?_
        refine ado rfl rfl rfl (eas (eV (v := (Bo (t1.Kind == 4))) rfl)) ?_
        refine ake [0, 3, 36] 1 0 (st' := ⟨56, 0, [(0, (SL 5 cNd t0)), (3, (LP 0 0)), (36, (Bo (t1.Kind == 4)))], [(c_api_Step t1)], ⟨0, []⟩⟩) (by kernel_rfl) (by kernel_rfl) ?_
        show AWp _ _ _ _
        rcases Bool.eq_false_or_eq_true (t1.Kind == 4) with hb7 | hb7
        · rw [condT hb7] at h
          refine awp_condT (boT hb7) ?_
          refine awp_seq ?_
          refine awr ?_
          refine ado rfl rfl rfl (emv (eV (v := (SL 5 cNd t0)) rfl)) ?_
          refine ado rfl rfl rfl (ex_fieldAddr (v := (LP 0 5)) Tryz.underlying82 rfl s_9 (by decide) rfl rfl) ?_
          refine ado rfl rfl rfl (tx_ldL1 (v := (S t1.Path)) Tryz.underlying9 rfl rfl rfl rfl) ?_
          refine ado rfl rfl rfl (ex_fieldAddr (v := (LP 0 2)) Tryz.underlying82 rfl s_3 (by decide) rfl rfl) ?_
          refine ado rfl rfl rfl (tx_ldL1 (v := (I t1.N)) Tryz.underlying3 rfl rfl rfl rfl) ?_
          refine ado rfl rfl rfl (ex_fieldAddr (v := (LP 0 7)) Tryz.underlying82 rfl s_9 (by decide) rfl rfl) ?_
          refine ado rfl rfl rfl (tx_ldL1 (v := (S t1.Text)) Tryz.underlying9 rfl rfl rfl rfl) ?_
          obtain ⟨x8, hx8, h⟩ := bindS h
          refine ado rfl rfl rfl (ex_call0 (vs := [(SL 5 cNd t0), (S t1.Path), (I t1.N), (S t1.Text)]) (v := (Value.tuple #[(SL 5 cNd x8.1), (I x8.2)])) rfl en_13 (cargs (evs rfl (evs rfl (evs rfl (evs rfl evs_nil))))) rfl (ok_ref11_Write t0 t1.Path t1.N t1.Text x8 hx8) rfl) ?_
          refine ado rfl rfl rfl (ex_extract (vx := (Value.tuple #[(SL 5 cNd x8.1), (I x8.2)])) (v := (SL 5 cNd x8.1)) rfl rfl) ?_
          refine ado rfl rfl rfl (ex_extract (vx := (Value.tuple #[(SL 5 cNd x8.1), (I x8.2)])) (v := (I x8.2)) rfl rfl) ?_
          refine ado rfl rfl rfl (eas (eV (v := (SL 5 cNd x8.1)) rfl)) ?_
          refine ado rfl rfl rfl (eas (eV (v := (I x8.2)) rfl)) ?_
          refine ake [4, 5] 0 0 (st' := ⟨56, 0, [(4, (SL 5 cNd x8.1)), (5, (I x8.2))], [], ⟨0, []⟩⟩) (by kernel_rfl) (by kernel_rfl) ?_
          show AWp _ _ _ _
          refine awp_ret ?_
          cases h
          exact aresN rfl (L2.cons (rtmp rfl (eV rfl)) (L2.cons (rtmp rfl (eV rfl)) L2.nil)) rfl
        · rw [condF hb7] at h
          refine awp_condF (boF hb7) ?_
          refine awp_skip ?_
          show AWp _ _ _ _
          refine awp_seq ?_
          refine awr ?_
          refine ado rfl rfl rfl (emv (eV (v := (SL 5 cNd t0)) rfl)) ?_
          refine ado rfl rfl rfl (ex_fieldAddr (v := (LP 0 5)) Tryz.underlying82 rfl s_9 (by decide) rfl rfl) ?_
          refine ado rfl rfl rfl (tx_ldL1 (v := (S t1.Path)) Tryz.underlying9 rfl rfl rfl rfl) ?_
          refine ado rfl rfl rfl (ex_fieldAddr (v := (LP 0 2)) Tryz.underlying82 rfl s_3 (by decide) rfl rfl) ?_
          refine ado rfl rfl rfl (tx_ldL1 (v := (I t1.N)) Tryz.underlying3 rfl rfl rfl rfl) ?_
          obtain ⟨x9, hx9, h⟩ := bindS h
          refine ado rfl rfl rfl (ex_call0 (vs := [(SL 5 cNd t0), (S t1.Path), (I t1.N)]) (v := (Value.tuple #[(SL 5 cNd x9.1), (I x9.2)])) rfl en_16 (cargs (evs rfl (evs rfl (evs rfl evs_nil)))) rfl (ok_ref11_Cut t0 t1.Path t1.N x9 hx9) rfl) ?_
          refine ado rfl rfl rfl (ex_extract (vx := (Value.tuple #[(SL 5 cNd x9.1), (I x9.2)])) (v := (SL 5 cNd x9.1)) rfl rfl) ?_
          refine ado rfl rfl rfl (ex_extract (vx := (Value.tuple #[(SL 5 cNd x9.1), (I x9.2)])) (v := (I x9.2)) rfl rfl) ?_
          refine ado rfl rfl rfl (eas (eV (v := (SL 5 cNd x9.1)) rfl)) ?_
          refine ado rfl rfl rfl (eas (eV (v := (I x9.2)) rfl)) ?_
          refine ake [4, 5] 0 0 (st' := ⟨56, 0, [(4, (SL 5 cNd x9.1)), (5, (I x9.2))], [], ⟨0, []⟩⟩) (by kernel_rfl) (by kernel_rfl) ?_
          show AWp _ _ _ _
          refine awp_ret ?_
          cases h
          exact aresN rfl (L2.cons (rtmp rfl (eV rfl)) (L2.cons (rtmp rfl (eV rfl)) L2.nil)) rfl

noncomputable def M_made_Picks_Grown_l1 (t2 : Int) : Nat → (List G_api_Node) → Int → G_palimpmade_Picks → Option ((List G_api_Node) × G_palimpmade_Picks)
  | 0, _, _, _ => none
  | n1 + 1, v1, v2, v3 =>
  cond ((decide (v2 < t2)) == true) (Option.bind (M_made_Picks_Over v3 ) fun (x4 : (Bool × G_palimpmade_Picks)) => cond ((decide (v2 < t2)) && (!x4.1)) (Option.bind (M_made_Picks_Edit x4.2 1) fun (x6 : (G_api_Step × G_palimpmade_Picks)) => Option.bind (M_made_Done v1 x6.1) fun (x7 : ((List G_api_Node) × Int)) => (M_made_Picks_Grown_l1 t2 n1) x7.1 (w64 (v2 + 1)) x6.2) (some (v1, x4.2))) (cond (decide (v2 < t2)) (Option.bind (M_made_Picks_Edit v3 1) fun (x5 : (G_api_Step × G_palimpmade_Picks)) => Option.bind (M_made_Done v1 x5.1) fun (x6 : ((List G_api_Node) × Int)) => (M_made_Picks_Grown_l1 t2 n1) x6.1 (w64 (v2 + 1)) x5.2) (some (v1, v3)))
noncomputable def M_made_Picks_Grown (t0 : G_palimpmade_Picks) (t1 : (List G_api_Node)) (t2 : Int) : Option ((List G_api_Node) × G_palimpmade_Picks) :=
  M_made_Picks_Grown_l1 t2 fuel t1 0 t0
theorem ok_made_Picks_Grown (t0 : G_palimpmade_Picks) (t1 : (List G_api_Node)) (t2 : Int) (r : ((List G_api_Node) × G_palimpmade_Picks)) (h : M_made_Picks_Grown t0 t1 t2 = some r) : F1n Tryz.prog 32 [(NP 0 0), (SL 5 cNd t1), (I t2)] ⟨1, (cPk t0), false⟩ (SL 5 cNd r.1) ⟨1, (cPk r.2), false⟩ := by
  refine F1n.of_body (n := 26) Tryz.func32 rfl Tryz.ntmps32 rfl rfl rfl rfl ?_
  show AWp _ _ _ ⟨26, 1, [(0, (NP 0 0)), (1, (SL 5 cNd t1)), (2, (I t2))], [], ⟨1, [(0, ⟨1, (cPk t0), false⟩)]⟩⟩
  unfold M_made_Picks_Grown at h
  refine awp_seq ?_
  refine awr ?_
  refine ado rfl rfl rfl (eas (eV (v := (Value.slice none 0 0)) rfl)) ?_
  refine ake [0, 1, 2] 0 1 (st' := ⟨26, 1, [(0, (NP 0 0)), (1, (SL 5 cNd t1)), (2, (I t2))], [], ⟨1, [(0, ⟨1, (cPk t0), false⟩)]⟩⟩) (by kernel_rfl) (by kernel_rfl) ?_
  show AWp _ _ _ _
  refine awp_seq ?_
  refine awp_seq ?_
  refine awr ?_
  refine ado rfl rfl rfl (eas (eV (v := (I 0)) rfl)) ?_
  refine ake [0, 1, 2, 7] 0 1 (st' := ⟨26, 1, [(0, (NP 0 0)), (1, (SL 5 cNd t1)), (2, (I t2)), (7, (I 0))], [], ⟨1, [(0, ⟨1, (cPk t0), false⟩)]⟩⟩) (by kernel_rfl) (by kernel_rfl) ?_
  show AWp _ _ _ _
  refine awp_block ?_
  refine awp_loop (fun n s => ∃ (v1 : (List G_api_Node)) (v2 : Int) (v3 : G_palimpmade_Picks), s = ⟨26, 1, [(0, (NP 0 0)), (1, (SL 5 cNd v1)), (2, (I t2)), (7, (I v2))], [], ⟨1, [(0, ⟨1, (cPk v3), false⟩)]⟩⟩ ∧ M_made_Picks_Grown_l1 t2 n v1 v2 v3 = some r) fuel (Exists.intro t1 (Exists.intro 0 (Exists.intro t0 (And.intro rfl h)))) ?_
  rintro n s ⟨v1, v2, v3, rfl, h⟩ -
  cases n with
  | zero => cases h
  | succ n1 =>
    unfold M_made_Picks_Grown_l1 at h
    refine awp_seq ?_
    refine awp_seq ?_
    rcases Bool.eq_false_or_eq_true ((decide (v2 < t2)) == true) with hg2_0 | hg2_0
    · rw [condT hg2_0] at h
      refine awr ?_
      refine ado rfl rfl rfl (emv (eV (v := (I v2)) rfl)) ?_
      refine ado rfl rfl rfl (emv (eV (v := (I t2)) rfl)) ?_
      refine ado rfl rfl rfl (ex_bin (vx := (I v2)) (vy := (I t2)) rfl rfl lssI_ok) ?_
      refine ado rfl rfl rfl (emv (eV (v := (Bo (decide (v2 < t2)))) rfl)) ?_
      refine ado rfl rfl (gT rfl hg2_0) (emv (eV (v := (NP 0 0)) rfl)) ?_
      obtain ⟨x4, hx4, h⟩ := bindS h
      refine ado rfl rfl (gT rfl hg2_0) (ex_call1 (vs := [(NP 0 0)]) (vs' := [(NP 0 0)]) (v := (Bo x4.1)) (n := 0) (b := ⟨1, (cPk v3), false⟩) (b' := ⟨1, (cPk x4.2), false⟩) (H' := ⟨1, [(0, ⟨1, (cPk x4.2), false⟩)]⟩) rfl en_53 (cargs (evs rfl evs_nil)) rfl rfl (.cons (.inr ⟨_, rfl, rfl⟩) .nil) (ok_made_Picks_Over v3  x4 hx4) rfl rfl) ?_
      refine ado rfl rfl (gT rfl hg2_0) (ex_un (vx := (Bo x4.1)) rfl notB_ok) ?_
      refine ado rfl rfl rfl (ex_pick rfl pkAndD) ?_
      refine ake [0, 1, 2, 7, 15] 0 1 (st' := ⟨26, 1, [(0, (NP 0 0)), (1, (SL 5 cNd v1)), (2, (I t2)), (7, (I v2)), (15, (Bo ((decide (v2 < t2)) && (!x4.1))))], [], ⟨1, [(0, ⟨1, (cPk x4.2), false⟩)]⟩⟩) (by kernel_rfl) (by kernel_rfl) ?_
      show AWp _ _ _ _
      rcases Bool.eq_false_or_eq_true ((decide (v2 < t2)) && (!x4.1)) with hb5 | hb5
      · rw [condT hb5] at h
        refine awp_condT (boT hb5) ?_
        refine awp_skip ?_
        show AWp _ _ _ _
        refine awp_seq ?_
        refine awp_block ?_
        refine awr ?_
        refine ado rfl rfl rfl (emv (eV (v := (SL 5 cNd v1)) rfl)) ?_
        refine ado rfl rfl rfl (emv (eV (v := (NP 0 0)) rfl)) ?_
        obtain ⟨x6, hx6, h⟩ := bindS h
        refine ado rfl rfl rfl (ex_call1 (vs := [(NP 0 0), (I 1)]) (vs' := [(NP 0 0), (I 1)]) (v := (Value.agg (c_api_Step x6.1).toArray)) (n := 0) (b := ⟨1, (cPk x4.2), false⟩) (b' := ⟨1, (cPk x6.2), false⟩) (H' := ⟨1, [(0, ⟨1, (cPk x6.2), false⟩)]⟩) rfl en_55 (cargs (evs rfl (evs rfl evs_nil))) rfl rfl (.cons (.inr ⟨_, rfl, rfl⟩) (.cons (.inl ⟨rfl, rfl⟩) .nil)) (ok_made_Picks_Edit x4.2 1 x6 hx6) rfl rfl) ?_
        obtain ⟨x7, hx7, h⟩ := bindS h
        refine ado rfl rfl rfl (ex_call0 (vs := [(SL 5 cNd v1), (Value.agg (c_api_Step x6.1).toArray)]) (v := (Value.tuple #[(SL 5 cNd x7.1), (I x7.2)])) rfl en_54 (cargs (evs rfl (evs rfl evs_nil))) rfl (ok_made_Done v1 x6.1 x7 hx7) rfl) ?_
        refine ado rfl rfl rfl (emv (eV (v := (Value.tuple #[(SL 5 cNd x7.1), (I x7.2)])) rfl)) ?_
        refine ado rfl rfl rfl (ex_extract (vx := (Value.tuple #[(SL 5 cNd x7.1), (I x7.2)])) (v := (SL 5 cNd x7.1)) rfl rfl) ?_
        refine ado rfl rfl rfl (ex_extract (vx := (Value.tuple #[(SL 5 cNd x7.1), (I x7.2)])) (v := (I x7.2)) rfl rfl) ?_
        refine ado rfl rfl rfl (eas (eV (v := (SL 5 cNd x7.1)) rfl)) ?_
        refine ake [0, 1, 2, 7] 0 1 (st' := ⟨26, 1, [(0, (NP 0 0)), (1, (SL 5 cNd x7.1)), (2, (I t2)), (7, (I v2))], [], ⟨1, [(0, ⟨1, (cPk x6.2), false⟩)]⟩⟩) (by kernel_rfl) (by kernel_rfl) ?_
        show AWp _ _ _ _
        refine awr ?_
        refine ado rfl rfl rfl (emv (eV (v := (I v2)) rfl)) ?_
        refine ado rfl rfl rfl (ex_bin (vx := (I v2)) (vy := (I 1)) rfl rfl addI_ok) ?_
        refine ado rfl rfl rfl (eas (eV (v := (I (w64 (v2 + 1)))) rfl)) ?_
        refine ake [0, 1, 2, 7] 0 1 (st' := ⟨26, 1, [(0, (NP 0 0)), (1, (SL 5 cNd x7.1)), (2, (I t2)), (7, (I (w64 (v2 + 1))))], [], ⟨1, [(0, ⟨1, (cPk x6.2), false⟩)]⟩⟩) (by kernel_rfl) (by kernel_rfl) ?_
        exact Exists.intro n1 (And.intro (Nat.lt_succ_self _) (Exists.intro x7.1 (Exists.intro (w64 (v2 + 1)) (Exists.intro x6.2 (And.intro rfl h)))))
      · rw [condF hb5] at h
        refine awp_condF (boF hb5) ?_
        refine awp_exit ?_
        show AWp _ _ _ _
        refine awp_seq ?_
        refine awr ?_
        refine ado rfl rfl rfl (emv (eV (v := (SL 5 cNd v1)) rfl)) ?_
        refine ado rfl rfl rfl (eas (eV (v := (SL 5 cNd v1)) rfl)) ?_
        refine ake [6] 0 1 (st' := ⟨26, 1, [(6, (SL 5 cNd v1))], [], ⟨1, [(0, ⟨1, (cPk x4.2), false⟩)]⟩⟩) (by kernel_rfl) (by kernel_rfl) ?_
        show AWp _ _ _ _
        refine awp_ret ?_
        cases h
        exact And.intro (ares1 (rtmp rfl (eV rfl))) rfl
    · rw [condF hg2_0] at h
      refine awr ?_
      refine ado rfl rfl rfl (emv (eV (v := (I v2)) rfl)) ?_
      refine ado rfl rfl rfl (emv (eV (v := (I t2)) rfl)) ?_
      refine ado rfl rfl rfl (ex_bin (vx := (I v2)) (vy := (I t2)) rfl rfl lssI_ok) ?_
      refine ado rfl rfl rfl (emv (eV (v := (Bo (decide (v2 < t2)))) rfl)) ?_
      refine arun_skip rfl rfl (gF rfl hg2_0) ?_
      refine arun_skip rfl rfl (gF rfl hg2_0) ?_
      refine arun_skip rfl rfl (gF rfl hg2_0) ?_
      refine ado rfl rfl rfl (ex_pick rfl (pkAndS hg2_0)) ?_
      refine ake [0, 1, 2, 7, 15] 0 1 (st' := ⟨26, 1, [(0, (NP 0 0)), (1, (SL 5 cNd v1)), (2, (I t2)), (7, (I v2)), (15, (Bo (decide (v2 < t2))))], [], ⟨1, [(0, ⟨1, (cPk v3), false⟩)]⟩⟩) (by kernel_rfl) (by kernel_rfl) ?_
      show AWp _ _ _ _
      rcases Bool.eq_false_or_eq_true (decide (v2 < t2)) with hb4 | hb4
      · rw [condT hb4] at h
        refine awp_condT (boT hb4) ?_
        refine awp_skip ?_
        show AWp _ _ _ _
        refine awp_seq ?_
        refine awp_block ?_
        refine awr ?_
        refine ado rfl rfl rfl (emv (eV (v := (SL 5 cNd v1)) rfl)) ?_
        refine ado rfl rfl rfl (emv (eV (v := (NP 0 0)) rfl)) ?_
        obtain ⟨x5, hx5, h⟩ := bindS h
        refine ado rfl rfl rfl (ex_call1 (vs := [(NP 0 0), (I 1)]) (vs' := [(NP 0 0), (I 1)]) (v := (Value.agg (c_api_Step x5.1).toArray)) (n := 0) (b := ⟨1, (cPk v3), false⟩) (b' := ⟨1, (cPk x5.2), false⟩) (H' := ⟨1, [(0, ⟨1, (cPk x5.2), false⟩)]⟩) rfl en_55 (cargs (evs rfl (evs rfl evs_nil))) rfl rfl (.cons (.inr ⟨_, rfl, rfl⟩) (.cons (.inl ⟨rfl, rfl⟩) .nil)) (ok_made_Picks_Edit v3 1 x5 hx5) rfl rfl) ?_
        obtain ⟨x6, hx6, h⟩ := bindS h
        refine ado rfl rfl rfl (ex_call0 (vs := [(SL 5 cNd v1), (Value.agg (c_api_Step x5.1).toArray)]) (v := (Value.tuple #[(SL 5 cNd x6.1), (I x6.2)])) rfl en_54 (cargs (evs rfl (evs rfl evs_nil))) rfl (ok_made_Done v1 x5.1 x6 hx6) rfl) ?_
        refine ado rfl rfl rfl (emv (eV (v := (Value.tuple #[(SL 5 cNd x6.1), (I x6.2)])) rfl)) ?_
        refine ado rfl rfl rfl (ex_extract (vx := (Value.tuple #[(SL 5 cNd x6.1), (I x6.2)])) (v := (SL 5 cNd x6.1)) rfl rfl) ?_
        refine ado rfl rfl rfl (ex_extract (vx := (Value.tuple #[(SL 5 cNd x6.1), (I x6.2)])) (v := (I x6.2)) rfl rfl) ?_
        refine ado rfl rfl rfl (eas (eV (v := (SL 5 cNd x6.1)) rfl)) ?_
        refine ake [0, 1, 2, 7] 0 1 (st' := ⟨26, 1, [(0, (NP 0 0)), (1, (SL 5 cNd x6.1)), (2, (I t2)), (7, (I v2))], [], ⟨1, [(0, ⟨1, (cPk x5.2), false⟩)]⟩⟩) (by kernel_rfl) (by kernel_rfl) ?_
        show AWp _ _ _ _
        refine awr ?_
        refine ado rfl rfl rfl (emv (eV (v := (I v2)) rfl)) ?_
        refine ado rfl rfl rfl (ex_bin (vx := (I v2)) (vy := (I 1)) rfl rfl addI_ok) ?_
        refine ado rfl rfl rfl (eas (eV (v := (I (w64 (v2 + 1)))) rfl)) ?_
        refine ake [0, 1, 2, 7] 0 1 (st' := ⟨26, 1, [(0, (NP 0 0)), (1, (SL 5 cNd x6.1)), (2, (I t2)), (7, (I (w64 (v2 + 1))))], [], ⟨1, [(0, ⟨1, (cPk x5.2), false⟩)]⟩⟩) (by kernel_rfl) (by kernel_rfl) ?_
        exact Exists.intro n1 (And.intro (Nat.lt_succ_self _) (Exists.intro x6.1 (Exists.intro (w64 (v2 + 1)) (Exists.intro x5.2 (And.intro rfl h)))))
      · rw [condF hb4] at h
        refine awp_condF (boF hb4) ?_
        refine awp_exit ?_
        show AWp _ _ _ _
        refine awp_seq ?_
        refine awr ?_
        refine ado rfl rfl rfl (emv (eV (v := (SL 5 cNd v1)) rfl)) ?_
        refine ado rfl rfl rfl (eas (eV (v := (SL 5 cNd v1)) rfl)) ?_
        refine ake [6] 0 1 (st' := ⟨26, 1, [(6, (SL 5 cNd v1))], [], ⟨1, [(0, ⟨1, (cPk v3), false⟩)]⟩⟩) (by kernel_rfl) (by kernel_rfl) ?_
        show AWp _ _ _ _
        refine awp_ret ?_
        cases h
        exact And.intro (ares1 (rtmp rfl (eV rfl))) rfl

noncomputable def M_made_Picks_Set (t0 : G_palimpmade_Picks) (t1 : Int) : Option ((List G_api_Node) × G_palimpmade_Picks) :=
  Option.bind (M_ref11_New) fun (x1 : (List G_api_Node)) => Option.bind (M_made_Picks_Grown t0 x1 t1) fun (x2 : ((List G_api_Node) × G_palimpmade_Picks)) => some (x2.1, x2.2)
theorem ok_made_Picks_Set (t0 : G_palimpmade_Picks) (t1 : Int) (r : ((List G_api_Node) × G_palimpmade_Picks)) (h : M_made_Picks_Set t0 t1 = some r) : F1n Tryz.prog 7 [(NP 0 0), (I t1)] ⟨1, (cPk t0), false⟩ (SL 5 cNd r.1) ⟨1, (cPk r.2), false⟩ := by
  refine F1n.of_body (n := 9) Tryz.func7 rfl Tryz.ntmps7 rfl rfl rfl rfl ?_
  show AWp _ _ _ ⟨9, 1, [(0, (NP 0 0)), (1, (I t1))], [], ⟨1, [(0, ⟨1, (cPk t0), false⟩)]⟩⟩
  unfold M_made_Picks_Set at h
  refine awp_seq ?_
  refine awr ?_
  refine ado rfl rfl rfl (eas (eV (v := (Value.slice none 0 0)) rfl)) ?_
  refine ake [0, 1] 0 1 (st' := ⟨9, 1, [(0, (NP 0 0)), (1, (I t1))], [], ⟨1, [(0, ⟨1, (cPk t0), false⟩)]⟩⟩) (by kernel_rfl) (by kernel_rfl) ?_
  show AWp _ _ _ _
  refine awp_seq ?_
  refine awr ?_
  refine ado rfl rfl rfl (emv (eV (v := (NP 0 0)) rfl)) ?_
  obtain ⟨x1, hx1, h⟩ := bindS h
  refine ado rfl rfl rfl (ex_call0 (vs := []) (v := (SL 5 cNd x1)) rfl en_31 (cargs evs_nil) rfl (ok_ref11_New  x1 hx1) rfl) ?_
  refine ado rfl rfl rfl (emv (eV (v := (I t1)) rfl)) ?_
  obtain ⟨x2, hx2, h⟩ := bindS h
  refine ado rfl rfl rfl (ex_call1 (vs := [(NP 0 0), (SL 5 cNd x1), (I t1)]) (vs' := [(NP 0 0), (SL 5 cNd x1), (I t1)]) (v := (SL 5 cNd x2.1)) (n := 0) (b := ⟨1, (cPk t0), false⟩) (b' := ⟨1, (cPk x2.2), false⟩) (H' := ⟨1, [(0, ⟨1, (cPk x2.2), false⟩)]⟩) rfl en_32 (cargs (evs rfl (evs rfl (evs rfl evs_nil)))) rfl rfl (.cons (.inr ⟨_, rfl, rfl⟩) (.cons (.inl ⟨rfl, rfl⟩) (.cons (.inl ⟨rfl, rfl⟩) .nil))) (ok_made_Picks_Grown t0 x1 t1 x2 hx2) rfl rfl) ?_
  refine ado rfl rfl rfl (eas (eV (v := (SL 5 cNd x2.1)) rfl)) ?_
  refine ake [4] 0 1 (st' := ⟨9, 1, [(4, (SL 5 cNd x2.1))], [], ⟨1, [(0, ⟨1, (cPk x2.2), false⟩)]⟩⟩) (by kernel_rfl) (by kernel_rfl) ?_
  show AWp _ _ _ _
  refine awp_ret ?_
  cases h
  exact And.intro (ares1 (rtmp rfl (eV rfl))) rfl

noncomputable def M_made_Picks_Torn_k1 (c_1 : (Int → G_palimpmade_Picks → List G_api_Node → Option ((List G_api_Node) × G_palimpmade_Picks))) (v3 : Int) (y7 : G_palimpmade_Picks) (y8 : List G_api_Node) : Option ((List G_api_Node) × G_palimpmade_Picks) :=
  c_1 (w64 (v3 + 1)) y7 y8
noncomputable def M_made_Picks_Torn_l1 : Nat → Int → G_palimpmade_Picks → List G_api_Node → Option ((List G_api_Node) × G_palimpmade_Picks)
  | 0, _, _, _ => none
  | n1 + 1, v3, v4, v5 =>
  cond (decide (v3 < ((v5.length : Nat) : Int))) (Option.bind (M_made_Picks_Num v4 6) fun (x9 : (Int × G_palimpmade_Picks)) => cond (x9.1 == 0) (Option.bind (getI v5 v3) fun (x11 : G_api_Node) => cond (x11.Kind != 0) (Option.bind (getI v5 v3) fun (x13 : G_api_Node) => Option.bind (setI v5 v3 (G_api_Node.mk 3 0 [] [] 0)) fun (x14 : List G_api_Node) => M_made_Picks_Torn_k1 (M_made_Picks_Torn_l1 n1) v3 x9.2 x14) (M_made_Picks_Torn_k1 (M_made_Picks_Torn_l1 n1) v3 x9.2 v5)) (cond (x9.1 == 1) (Option.bind (getI v5 v3) fun (x16 : G_api_Node) => cond (x16.Kind == 1) (Option.bind (M_made_Picks_Num x9.2 16) fun (x18 : (Int × G_palimpmade_Picks)) => Option.bind (getI v5 v3) fun (x19 : G_api_Node) => Option.bind (setI v5 v3 (G_api_Node.mk x19.Kind x19.Up x19.Name x19.Body x18.1)) fun (x20 : List G_api_Node) => M_made_Picks_Torn_k1 (M_made_Picks_Torn_l1 n1) v3 x18.2 x20) (M_made_Picks_Torn_k1 (M_made_Picks_Torn_l1 n1) v3 x9.2 v5)) (M_made_Picks_Torn_k1 (M_made_Picks_Torn_l1 n1) v3 x9.2 v5))) (some (v5, v4))
noncomputable def M_made_Picks_Torn (t0 : G_palimpmade_Picks) (t1 : Int) : Option ((List G_api_Node) × G_palimpmade_Picks) :=
  Option.bind (M_made_Picks_Set t0 t1) fun (x1 : ((List G_api_Node) × G_palimpmade_Picks)) => Option.bind (appL 56 ([] : List G_api_Node) x1.1) fun (x2 : List G_api_Node) => M_made_Picks_Torn_l1 fuel 1 x1.2 x2
theorem ok_made_Picks_Torn (t0 : G_palimpmade_Picks) (t1 : Int) (r : ((List G_api_Node) × G_palimpmade_Picks)) (h : M_made_Picks_Torn t0 t1 = some r) : F1n Tryz.prog 8 [(NP 0 0), (I t1)] ⟨1, (cPk t0), false⟩ (SL 5 cNd r.1) ⟨1, (cPk r.2), false⟩ := by
  refine F1n.of_body (n := 47) Tryz.func8 rfl Tryz.ntmps8 rfl rfl rfl rfl ?_
  show AWp _ _ _ ⟨47, 1, [(0, (NP 0 0)), (1, (I t1))], [], ⟨1, [(0, ⟨1, (cPk t0), false⟩)]⟩⟩
  unfold M_made_Picks_Torn at h
  refine awp_seq ?_
  refine awr ?_
  refine ado rfl rfl rfl (eas (eV (v := (Value.slice none 0 0)) rfl)) ?_
  refine ake [0, 1] 0 1 (st' := ⟨47, 1, [(0, (NP 0 0)), (1, (I t1))], [], ⟨1, [(0, ⟨1, (cPk t0), false⟩)]⟩⟩) (by kernel_rfl) (by kernel_rfl) ?_
  show AWp _ _ _ _
  refine awp_seq ?_
  refine awr ?_
  refine ado rfl rfl rfl (ex_buildSliceG (k := 1) (qs := []) (cells := (([] : List G_api_Node).flatMap cNd)) (H' := ⟨2, [(1, ⟨5, (([] : List G_api_Node).flatMap cNd), true⟩), (0, ⟨1, (cPk t0), false⟩)]⟩) Tryz.underlying25 s_54 (by decide) (by decide) evp_nil rfl (by kernel_rfl) (by kernel_rfl) (by kernel_rfl) rfl rfl) ?_
  refine ado rfl rfl rfl (emv (eV (v := (NP 0 0)) rfl)) ?_
  refine ado rfl rfl rfl (emv (eV (v := (I t1)) rfl)) ?_
  obtain ⟨x1, hx1, h⟩ := bindS h
  refine ado rfl rfl rfl (ex_call1 (vs := [(NP 0 0), (I t1)]) (vs' := [(NP 0 0), (I t1)]) (v := (SL 5 cNd x1.1)) (n := 0) (b := ⟨1, (cPk t0), false⟩) (b' := ⟨1, (cPk x1.2), false⟩) (H' := ⟨2, [(1, ⟨5, (([] : List G_api_Node).flatMap cNd), true⟩), (0, ⟨1, (cPk x1.2), false⟩)]⟩) rfl en_7 (cargs (evs rfl (evs rfl evs_nil))) rfl rfl (.cons (.inr ⟨_, rfl, rfl⟩) (.cons (.inl ⟨rfl, rfl⟩) .nil)) (ok_made_Picks_Set t0 t1 x1 hx1) rfl rfl) ?_
  obtain ⟨x2, hx2, h⟩ := bindS h
  refine ado rfl rfl rfl (tx_appG (c := cNd) (xs := []) (H' := ⟨2, [(1, ⟨5, ((x2).flatMap cNd), true⟩), (0, ⟨1, (cPk x1.2), false⟩)]⟩) ce_api_Node e_54 rfl rfl rfl (tsrcD (ys := x1.1) ce_api_Node Tryz.underlying25 s_54 Tryz.underlying25 rfl) hx2 rfl) ?_
  refine ado rfl rfl rfl (eas (eV (v := (GV 1 x2.length)) rfl)) ?_
  refine ake [0, 5] 0 2 (st' := ⟨47, 1, [(0, (NP 0 0)), (5, (GV 1 x2.length))], [], ⟨2, [(1, ⟨5, ((x2).flatMap cNd), true⟩), (0, ⟨1, (cPk x1.2), false⟩)]⟩⟩) (by kernel_rfl) (by kernel_rfl) ?_
  show AWp _ _ _ _
  refine awp_seq ?_
  refine awp_seq ?_
  refine awr ?_
  refine ado rfl rfl rfl (eas (eV (v := (I 1)) rfl)) ?_
  refine ake [0, 5, 6] 0 2 (st' := ⟨47, 1, [(0, (NP 0 0)), (5, (GV 1 x2.length)), (6, (I 1))], [], ⟨2, [(1, ⟨5, ((x2).flatMap cNd), true⟩), (0, ⟨1, (cPk x1.2), false⟩)]⟩⟩) (by kernel_rfl) (by kernel_rfl) ?_
  show AWp _ _ _ _
  refine awp_block ?_
  refine awp_loop (fun n s => ∃ (v3 : Int) (v4 : G_palimpmade_Picks) (v5 : List G_api_Node), s = ⟨47, 1, [(0, (NP 0 0)), (5, (GV 1 v5.length)), (6, (I v3))], [], ⟨2, [(1, ⟨5, ((v5).flatMap cNd), true⟩), (0, ⟨1, (cPk v4), false⟩)]⟩⟩ ∧ M_made_Picks_Torn_l1 n v3 v4 v5 = some r) fuel (Exists.intro 1 (Exists.intro x1.2 (Exists.intro x2 (And.intro rfl h)))) ?_
  rintro n s ⟨v3, v4, v5, rfl, h⟩ -
  cases n with
  | zero => cases h
  | succ n1 =>
    unfold M_made_Picks_Torn_l1 at h
    refine awp_seq ?_
    refine awp_seq ?_
    refine awr ?_
    refine ado rfl rfl rfl (emv (eV (v := (I v3)) rfl)) ?_
    refine ado rfl rfl rfl (emv (eV (v := (GV 1 v5.length)) rfl)) ?_
    refine ado rfl rfl rfl (ex_lenN (n := v5.length) Tryz.underlying25 rfl) ?_
    refine ado rfl rfl rfl (ex_bin (vx := (I v3)) (vy := (I ((v5.length : Nat) : Int))) rfl rfl lssI_ok) ?_
    refine ake [0, 5, 6, 15] 0 2 (st' := ⟨47, 1, [(0, (NP 0 0)), (5, (GV 1 v5.length)), (6, (I v3)), (15, (Bo (decide (v3 < ((v5.length : Nat) : Int)))))], [], ⟨2, [(1, ⟨5, ((v5).flatMap cNd), true⟩), (0, ⟨1, (cPk v4), false⟩)]⟩⟩) (by kernel_rfl) (by kernel_rfl) ?_
    show AWp _ _ _ _
    rcases Bool.eq_false_or_eq_true (decide (v3 < ((v5.length : Nat) : Int))) with hb6 | hb6
    · rw [condT hb6] at h
      refine awp_condT (boT hb6) ?_
      refine awp_skip ?_
      show AWp _ _ _ _
      refine awp_seqJ (fun s => ∃ (y7 : G_palimpmade_Picks) (y8 : List G_api_Node), s = ⟨47, 1, [(0, (NP 0 0)), (5, (GV 1 y8.length)), (6, (I v3))], [], ⟨2, [(1, ⟨5, ((y8).flatMap cNd), true⟩), (0, ⟨1, (cPk y7), false⟩)]⟩⟩ ∧ M_made_Picks_Torn_k1 (M_made_Picks_Torn_l1 n1) v3 y7 y8 = some r) ?_ ?_
      · refine awp_block ?_
        refine awp_seq ?_
        refine awr ?_
        refine ado rfl rfl rfl (emv (eV (v := (NP 0 0)) rfl)) ?_
        obtain ⟨x9, hx9, h⟩ := bindS h
        refine ado rfl rfl rfl (ex_call1 (vs := [(NP 0 0), (I 6)]) (vs' := [(NP 0 0), (I 6)]) (v := (I x9.1)) (n := 0) (b := ⟨1, (cPk v4), false⟩) (b' := ⟨1, (cPk x9.2), false⟩) (H' := ⟨2, [(1, ⟨5, ((v5).flatMap cNd), true⟩), (0, ⟨1, (cPk x9.2), false⟩)]⟩) rfl en_10 (cargs (evs rfl (evs rfl evs_nil))) rfl rfl (.cons (.inr ⟨_, rfl, rfl⟩) (.cons (.inl ⟨rfl, rfl⟩) .nil)) (ok_made_Picks_Num v4 6 x9 hx9) rfl rfl) ?_
        refine ake [0, 5, 6, 19] 0 2 (st' := ⟨47, 1, [(0, (NP 0 0)), (5, (GV 1 v5.length)), (6, (I v3)), (19, (I x9.1))], [], ⟨2, [(1, ⟨5, ((v5).flatMap cNd), true⟩), (0, ⟨1, (cPk x9.2), false⟩)]⟩⟩) (by kernel_rfl) (by kernel_rfl) ?_
        show AWp _ _ _ _
        refine awp_block ?_
        refine awp_seq ?_
        refine awr ?_
        refine ado rfl rfl rfl (ex_bin (vx := (I x9.1)) (vy := (I 0)) rfl rfl eqlI_ok) ?_
        refine ado rfl rfl rfl (eas (eV (v := (Bo (x9.1 == 0))) rfl)) ?_
        refine ake [0, 5, 6, 19, 20] 0 2 (st' := ⟨47, 1, [(0, (NP 0 0)), (5, (GV 1 v5.length)), (6, (I v3)), (19, (I x9.1)), (20, (Bo (x9.1 == 0)))], [], ⟨2, [(1, ⟨5, ((v5).flatMap cNd), true⟩), (0, ⟨1, (cPk x9.2), false⟩)]⟩⟩) (by kernel_rfl) (by kernel_rfl) ?_
        show AWp _ _ _ _
        rcases Bool.eq_false_or_eq_true (x9.1 == 0) with hb10 | hb10
        · rw [condT hb10] at h
          refine awp_condT (boT hb10) ?_
          refine awp_seq ?_
          refine awr ?_
          refine ado rfl rfl rfl (emv (eV (v := (GV 1 v5.length)) rfl)) ?_
          refine ado rfl rfl rfl (emv (eV (v := (I v3)) rfl)) ?_
          obtain ⟨x11, hx11, h⟩ := bindS h
          refine ado rfl rfl rfl (tx_idxG (c := cNd) (xs := v5) (i := v3) ce_api_Node Tryz.underlying25 s_54 rfl rfl rfl rfl hx11) ?_
          refine ado rfl rfl rfl (ex_fieldAddr (v := (GP 1 ((v3.toNat * 5) + 0) (List.flatMap cNd v5).length)) Tryz.underlying54 rfl s_3 (by decide) rfl rfl) ?_
          refine ado rfl rfl rfl (tx_ldG (v := (I x11.Kind)) (s := 5) rfl rfl (part_elem (off := 0) (v := (I x11.Kind)) ce_api_Node hx11 Tryz.underlying3 rfl (by decide) rfl)) ?_
          refine ado rfl rfl rfl (ex_bin (vx := (I x11.Kind)) (vy := (I 0)) rfl rfl neqI_ok) ?_
          refine ake [0, 5, 6, 27] 0 2 (st' := ⟨47, 1, [(0, (NP 0 0)), (5, (GV 1 v5.length)), (6, (I v3)), (27, (Bo (x11.Kind != 0)))], [], ⟨2, [(1, ⟨5, ((v5).flatMap cNd), true⟩), (0, ⟨1, (cPk x9.2), false⟩)]⟩⟩) (by kernel_rfl) (by kernel_rfl) ?_
          show AWp _ _ _ _
          rcases Bool.eq_false_or_eq_true (x11.Kind != 0) with hb12 | hb12
          · rw [condT hb12] at h
            refine awp_condT (boT hb12) ?_
            refine awr ?_
            refine ado rfl rfl rfl (emv (eV (v := (GV 1 v5.length)) rfl)) ?_
            refine ado rfl rfl rfl (emv (eV (v := (I v3)) rfl)) ?_
            refine ado rfl rfl rfl (ex_build (qs := [(0, (I 3))]) (v := (Value.agg (cNd (G_api_Node.mk 3 0 [] [] 0)).toArray)) (evp rfl evp_nil) (by kernel_rfl)) ?_
            obtain ⟨x13, hx13, h⟩ := bindS h
            refine ado rfl rfl rfl (tx_idxG (c := cNd) (xs := v5) (i := v3) ce_api_Node Tryz.underlying25 s_54 rfl rfl rfl rfl hx13) ?_
            obtain ⟨x14, hx14, h⟩ := bindS h
            refine arun_do0 rfl rfl (tx_stG (c := cNd) (xs := v5) (e := (G_api_Node.mk 3 0 [] [] 0)) (H' := ⟨2, [(1, ⟨5, ((x14).flatMap cNd), true⟩), (0, ⟨1, (cPk x9.2), false⟩)]⟩) ce_api_Node s_54 rfl (eV (v := (Value.agg (cNd (G_api_Node.mk 3 0 [] [] 0)).toArray)) rfl) rfl rfl hx14 rfl) ?_
            refine arun_fewer (T' := [(0, (NP 0 0)), (5, (GV 1 x14.length)), (6, (I v3)), (27, (Bo (x11.Kind != 0))), (28, (GV 1 x14.length)), (29, (I v3)), (30, (Value.agg (cNd (G_api_Node.mk 3 0 [] [] 0)).toArray))]) (ReT.keep (v := (NP 0 0)) rfl (ReT.gv rfl (setI_len hx14) (ReT.keep (v := (I v3)) rfl (ReT.keep (v := (Bo (x11.Kind != 0))) rfl (ReT.gv rfl (setI_len hx14) (ReT.keep (v := (I v3)) rfl (ReT.keep (v := (Value.agg (cNd (G_api_Node.mk 3 0 [] [] 0)).toArray)) rfl ReT.nil))))))) ?_
            refine ake [0, 5, 6] 0 2 (st' := ⟨47, 1, [(0, (NP 0 0)), (5, (GV 1 x14.length)), (6, (I v3))], [], ⟨2, [(1, ⟨5, ((x14).flatMap cNd), true⟩), (0, ⟨1, (cPk x9.2), false⟩)]⟩⟩) (by kernel_rfl) (by kernel_rfl) ?_
            exact (Exists.intro x9.2 (Exists.intro x14 (And.intro rfl h)))
          · rw [condF hb12] at h
            refine awp_condF (boF hb12) ?_
            refine awp_keepE [0, 5, 6] 0 2 (st' := ⟨47, 1, [(0, (NP 0 0)), (5, (GV 1 v5.length)), (6, (I v3))], [], ⟨2, [(1, ⟨5, ((v5).flatMap cNd), true⟩), (0, ⟨1, (cPk x9.2), false⟩)]⟩⟩) (by kernel_rfl) (by kernel_rfl) ?_
            refine awp_skip ?_
            exact (Exists.intro x9.2 (Exists.intro v5 (And.intro rfl h)))
        · rw [condF hb10] at h
          refine awp_condF (boF hb10) ?_
          refine awp_seq ?_
          refine awr ?_
          refine ado rfl rfl rfl (ex_bin (vx := (I x9.1)) (vy := (I 1)) rfl rfl eqlI_ok) ?_
          refine ado rfl rfl rfl (eas (eV (v := (Bo (x9.1 == 1))) rfl)) ?_
          refine ake [0, 5, 6, 32] 0 2 (st' := ⟨47, 1, [(0, (NP 0 0)), (5, (GV 1 v5.length)), (6, (I v3)), (32, (Bo (x9.1 == 1)))], [], ⟨2, [(1, ⟨5, ((v5).flatMap cNd), true⟩), (0, ⟨1, (cPk x9.2), false⟩)]⟩⟩) (by kernel_rfl) (by kernel_rfl) ?_
          show AWp _ _ _ _
          rcases Bool.eq_false_or_eq_true (x9.1 == 1) with hb15 | hb15
          · rw [condT hb15] at h
            refine awp_condT (boT hb15) ?_
            refine awp_seq ?_
            refine awr ?_
            refine ado rfl rfl rfl (emv (eV (v := (GV 1 v5.length)) rfl)) ?_
            refine ado rfl rfl rfl (emv (eV (v := (I v3)) rfl)) ?_
            obtain ⟨x16, hx16, h⟩ := bindS h
            refine ado rfl rfl rfl (tx_idxG (c := cNd) (xs := v5) (i := v3) ce_api_Node Tryz.underlying25 s_54 rfl rfl rfl rfl hx16) ?_
            refine ado rfl rfl rfl (ex_fieldAddr (v := (GP 1 ((v3.toNat * 5) + 0) (List.flatMap cNd v5).length)) Tryz.underlying54 rfl s_3 (by decide) rfl rfl) ?_
            refine ado rfl rfl rfl (tx_ldG (v := (I x16.Kind)) (s := 5) rfl rfl (part_elem (off := 0) (v := (I x16.Kind)) ce_api_Node hx16 Tryz.underlying3 rfl (by decide) rfl)) ?_
            refine ado rfl rfl rfl (ex_bin (vx := (I x16.Kind)) (vy := (I 1)) rfl rfl eqlI_ok) ?_
            refine ake [0, 5, 6, 39] 0 2 (st' := ⟨47, 1, [(0, (NP 0 0)), (5, (GV 1 v5.length)), (6, (I v3)), (39, (Bo (x16.Kind == 1)))], [], ⟨2, [(1, ⟨5, ((v5).flatMap cNd), true⟩), (0, ⟨1, (cPk x9.2), false⟩)]⟩⟩) (by kernel_rfl) (by kernel_rfl) ?_
            show AWp _ _ _ _
            rcases Bool.eq_false_or_eq_true (x16.Kind == 1) with hb17 | hb17
            · rw [condT hb17] at h
              refine awp_condT (boT hb17) ?_
              refine awr ?_
              refine ado rfl rfl rfl (emv (eV (v := (GV 1 v5.length)) rfl)) ?_
              refine ado rfl rfl rfl (emv (eV (v := (I v3)) rfl)) ?_
              refine ado rfl rfl rfl (emv (eV (v := (NP 0 0)) rfl)) ?_
              obtain ⟨x18, hx18, h⟩ := bindS h
              refine ado rfl rfl rfl (ex_call1 (vs := [(NP 0 0), (I 16)]) (vs' := [(NP 0 0), (I 16)]) (v := (I x18.1)) (n := 0) (b := ⟨1, (cPk x9.2), false⟩) (b' := ⟨1, (cPk x18.2), false⟩) (H' := ⟨2, [(1, ⟨5, ((v5).flatMap cNd), true⟩), (0, ⟨1, (cPk x18.2), false⟩)]⟩) rfl en_10 (cargs (evs rfl (evs rfl evs_nil))) rfl rfl (.cons (.inr ⟨_, rfl, rfl⟩) (.cons (.inl ⟨rfl, rfl⟩) .nil)) (ok_made_Picks_Num x9.2 16 x18 hx18) rfl rfl) ?_
              obtain ⟨x19, hx19, h⟩ := bindS h
              refine ado rfl rfl rfl (tx_idxG (c := cNd) (xs := v5) (i := v3) ce_api_Node Tryz.underlying25 s_54 rfl rfl rfl rfl hx19) ?_
              refine ado rfl rfl rfl (ex_fieldAddr (v := (GP 1 ((v3.toNat * 5) + 4) (List.flatMap cNd v5).length)) Tryz.underlying54 rfl s_3 (by decide) rfl rfl) ?_
              obtain ⟨x20, hx20, h⟩ := bindS h
              refine arun_do0 rfl rfl (tx_stGp (c := cNd) (xs := v5) (e := x19) (e' := (G_api_Node.mk x19.Kind x19.Up x19.Name x19.Body x18.1)) (off := 4) (vs := [(I x18.1)]) (H' := ⟨2, [(1, ⟨5, ((x20).flatMap cNd), true⟩), (0, ⟨1, (cPk x18.2), false⟩)]⟩) ce_api_Node s_3 rfl (by first | rfl | omega) (eV (v := (I x18.1)) rfl) rfl rfl hx19 (Nat.le_of_ble_eq_true rfl) (by kernel_rfl) rfl (List.cons_ne_nil _ _) hx20 rfl) ?_
              refine arun_fewer (T' := [(0, (NP 0 0)), (5, (GV 1 x20.length)), (6, (I v3)), (39, (Bo (x16.Kind == 1))), (40, (GV 1 x20.length)), (41, (I v3)), (42, (NP 0 0)), (43, (I x18.1))]) (ReT.keep (v := (NP 0 0)) rfl (ReT.gv rfl (setI_len hx20) (ReT.keep (v := (I v3)) rfl (ReT.keep (v := (Bo (x16.Kind == 1))) rfl (ReT.gv rfl (setI_len hx20) (ReT.keep (v := (I v3)) rfl (ReT.keep (v := (NP 0 0)) rfl (ReT.keep (v := (I x18.1)) rfl ReT.nil)))))))) ?_
              refine ake [0, 5, 6] 0 2 (st' := ⟨47, 1, [(0, (NP 0 0)), (5, (GV 1 x20.length)), (6, (I v3))], [], ⟨2, [(1, ⟨5, ((x20).flatMap cNd), true⟩), (0, ⟨1, (cPk x18.2), false⟩)]⟩⟩) (by kernel_rfl) (by kernel_rfl) ?_
              exact (Exists.intro x18.2 (Exists.intro x20 (And.intro rfl h)))
            · rw [condF hb17] at h
              refine awp_condF (boF hb17) ?_
              refine awp_keepE [0, 5, 6] 0 2 (st' := ⟨47, 1, [(0, (NP 0 0)), (5, (GV 1 v5.length)), (6, (I v3))], [], ⟨2, [(1, ⟨5, ((v5).flatMap cNd), true⟩), (0, ⟨1, (cPk x9.2), false⟩)]⟩⟩) (by kernel_rfl) (by kernel_rfl) ?_
              refine awp_skip ?_
              exact (Exists.intro x9.2 (Exists.intro v5 (And.intro rfl h)))
          · rw [condF hb15] at h
            refine awp_condF (boF hb15) ?_
            refine awp_keepE [0, 5, 6] 0 2 (st' := ⟨47, 1, [(0, (NP 0 0)), (5, (GV 1 v5.length)), (6, (I v3))], [], ⟨2, [(1, ⟨5, ((v5).flatMap cNd), true⟩), (0, ⟨1, (cPk x9.2), false⟩)]⟩⟩) (by kernel_rfl) (by kernel_rfl) ?_
            refine awp_skip ?_
            exact (Exists.intro x9.2 (Exists.intro v5 (And.intro rfl h)))
      · rintro s ⟨y7, y8, rfl, h⟩
        unfold M_made_Picks_Torn_k1 at h
        refine awr ?_
        refine ado rfl rfl rfl (emv (eV (v := (I v3)) rfl)) ?_
        refine ado rfl rfl rfl (ex_bin (vx := (I v3)) (vy := (I 1)) rfl rfl addI_ok) ?_
        refine ado rfl rfl rfl (eas (eV (v := (I (w64 (v3 + 1)))) rfl)) ?_
        refine ake [0, 5, 6] 0 2 (st' := ⟨47, 1, [(0, (NP 0 0)), (5, (GV 1 y8.length)), (6, (I (w64 (v3 + 1))))], [], ⟨2, [(1, ⟨5, ((y8).flatMap cNd), true⟩), (0, ⟨1, (cPk y7), false⟩)]⟩⟩) (by kernel_rfl) (by kernel_rfl) ?_
        exact Exists.intro n1 (And.intro (Nat.lt_succ_self _) (Exists.intro (w64 (v3 + 1)) (Exists.intro y7 (Exists.intro y8 (And.intro rfl h)))))
    · rw [condF hb6] at h
      refine awp_condF (boF hb6) ?_
      refine awp_exit ?_
      show AWp _ _ _ _
      refine awp_seq ?_
      refine awr ?_
      refine ado rfl rfl rfl (emv (eV (v := (GV 1 v5.length)) rfl)) ?_
      refine ado rfl rfl rfl (eas (eV (v := (GV 1 v5.length)) rfl)) ?_
      refine ake [4] 0 2 (st' := ⟨47, 1, [(4, (GV 1 v5.length))], [], ⟨2, [(1, ⟨5, ((v5).flatMap cNd), true⟩), (0, ⟨1, (cPk v4), false⟩)]⟩⟩) (by kernel_rfl) (by kernel_rfl) ?_
      show AWp _ _ _ _
      refine awp_freeze 1 (bk := ⟨5, ((v5).flatMap cNd), true⟩) (T' := [(4, (SL 5 cNd v5))]) (L' := []) rfl (fzG ce_api_Node rfl rfl FzT.nil) (FzL.refl _) ?_
      show AWp _ _ _ ⟨47, 1, [(4, (SL 5 cNd v5))], [], ⟨2, [(0, ⟨1, (cPk v4), false⟩)]⟩⟩
      refine awp_ret ?_
      cases h
      exact And.intro (ares1 (rtmp rfl (eV rfl))) rfl

end Go.Proofs
