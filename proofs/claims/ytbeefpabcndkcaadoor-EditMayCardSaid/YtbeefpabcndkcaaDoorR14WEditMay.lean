/- Pure models of functions of the program, and that its code does what they say: palimplaw14 EditMay. Written by a program. -/
import Derived.Test.YtbeefpabcndkcaaDoorR140
import Derived.Test.YtbeefpabcndkcaaDoorR1410
import Derived.Test.YtbeefpabcndkcaaDoorR1411
import Derived.Test.YtbeefpabcndkcaaDoorR1415
import Derived.Test.YtbeefpabcndkcaaDoorR1417
import Derived.Test.YtbeefpabcndkcaaDoorR145
import Derived.Test.YtbeefpabcndkcaaDoorR146
import Derived.Test.YtbeefpabcndkcaaDoorR147
import Derived.Test.YtbeefpabcndkcaaDoorR149
import Derived.Test.YtbeefpabcndkcaaDoorR14B
set_option maxRecDepth 20000
set_option maxHeartbeats 4000000
namespace Go.Proofs
open Go Go.Fhl
set_option linter.unusedVariables false
set_option linter.unusedSimpArgs false
noncomputable def M_law14_EditMay_k1 (c_1 : ((List G_api_Node) → Int → G_palimpmade_Picks → Option Bool)) (v7 : Int) (y11 : (List G_api_Node)) (y12 : G_palimpmade_Picks) : Option Bool :=
  c_1 y11 (w64 (v7 + 1)) y12
noncomputable def M_law14_EditMay_k2 (c_1 : ((List G_api_Node) → Int → G_palimpmade_Picks → Option Bool)) (v6 : (List G_api_Node)) (v7 : Int) (x13 : (G_api_Step × G_palimpmade_Picks)) (y14 : (List G_api_Node)) (y15 : Int) : Option Bool :=
  Option.bind (M_ref11_May y14) fun (x22 : Bool) => Option.bind (gd (((!x22) == false) && ((y15 != 0) == true)) (M_ref11_Same y14 v6)) fun (x23 : Bool) => cond ((!x22) || ((y15 != 0) && (!x23))) (some false) (M_law14_EditMay_k1 c_1 v7 y14 x13.2)
noncomputable def M_law14_EditMay_k3 (c_1 : ((List G_api_Node) → Int → G_palimpmade_Picks → Option Bool)) (v7 : Int) (y10 : (List G_api_Node)) (y11 : G_palimpmade_Picks) : Option Bool :=
  c_1 y10 (w64 (v7 + 1)) y11
noncomputable def M_law14_EditMay_k4 (c_1 : ((List G_api_Node) → Int → G_palimpmade_Picks → Option Bool)) (v6 : (List G_api_Node)) (v7 : Int) (x12 : (G_api_Step × G_palimpmade_Picks)) (y13 : (List G_api_Node)) (y14 : Int) : Option Bool :=
  Option.bind (M_ref11_May y13) fun (x21 : Bool) => Option.bind (gd (((!x21) == false) && ((y14 != 0) == true)) (M_ref11_Same y13 v6)) fun (x22 : Bool) => cond ((!x21) || ((y14 != 0) && (!x22))) (some false) (M_law14_EditMay_k3 c_1 v7 y13 x12.2)
noncomputable def M_law14_EditMay_l1 : Nat → (List G_api_Node) → Int → G_palimpmade_Picks → Option Bool
  | 0, _, _, _ => none
  | n1 + 1, v6, v7, v8 =>
  cond ((decide (v7 < 40)) == true) (Option.bind (M_made_Picks_Over v8 ) fun (x9 : (Bool × G_palimpmade_Picks)) => cond ((decide (v7 < 40)) && (!x9.1)) (Option.bind (M_made_Picks_Edit x9.2 1) fun (x13 : (G_api_Step × G_palimpmade_Picks)) => cond (x13.1.Kind == 1) (Option.bind (M_edit_Make v6 x13.1.Path x13.1.N) fun (x17 : ((List G_api_Node) × Int)) => M_law14_EditMay_k2 (M_law14_EditMay_l1 n1) v6 v7 x13 x17.1 x17.2) (cond (x13.1.Kind == 2) (Option.bind (M_edit_Drop v6 x13.1.Path) fun (x19 : ((List G_api_Node) × Int)) => M_law14_EditMay_k2 (M_law14_EditMay_l1 n1) v6 v7 x13 x19.1 x19.2) (cond (x13.1.Kind == 3) (Option.bind (M_edit_Move v6 x13.1.Path x13.1.To) fun (x21 : ((List G_api_Node) × Int)) => M_law14_EditMay_k2 (M_law14_EditMay_l1 n1) v6 v7 x13 x21.1 x21.2) (M_law14_EditMay_k2 (M_law14_EditMay_l1 n1) v6 v7 x13 v6 0)))) (some true)) (cond (decide (v7 < 40)) (Option.bind (M_made_Picks_Edit v8 1) fun (x12 : (G_api_Step × G_palimpmade_Picks)) => cond (x12.1.Kind == 1) (Option.bind (M_edit_Make v6 x12.1.Path x12.1.N) fun (x16 : ((List G_api_Node) × Int)) => M_law14_EditMay_k4 (M_law14_EditMay_l1 n1) v6 v7 x12 x16.1 x16.2) (cond (x12.1.Kind == 2) (Option.bind (M_edit_Drop v6 x12.1.Path) fun (x18 : ((List G_api_Node) × Int)) => M_law14_EditMay_k4 (M_law14_EditMay_l1 n1) v6 v7 x12 x18.1 x18.2) (cond (x12.1.Kind == 3) (Option.bind (M_edit_Move v6 x12.1.Path x12.1.To) fun (x20 : ((List G_api_Node) × Int)) => M_law14_EditMay_k4 (M_law14_EditMay_l1 n1) v6 v7 x12 x20.1 x20.2) (M_law14_EditMay_k4 (M_law14_EditMay_l1 n1) v6 v7 x12 v6 0)))) (some true))
noncomputable def M_law14_EditMay (t0 : (List UInt8)) : Option Bool :=
  Option.bind (M_law14_begun) fun (x1 : Bool) => cond (!x1) (some false) (cond (decide ((t0.length : Int) > 150)) (some true) (Option.bind (M_made_Made t0) fun (x4 : G_palimpmade_Picks) => Option.bind (M_ref11_New) fun (x5 : (List G_api_Node)) => M_law14_EditMay_l1 fuel x5 0 x4))
theorem ok_law14_EditMay (t0 : (List UInt8)) (r : Bool) (h : M_law14_EditMay t0 = some r) : FFn Tryd.prog 4 [(SL 1 c8 t0)] (Bo r) := by
  refine FFn.of_body (n := 76) Tryd.func4 rfl Tryd.ntmps4 rfl rfl rfl rfl ?_
  show AWp _ _ _ ⟨76, 0, [(0, (SL 1 c8 t0))], [], ⟨0, []⟩⟩
  unfold M_law14_EditMay at h
  refine awp_seq ?_
  refine awp_region ?_
  refine arun_do rfl rfl rfl (ex_assign (eV (v := (Bo false)) rfl)) ?_
  refine arun_keepE [0] 0 0 (st' := ⟨76, 0, [(0, (SL 1 c8 t0))], [], ⟨0, []⟩⟩) (by kernel_rfl) (by kernel_rfl) ?_
  show AWp _ _ _ _
  refine awp_seq ?_
  refine awp_seq ?_
  refine awp_region ?_
  obtain ⟨x1, hx1, h⟩ := bindS h
  refine arun_do rfl rfl rfl (ex_call0 (vs := []) (v := (Bo x1)) rfl en_7 (cargs evs_nil) rfl (ok_law14_begun  x1 hx1) rfl) ?_
  refine arun_do rfl rfl rfl (ex_un (vx := (Bo x1)) rfl notB_ok) ?_
  refine arun_keepE [0, 10] 0 0 (st' := ⟨76, 0, [(0, (SL 1 c8 t0)), (10, (Bo (!x1)))], [], ⟨0, []⟩⟩) (by kernel_rfl) (by kernel_rfl) ?_
  show AWp _ _ _ _
  rcases Bool.eq_false_or_eq_true (!x1) with hb2 | hb2
  · rw [condT hb2] at h
    refine awp_condT (boT hb2) ?_
    refine awp_seq ?_
    refine awp_region ?_
    refine arun_do rfl rfl rfl (ex_assign (eV (v := (Bo false)) rfl)) ?_
    refine arun_keepE [2] 0 0 (st' := ⟨76, 0, [(2, (Bo false))], [], ⟨0, []⟩⟩) (by kernel_rfl) (by kernel_rfl) ?_
    show AWp _ _ _ _
    refine awp_ret ?_
    cases h
    exact ares1 (rtmp rfl (eV rfl))
  · rw [condF hb2] at h
    refine awp_condF (boF hb2) ?_
    refine awp_skip ?_
    show AWp _ _ _ _
    refine awp_seq ?_
    refine awp_seq ?_
    refine awp_region ?_
    refine arun_do rfl rfl rfl (ex_move (eV (v := (SL 1 c8 t0)) rfl)) ?_
    refine arun_do rfl rfl rfl (tx_lenD (xs := t0) ce8 Tryd.underlying22 rfl) ?_
    refine arun_do rfl rfl rfl (ex_bin (vx := (I (t0.length : Int))) (vy := (I 150)) rfl rfl gtrI_ok) ?_
    refine arun_keepE [0, 13] 0 0 (st' := ⟨76, 0, [(0, (SL 1 c8 t0)), (13, (Bo (decide ((t0.length : Int) > 150))))], [], ⟨0, []⟩⟩) (by kernel_rfl) (by kernel_rfl) ?_
    show AWp _ _ _ _
    rcases Bool.eq_false_or_eq_true (decide ((t0.length : Int) > 150)) with hb3 | hb3
    · rw [condT hb3] at h
      refine awp_condT (boT hb3) ?_
      refine awp_seq ?_
      refine awp_region ?_
      refine arun_do rfl rfl rfl (ex_assign (eV (v := (Bo true)) rfl)) ?_
      refine arun_keepE [2] 0 0 (st' := ⟨76, 0, [(2, (Bo true))], [], ⟨0, []⟩⟩) (by kernel_rfl) (by kernel_rfl) ?_
      show AWp _ _ _ _
      refine awp_ret ?_
      cases h
      exact ares1 (rtmp rfl (eV rfl))
    · rw [condF hb3] at h
      refine awp_condF (boF hb3) ?_
      refine awp_skip ?_
      show AWp _ _ _ _
      refine awp_seq ?_
      refine awp_region ?_
      refine arun_do rfl rfl rfl (ex_move (eV (v := (SL 1 c8 t0)) rfl)) ?_
      obtain ⟨x4, hx4, h⟩ := bindS h
      refine arun_do rfl rfl rfl (ex_callNew (vs := [(SL 1 c8 t0)]) (k := 0) (b := ⟨1, (c_palimpmade_Picks x4), false⟩) (H' := ⟨1, [(0, ⟨1, (c_palimpmade_Picks x4), false⟩)]⟩) rfl en_8 (cargs (evs rfl evs_nil)) rfl (ok_made_Made t0 x4 hx4) rfl rfl rfl) ?_
      refine arun_do rfl rfl rfl (ex_assign (eV (v := (NP 0 0)) rfl)) ?_
      refine arun_keepE [3] 0 1 (st' := ⟨76, 0, [(3, (NP 0 0))], [], ⟨1, [(0, ⟨1, (c_palimpmade_Picks x4), false⟩)]⟩⟩) (by kernel_rfl) (by kernel_rfl) ?_
      show AWp _ _ _ _
      refine awp_seq ?_
      refine awp_region ?_
      obtain ⟨x5, hx5, h⟩ := bindS h
      refine arun_do rfl rfl rfl (ex_call0 (vs := []) (v := (SL 5 c_api_Node x5)) rfl en_19 (cargs evs_nil) rfl (ok_ref11_New  x5 hx5) rfl) ?_
      refine arun_do rfl rfl rfl (ex_assign (eV (v := (SL 5 c_api_Node x5)) rfl)) ?_
      refine arun_keepE [3, 4] 0 1 (st' := ⟨76, 0, [(3, (NP 0 0)), (4, (SL 5 c_api_Node x5))], [], ⟨1, [(0, ⟨1, (c_palimpmade_Picks x4), false⟩)]⟩⟩) (by kernel_rfl) (by kernel_rfl) ?_
      show AWp _ _ _ _
      refine awp_seq ?_
      refine awp_seq ?_
      refine awp_region ?_
      refine arun_do rfl rfl rfl (ex_assign (eV (v := (I 0)) rfl)) ?_
      refine arun_keepE [3, 4, 5] 0 1 (st' := ⟨76, 0, [(3, (NP 0 0)), (4, (SL 5 c_api_Node x5)), (5, (I 0))], [], ⟨1, [(0, ⟨1, (c_palimpmade_Picks x4), false⟩)]⟩⟩) (by kernel_rfl) (by kernel_rfl) ?_
      show AWp _ _ _ _
      refine awp_block ?_
      refine awp_loop (fun n s => ∃ (v6 : (List G_api_Node)) (v7 : Int) (v8 : G_palimpmade_Picks), s = ⟨76, 0, [(3, (NP 0 0)), (4, (SL 5 c_api_Node v6)), (5, (I v7))], [], ⟨1, [(0, ⟨1, (c_palimpmade_Picks v8), false⟩)]⟩⟩ ∧ M_law14_EditMay_l1 n v6 v7 v8 = some r) fuel (Exists.intro x5 (Exists.intro 0 (Exists.intro x4 (And.intro rfl h)))) ?_
      rintro n s ⟨v6, v7, v8, rfl, h⟩ -
      cases n with
      | zero => cases h
      | succ n1 =>
        unfold M_law14_EditMay_l1 at h
        refine awp_seq ?_
        refine awp_seq ?_
        rcases Bool.eq_false_or_eq_true ((decide (v7 < 40)) == true) with hg8_0 | hg8_0
        · rw [condT hg8_0] at h
          refine awp_region ?_
          refine arun_do rfl rfl rfl (ex_move (eV (v := (I v7)) rfl)) ?_
          refine arun_do rfl rfl rfl (ex_bin (vx := (I v7)) (vy := (I 40)) rfl rfl lssI_ok) ?_
          refine arun_do rfl rfl rfl (ex_move (eV (v := (Bo (decide (v7 < 40)))) rfl)) ?_
          refine arun_do rfl rfl (gT rfl hg8_0) (ex_move (eV (v := (NP 0 0)) rfl)) ?_
          obtain ⟨x9, hx9, h⟩ := bindS h
          refine arun_do rfl rfl (gT rfl hg8_0) (ex_call1 (vs := [(NP 0 0)]) (vs' := [(NP 0 0)]) (v := (Bo x9.1)) (n := 0) (b := ⟨1, (c_palimpmade_Picks v8), false⟩) (b' := ⟨1, (c_palimpmade_Picks x9.2), false⟩) (H' := ⟨1, [(0, ⟨1, (c_palimpmade_Picks x9.2), false⟩)]⟩) rfl en_20 (cargs (evs rfl evs_nil)) rfl rfl (.cons (.inr ⟨_, rfl, rfl⟩) .nil) (ok_made_Picks_Over v8  x9 hx9) rfl rfl) ?_
          refine arun_do rfl rfl (gT rfl hg8_0) (ex_un (vx := (Bo x9.1)) rfl notB_ok) ?_
          refine arun_do rfl rfl rfl (ex_pick rfl pkAndD) ?_
          refine arun_keepE [3, 4, 5, 23] 0 1 (st' := ⟨76, 0, [(3, (NP 0 0)), (4, (SL 5 c_api_Node v6)), (5, (I v7)), (23, (Bo ((decide (v7 < 40)) && (!x9.1))))], [], ⟨1, [(0, ⟨1, (c_palimpmade_Picks x9.2), false⟩)]⟩⟩) (by kernel_rfl) (by kernel_rfl) ?_
          show AWp _ _ _ _
          rcases Bool.eq_false_or_eq_true ((decide (v7 < 40)) && (!x9.1)) with hb10 | hb10
          · rw [condT hb10] at h
            refine awp_condT (boT hb10) ?_
            refine awp_skip ?_
            show AWp _ _ _ _
            refine awp_seqJ (fun s => ∃ (y11 : (List G_api_Node)) (y12 : G_palimpmade_Picks), s = ⟨76, 0, [(3, (NP 0 0)), (4, (SL 5 c_api_Node y11)), (5, (I v7))], [], ⟨1, [(0, ⟨1, (c_palimpmade_Picks y12), false⟩)]⟩⟩ ∧ M_law14_EditMay_k1 (M_law14_EditMay_l1 n1) v7 y11 y12 = some r) ?_ ?_
            · refine awp_block ?_
              refine awp_seq ?_
              refine awp_region ?_
              refine arun_do rfl rfl rfl (ex_move (eV (v := (NP 0 0)) rfl)) ?_
              obtain ⟨x13, hx13, h⟩ := bindS h
              refine arun_do rfl rfl rfl (ex_call1 (vs := [(NP 0 0), (I 1)]) (vs' := [(NP 0 0), (I 1)]) (v := (Value.agg (c_api_Step x13.1).toArray)) (n := 0) (b := ⟨1, (c_palimpmade_Picks x9.2), false⟩) (b' := ⟨1, (c_palimpmade_Picks x13.2), false⟩) (H' := ⟨1, [(0, ⟨1, (c_palimpmade_Picks x13.2), false⟩)]⟩) rfl en_21 (cargs (evs rfl (evs rfl evs_nil))) rfl rfl (.cons (.inr ⟨_, rfl, rfl⟩) (.cons (.inl ⟨rfl, rfl⟩) .nil)) (ok_made_Picks_Edit x9.2 1 x13 hx13) rfl rfl) ?_
              refine arun_do rfl rfl rfl (ex_allocW (k := 0) (zs := (c_api_Step (G_api_Step.mk 0 0 0 0 0 [] [] [] []))) (L' := [(c_api_Step (G_api_Step.mk 0 0 0 0 0 [] [] [] []))]) z_42 rfl (by repeat (first | exact trivial | refine ⟨.inl rfl, ?_⟩ | refine ⟨.inr ⟨rfl, _, rfl⟩, ?_⟩)) rfl rfl) ?_
              refine arun_do0 rfl rfl (ex_storeL (vy := (Value.agg (c_api_Step x13.1).toArray)) (cs := (c_api_Step (G_api_Step.mk 0 0 0 0 0 [] [] [] []))) (vs := (c_api_Step x13.1)) (L' := [(c_api_Step x13.1)]) rfl (eV (v := (Value.agg (c_api_Step x13.1).toArray)) rfl) rfl s_42 rfl (Nat.le_of_ble_eq_true rfl) (by kernel_rfl)) ?_
              refine arun_keepE [3, 4, 5, 6] 1 1 (st' := ⟨76, 0, [(3, (NP 0 0)), (4, (SL 5 c_api_Node v6)), (5, (I v7)), (6, (LP 0 0))], [(c_api_Step x13.1)], ⟨1, [(0, ⟨1, (c_palimpmade_Picks x13.2), false⟩)]⟩⟩) (by kernel_rfl) (by kernel_rfl) ?_
              show AWp _ _ _ _
              refine awp_seq ?_
              refine awp_region ?_
              refine arun_do rfl rfl rfl (ex_move (eV (v := (SL 5 c_api_Node v6)) rfl)) ?_
              refine arun_do rfl rfl rfl (ex_assign (eV (v := (SL 5 c_api_Node v6)) rfl)) ?_
              refine arun_do rfl rfl rfl (ex_assign (eV (v := (I 0)) rfl)) ?_
              refine arun_keepE [3, 4, 5, 6, 7, 8] 1 1 (st' := ⟨76, 0, [(3, (NP 0 0)), (4, (SL 5 c_api_Node v6)), (5, (I v7)), (6, (LP 0 0)), (7, (SL 5 c_api_Node v6)), (8, (I 0))], [(c_api_Step x13.1)], ⟨1, [(0, ⟨1, (c_palimpmade_Picks x13.2), false⟩)]⟩⟩) (by kernel_rfl) (by kernel_rfl) ?_
              show AWp _ _ _ _
              refine awp_seqJ (fun s => ∃ (y14 : (List G_api_Node)) (y15 : Int), s = ⟨76, 0, [(3, (NP 0 0)), (4, (SL 5 c_api_Node v6)), (5, (I v7)), (7, (SL 5 c_api_Node y14)), (8, (I y15))], [], ⟨1, [(0, ⟨1, (c_palimpmade_Picks x13.2), false⟩)]⟩⟩ ∧ M_law14_EditMay_k2 (M_law14_EditMay_l1 n1) v6 v7 x13 y14 y15 = some r) ?_ ?_
              · refine awp_seq ?_
                refine awp_region ?_
                refine arun_do rfl rfl rfl (ex_fieldAddr (v := (LP 0 0)) Tryd.underlying42 rfl s_3 (by decide) rfl rfl) ?_
                refine arun_do rfl rfl rfl (tx_ldL1 (v := (I x13.1.Kind)) Tryd.underlying3 rfl rfl rfl rfl) ?_
                refine arun_keepE [3, 4, 5, 6, 7, 8, 30] 1 1 (st' := ⟨76, 0, [(3, (NP 0 0)), (4, (SL 5 c_api_Node v6)), (5, (I v7)), (6, (LP 0 0)), (7, (SL 5 c_api_Node v6)), (8, (I 0)), (30, (I x13.1.Kind))], [(c_api_Step x13.1)], ⟨1, [(0, ⟨1, (c_palimpmade_Picks x13.2), false⟩)]⟩⟩) (by kernel_rfl) (by kernel_rfl) ?_
                show AWp _ _ _ _
                refine awp_block ?_
                refine awp_seq ?_
                refine awp_region ?_
                refine arun_do rfl rfl rfl (ex_bin (vx := (I x13.1.Kind)) (vy := (I 1)) rfl rfl eqlI_ok) ?_
                refine arun_do rfl rfl rfl (ex_assign (eV (v := (Bo (x13.1.Kind == 1))) rfl)) ?_
                refine arun_keepE [3, 4, 5, 6, 7, 8, 30, 31] 1 1 (st' := ⟨76, 0, [(3, (NP 0 0)), (4, (SL 5 c_api_Node v6)), (5, (I v7)), (6, (LP 0 0)), (7, (SL 5 c_api_Node v6)), (8, (I 0)), (30, (I x13.1.Kind)), (31, (Bo (x13.1.Kind == 1)))], [(c_api_Step x13.1)], ⟨1, [(0, ⟨1, (c_palimpmade_Picks x13.2), false⟩)]⟩⟩) (by kernel_rfl) (by kernel_rfl) ?_
                show AWp _ _ _ _
                rcases Bool.eq_false_or_eq_true (x13.1.Kind == 1) with hb16 | hb16
                · rw [condT hb16] at h
                  refine awp_condT (boT hb16) ?_
                  refine awp_region ?_
                  refine arun_do rfl rfl rfl (ex_move (eV (v := (SL 5 c_api_Node v6)) rfl)) ?_
                  refine arun_do rfl rfl rfl (ex_fieldAddr (v := (LP 0 5)) Tryd.underlying42 rfl s_9 (by decide) rfl rfl) ?_
                  refine arun_do rfl rfl rfl (tx_ldL1 (v := (S x13.1.Path)) Tryd.underlying9 rfl rfl rfl rfl) ?_
                  refine arun_do rfl rfl rfl (ex_fieldAddr (v := (LP 0 2)) Tryd.underlying42 rfl s_3 (by decide) rfl rfl) ?_
                  refine arun_do rfl rfl rfl (tx_ldL1 (v := (I x13.1.N)) Tryd.underlying3 rfl rfl rfl rfl) ?_
                  obtain ⟨x17, hx17, h⟩ := bindS h
                  refine arun_do rfl rfl rfl (ex_call0 (vs := [(SL 5 c_api_Node v6), (S x13.1.Path), (I x13.1.N)]) (v := (Value.tuple #[(SL 5 c_api_Node x17.1), (I x17.2)])) rfl en_12 (cargs (evs rfl (evs rfl (evs rfl evs_nil)))) rfl (ok_edit_Make v6 x13.1.Path x13.1.N x17 hx17) rfl) ?_
                  refine arun_do rfl rfl rfl (ex_move (eV (v := (Value.tuple #[(SL 5 c_api_Node x17.1), (I x17.2)])) rfl)) ?_
                  refine arun_do rfl rfl rfl (ex_extract (vx := (Value.tuple #[(SL 5 c_api_Node x17.1), (I x17.2)])) (v := (SL 5 c_api_Node x17.1)) rfl rfl) ?_
                  refine arun_do rfl rfl rfl (ex_extract (vx := (Value.tuple #[(SL 5 c_api_Node x17.1), (I x17.2)])) (v := (I x17.2)) rfl rfl) ?_
                  refine arun_do rfl rfl rfl (ex_assign (eV (v := (SL 5 c_api_Node x17.1)) rfl)) ?_
                  refine arun_do rfl rfl rfl (ex_assign (eV (v := (I x17.2)) rfl)) ?_
                  refine arun_keepE [3, 4, 5, 7, 8] 0 1 (st' := ⟨76, 0, [(3, (NP 0 0)), (4, (SL 5 c_api_Node v6)), (5, (I v7)), (7, (SL 5 c_api_Node x17.1)), (8, (I x17.2))], [], ⟨1, [(0, ⟨1, (c_palimpmade_Picks x13.2), false⟩)]⟩⟩) (by kernel_rfl) (by kernel_rfl) ?_
                  exact (Exists.intro x17.1 (Exists.intro x17.2 (And.intro rfl h)))
                · rw [condF hb16] at h
                  refine awp_condF (boF hb16) ?_
                  refine awp_seq ?_
                  refine awp_region ?_
                  refine arun_do rfl rfl rfl (ex_bin (vx := (I x13.1.Kind)) (vy := (I 2)) rfl rfl eqlI_ok) ?_
                  refine arun_do rfl rfl rfl (ex_assign (eV (v := (Bo (x13.1.Kind == 2))) rfl)) ?_
                  refine arun_keepE [3, 4, 5, 6, 7, 8, 30, 42] 1 1 (st' := ⟨76, 0, [(3, (NP 0 0)), (4, (SL 5 c_api_Node v6)), (5, (I v7)), (6, (LP 0 0)), (7, (SL 5 c_api_Node v6)), (8, (I 0)), (30, (I x13.1.Kind)), (42, (Bo (x13.1.Kind == 2)))], [(c_api_Step x13.1)], ⟨1, [(0, ⟨1, (c_palimpmade_Picks x13.2), false⟩)]⟩⟩) (by kernel_rfl) (by kernel_rfl) ?_
                  show AWp _ _ _ _
                  rcases Bool.eq_false_or_eq_true (x13.1.Kind == 2) with hb18 | hb18
                  · rw [condT hb18] at h
                    refine awp_condT (boT hb18) ?_
                    refine awp_region ?_
                    refine arun_do rfl rfl rfl (ex_move (eV (v := (SL 5 c_api_Node v6)) rfl)) ?_
                    refine arun_do rfl rfl rfl (ex_fieldAddr (v := (LP 0 5)) Tryd.underlying42 rfl s_9 (by decide) rfl rfl) ?_
                    refine arun_do rfl rfl rfl (tx_ldL1 (v := (S x13.1.Path)) Tryd.underlying9 rfl rfl rfl rfl) ?_
                    obtain ⟨x19, hx19, h⟩ := bindS h
                    refine arun_do rfl rfl rfl (ex_call0 (vs := [(SL 5 c_api_Node v6), (S x13.1.Path)]) (v := (Value.tuple #[(SL 5 c_api_Node x19.1), (I x19.2)])) rfl en_15 (cargs (evs rfl (evs rfl evs_nil))) rfl (ok_edit_Drop v6 x13.1.Path x19 hx19) rfl) ?_
                    refine arun_do rfl rfl rfl (ex_move (eV (v := (Value.tuple #[(SL 5 c_api_Node x19.1), (I x19.2)])) rfl)) ?_
                    refine arun_do rfl rfl rfl (ex_extract (vx := (Value.tuple #[(SL 5 c_api_Node x19.1), (I x19.2)])) (v := (SL 5 c_api_Node x19.1)) rfl rfl) ?_
                    refine arun_do rfl rfl rfl (ex_extract (vx := (Value.tuple #[(SL 5 c_api_Node x19.1), (I x19.2)])) (v := (I x19.2)) rfl rfl) ?_
                    refine arun_do rfl rfl rfl (ex_assign (eV (v := (SL 5 c_api_Node x19.1)) rfl)) ?_
                    refine arun_do rfl rfl rfl (ex_assign (eV (v := (I x19.2)) rfl)) ?_
                    refine arun_keepE [3, 4, 5, 7, 8] 0 1 (st' := ⟨76, 0, [(3, (NP 0 0)), (4, (SL 5 c_api_Node v6)), (5, (I v7)), (7, (SL 5 c_api_Node x19.1)), (8, (I x19.2))], [], ⟨1, [(0, ⟨1, (c_palimpmade_Picks x13.2), false⟩)]⟩⟩) (by kernel_rfl) (by kernel_rfl) ?_
                    exact (Exists.intro x19.1 (Exists.intro x19.2 (And.intro rfl h)))
                  · rw [condF hb18] at h
                    refine awp_condF (boF hb18) ?_
                    refine awp_seq ?_
                    refine awp_region ?_
                    refine arun_do rfl rfl rfl (ex_bin (vx := (I x13.1.Kind)) (vy := (I 3)) rfl rfl eqlI_ok) ?_
                    refine arun_do rfl rfl rfl (ex_assign (eV (v := (Bo (x13.1.Kind == 3))) rfl)) ?_
                    refine arun_keepE [3, 4, 5, 6, 7, 8, 51] 1 1 (st' := ⟨76, 0, [(3, (NP 0 0)), (4, (SL 5 c_api_Node v6)), (5, (I v7)), (6, (LP 0 0)), (7, (SL 5 c_api_Node v6)), (8, (I 0)), (51, (Bo (x13.1.Kind == 3)))], [(c_api_Step x13.1)], ⟨1, [(0, ⟨1, (c_palimpmade_Picks x13.2), false⟩)]⟩⟩) (by kernel_rfl) (by kernel_rfl) ?_
                    show AWp _ _ _ _
                    rcases Bool.eq_false_or_eq_true (x13.1.Kind == 3) with hb20 | hb20
                    · rw [condT hb20] at h
                      refine awp_condT (boT hb20) ?_
                      refine awp_region ?_
                      refine arun_do rfl rfl rfl (ex_move (eV (v := (SL 5 c_api_Node v6)) rfl)) ?_
                      refine arun_do rfl rfl rfl (ex_fieldAddr (v := (LP 0 5)) Tryd.underlying42 rfl s_9 (by decide) rfl rfl) ?_
                      refine arun_do rfl rfl rfl (tx_ldL1 (v := (S x13.1.Path)) Tryd.underlying9 rfl rfl rfl rfl) ?_
                      refine arun_do rfl rfl rfl (ex_fieldAddr (v := (LP 0 6)) Tryd.underlying42 rfl s_9 (by decide) rfl rfl) ?_
                      refine arun_do rfl rfl rfl (tx_ldL1 (v := (S x13.1.To)) Tryd.underlying9 rfl rfl rfl rfl) ?_
                      obtain ⟨x21, hx21, h⟩ := bindS h
                      refine arun_do rfl rfl rfl (ex_call0 (vs := [(SL 5 c_api_Node v6), (S x13.1.Path), (S x13.1.To)]) (v := (Value.tuple #[(SL 5 c_api_Node x21.1), (I x21.2)])) rfl en_17 (cargs (evs rfl (evs rfl (evs rfl evs_nil)))) rfl (ok_edit_Move v6 x13.1.Path x13.1.To x21 hx21) rfl) ?_
                      refine arun_do rfl rfl rfl (ex_move (eV (v := (Value.tuple #[(SL 5 c_api_Node x21.1), (I x21.2)])) rfl)) ?_
                      refine arun_do rfl rfl rfl (ex_extract (vx := (Value.tuple #[(SL 5 c_api_Node x21.1), (I x21.2)])) (v := (SL 5 c_api_Node x21.1)) rfl rfl) ?_
                      refine arun_do rfl rfl rfl (ex_extract (vx := (Value.tuple #[(SL 5 c_api_Node x21.1), (I x21.2)])) (v := (I x21.2)) rfl rfl) ?_
                      refine arun_do rfl rfl rfl (ex_assign (eV (v := (SL 5 c_api_Node x21.1)) rfl)) ?_
                      refine arun_do rfl rfl rfl (ex_assign (eV (v := (I x21.2)) rfl)) ?_
                      refine arun_keepE [3, 4, 5, 7, 8] 0 1 (st' := ⟨76, 0, [(3, (NP 0 0)), (4, (SL 5 c_api_Node v6)), (5, (I v7)), (7, (SL 5 c_api_Node x21.1)), (8, (I x21.2))], [], ⟨1, [(0, ⟨1, (c_palimpmade_Picks x13.2), false⟩)]⟩⟩) (by kernel_rfl) (by kernel_rfl) ?_
                      exact (Exists.intro x21.1 (Exists.intro x21.2 (And.intro rfl h)))
                    · rw [condF hb20] at h
                      refine awp_condF (boF hb20) ?_
                      refine awp_keepE [3, 4, 5, 7, 8] 0 1 (st' := ⟨76, 0, [(3, (NP 0 0)), (4, (SL 5 c_api_Node v6)), (5, (I v7)), (7, (SL 5 c_api_Node v6)), (8, (I 0))], [], ⟨1, [(0, ⟨1, (c_palimpmade_Picks x13.2), false⟩)]⟩⟩) (by kernel_rfl) (by kernel_rfl) ?_
                      refine awp_skip ?_
                      exact (Exists.intro v6 (Exists.intro 0 (And.intro rfl h)))
              · rintro s ⟨y14, y15, rfl, h⟩
                unfold M_law14_EditMay_k2 at h
                refine awp_seq ?_
                refine awp_seq ?_
                refine awp_region ?_
                refine arun_do rfl rfl rfl (ex_move (eV (v := (SL 5 c_api_Node y14)) rfl)) ?_
                obtain ⟨x22, hx22, h⟩ := bindS h
                refine arun_do rfl rfl rfl (ex_call0 (vs := [(SL 5 c_api_Node y14)]) (v := (Bo x22)) rfl en_22 (cargs (evs rfl evs_nil)) rfl (ok_ref11_May y14 x22 hx22) rfl) ?_
                refine arun_do rfl rfl rfl (ex_un (vx := (Bo x22)) rfl notB_ok) ?_
                refine arun_do rfl rfl rfl (ex_move (eV (v := (Bo (!x22))) rfl)) ?_
                refine arun_guard (v := (I y15)) ((!x22) == false) rfl rfl rfl (fun hc => ex_move (eV (v := (I y15)) rfl)) ?_
                refine arun_guard (v := (Bo (y15 != 0))) ((!x22) == false) rfl rfl rfl (fun hc => ex_bin (vx := (I y15)) (vy := (I 0)) (cond_of hc) rfl neqI_ok) ?_
                refine arun_guard (v := (Bo (y15 != 0))) ((!x22) == false) rfl rfl rfl (fun hc => ex_move (eV (v := (Bo (y15 != 0))) (cond_of hc))) ?_
                refine arun_guard (v := (SL 5 c_api_Node y14)) (((!x22) == false) && ((y15 != 0) == true)) rfl rfl gv_nest (fun hc => ex_move (eV (v := (SL 5 c_api_Node y14)) rfl)) ?_
                refine arun_guard (v := (SL 5 c_api_Node v6)) (((!x22) == false) && ((y15 != 0) == true)) rfl rfl gv_nest (fun hc => ex_move (eV (v := (SL 5 c_api_Node v6)) rfl)) ?_
                obtain ⟨x23, hx23, h⟩ := bindS h
                refine arun_guard (v := (Bo x23)) (((!x22) == false) && ((y15 != 0) == true)) rfl rfl gv_nest (fun hc => ex_call0 (vs := [(SL 5 c_api_Node y14), (SL 5 c_api_Node v6)]) (v := (Bo x23)) rfl en_14 (cargs (evs (cond_of hc) (evs (cond_of hc) evs_nil))) rfl (ok_ref11_Same y14 v6 x23 (gd_of hc hx23)) rfl) ?_
                refine arun_guard (v := (Bo (!x23))) (((!x22) == false) && ((y15 != 0) == true)) rfl rfl gv_nest (fun hc => ex_un (vx := (Bo x23)) (cond_of hc) notB_ok) ?_
                refine arun_guard (v := (Bo ((y15 != 0) && (!x23)))) ((!x22) == false) rfl rfl rfl (fun hc => ex_pick (cond_of hc) (pkAndN hc)) ?_
                refine arun_do rfl rfl rfl (ex_pick rfl pkOr) ?_
                refine arun_keepE [3, 5, 7, 74] 0 1 (st' := ⟨76, 0, [(3, (NP 0 0)), (5, (I v7)), (7, (SL 5 c_api_Node y14)), (74, (Bo ((!x22) || ((y15 != 0) && (!x23)))))], [], ⟨1, [(0, ⟨1, (c_palimpmade_Picks x13.2), false⟩)]⟩⟩) (by kernel_rfl) (by kernel_rfl) ?_
                show AWp _ _ _ _
                rcases Bool.eq_false_or_eq_true ((!x22) || ((y15 != 0) && (!x23))) with hb24 | hb24
                · rw [condT hb24] at h
                  refine awp_condT (boT hb24) ?_
                  refine awp_seq ?_
                  refine awp_region ?_
                  refine arun_do rfl rfl rfl (ex_assign (eV (v := (Bo false)) rfl)) ?_
                  refine arun_keepE [2] 0 0 (st' := ⟨76, 0, [(2, (Bo false))], [], ⟨0, []⟩⟩) (by kernel_rfl) (by kernel_rfl) ?_
                  show AWp _ _ _ _
                  refine awp_ret ?_
                  cases h
                  exact ares1 (rtmp rfl (eV rfl))
                · rw [condF hb24] at h
                  refine awp_condF (boF hb24) ?_
                  refine awp_skip ?_
                  show AWp _ _ _ _
                  refine awp_region ?_
                  refine arun_do rfl rfl rfl (ex_move (eV (v := (SL 5 c_api_Node y14)) rfl)) ?_
                  refine arun_do rfl rfl rfl (ex_assign (eV (v := (SL 5 c_api_Node y14)) rfl)) ?_
                  refine arun_keepE [3, 4, 5] 0 1 (st' := ⟨76, 0, [(3, (NP 0 0)), (4, (SL 5 c_api_Node y14)), (5, (I v7))], [], ⟨1, [(0, ⟨1, (c_palimpmade_Picks x13.2), false⟩)]⟩⟩) (by kernel_rfl) (by kernel_rfl) ?_
                  exact (Exists.intro y14 (Exists.intro x13.2 (And.intro rfl h)))
            · rintro s ⟨y11, y12, rfl, h⟩
              unfold M_law14_EditMay_k1 at h
              refine awp_region ?_
              refine arun_do rfl rfl rfl (ex_move (eV (v := (I v7)) rfl)) ?_
              refine arun_do rfl rfl rfl (ex_bin (vx := (I v7)) (vy := (I 1)) rfl rfl addI_ok) ?_
              refine arun_do rfl rfl rfl (ex_assign (eV (v := (I (w64 (v7 + 1)))) rfl)) ?_
              refine arun_keepE [3, 4, 5] 0 1 (st' := ⟨76, 0, [(3, (NP 0 0)), (4, (SL 5 c_api_Node y11)), (5, (I (w64 (v7 + 1))))], [], ⟨1, [(0, ⟨1, (c_palimpmade_Picks y12), false⟩)]⟩⟩) (by kernel_rfl) (by kernel_rfl) ?_
              exact Exists.intro n1 (And.intro (Nat.lt_succ_self _) (Exists.intro y11 (Exists.intro (w64 (v7 + 1)) (Exists.intro y12 (And.intro rfl h)))))
          · rw [condF hb10] at h
            refine awp_condF (boF hb10) ?_
            refine awp_exit ?_
            show AWp _ _ _ _
            refine awp_seq ?_
            refine awp_region ?_
            refine arun_do rfl rfl rfl (ex_assign (eV (v := (Bo true)) rfl)) ?_
            refine arun_keepE [2] 0 0 (st' := ⟨76, 0, [(2, (Bo true))], [], ⟨0, []⟩⟩) (by kernel_rfl) (by kernel_rfl) ?_
            show AWp _ _ _ _
            refine awp_ret ?_
            cases h
            exact ares1 (rtmp rfl (eV rfl))
        · rw [condF hg8_0] at h
          refine awp_region ?_
          refine arun_do rfl rfl rfl (ex_move (eV (v := (I v7)) rfl)) ?_
          refine arun_do rfl rfl rfl (ex_bin (vx := (I v7)) (vy := (I 40)) rfl rfl lssI_ok) ?_
          refine arun_do rfl rfl rfl (ex_move (eV (v := (Bo (decide (v7 < 40)))) rfl)) ?_
          refine arun_skip rfl rfl (gF rfl hg8_0) ?_
          refine arun_skip rfl rfl (gF rfl hg8_0) ?_
          refine arun_skip rfl rfl (gF rfl hg8_0) ?_
          refine arun_do rfl rfl rfl (ex_pick rfl (pkAndS hg8_0)) ?_
          refine arun_keepE [3, 4, 5, 23] 0 1 (st' := ⟨76, 0, [(3, (NP 0 0)), (4, (SL 5 c_api_Node v6)), (5, (I v7)), (23, (Bo (decide (v7 < 40))))], [], ⟨1, [(0, ⟨1, (c_palimpmade_Picks v8), false⟩)]⟩⟩) (by kernel_rfl) (by kernel_rfl) ?_
          show AWp _ _ _ _
          rcases Bool.eq_false_or_eq_true (decide (v7 < 40)) with hb9 | hb9
          · rw [condT hb9] at h
            refine awp_condT (boT hb9) ?_
            refine awp_skip ?_
            show AWp _ _ _ _
            refine awp_seqJ (fun s => ∃ (y10 : (List G_api_Node)) (y11 : G_palimpmade_Picks), s = ⟨76, 0, [(3, (NP 0 0)), (4, (SL 5 c_api_Node y10)), (5, (I v7))], [], ⟨1, [(0, ⟨1, (c_palimpmade_Picks y11), false⟩)]⟩⟩ ∧ M_law14_EditMay_k3 (M_law14_EditMay_l1 n1) v7 y10 y11 = some r) ?_ ?_
            · refine awp_block ?_
              refine awp_seq ?_
              refine awp_region ?_
              refine arun_do rfl rfl rfl (ex_move (eV (v := (NP 0 0)) rfl)) ?_
              obtain ⟨x12, hx12, h⟩ := bindS h
              refine arun_do rfl rfl rfl (ex_call1 (vs := [(NP 0 0), (I 1)]) (vs' := [(NP 0 0), (I 1)]) (v := (Value.agg (c_api_Step x12.1).toArray)) (n := 0) (b := ⟨1, (c_palimpmade_Picks v8), false⟩) (b' := ⟨1, (c_palimpmade_Picks x12.2), false⟩) (H' := ⟨1, [(0, ⟨1, (c_palimpmade_Picks x12.2), false⟩)]⟩) rfl en_21 (cargs (evs rfl (evs rfl evs_nil))) rfl rfl (.cons (.inr ⟨_, rfl, rfl⟩) (.cons (.inl ⟨rfl, rfl⟩) .nil)) (ok_made_Picks_Edit v8 1 x12 hx12) rfl rfl) ?_
              refine arun_do rfl rfl rfl (ex_allocW (k := 0) (zs := (c_api_Step (G_api_Step.mk 0 0 0 0 0 [] [] [] []))) (L' := [(c_api_Step (G_api_Step.mk 0 0 0 0 0 [] [] [] []))]) z_42 rfl (by repeat (first | exact trivial | refine ⟨.inl rfl, ?_⟩ | refine ⟨.inr ⟨rfl, _, rfl⟩, ?_⟩)) rfl rfl) ?_
              refine arun_do0 rfl rfl (ex_storeL (vy := (Value.agg (c_api_Step x12.1).toArray)) (cs := (c_api_Step (G_api_Step.mk 0 0 0 0 0 [] [] [] []))) (vs := (c_api_Step x12.1)) (L' := [(c_api_Step x12.1)]) rfl (eV (v := (Value.agg (c_api_Step x12.1).toArray)) rfl) rfl s_42 rfl (Nat.le_of_ble_eq_true rfl) (by kernel_rfl)) ?_
              refine arun_keepE [3, 4, 5, 6] 1 1 (st' := ⟨76, 0, [(3, (NP 0 0)), (4, (SL 5 c_api_Node v6)), (5, (I v7)), (6, (LP 0 0))], [(c_api_Step x12.1)], ⟨1, [(0, ⟨1, (c_palimpmade_Picks x12.2), false⟩)]⟩⟩) (by kernel_rfl) (by kernel_rfl) ?_
              show AWp _ _ _ _
              refine awp_seq ?_
              refine awp_region ?_
              refine arun_do rfl rfl rfl (ex_move (eV (v := (SL 5 c_api_Node v6)) rfl)) ?_
              refine arun_do rfl rfl rfl (ex_assign (eV (v := (SL 5 c_api_Node v6)) rfl)) ?_
              refine arun_do rfl rfl rfl (ex_assign (eV (v := (I 0)) rfl)) ?_
              refine arun_keepE [3, 4, 5, 6, 7, 8] 1 1 (st' := ⟨76, 0, [(3, (NP 0 0)), (4, (SL 5 c_api_Node v6)), (5, (I v7)), (6, (LP 0 0)), (7, (SL 5 c_api_Node v6)), (8, (I 0))], [(c_api_Step x12.1)], ⟨1, [(0, ⟨1, (c_palimpmade_Picks x12.2), false⟩)]⟩⟩) (by kernel_rfl) (by kernel_rfl) ?_
              show AWp _ _ _ _
              refine awp_seqJ (fun s => ∃ (y13 : (List G_api_Node)) (y14 : Int), s = ⟨76, 0, [(3, (NP 0 0)), (4, (SL 5 c_api_Node v6)), (5, (I v7)), (7, (SL 5 c_api_Node y13)), (8, (I y14))], [], ⟨1, [(0, ⟨1, (c_palimpmade_Picks x12.2), false⟩)]⟩⟩ ∧ M_law14_EditMay_k4 (M_law14_EditMay_l1 n1) v6 v7 x12 y13 y14 = some r) ?_ ?_
              · refine awp_seq ?_
                refine awp_region ?_
                refine arun_do rfl rfl rfl (ex_fieldAddr (v := (LP 0 0)) Tryd.underlying42 rfl s_3 (by decide) rfl rfl) ?_
                refine arun_do rfl rfl rfl (tx_ldL1 (v := (I x12.1.Kind)) Tryd.underlying3 rfl rfl rfl rfl) ?_
                refine arun_keepE [3, 4, 5, 6, 7, 8, 30] 1 1 (st' := ⟨76, 0, [(3, (NP 0 0)), (4, (SL 5 c_api_Node v6)), (5, (I v7)), (6, (LP 0 0)), (7, (SL 5 c_api_Node v6)), (8, (I 0)), (30, (I x12.1.Kind))], [(c_api_Step x12.1)], ⟨1, [(0, ⟨1, (c_palimpmade_Picks x12.2), false⟩)]⟩⟩) (by kernel_rfl) (by kernel_rfl) ?_
                show AWp _ _ _ _
                refine awp_block ?_
                refine awp_seq ?_
                refine awp_region ?_
                refine arun_do rfl rfl rfl (ex_bin (vx := (I x12.1.Kind)) (vy := (I 1)) rfl rfl eqlI_ok) ?_
                refine arun_do rfl rfl rfl (ex_assign (eV (v := (Bo (x12.1.Kind == 1))) rfl)) ?_
                refine arun_keepE [3, 4, 5, 6, 7, 8, 30, 31] 1 1 (st' := ⟨76, 0, [(3, (NP 0 0)), (4, (SL 5 c_api_Node v6)), (5, (I v7)), (6, (LP 0 0)), (7, (SL 5 c_api_Node v6)), (8, (I 0)), (30, (I x12.1.Kind)), (31, (Bo (x12.1.Kind == 1)))], [(c_api_Step x12.1)], ⟨1, [(0, ⟨1, (c_palimpmade_Picks x12.2), false⟩)]⟩⟩) (by kernel_rfl) (by kernel_rfl) ?_
                show AWp _ _ _ _
                rcases Bool.eq_false_or_eq_true (x12.1.Kind == 1) with hb15 | hb15
                · rw [condT hb15] at h
                  refine awp_condT (boT hb15) ?_
                  refine awp_region ?_
                  refine arun_do rfl rfl rfl (ex_move (eV (v := (SL 5 c_api_Node v6)) rfl)) ?_
                  refine arun_do rfl rfl rfl (ex_fieldAddr (v := (LP 0 5)) Tryd.underlying42 rfl s_9 (by decide) rfl rfl) ?_
                  refine arun_do rfl rfl rfl (tx_ldL1 (v := (S x12.1.Path)) Tryd.underlying9 rfl rfl rfl rfl) ?_
                  refine arun_do rfl rfl rfl (ex_fieldAddr (v := (LP 0 2)) Tryd.underlying42 rfl s_3 (by decide) rfl rfl) ?_
                  refine arun_do rfl rfl rfl (tx_ldL1 (v := (I x12.1.N)) Tryd.underlying3 rfl rfl rfl rfl) ?_
                  obtain ⟨x16, hx16, h⟩ := bindS h
                  refine arun_do rfl rfl rfl (ex_call0 (vs := [(SL 5 c_api_Node v6), (S x12.1.Path), (I x12.1.N)]) (v := (Value.tuple #[(SL 5 c_api_Node x16.1), (I x16.2)])) rfl en_12 (cargs (evs rfl (evs rfl (evs rfl evs_nil)))) rfl (ok_edit_Make v6 x12.1.Path x12.1.N x16 hx16) rfl) ?_
                  refine arun_do rfl rfl rfl (ex_move (eV (v := (Value.tuple #[(SL 5 c_api_Node x16.1), (I x16.2)])) rfl)) ?_
                  refine arun_do rfl rfl rfl (ex_extract (vx := (Value.tuple #[(SL 5 c_api_Node x16.1), (I x16.2)])) (v := (SL 5 c_api_Node x16.1)) rfl rfl) ?_
                  refine arun_do rfl rfl rfl (ex_extract (vx := (Value.tuple #[(SL 5 c_api_Node x16.1), (I x16.2)])) (v := (I x16.2)) rfl rfl) ?_
                  refine arun_do rfl rfl rfl (ex_assign (eV (v := (SL 5 c_api_Node x16.1)) rfl)) ?_
                  refine arun_do rfl rfl rfl (ex_assign (eV (v := (I x16.2)) rfl)) ?_
                  refine arun_keepE [3, 4, 5, 7, 8] 0 1 (st' := ⟨76, 0, [(3, (NP 0 0)), (4, (SL 5 c_api_Node v6)), (5, (I v7)), (7, (SL 5 c_api_Node x16.1)), (8, (I x16.2))], [], ⟨1, [(0, ⟨1, (c_palimpmade_Picks x12.2), false⟩)]⟩⟩) (by kernel_rfl) (by kernel_rfl) ?_
                  exact (Exists.intro x16.1 (Exists.intro x16.2 (And.intro rfl h)))
                · rw [condF hb15] at h
                  refine awp_condF (boF hb15) ?_
                  refine awp_seq ?_
                  refine awp_region ?_
                  refine arun_do rfl rfl rfl (ex_bin (vx := (I x12.1.Kind)) (vy := (I 2)) rfl rfl eqlI_ok) ?_
                  refine arun_do rfl rfl rfl (ex_assign (eV (v := (Bo (x12.1.Kind == 2))) rfl)) ?_
                  refine arun_keepE [3, 4, 5, 6, 7, 8, 30, 42] 1 1 (st' := ⟨76, 0, [(3, (NP 0 0)), (4, (SL 5 c_api_Node v6)), (5, (I v7)), (6, (LP 0 0)), (7, (SL 5 c_api_Node v6)), (8, (I 0)), (30, (I x12.1.Kind)), (42, (Bo (x12.1.Kind == 2)))], [(c_api_Step x12.1)], ⟨1, [(0, ⟨1, (c_palimpmade_Picks x12.2), false⟩)]⟩⟩) (by kernel_rfl) (by kernel_rfl) ?_
                  show AWp _ _ _ _
                  rcases Bool.eq_false_or_eq_true (x12.1.Kind == 2) with hb17 | hb17
                  · rw [condT hb17] at h
                    refine awp_condT (boT hb17) ?_
                    refine awp_region ?_
                    refine arun_do rfl rfl rfl (ex_move (eV (v := (SL 5 c_api_Node v6)) rfl)) ?_
                    refine arun_do rfl rfl rfl (ex_fieldAddr (v := (LP 0 5)) Tryd.underlying42 rfl s_9 (by decide) rfl rfl) ?_
                    refine arun_do rfl rfl rfl (tx_ldL1 (v := (S x12.1.Path)) Tryd.underlying9 rfl rfl rfl rfl) ?_
                    obtain ⟨x18, hx18, h⟩ := bindS h
                    refine arun_do rfl rfl rfl (ex_call0 (vs := [(SL 5 c_api_Node v6), (S x12.1.Path)]) (v := (Value.tuple #[(SL 5 c_api_Node x18.1), (I x18.2)])) rfl en_15 (cargs (evs rfl (evs rfl evs_nil))) rfl (ok_edit_Drop v6 x12.1.Path x18 hx18) rfl) ?_
                    refine arun_do rfl rfl rfl (ex_move (eV (v := (Value.tuple #[(SL 5 c_api_Node x18.1), (I x18.2)])) rfl)) ?_
                    refine arun_do rfl rfl rfl (ex_extract (vx := (Value.tuple #[(SL 5 c_api_Node x18.1), (I x18.2)])) (v := (SL 5 c_api_Node x18.1)) rfl rfl) ?_
                    refine arun_do rfl rfl rfl (ex_extract (vx := (Value.tuple #[(SL 5 c_api_Node x18.1), (I x18.2)])) (v := (I x18.2)) rfl rfl) ?_
                    refine arun_do rfl rfl rfl (ex_assign (eV (v := (SL 5 c_api_Node x18.1)) rfl)) ?_
                    refine arun_do rfl rfl rfl (ex_assign (eV (v := (I x18.2)) rfl)) ?_
                    refine arun_keepE [3, 4, 5, 7, 8] 0 1 (st' := ⟨76, 0, [(3, (NP 0 0)), (4, (SL 5 c_api_Node v6)), (5, (I v7)), (7, (SL 5 c_api_Node x18.1)), (8, (I x18.2))], [], ⟨1, [(0, ⟨1, (c_palimpmade_Picks x12.2), false⟩)]⟩⟩) (by kernel_rfl) (by kernel_rfl) ?_
                    exact (Exists.intro x18.1 (Exists.intro x18.2 (And.intro rfl h)))
                  · rw [condF hb17] at h
                    refine awp_condF (boF hb17) ?_
                    refine awp_seq ?_
                    refine awp_region ?_
                    refine arun_do rfl rfl rfl (ex_bin (vx := (I x12.1.Kind)) (vy := (I 3)) rfl rfl eqlI_ok) ?_
                    refine arun_do rfl rfl rfl (ex_assign (eV (v := (Bo (x12.1.Kind == 3))) rfl)) ?_
                    refine arun_keepE [3, 4, 5, 6, 7, 8, 51] 1 1 (st' := ⟨76, 0, [(3, (NP 0 0)), (4, (SL 5 c_api_Node v6)), (5, (I v7)), (6, (LP 0 0)), (7, (SL 5 c_api_Node v6)), (8, (I 0)), (51, (Bo (x12.1.Kind == 3)))], [(c_api_Step x12.1)], ⟨1, [(0, ⟨1, (c_palimpmade_Picks x12.2), false⟩)]⟩⟩) (by kernel_rfl) (by kernel_rfl) ?_
                    show AWp _ _ _ _
                    rcases Bool.eq_false_or_eq_true (x12.1.Kind == 3) with hb19 | hb19
                    · rw [condT hb19] at h
                      refine awp_condT (boT hb19) ?_
                      refine awp_region ?_
                      refine arun_do rfl rfl rfl (ex_move (eV (v := (SL 5 c_api_Node v6)) rfl)) ?_
                      refine arun_do rfl rfl rfl (ex_fieldAddr (v := (LP 0 5)) Tryd.underlying42 rfl s_9 (by decide) rfl rfl) ?_
                      refine arun_do rfl rfl rfl (tx_ldL1 (v := (S x12.1.Path)) Tryd.underlying9 rfl rfl rfl rfl) ?_
                      refine arun_do rfl rfl rfl (ex_fieldAddr (v := (LP 0 6)) Tryd.underlying42 rfl s_9 (by decide) rfl rfl) ?_
                      refine arun_do rfl rfl rfl (tx_ldL1 (v := (S x12.1.To)) Tryd.underlying9 rfl rfl rfl rfl) ?_
                      obtain ⟨x20, hx20, h⟩ := bindS h
                      refine arun_do rfl rfl rfl (ex_call0 (vs := [(SL 5 c_api_Node v6), (S x12.1.Path), (S x12.1.To)]) (v := (Value.tuple #[(SL 5 c_api_Node x20.1), (I x20.2)])) rfl en_17 (cargs (evs rfl (evs rfl (evs rfl evs_nil)))) rfl (ok_edit_Move v6 x12.1.Path x12.1.To x20 hx20) rfl) ?_
                      refine arun_do rfl rfl rfl (ex_move (eV (v := (Value.tuple #[(SL 5 c_api_Node x20.1), (I x20.2)])) rfl)) ?_
                      refine arun_do rfl rfl rfl (ex_extract (vx := (Value.tuple #[(SL 5 c_api_Node x20.1), (I x20.2)])) (v := (SL 5 c_api_Node x20.1)) rfl rfl) ?_
                      refine arun_do rfl rfl rfl (ex_extract (vx := (Value.tuple #[(SL 5 c_api_Node x20.1), (I x20.2)])) (v := (I x20.2)) rfl rfl) ?_
                      refine arun_do rfl rfl rfl (ex_assign (eV (v := (SL 5 c_api_Node x20.1)) rfl)) ?_
                      refine arun_do rfl rfl rfl (ex_assign (eV (v := (I x20.2)) rfl)) ?_
                      refine arun_keepE [3, 4, 5, 7, 8] 0 1 (st' := ⟨76, 0, [(3, (NP 0 0)), (4, (SL 5 c_api_Node v6)), (5, (I v7)), (7, (SL 5 c_api_Node x20.1)), (8, (I x20.2))], [], ⟨1, [(0, ⟨1, (c_palimpmade_Picks x12.2), false⟩)]⟩⟩) (by kernel_rfl) (by kernel_rfl) ?_
                      exact (Exists.intro x20.1 (Exists.intro x20.2 (And.intro rfl h)))
                    · rw [condF hb19] at h
                      refine awp_condF (boF hb19) ?_
                      refine awp_keepE [3, 4, 5, 7, 8] 0 1 (st' := ⟨76, 0, [(3, (NP 0 0)), (4, (SL 5 c_api_Node v6)), (5, (I v7)), (7, (SL 5 c_api_Node v6)), (8, (I 0))], [], ⟨1, [(0, ⟨1, (c_palimpmade_Picks x12.2), false⟩)]⟩⟩) (by kernel_rfl) (by kernel_rfl) ?_
                      refine awp_skip ?_
                      exact (Exists.intro v6 (Exists.intro 0 (And.intro rfl h)))
              · rintro s ⟨y13, y14, rfl, h⟩
                unfold M_law14_EditMay_k4 at h
                refine awp_seq ?_
                refine awp_seq ?_
                refine awp_region ?_
                refine arun_do rfl rfl rfl (ex_move (eV (v := (SL 5 c_api_Node y13)) rfl)) ?_
                obtain ⟨x21, hx21, h⟩ := bindS h
                refine arun_do rfl rfl rfl (ex_call0 (vs := [(SL 5 c_api_Node y13)]) (v := (Bo x21)) rfl en_22 (cargs (evs rfl evs_nil)) rfl (ok_ref11_May y13 x21 hx21) rfl) ?_
                refine arun_do rfl rfl rfl (ex_un (vx := (Bo x21)) rfl notB_ok) ?_
                refine arun_do rfl rfl rfl (ex_move (eV (v := (Bo (!x21))) rfl)) ?_
                refine arun_guard (v := (I y14)) ((!x21) == false) rfl rfl rfl (fun hc => ex_move (eV (v := (I y14)) rfl)) ?_
                refine arun_guard (v := (Bo (y14 != 0))) ((!x21) == false) rfl rfl rfl (fun hc => ex_bin (vx := (I y14)) (vy := (I 0)) (cond_of hc) rfl neqI_ok) ?_
                refine arun_guard (v := (Bo (y14 != 0))) ((!x21) == false) rfl rfl rfl (fun hc => ex_move (eV (v := (Bo (y14 != 0))) (cond_of hc))) ?_
                refine arun_guard (v := (SL 5 c_api_Node y13)) (((!x21) == false) && ((y14 != 0) == true)) rfl rfl gv_nest (fun hc => ex_move (eV (v := (SL 5 c_api_Node y13)) rfl)) ?_
                refine arun_guard (v := (SL 5 c_api_Node v6)) (((!x21) == false) && ((y14 != 0) == true)) rfl rfl gv_nest (fun hc => ex_move (eV (v := (SL 5 c_api_Node v6)) rfl)) ?_
                obtain ⟨x22, hx22, h⟩ := bindS h
                refine arun_guard (v := (Bo x22)) (((!x21) == false) && ((y14 != 0) == true)) rfl rfl gv_nest (fun hc => ex_call0 (vs := [(SL 5 c_api_Node y13), (SL 5 c_api_Node v6)]) (v := (Bo x22)) rfl en_14 (cargs (evs (cond_of hc) (evs (cond_of hc) evs_nil))) rfl (ok_ref11_Same y13 v6 x22 (gd_of hc hx22)) rfl) ?_
                refine arun_guard (v := (Bo (!x22))) (((!x21) == false) && ((y14 != 0) == true)) rfl rfl gv_nest (fun hc => ex_un (vx := (Bo x22)) (cond_of hc) notB_ok) ?_
                refine arun_guard (v := (Bo ((y14 != 0) && (!x22)))) ((!x21) == false) rfl rfl rfl (fun hc => ex_pick (cond_of hc) (pkAndN hc)) ?_
                refine arun_do rfl rfl rfl (ex_pick rfl pkOr) ?_
                refine arun_keepE [3, 5, 7, 74] 0 1 (st' := ⟨76, 0, [(3, (NP 0 0)), (5, (I v7)), (7, (SL 5 c_api_Node y13)), (74, (Bo ((!x21) || ((y14 != 0) && (!x22)))))], [], ⟨1, [(0, ⟨1, (c_palimpmade_Picks x12.2), false⟩)]⟩⟩) (by kernel_rfl) (by kernel_rfl) ?_
                show AWp _ _ _ _
                rcases Bool.eq_false_or_eq_true ((!x21) || ((y14 != 0) && (!x22))) with hb23 | hb23
                · rw [condT hb23] at h
                  refine awp_condT (boT hb23) ?_
                  refine awp_seq ?_
                  refine awp_region ?_
                  refine arun_do rfl rfl rfl (ex_assign (eV (v := (Bo false)) rfl)) ?_
                  refine arun_keepE [2] 0 0 (st' := ⟨76, 0, [(2, (Bo false))], [], ⟨0, []⟩⟩) (by kernel_rfl) (by kernel_rfl) ?_
                  show AWp _ _ _ _
                  refine awp_ret ?_
                  cases h
                  exact ares1 (rtmp rfl (eV rfl))
                · rw [condF hb23] at h
                  refine awp_condF (boF hb23) ?_
                  refine awp_skip ?_
                  show AWp _ _ _ _
                  refine awp_region ?_
                  refine arun_do rfl rfl rfl (ex_move (eV (v := (SL 5 c_api_Node y13)) rfl)) ?_
                  refine arun_do rfl rfl rfl (ex_assign (eV (v := (SL 5 c_api_Node y13)) rfl)) ?_
                  refine arun_keepE [3, 4, 5] 0 1 (st' := ⟨76, 0, [(3, (NP 0 0)), (4, (SL 5 c_api_Node y13)), (5, (I v7))], [], ⟨1, [(0, ⟨1, (c_palimpmade_Picks x12.2), false⟩)]⟩⟩) (by kernel_rfl) (by kernel_rfl) ?_
                  exact (Exists.intro y13 (Exists.intro x12.2 (And.intro rfl h)))
            · rintro s ⟨y10, y11, rfl, h⟩
              unfold M_law14_EditMay_k3 at h
              refine awp_region ?_
              refine arun_do rfl rfl rfl (ex_move (eV (v := (I v7)) rfl)) ?_
              refine arun_do rfl rfl rfl (ex_bin (vx := (I v7)) (vy := (I 1)) rfl rfl addI_ok) ?_
              refine arun_do rfl rfl rfl (ex_assign (eV (v := (I (w64 (v7 + 1)))) rfl)) ?_
              refine arun_keepE [3, 4, 5] 0 1 (st' := ⟨76, 0, [(3, (NP 0 0)), (4, (SL 5 c_api_Node y10)), (5, (I (w64 (v7 + 1))))], [], ⟨1, [(0, ⟨1, (c_palimpmade_Picks y11), false⟩)]⟩⟩) (by kernel_rfl) (by kernel_rfl) ?_
              exact Exists.intro n1 (And.intro (Nat.lt_succ_self _) (Exists.intro y10 (Exists.intro (w64 (v7 + 1)) (Exists.intro y11 (And.intro rfl h)))))
          · rw [condF hb9] at h
            refine awp_condF (boF hb9) ?_
            refine awp_exit ?_
            show AWp _ _ _ _
            refine awp_seq ?_
            refine awp_region ?_
            refine arun_do rfl rfl rfl (ex_assign (eV (v := (Bo true)) rfl)) ?_
            refine arun_keepE [2] 0 0 (st' := ⟨76, 0, [(2, (Bo true))], [], ⟨0, []⟩⟩) (by kernel_rfl) (by kernel_rfl) ?_
            show AWp _ _ _ _
            refine awp_ret ?_
            cases h
            exact ares1 (rtmp rfl (eV rfl))

end Go.Proofs
