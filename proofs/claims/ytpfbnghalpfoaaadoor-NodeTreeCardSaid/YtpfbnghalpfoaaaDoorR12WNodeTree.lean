/- Pure models of functions of the program, and that its code does what they say: palimplaw12 NodeTree. Written by a program. -/
import Derived.Test.YtpfbnghalpfoaaaDoorR1213
import Derived.Test.YtpfbnghalpfoaaaDoorR123
import Derived.Test.YtpfbnghalpfoaaaDoorR124
import Derived.Test.YtpfbnghalpfoaaaDoorR126
import Derived.Test.YtpfbnghalpfoaaaDoorR128
import Derived.Test.YtpfbnghalpfoaaaDoorR129
import Derived.Test.YtpfbnghalpfoaaaDoorR12B
set_option maxRecDepth 20000
set_option maxHeartbeats 4000000
namespace Go.Proofs
open Go Go.Fhl
set_option linter.unusedVariables false
set_option linter.unusedSimpArgs false
noncomputable def M_law12_NodeTree_l2 (c_1 : (Int → List Int → Option Bool)) (x5 : ((List G_api_Node) × G_palimpmade_Picks)) (v7 : Int) (x10 : (List Int)) : Nat → Int → List Int → Option Bool
  | 0, _, _ => none
  | n2 + 1, v13, v14 =>
  cond (decide (v13 < (x10.length : Int))) (Option.bind (getI x10 v13) fun (x16 : Int) => Option.bind (gd ((decide (x16 < 1)) == false) (getI x10 v13)) fun (x17 : Int) => Option.bind (gd (((decide (x16 < 1)) || (decide (x17 ≥ (x5.1.length : Int)))) == false) (getI x10 v13)) fun (x18 : Int) => Option.bind (gd (((decide (x16 < 1)) || (decide (x17 ≥ (x5.1.length : Int)))) == false) (getI x5.1 x18)) fun (x19 : G_api_Node) => Option.bind (gd (((((decide (x16 < 1)) || (decide (x17 ≥ (x5.1.length : Int)))) || (x19.Up != v7)) == false) && ((decide (v13 > 0)) == true)) (getI x10 (w64 (v13 - 1)))) fun (x20 : Int) => Option.bind (gd (((((decide (x16 < 1)) || (decide (x17 ≥ (x5.1.length : Int)))) || (x19.Up != v7)) == false) && ((decide (v13 > 0)) == true)) (getI x5.1 x20)) fun (x21 : G_api_Node) => Option.bind (gd (((((decide (x16 < 1)) || (decide (x17 ≥ (x5.1.length : Int)))) || (x19.Up != v7)) == false) && ((decide (v13 > 0)) == true)) (getI x10 v13)) fun (x22 : Int) => Option.bind (gd (((((decide (x16 < 1)) || (decide (x17 ≥ (x5.1.length : Int)))) || (x19.Up != v7)) == false) && ((decide (v13 > 0)) == true)) (getI x5.1 x22)) fun (x23 : G_api_Node) => cond ((((decide (x16 < 1)) || (decide (x17 ≥ (x5.1.length : Int)))) || (x19.Up != v7)) || ((decide (v13 > 0)) && (!ltS x21.Name x23.Name))) (some false) (Option.bind (getI x10 v13) fun (x25 : Int) => Option.bind (getI v14 x25) fun (x26 : Int) => Option.bind (getI v14 x25) fun (x27 : Int) => Option.bind (setI v14 x25 (w64 (x26 + 1))) fun (x28 : List Int) => Option.bind (getI x10 v13) fun (x29 : Int) => Option.bind (getI x5.1 x29) fun (x30 : G_api_Node) => Option.bind (M_node_Kid x5.1 v7 x30.Name) fun (x31 : (Int × Bool)) => Option.bind (gd ((!x31.2) == false) (getI x10 v13)) fun (x32 : Int) => cond ((!x31.2) || (x31.1 != x32)) (some false) ((M_law12_NodeTree_l2 c_1 x5 v7 x10 n2) (w64 (v13 + 1)) x28))) (c_1 (w64 (v7 + 1)) v14)
noncomputable def M_law12_NodeTree_l3 (c_1 : (Int → List Int → Option Bool)) (x5 : ((List G_api_Node) × G_palimpmade_Picks)) (v8 : List Int) : Nat → Int → Option Bool
  | 0, _ => none
  | n3 + 1, v34 =>
  cond (decide (v34 < (x5.1.length : Int))) (Option.bind (getI v8 v34) fun (x36 : Int) => Option.bind (getI x5.1 v34) fun (x37 : G_api_Node) => Option.bind (gd (((x36 == 1) != (x37.Kind != 0)) == false) (getI v8 v34)) fun (x38 : Int) => cond (((x36 == 1) != (x37.Kind != 0)) || (decide (x38 > 1))) (some false) ((M_law12_NodeTree_l3 c_1 x5 v8 n3) (w64 (v34 + 1)))) (Option.bind (M_node_Free x5.1) fun (x40 : (Int × Bool)) => Option.bind (M_node_May x5.1) fun (x41 : Bool) => Option.bind (gd (((x41 == true) && ((!x40.2) == false)) && ((decide (x40.1 > 0)) == true)) (getI x5.1 x40.1)) fun (x42 : G_api_Node) => some (x41 && ((!x40.2) || ((decide (x40.1 > 0)) && (x42.Kind == 0)))))
noncomputable def M_law12_NodeTree_l1 (x5 : ((List G_api_Node) × G_palimpmade_Picks)) : Nat → Int → List Int → Option Bool
  | 0, _, _ => none
  | n1 + 1, v7, v8 =>
  cond (decide (v7 < (x5.1.length : Int))) (Option.bind (M_node_Kids x5.1 v7) fun (x10 : (List Int)) => Option.bind (gd ((decide ((x10.length : Int) > 0)) == true) (getI x5.1 v7)) fun (x11 : G_api_Node) => cond ((decide ((x10.length : Int) > 0)) && (x11.Kind != 2)) (some false) (M_law12_NodeTree_l2 (M_law12_NodeTree_l1 x5 n1) x5 v7 x10 fuel 0 v8)) (M_law12_NodeTree_l3 (M_law12_NodeTree_l1 x5 n1) x5 v8 fuel 1)
noncomputable def M_law12_NodeTree (t0 : (List UInt8)) : Option Bool :=
  Option.bind (M_law12_begun) fun (x1 : Bool) => cond (!x1) (some false) (cond (decide ((t0.length : Int) > 60)) (some true) (Option.bind (M_made_Made t0) fun (x4 : G_palimpmade_Picks) => Option.bind (M_made_Picks_Set x4 25) fun (x5 : ((List G_api_Node) × G_palimpmade_Picks)) => Option.bind (makeL 8 (x5.1.length : Int) 0) fun (x6 : List Int) => M_law12_NodeTree_l1 x5 fuel 0 x6))
theorem ok_law12_NodeTree (t0 : (List UInt8)) (r : Bool) (h : M_law12_NodeTree t0 = some r) : FFn Tryd.prog 3 [(SL 1 c8 t0)] (Bo r) := by
  refine FFn.of_body (n := 181) Tryd.func3 rfl Tryd.ntmps3 rfl rfl rfl rfl ?_
  show AWp _ _ _ ⟨181, 0, [(0, (SL 1 c8 t0))], [], ⟨0, []⟩⟩
  unfold M_law12_NodeTree at h
  refine awp_seq ?_
  refine awp_region ?_
  refine arun_do rfl rfl rfl (ex_assign (eV (v := (Bo false)) rfl)) ?_
  refine arun_keepE [0] 0 0 (st' := ⟨181, 0, [(0, (SL 1 c8 t0))], [], ⟨0, []⟩⟩) (by kernel_rfl) (by kernel_rfl) ?_
  show AWp _ _ _ _
  refine awp_seq ?_
  refine awp_seq ?_
  refine awp_region ?_
  obtain ⟨x1, hx1, h⟩ := bindS h
  refine arun_do rfl rfl rfl (ex_call0 (vs := []) (v := (Bo x1)) rfl en_7 (cargs evs_nil) rfl (ok_law12_begun  x1 hx1) rfl) ?_
  refine arun_do rfl rfl rfl (ex_un (vx := (Bo x1)) rfl notB_ok) ?_
  refine arun_keepE [0, 14] 0 0 (st' := ⟨181, 0, [(0, (SL 1 c8 t0)), (14, (Bo (!x1)))], [], ⟨0, []⟩⟩) (by kernel_rfl) (by kernel_rfl) ?_
  show AWp _ _ _ _
  rcases Bool.eq_false_or_eq_true (!x1) with hb2 | hb2
  · rw [condT hb2] at h
    refine awp_condT (boT hb2) ?_
    refine awp_seq ?_
    refine awp_region ?_
    refine arun_do rfl rfl rfl (ex_assign (eV (v := (Bo false)) rfl)) ?_
    refine arun_keepE [2] 0 0 (st' := ⟨181, 0, [(2, (Bo false))], [], ⟨0, []⟩⟩) (by kernel_rfl) (by kernel_rfl) ?_
    show AWp _ _ _ _
    refine awp_ret ?_
    cases h
    exact ares1 (rtmp rfl (eV rfl))
  · rw [condF hb2] at h
    refine awp_condF (boF hb2) ?_
    refine awp_skip ?_
    show AWp _ _ _ _
    refine awp_seq ?_
    refine awp_seq ?_
    refine awp_region ?_
    refine arun_do rfl rfl rfl (ex_move (eV (v := (SL 1 c8 t0)) rfl)) ?_
    refine arun_do rfl rfl rfl (tx_lenD (xs := t0) ce8 Tryd.underlying22 rfl) ?_
    refine arun_do rfl rfl rfl (ex_bin (vx := (I (t0.length : Int))) (vy := (I 60)) rfl rfl gtrI_ok) ?_
    refine arun_keepE [0, 17] 0 0 (st' := ⟨181, 0, [(0, (SL 1 c8 t0)), (17, (Bo (decide ((t0.length : Int) > 60))))], [], ⟨0, []⟩⟩) (by kernel_rfl) (by kernel_rfl) ?_
    show AWp _ _ _ _
    rcases Bool.eq_false_or_eq_true (decide ((t0.length : Int) > 60)) with hb3 | hb3
    · rw [condT hb3] at h
      refine awp_condT (boT hb3) ?_
      refine awp_seq ?_
      refine awp_region ?_
      refine arun_do rfl rfl rfl (ex_assign (eV (v := (Bo true)) rfl)) ?_
      refine arun_keepE [2] 0 0 (st' := ⟨181, 0, [(2, (Bo true))], [], ⟨0, []⟩⟩) (by kernel_rfl) (by kernel_rfl) ?_
      show AWp _ _ _ _
      refine awp_ret ?_
      cases h
      exact ares1 (rtmp rfl (eV rfl))
    · rw [condF hb3] at h
      refine awp_condF (boF hb3) ?_
      refine awp_skip ?_
      show AWp _ _ _ _
      refine awp_seq ?_
      refine awp_region ?_
      refine arun_do rfl rfl rfl (ex_move (eV (v := (SL 1 c8 t0)) rfl)) ?_
      obtain ⟨x4, hx4, h⟩ := bindS h
      refine arun_do rfl rfl rfl (ex_callNew (vs := [(SL 1 c8 t0)]) (k := 0) (b := ⟨1, (c_palimpmade_Picks x4), false⟩) (H' := ⟨1, [(0, ⟨1, (c_palimpmade_Picks x4), false⟩)]⟩) rfl en_8 (cargs (evs rfl evs_nil)) rfl (ok_made_Made t0 x4 hx4) rfl rfl rfl) ?_
      obtain ⟨x5, hx5, h⟩ := bindS h
      refine arun_do rfl rfl rfl (ex_call1 (vs := [(NP 0 0), (I 25)]) (vs' := [(NP 0 0), (I 25)]) (v := (SL 5 c_api_Node x5.1)) (n := 0) (b := ⟨1, (c_palimpmade_Picks x4), false⟩) (b' := ⟨1, (c_palimpmade_Picks x5.2), false⟩) (H' := ⟨1, [(0, ⟨1, (c_palimpmade_Picks x5.2), false⟩)]⟩) rfl en_9 (cargs (evs rfl (evs rfl evs_nil))) rfl rfl (.cons (.inr ⟨_, rfl, rfl⟩) (.cons (.inl ⟨rfl, rfl⟩) .nil)) (ok_made_Picks_Set x4 25 x5 hx5) rfl rfl) ?_
      refine arun_do rfl rfl rfl (ex_assign (eV (v := (SL 5 c_api_Node x5.1)) rfl)) ?_
      refine arun_keepE [3] 0 0 (st' := ⟨181, 0, [(3, (SL 5 c_api_Node x5.1))], [], ⟨0, []⟩⟩) (by kernel_rfl) (by kernel_rfl) ?_
      show AWp _ _ _ _
      refine awp_seq ?_
      refine awp_region ?_
      refine arun_do rfl rfl rfl (ex_move (eV (v := (SL 5 c_api_Node x5.1)) rfl)) ?_
      refine arun_do rfl rfl rfl (tx_lenD (xs := x5.1) ce_api_Node Tryd.underlying25 rfl) ?_
      obtain ⟨x6, hx6, h⟩ := bindS h
      refine arun_do rfl rfl rfl (tx_make (c := cI) (e := 0) (k := 0) (H' := ⟨1, [(0, ⟨1, ((x6).flatMap cI), false⟩)]⟩) ceI Tryd.underlying29 s_3 b_3 z_3 rfl rfl (by decide) rfl rfl hx6 rfl rfl) ?_
      refine arun_do rfl rfl rfl (ex_assign (eV (v := (FV 0 x6.length)) rfl)) ?_
      refine arun_keepE [3, 4] 0 1 (st' := ⟨181, 0, [(3, (SL 5 c_api_Node x5.1)), (4, (FV 0 x6.length))], [], ⟨1, [(0, ⟨1, ((x6).flatMap cI), false⟩)]⟩⟩) (by kernel_rfl) (by kernel_rfl) ?_
      show AWp _ _ _ _
      refine awp_seq ?_
      refine awp_seq ?_
      refine awp_region ?_
      refine arun_do rfl rfl rfl (ex_assign (eV (v := (I 0)) rfl)) ?_
      refine arun_keepE [3, 4, 5] 0 1 (st' := ⟨181, 0, [(3, (SL 5 c_api_Node x5.1)), (4, (FV 0 x6.length)), (5, (I 0))], [], ⟨1, [(0, ⟨1, ((x6).flatMap cI), false⟩)]⟩⟩) (by kernel_rfl) (by kernel_rfl) ?_
      show AWp _ _ _ _
      refine awp_block ?_
      refine awp_loop (fun n s => ∃ (v7 : Int) (v8 : List Int), s = ⟨181, 0, [(3, (SL 5 c_api_Node x5.1)), (4, (FV 0 v8.length)), (5, (I v7))], [], ⟨1, [(0, ⟨1, ((v8).flatMap cI), false⟩)]⟩⟩ ∧ M_law12_NodeTree_l1 x5 n v7 v8 = some r) fuel (Exists.intro 0 (Exists.intro x6 (And.intro rfl h))) ?_
      rintro n s ⟨v7, v8, rfl, h⟩ -
      cases n with
      | zero => cases h
      | succ n1 =>
        unfold M_law12_NodeTree_l1 at h
        refine awp_seq ?_
        refine awp_seq ?_
        refine awp_region ?_
        refine arun_do rfl rfl rfl (ex_move (eV (v := (I v7)) rfl)) ?_
        refine arun_do rfl rfl rfl (ex_move (eV (v := (SL 5 c_api_Node x5.1)) rfl)) ?_
        refine arun_do rfl rfl rfl (tx_lenD (xs := x5.1) ce_api_Node Tryd.underlying25 rfl) ?_
        refine arun_do rfl rfl rfl (ex_bin (vx := (I v7)) (vy := (I (x5.1.length : Int))) rfl rfl lssI_ok) ?_
        refine arun_keepE [3, 4, 5, 27] 0 1 (st' := ⟨181, 0, [(3, (SL 5 c_api_Node x5.1)), (4, (FV 0 v8.length)), (5, (I v7)), (27, (Bo (decide (v7 < (x5.1.length : Int)))))], [], ⟨1, [(0, ⟨1, ((v8).flatMap cI), false⟩)]⟩⟩) (by kernel_rfl) (by kernel_rfl) ?_
        show AWp _ _ _ _
        rcases Bool.eq_false_or_eq_true (decide (v7 < (x5.1.length : Int))) with hb9 | hb9
        · rw [condT hb9] at h
          refine awp_condT (boT hb9) ?_
          refine awp_skip ?_
          show AWp _ _ _ _
          refine awp_seq ?_
          refine awp_block ?_
          refine awp_seq ?_
          refine awp_region ?_
          refine arun_do rfl rfl rfl (ex_move (eV (v := (SL 5 c_api_Node x5.1)) rfl)) ?_
          refine arun_do rfl rfl rfl (ex_move (eV (v := (I v7)) rfl)) ?_
          obtain ⟨x10, hx10, h⟩ := bindS h
          refine arun_do rfl rfl rfl (ex_call0 (vs := [(SL 5 c_api_Node x5.1), (I v7)]) (v := (SL 1 cI x10)) rfl en_10 (cargs (evs rfl (evs rfl evs_nil))) rfl (ok_node_Kids x5.1 v7 x10 hx10) rfl) ?_
          refine arun_do rfl rfl rfl (ex_assign (eV (v := (SL 1 cI x10)) rfl)) ?_
          refine arun_keepE [3, 4, 5, 6] 0 1 (st' := ⟨181, 0, [(3, (SL 5 c_api_Node x5.1)), (4, (FV 0 v8.length)), (5, (I v7)), (6, (SL 1 cI x10))], [], ⟨1, [(0, ⟨1, ((v8).flatMap cI), false⟩)]⟩⟩) (by kernel_rfl) (by kernel_rfl) ?_
          show AWp _ _ _ _
          refine awp_seq ?_
          refine awp_seq ?_
          refine awp_region ?_
          refine arun_do rfl rfl rfl (ex_move (eV (v := (SL 1 cI x10)) rfl)) ?_
          refine arun_do rfl rfl rfl (tx_lenD (xs := x10) ceI Tryd.underlying29 rfl) ?_
          refine arun_do rfl rfl rfl (ex_bin (vx := (I (x10.length : Int))) (vy := (I 0)) rfl rfl gtrI_ok) ?_
          refine arun_do rfl rfl rfl (ex_move (eV (v := (Bo (decide ((x10.length : Int) > 0)))) rfl)) ?_
          refine arun_guard (v := (SL 5 c_api_Node x5.1)) ((decide ((x10.length : Int) > 0)) == true) rfl rfl rfl (fun hc => ex_move (eV (v := (SL 5 c_api_Node x5.1)) rfl)) ?_
          refine arun_guard (v := (I v7)) ((decide ((x10.length : Int) > 0)) == true) rfl rfl rfl (fun hc => ex_move (eV (v := (I v7)) rfl)) ?_
          obtain ⟨x11, hx11, h⟩ := bindS h
          refine arun_guard (v := (DP (c_api_Node x11))) ((decide ((x10.length : Int) > 0)) == true) rfl rfl rfl (fun hc => tx_idxD (c := c_api_Node) (xs := x5.1) (i := v7) ce_api_Node Tryd.underlying25 s_32 (cond_of hc) (cond_of hc) (gd_of hc hx11)) ?_
          refine arun_guard (v := (DP (List.drop 0 (c_api_Node x11)))) ((decide ((x10.length : Int) > 0)) == true) rfl rfl rfl (fun hc => ex_fieldAddrD (vs := (List.drop 0 (c_api_Node x11))) Tryd.underlying32 rfl s_3 (by decide) (cond_of hc) rfl) ?_
          refine arun_guard (v := (I x11.Kind)) ((decide ((x10.length : Int) > 0)) == true) rfl rfl rfl (fun hc => tx_ldD1 (v := (I x11.Kind)) Tryd.underlying3 rfl (cond_of hc) rfl) ?_
          refine arun_guard (v := (Bo (x11.Kind != 2))) ((decide ((x10.length : Int) > 0)) == true) rfl rfl rfl (fun hc => ex_bin (vx := (I x11.Kind)) (vy := (I 2)) (cond_of hc) rfl neqI_ok) ?_
          refine arun_do rfl rfl rfl (ex_pick rfl pkAnd) ?_
          refine arun_keepE [3, 4, 5, 6, 43] 0 1 (st' := ⟨181, 0, [(3, (SL 5 c_api_Node x5.1)), (4, (FV 0 v8.length)), (5, (I v7)), (6, (SL 1 cI x10)), (43, (Bo ((decide ((x10.length : Int) > 0)) && (x11.Kind != 2))))], [], ⟨1, [(0, ⟨1, ((v8).flatMap cI), false⟩)]⟩⟩) (by kernel_rfl) (by kernel_rfl) ?_
          show AWp _ _ _ _
          rcases Bool.eq_false_or_eq_true ((decide ((x10.length : Int) > 0)) && (x11.Kind != 2)) with hb12 | hb12
          · rw [condT hb12] at h
            refine awp_condT (boT hb12) ?_
            refine awp_seq ?_
            refine awp_region ?_
            refine arun_do rfl rfl rfl (ex_assign (eV (v := (Bo false)) rfl)) ?_
            refine arun_keepE [2] 0 0 (st' := ⟨181, 0, [(2, (Bo false))], [], ⟨0, []⟩⟩) (by kernel_rfl) (by kernel_rfl) ?_
            show AWp _ _ _ _
            refine awp_ret ?_
            cases h
            exact ares1 (rtmp rfl (eV rfl))
          · rw [condF hb12] at h
            refine awp_condF (boF hb12) ?_
            refine awp_skip ?_
            show AWp _ _ _ _
            refine awp_seq ?_
            refine awp_region ?_
            refine arun_do rfl rfl rfl (ex_assign (eV (v := (I 0)) rfl)) ?_
            refine arun_keepE [3, 4, 5, 6, 7] 0 1 (st' := ⟨181, 0, [(3, (SL 5 c_api_Node x5.1)), (4, (FV 0 v8.length)), (5, (I v7)), (6, (SL 1 cI x10)), (7, (I 0))], [], ⟨1, [(0, ⟨1, ((v8).flatMap cI), false⟩)]⟩⟩) (by kernel_rfl) (by kernel_rfl) ?_
            show AWp _ _ _ _
            refine awp_block ?_
            refine awp_loop (fun n s => ∃ (v13 : Int) (v14 : List Int), s = ⟨181, 0, [(3, (SL 5 c_api_Node x5.1)), (4, (FV 0 v14.length)), (5, (I v7)), (6, (SL 1 cI x10)), (7, (I v13))], [], ⟨1, [(0, ⟨1, ((v14).flatMap cI), false⟩)]⟩⟩ ∧ M_law12_NodeTree_l2 (M_law12_NodeTree_l1 x5 n1) x5 v7 x10 n v13 v14 = some r) fuel (Exists.intro 0 (Exists.intro v8 (And.intro rfl h))) ?_
            rintro n s ⟨v13, v14, rfl, h⟩ -
            cases n with
            | zero => cases h
            | succ n2 =>
              unfold M_law12_NodeTree_l2 at h
              refine awp_seq ?_
              refine awp_seq ?_
              refine awp_region ?_
              refine arun_do rfl rfl rfl (ex_move (eV (v := (I v13)) rfl)) ?_
              refine arun_do rfl rfl rfl (ex_move (eV (v := (SL 1 cI x10)) rfl)) ?_
              refine arun_do rfl rfl rfl (tx_lenD (xs := x10) ceI Tryd.underlying29 rfl) ?_
              refine arun_do rfl rfl rfl (ex_bin (vx := (I v13)) (vy := (I (x10.length : Int))) rfl rfl lssI_ok) ?_
              refine arun_keepE [3, 4, 5, 6, 7, 47] 0 1 (st' := ⟨181, 0, [(3, (SL 5 c_api_Node x5.1)), (4, (FV 0 v14.length)), (5, (I v7)), (6, (SL 1 cI x10)), (7, (I v13)), (47, (Bo (decide (v13 < (x10.length : Int)))))], [], ⟨1, [(0, ⟨1, ((v14).flatMap cI), false⟩)]⟩⟩) (by kernel_rfl) (by kernel_rfl) ?_
              show AWp _ _ _ _
              rcases Bool.eq_false_or_eq_true (decide (v13 < (x10.length : Int))) with hb15 | hb15
              · rw [condT hb15] at h
                refine awp_condT (boT hb15) ?_
                refine awp_skip ?_
                show AWp _ _ _ _
                refine awp_seq ?_
                refine awp_block ?_
                refine awp_seq ?_
                refine awp_seq ?_
                obtain ⟨x16, hx16, h⟩ := bindS h
                obtain ⟨x17, hx17, h⟩ := bindS h
                obtain ⟨x18, hx18, h⟩ := bindS h
                obtain ⟨x19, hx19, h⟩ := bindS h
                obtain ⟨x20, hx20, h⟩ := bindS h
                obtain ⟨x21, hx21, h⟩ := bindS h
                obtain ⟨x22, hx22, h⟩ := bindS h
                obtain ⟨x23, hx23, h⟩ := bindS h
                refine awp_kn [3, 4, 5, 6, 7, 99] 0 1 (st' := ⟨181, 0, [(3, (SL 5 c_api_Node x5.1)), (4, (FV 0 v14.length)), (5, (I v7)), (6, (SL 1 cI x10)), (7, (I v13)), (99, (Bo ((((decide (x16 < 1)) || (decide (x17 ≥ (x5.1.length : Int)))) || (x19.Up != v7)) || ((decide (v13 > 0)) && (!ltS x21.Name x23.Name)))))], [], ⟨1, [(0, ⟨1, ((v14).flatMap cI), false⟩)]⟩⟩) (awp_draw (T := [(SL 1 cI x10), (I v13), (DP (cI x16)), (I x16), (Bo (decide (x16 < 1))), (Bo (decide (x16 < 1))), (cond ((decide (x16 < 1)) == false) (SL 1 cI x10) skipV), (cond ((decide (x16 < 1)) == false) (I v13) skipV), (cond ((decide (x16 < 1)) == false) (DP (cI x17)) skipV), (cond ((decide (x16 < 1)) == false) (I x17) skipV), (cond ((decide (x16 < 1)) == false) (SL 5 c_api_Node x5.1) skipV), (cond ((decide (x16 < 1)) == false) (I (x5.1.length : Int)) skipV), (cond ((decide (x16 < 1)) == false) (Bo (decide (x17 ≥ (x5.1.length : Int)))) skipV), (Bo ((decide (x16 < 1)) || (decide (x17 ≥ (x5.1.length : Int))))), (Bo ((decide (x16 < 1)) || (decide (x17 ≥ (x5.1.length : Int))))), (cond (((decide (x16 < 1)) || (decide (x17 ≥ (x5.1.length : Int)))) == false) (SL 5 c_api_Node x5.1) skipV), (cond (((decide (x16 < 1)) || (decide (x17 ≥ (x5.1.length : Int)))) == false) (SL 1 cI x10) skipV), (cond (((decide (x16 < 1)) || (decide (x17 ≥ (x5.1.length : Int)))) == false) (I v13) skipV), (cond (((decide (x16 < 1)) || (decide (x17 ≥ (x5.1.length : Int)))) == false) (DP (cI x18)) skipV), (cond (((decide (x16 < 1)) || (decide (x17 ≥ (x5.1.length : Int)))) == false) (I x18) skipV), (cond (((decide (x16 < 1)) || (decide (x17 ≥ (x5.1.length : Int)))) == false) (DP (c_api_Node x19)) skipV), (cond (((decide (x16 < 1)) || (decide (x17 ≥ (x5.1.length : Int)))) == false) (DP (List.drop 1 (c_api_Node x19))) skipV), (cond (((decide (x16 < 1)) || (decide (x17 ≥ (x5.1.length : Int)))) == false) (I x19.Up) skipV), (cond (((decide (x16 < 1)) || (decide (x17 ≥ (x5.1.length : Int)))) == false) (I v7) skipV), (cond (((decide (x16 < 1)) || (decide (x17 ≥ (x5.1.length : Int)))) == false) (Bo (x19.Up != v7)) skipV), (Bo (((decide (x16 < 1)) || (decide (x17 ≥ (x5.1.length : Int)))) || (x19.Up != v7))), (Bo (((decide (x16 < 1)) || (decide (x17 ≥ (x5.1.length : Int)))) || (x19.Up != v7))), (cond ((((decide (x16 < 1)) || (decide (x17 ≥ (x5.1.length : Int)))) || (x19.Up != v7)) == false) (I v13) skipV), (cond ((((decide (x16 < 1)) || (decide (x17 ≥ (x5.1.length : Int)))) || (x19.Up != v7)) == false) (Bo (decide (v13 > 0))) skipV), (cond ((((decide (x16 < 1)) || (decide (x17 ≥ (x5.1.length : Int)))) || (x19.Up != v7)) == false) (Bo (decide (v13 > 0))) skipV), (cond (((((decide (x16 < 1)) || (decide (x17 ≥ (x5.1.length : Int)))) || (x19.Up != v7)) == false) && ((decide (v13 > 0)) == true)) (SL 5 c_api_Node x5.1) skipV), (cond (((((decide (x16 < 1)) || (decide (x17 ≥ (x5.1.length : Int)))) || (x19.Up != v7)) == false) && ((decide (v13 > 0)) == true)) (SL 1 cI x10) skipV), (cond (((((decide (x16 < 1)) || (decide (x17 ≥ (x5.1.length : Int)))) || (x19.Up != v7)) == false) && ((decide (v13 > 0)) == true)) (I v13) skipV), (cond (((((decide (x16 < 1)) || (decide (x17 ≥ (x5.1.length : Int)))) || (x19.Up != v7)) == false) && ((decide (v13 > 0)) == true)) (I (w64 (v13 - 1))) skipV), (cond (((((decide (x16 < 1)) || (decide (x17 ≥ (x5.1.length : Int)))) || (x19.Up != v7)) == false) && ((decide (v13 > 0)) == true)) (DP (cI x20)) skipV), (cond (((((decide (x16 < 1)) || (decide (x17 ≥ (x5.1.length : Int)))) || (x19.Up != v7)) == false) && ((decide (v13 > 0)) == true)) (I x20) skipV), (cond (((((decide (x16 < 1)) || (decide (x17 ≥ (x5.1.length : Int)))) || (x19.Up != v7)) == false) && ((decide (v13 > 0)) == true)) (DP (c_api_Node x21)) skipV), (cond (((((decide (x16 < 1)) || (decide (x17 ≥ (x5.1.length : Int)))) || (x19.Up != v7)) == false) && ((decide (v13 > 0)) == true)) (DP (List.drop 2 (c_api_Node x21))) skipV), (cond (((((decide (x16 < 1)) || (decide (x17 ≥ (x5.1.length : Int)))) || (x19.Up != v7)) == false) && ((decide (v13 > 0)) == true)) (S x21.Name) skipV), (cond (((((decide (x16 < 1)) || (decide (x17 ≥ (x5.1.length : Int)))) || (x19.Up != v7)) == false) && ((decide (v13 > 0)) == true)) (SL 5 c_api_Node x5.1) skipV), (cond (((((decide (x16 < 1)) || (decide (x17 ≥ (x5.1.length : Int)))) || (x19.Up != v7)) == false) && ((decide (v13 > 0)) == true)) (SL 1 cI x10) skipV), (cond (((((decide (x16 < 1)) || (decide (x17 ≥ (x5.1.length : Int)))) || (x19.Up != v7)) == false) && ((decide (v13 > 0)) == true)) (I v13) skipV), (cond (((((decide (x16 < 1)) || (decide (x17 ≥ (x5.1.length : Int)))) || (x19.Up != v7)) == false) && ((decide (v13 > 0)) == true)) (DP (cI x22)) skipV), (cond (((((decide (x16 < 1)) || (decide (x17 ≥ (x5.1.length : Int)))) || (x19.Up != v7)) == false) && ((decide (v13 > 0)) == true)) (I x22) skipV), (cond (((((decide (x16 < 1)) || (decide (x17 ≥ (x5.1.length : Int)))) || (x19.Up != v7)) == false) && ((decide (v13 > 0)) == true)) (DP (c_api_Node x23)) skipV), (cond (((((decide (x16 < 1)) || (decide (x17 ≥ (x5.1.length : Int)))) || (x19.Up != v7)) == false) && ((decide (v13 > 0)) == true)) (DP (List.drop 2 (c_api_Node x23))) skipV), (cond (((((decide (x16 < 1)) || (decide (x17 ≥ (x5.1.length : Int)))) || (x19.Up != v7)) == false) && ((decide (v13 > 0)) == true)) (S x23.Name) skipV), (cond (((((decide (x16 < 1)) || (decide (x17 ≥ (x5.1.length : Int)))) || (x19.Up != v7)) == false) && ((decide (v13 > 0)) == true)) (Bo (!ltS x21.Name x23.Name)) skipV), (cond ((((decide (x16 < 1)) || (decide (x17 ≥ (x5.1.length : Int)))) || (x19.Up != v7)) == false) (Bo ((decide (v13 > 0)) && (!ltS x21.Name x23.Name))) skipV), (Bo ((((decide (x16 < 1)) || (decide (x17 ≥ (x5.1.length : Int)))) || (x19.Up != v7)) || ((decide (v13 > 0)) && (!ltS x21.Name x23.Name))))]) (LH := [([], ⟨1, [(0, ⟨1, ((v14).flatMap cI), false⟩)]⟩)]) (D := [⟨[(6, none)], [], [0], false⟩, ⟨[(7, none)], [], [0], false⟩, ⟨[(50, some 0), (51, some 1)], [0, 1], [0], false⟩, ⟨[(52, some 2)], [0, 1, 2], [0], false⟩, ⟨[(53, some 3)], [0, 1, 2, 3], [0], false⟩, ⟨[(54, some 4)], [0, 1, 2, 3, 4], [0], false⟩, ⟨[(6, none), (55, some 5)], [0, 1, 2, 3, 4, 5], [0], false⟩, ⟨[(7, none), (55, some 5)], [0, 1, 2, 3, 4, 5], [0], false⟩, ⟨[(56, some 6), (57, some 7), (55, some 5)], [0, 1, 2, 3, 4, 5, 6, 7], [0], false⟩, ⟨[(58, some 8), (55, some 5)], [0, 1, 2, 3, 4, 5, 6, 7, 8], [0], false⟩, ⟨[(3, none), (55, some 5)], [0, 1, 2, 3, 4, 5], [0], false⟩, ⟨[(60, some 10), (55, some 5)], [0, 1, 2, 3, 4, 5, 10], [0], false⟩, ⟨[(59, some 9), (61, some 11), (55, some 5)], [0, 1, 2, 3, 4, 5, 6, 7, 8, 9, 10, 11], [0], false⟩, ⟨[(55, some 5), (62, some 12)], [0, 1, 2, 3, 4, 5, 6, 7, 8, 9, 10, 11, 12], [0], false⟩, ⟨[(63, some 13)], [0, 1, 2, 3, 4, 5, 6, 7, 8, 9, 10, 11, 12, 13], [0], false⟩, ⟨[(3, none), (64, some 14)], [0, 1, 2, 3, 4, 5, 6, 7, 8, 9, 10, 11, 12, 13, 14], [0], false⟩, ⟨[(6, none), (64, some 14)], [0, 1, 2, 3, 4, 5, 6, 7, 8, 9, 10, 11, 12, 13, 14], [0], false⟩, ⟨[(7, none), (64, some 14)], [0, 1, 2, 3, 4, 5, 6, 7, 8, 9, 10, 11, 12, 13, 14], [0], false⟩, ⟨[(66, some 16), (67, some 17), (64, some 14)], [0, 1, 2, 3, 4, 5, 6, 7, 8, 9, 10, 11, 12, 13, 14, 16, 17], [0], false⟩, ⟨[(68, some 18), (64, some 14)], [0, 1, 2, 3, 4, 5, 6, 7, 8, 9, 10, 11, 12, 13, 14, 16, 17, 18], [0], false⟩, ⟨[(65, some 15), (69, some 19), (64, some 14)], [0, 1, 2, 3, 4, 5, 6, 7, 8, 9, 10, 11, 12, 13, 14, 15, 16, 17, 18, 19], [0], false⟩, ⟨[(70, some 20), (64, some 14)], [0, 1, 2, 3, 4, 5, 6, 7, 8, 9, 10, 11, 12, 13, 14, 15, 16, 17, 18, 19, 20], [0], false⟩, ⟨[(71, some 21), (64, some 14)], [0, 1, 2, 3, 4, 5, 6, 7, 8, 9, 10, 11, 12, 13, 14, 15, 16, 17, 18, 19, 20, 21], [0], false⟩, ⟨[(5, none), (64, some 14)], [0, 1, 2, 3, 4, 5, 6, 7, 8, 9, 10, 11, 12, 13, 14], [0], false⟩, ⟨[(72, some 22), (73, some 23), (64, some 14)], [0, 1, 2, 3, 4, 5, 6, 7, 8, 9, 10, 11, 12, 13, 14, 15, 16, 17, 18, 19, 20, 21, 22, 23], [0], false⟩, ⟨[(64, some 14), (74, some 24)], [0, 1, 2, 3, 4, 5, 6, 7, 8, 9, 10, 11, 12, 13, 14, 15, 16, 17, 18, 19, 20, 21, 22, 23, 24], [0], false⟩, ⟨[(75, some 25)], [0, 1, 2, 3, 4, 5, 6, 7, 8, 9, 10, 11, 12, 13, 14, 15, 16, 17, 18, 19, 20, 21, 22, 23, 24, 25], [0], false⟩, ⟨[(7, none), (76, some 26)], [0, 1, 2, 3, 4, 5, 6, 7, 8, 9, 10, 11, 12, 13, 14, 15, 16, 17, 18, 19, 20, 21, 22, 23, 24, 25, 26], [0], false⟩, ⟨[(77, some 27), (76, some 26)], [0, 1, 2, 3, 4, 5, 6, 7, 8, 9, 10, 11, 12, 13, 14, 15, 16, 17, 18, 19, 20, 21, 22, 23, 24, 25, 26, 27], [0], false⟩, ⟨[(78, some 28), (76, some 26)], [0, 1, 2, 3, 4, 5, 6, 7, 8, 9, 10, 11, 12, 13, 14, 15, 16, 17, 18, 19, 20, 21, 22, 23, 24, 25, 26, 27, 28], [0], false⟩, ⟨[(3, none), (79, some 29)], [0, 1, 2, 3, 4, 5, 6, 7, 8, 9, 10, 11, 12, 13, 14, 15, 16, 17, 18, 19, 20, 21, 22, 23, 24, 25, 26, 27, 28, 29], [0], false⟩, ⟨[(6, none), (79, some 29)], [0, 1, 2, 3, 4, 5, 6, 7, 8, 9, 10, 11, 12, 13, 14, 15, 16, 17, 18, 19, 20, 21, 22, 23, 24, 25, 26, 27, 28, 29], [0], false⟩, ⟨[(7, none), (79, some 29)], [0, 1, 2, 3, 4, 5, 6, 7, 8, 9, 10, 11, 12, 13, 14, 15, 16, 17, 18, 19, 20, 21, 22, 23, 24, 25, 26, 27, 28, 29], [0], false⟩, ⟨[(82, some 32), (79, some 29)], [0, 1, 2, 3, 4, 5, 6, 7, 8, 9, 10, 11, 12, 13, 14, 15, 16, 17, 18, 19, 20, 21, 22, 23, 24, 25, 26, 27, 28, 29, 32], [0], false⟩, ⟨[(81, some 31), (83, some 33), (79, some 29)], [0, 1, 2, 3, 4, 5, 6, 7, 8, 9, 10, 11, 12, 13, 14, 15, 16, 17, 18, 19, 20, 21, 22, 23, 24, 25, 26, 27, 28, 29, 31, 32, 33], [0], false⟩, ⟨[(84, some 34), (79, some 29)], [0, 1, 2, 3, 4, 5, 6, 7, 8, 9, 10, 11, 12, 13, 14, 15, 16, 17, 18, 19, 20, 21, 22, 23, 24, 25, 26, 27, 28, 29, 31, 32, 33, 34], [0], false⟩, ⟨[(80, some 30), (85, some 35), (79, some 29)], [0, 1, 2, 3, 4, 5, 6, 7, 8, 9, 10, 11, 12, 13, 14, 15, 16, 17, 18, 19, 20, 21, 22, 23, 24, 25, 26, 27, 28, 29, 30, 31, 32, 33, 34, 35], [0], false⟩, ⟨[(86, some 36), (79, some 29)], [0, 1, 2, 3, 4, 5, 6, 7, 8, 9, 10, 11, 12, 13, 14, 15, 16, 17, 18, 19, 20, 21, 22, 23, 24, 25, 26, 27, 28, 29, 30, 31, 32, 33, 34, 35, 36], [0], false⟩, ⟨[(87, some 37), (79, some 29)], [0, 1, 2, 3, 4, 5, 6, 7, 8, 9, 10, 11, 12, 13, 14, 15, 16, 17, 18, 19, 20, 21, 22, 23, 24, 25, 26, 27, 28, 29, 30, 31, 32, 33, 34, 35, 36, 37], [0], false⟩, ⟨[(3, none), (79, some 29)], [0, 1, 2, 3, 4, 5, 6, 7, 8, 9, 10, 11, 12, 13, 14, 15, 16, 17, 18, 19, 20, 21, 22, 23, 24, 25, 26, 27, 28, 29], [0], false⟩, ⟨[(6, none), (79, some 29)], [0, 1, 2, 3, 4, 5, 6, 7, 8, 9, 10, 11, 12, 13, 14, 15, 16, 17, 18, 19, 20, 21, 22, 23, 24, 25, 26, 27, 28, 29], [0], false⟩, ⟨[(7, none), (79, some 29)], [0, 1, 2, 3, 4, 5, 6, 7, 8, 9, 10, 11, 12, 13, 14, 15, 16, 17, 18, 19, 20, 21, 22, 23, 24, 25, 26, 27, 28, 29], [0], false⟩, ⟨[(90, some 40), (91, some 41), (79, some 29)], [0, 1, 2, 3, 4, 5, 6, 7, 8, 9, 10, 11, 12, 13, 14, 15, 16, 17, 18, 19, 20, 21, 22, 23, 24, 25, 26, 27, 28, 29, 40, 41], [0], false⟩, ⟨[(92, some 42), (79, some 29)], [0, 1, 2, 3, 4, 5, 6, 7, 8, 9, 10, 11, 12, 13, 14, 15, 16, 17, 18, 19, 20, 21, 22, 23, 24, 25, 26, 27, 28, 29, 40, 41, 42], [0], false⟩, ⟨[(89, some 39), (93, some 43), (79, some 29)], [0, 1, 2, 3, 4, 5, 6, 7, 8, 9, 10, 11, 12, 13, 14, 15, 16, 17, 18, 19, 20, 21, 22, 23, 24, 25, 26, 27, 28, 29, 39, 40, 41, 42, 43], [0], false⟩, ⟨[(94, some 44), (79, some 29)], [0, 1, 2, 3, 4, 5, 6, 7, 8, 9, 10, 11, 12, 13, 14, 15, 16, 17, 18, 19, 20, 21, 22, 23, 24, 25, 26, 27, 28, 29, 39, 40, 41, 42, 43, 44], [0], false⟩, ⟨[(95, some 45), (79, some 29)], [0, 1, 2, 3, 4, 5, 6, 7, 8, 9, 10, 11, 12, 13, 14, 15, 16, 17, 18, 19, 20, 21, 22, 23, 24, 25, 26, 27, 28, 29, 39, 40, 41, 42, 43, 44, 45], [0], false⟩, ⟨[(88, some 38), (96, some 46), (79, some 29)], [0, 1, 2, 3, 4, 5, 6, 7, 8, 9, 10, 11, 12, 13, 14, 15, 16, 17, 18, 19, 20, 21, 22, 23, 24, 25, 26, 27, 28, 29, 30, 31, 32, 33, 34, 35, 36, 37, 38, 39, 40, 41, 42, 43, 44, 45, 46], [0], false⟩, ⟨[(79, some 29), (97, some 47), (76, some 26)], [0, 1, 2, 3, 4, 5, 6, 7, 8, 9, 10, 11, 12, 13, 14, 15, 16, 17, 18, 19, 20, 21, 22, 23, 24, 25, 26, 27, 28, 29, 30, 31, 32, 33, 34, 35, 36, 37, 38, 39, 40, 41, 42, 43, 44, 45, 46, 47], [0], false⟩, ⟨[(76, some 26), (98, some 48)], [0, 1, 2, 3, 4, 5, 6, 7, 8, 9, 10, 11, 12, 13, 14, 15, 16, 17, 18, 19, 20, 21, 22, 23, 24, 25, 26, 27, 28, 29, 30, 31, 32, 33, 34, 35, 36, 37, 38, 39, 40, 41, 42, 43, 44, 45, 46, 47, 48], [0], false⟩]) (S := []) (plan := [0, 1, 2, 3, 4, 5, 6, 7, 8, 9, 10, 11, 12, 13, 14, 15, 16, 17, 18, 19, 20, 21, 22, 23, 24, 25, 26, 27, 28, 29, 30, 31, 32, 33, 34, 35, 36, 37, 38, 39, 40, 41, 42, 43, 44, 45, 46, 47, 48, 49]) mo (by kernel_rfl) rfl rfl rfl (dcons (dstep1 (Tm := [(6, (SL 1 cI x10))]) (L := []) (H := ⟨1, [(0, ⟨1, ((v14).flatMap cI), false⟩)]⟩) rfl rfl rfl rfl rfl (astep_do rfl (ex_move (eV (v := (SL 1 cI x10)) rfl)))) (dcons (dstep1 (Tm := [(7, (I v13))]) (L := []) (H := ⟨1, [(0, ⟨1, ((v14).flatMap cI), false⟩)]⟩) rfl rfl rfl rfl rfl (astep_do rfl (ex_move (eV (v := (I v13)) rfl)))) (dcons (dstep1 (Tm := [(50, (SL 1 cI x10)), (51, (I v13))]) (L := []) (H := ⟨1, [(0, ⟨1, ((v14).flatMap cI), false⟩)]⟩) rfl rfl rfl rfl rfl (astep_do rfl (tx_idxD (c := cI) (xs := x10) (i := v13) ceI Tryd.underlying29 s_3 rfl rfl hx16))) (dcons (dstep1 (Tm := [(52, (DP (cI x16)))]) (L := []) (H := ⟨1, [(0, ⟨1, ((v14).flatMap cI), false⟩)]⟩) rfl rfl rfl rfl rfl (astep_do rfl (tx_ldD1 (v := (I x16)) Tryd.underlying3 rfl rfl rfl))) (dcons (dstep1 (Tm := [(53, (I x16))]) (L := []) (H := ⟨1, [(0, ⟨1, ((v14).flatMap cI), false⟩)]⟩) rfl rfl rfl rfl rfl (astep_do rfl (ex_bin (vx := (I x16)) (vy := (I 1)) rfl rfl lssI_ok))) (dcons (dstep1 (Tm := [(54, (Bo (decide (x16 < 1))))]) (L := []) (H := ⟨1, [(0, ⟨1, ((v14).flatMap cI), false⟩)]⟩) rfl rfl rfl rfl rfl (astep_do rfl (ex_move (eV (v := (Bo (decide (x16 < 1)))) rfl)))) (dcons (dstep1 (Tm := [(6, (SL 1 cI x10)), (55, (Bo (decide (x16 < 1))))]) (L := []) (H := ⟨1, [(0, ⟨1, ((v14).flatMap cI), false⟩)]⟩) rfl rfl rfl rfl rfl (astep_guard (v := (SL 1 cI x10)) ((decide (x16 < 1)) == false) rfl (fun hc => ex_move (eV (v := (SL 1 cI x10)) rfl)))) (dcons (dstep1 (Tm := [(7, (I v13)), (55, (Bo (decide (x16 < 1))))]) (L := []) (H := ⟨1, [(0, ⟨1, ((v14).flatMap cI), false⟩)]⟩) rfl rfl rfl rfl rfl (astep_guard (v := (I v13)) ((decide (x16 < 1)) == false) rfl (fun hc => ex_move (eV (v := (I v13)) rfl)))) (dcons (dstep1 (Tm := [(56, (cond ((decide (x16 < 1)) == false) (SL 1 cI x10) skipV)), (57, (cond ((decide (x16 < 1)) == false) (I v13) skipV)), (55, (Bo (decide (x16 < 1))))]) (L := []) (H := ⟨1, [(0, ⟨1, ((v14).flatMap cI), false⟩)]⟩) rfl rfl rfl rfl rfl (astep_guard (v := (DP (cI x17))) ((decide (x16 < 1)) == false) rfl (fun hc => tx_idxD (c := cI) (xs := x10) (i := v13) ceI Tryd.underlying29 s_3 (cond_of hc) (cond_of hc) (gd_of hc hx17)))) (dcons (dstep1 (Tm := [(58, (cond ((decide (x16 < 1)) == false) (DP (cI x17)) skipV)), (55, (Bo (decide (x16 < 1))))]) (L := []) (H := ⟨1, [(0, ⟨1, ((v14).flatMap cI), false⟩)]⟩) rfl rfl rfl rfl rfl (astep_guard (v := (I x17)) ((decide (x16 < 1)) == false) rfl (fun hc => tx_ldD1 (v := (I x17)) Tryd.underlying3 rfl (cond_of hc) rfl))) (dcons (dstep1 (Tm := [(3, (SL 5 c_api_Node x5.1)), (55, (Bo (decide (x16 < 1))))]) (L := []) (H := ⟨1, [(0, ⟨1, ((v14).flatMap cI), false⟩)]⟩) rfl rfl rfl rfl rfl (astep_guard (v := (SL 5 c_api_Node x5.1)) ((decide (x16 < 1)) == false) rfl (fun hc => ex_move (eV (v := (SL 5 c_api_Node x5.1)) rfl)))) (dcons (dstep1 (Tm := [(60, (cond ((decide (x16 < 1)) == false) (SL 5 c_api_Node x5.1) skipV)), (55, (Bo (decide (x16 < 1))))]) (L := []) (H := ⟨1, [(0, ⟨1, ((v14).flatMap cI), false⟩)]⟩) rfl rfl rfl rfl rfl (astep_guard (v := (I (x5.1.length : Int))) ((decide (x16 < 1)) == false) rfl (fun hc => tx_lenD (xs := x5.1) ce_api_Node Tryd.underlying25 (cond_of hc)))) (dcons (dstep1 (Tm := [(59, (cond ((decide (x16 < 1)) == false) (I x17) skipV)), (61, (cond ((decide (x16 < 1)) == false) (I (x5.1.length : Int)) skipV)), (55, (Bo (decide (x16 < 1))))]) (L := []) (H := ⟨1, [(0, ⟨1, ((v14).flatMap cI), false⟩)]⟩) rfl rfl rfl rfl rfl (astep_guard (v := (Bo (decide (x17 ≥ (x5.1.length : Int))))) ((decide (x16 < 1)) == false) rfl (fun hc => ex_bin (vx := (I x17)) (vy := (I (x5.1.length : Int))) (cond_of hc) (cond_of hc) geqI_ok))) (dcons (dstep1 (Tm := [(55, (Bo (decide (x16 < 1)))), (62, (cond ((decide (x16 < 1)) == false) (Bo (decide (x17 ≥ (x5.1.length : Int)))) skipV))]) (L := []) (H := ⟨1, [(0, ⟨1, ((v14).flatMap cI), false⟩)]⟩) rfl rfl rfl rfl rfl (astep_do rfl (ex_pick rfl pkOr))) (dcons (dstep1 (Tm := [(63, (Bo ((decide (x16 < 1)) || (decide (x17 ≥ (x5.1.length : Int))))))]) (L := []) (H := ⟨1, [(0, ⟨1, ((v14).flatMap cI), false⟩)]⟩) rfl rfl rfl rfl rfl (astep_do rfl (ex_move (eV (v := (Bo ((decide (x16 < 1)) || (decide (x17 ≥ (x5.1.length : Int)))))) rfl)))) (dcons (dstep1 (Tm := [(3, (SL 5 c_api_Node x5.1)), (64, (Bo ((decide (x16 < 1)) || (decide (x17 ≥ (x5.1.length : Int))))))]) (L := []) (H := ⟨1, [(0, ⟨1, ((v14).flatMap cI), false⟩)]⟩) rfl rfl rfl rfl rfl (astep_guard (v := (SL 5 c_api_Node x5.1)) (((decide (x16 < 1)) || (decide (x17 ≥ (x5.1.length : Int)))) == false) rfl (fun hc => ex_move (eV (v := (SL 5 c_api_Node x5.1)) rfl)))) (dcons (dstep1 (Tm := [(6, (SL 1 cI x10)), (64, (Bo ((decide (x16 < 1)) || (decide (x17 ≥ (x5.1.length : Int))))))]) (L := []) (H := ⟨1, [(0, ⟨1, ((v14).flatMap cI), false⟩)]⟩) rfl rfl rfl rfl rfl (astep_guard (v := (SL 1 cI x10)) (((decide (x16 < 1)) || (decide (x17 ≥ (x5.1.length : Int)))) == false) rfl (fun hc => ex_move (eV (v := (SL 1 cI x10)) rfl)))) (dcons (dstep1 (Tm := [(7, (I v13)), (64, (Bo ((decide (x16 < 1)) || (decide (x17 ≥ (x5.1.length : Int))))))]) (L := []) (H := ⟨1, [(0, ⟨1, ((v14).flatMap cI), false⟩)]⟩) rfl rfl rfl rfl rfl (astep_guard (v := (I v13)) (((decide (x16 < 1)) || (decide (x17 ≥ (x5.1.length : Int)))) == false) rfl (fun hc => ex_move (eV (v := (I v13)) rfl)))) (dcons (dstep1 (Tm := [(66, (cond (((decide (x16 < 1)) || (decide (x17 ≥ (x5.1.length : Int)))) == false) (SL 1 cI x10) skipV)), (67, (cond (((decide (x16 < 1)) || (decide (x17 ≥ (x5.1.length : Int)))) == false) (I v13) skipV)), (64, (Bo ((decide (x16 < 1)) || (decide (x17 ≥ (x5.1.length : Int))))))]) (L := []) (H := ⟨1, [(0, ⟨1, ((v14).flatMap cI), false⟩)]⟩) rfl rfl rfl rfl rfl (astep_guard (v := (DP (cI x18))) (((decide (x16 < 1)) || (decide (x17 ≥ (x5.1.length : Int)))) == false) rfl (fun hc => tx_idxD (c := cI) (xs := x10) (i := v13) ceI Tryd.underlying29 s_3 (cond_of hc) (cond_of hc) (gd_of hc hx18)))) (dcons (dstep1 (Tm := [(68, (cond (((decide (x16 < 1)) || (decide (x17 ≥ (x5.1.length : Int)))) == false) (DP (cI x18)) skipV)), (64, (Bo ((decide (x16 < 1)) || (decide (x17 ≥ (x5.1.length : Int))))))]) (L := []) (H := ⟨1, [(0, ⟨1, ((v14).flatMap cI), false⟩)]⟩) rfl rfl rfl rfl rfl (astep_guard (v := (I x18)) (((decide (x16 < 1)) || (decide (x17 ≥ (x5.1.length : Int)))) == false) rfl (fun hc => tx_ldD1 (v := (I x18)) Tryd.underlying3 rfl (cond_of hc) rfl))) (dcons (dstep1 (Tm := [(65, (cond (((decide (x16 < 1)) || (decide (x17 ≥ (x5.1.length : Int)))) == false) (SL 5 c_api_Node x5.1) skipV)), (69, (cond (((decide (x16 < 1)) || (decide (x17 ≥ (x5.1.length : Int)))) == false) (I x18) skipV)), (64, (Bo ((decide (x16 < 1)) || (decide (x17 ≥ (x5.1.length : Int))))))]) (L := []) (H := ⟨1, [(0, ⟨1, ((v14).flatMap cI), false⟩)]⟩) rfl rfl rfl rfl rfl (astep_guard (v := (DP (c_api_Node x19))) (((decide (x16 < 1)) || (decide (x17 ≥ (x5.1.length : Int)))) == false) rfl (fun hc => tx_idxD (c := c_api_Node) (xs := x5.1) (i := x18) ce_api_Node Tryd.underlying25 s_32 (cond_of hc) (cond_of hc) (gd_of hc hx19)))) (dcons (dstep1 (Tm := [(70, (cond (((decide (x16 < 1)) || (decide (x17 ≥ (x5.1.length : Int)))) == false) (DP (c_api_Node x19)) skipV)), (64, (Bo ((decide (x16 < 1)) || (decide (x17 ≥ (x5.1.length : Int))))))]) (L := []) (H := ⟨1, [(0, ⟨1, ((v14).flatMap cI), false⟩)]⟩) rfl rfl rfl rfl rfl (astep_guard (v := (DP (List.drop 1 (c_api_Node x19)))) (((decide (x16 < 1)) || (decide (x17 ≥ (x5.1.length : Int)))) == false) rfl (fun hc => ex_fieldAddrD (vs := (List.drop 1 (c_api_Node x19))) Tryd.underlying32 rfl s_3 (by decide) (cond_of hc) rfl))) (dcons (dstep1 (Tm := [(71, (cond (((decide (x16 < 1)) || (decide (x17 ≥ (x5.1.length : Int)))) == false) (DP (List.drop 1 (c_api_Node x19))) skipV)), (64, (Bo ((decide (x16 < 1)) || (decide (x17 ≥ (x5.1.length : Int))))))]) (L := []) (H := ⟨1, [(0, ⟨1, ((v14).flatMap cI), false⟩)]⟩) rfl rfl rfl rfl rfl (astep_guard (v := (I x19.Up)) (((decide (x16 < 1)) || (decide (x17 ≥ (x5.1.length : Int)))) == false) rfl (fun hc => tx_ldD1 (v := (I x19.Up)) Tryd.underlying3 rfl (cond_of hc) rfl))) (dcons (dstep1 (Tm := [(5, (I v7)), (64, (Bo ((decide (x16 < 1)) || (decide (x17 ≥ (x5.1.length : Int))))))]) (L := []) (H := ⟨1, [(0, ⟨1, ((v14).flatMap cI), false⟩)]⟩) rfl rfl rfl rfl rfl (astep_guard (v := (I v7)) (((decide (x16 < 1)) || (decide (x17 ≥ (x5.1.length : Int)))) == false) rfl (fun hc => ex_move (eV (v := (I v7)) rfl)))) (dcons (dstep1 (Tm := [(72, (cond (((decide (x16 < 1)) || (decide (x17 ≥ (x5.1.length : Int)))) == false) (I x19.Up) skipV)), (73, (cond (((decide (x16 < 1)) || (decide (x17 ≥ (x5.1.length : Int)))) == false) (I v7) skipV)), (64, (Bo ((decide (x16 < 1)) || (decide (x17 ≥ (x5.1.length : Int))))))]) (L := []) (H := ⟨1, [(0, ⟨1, ((v14).flatMap cI), false⟩)]⟩) rfl rfl rfl rfl rfl (astep_guard (v := (Bo (x19.Up != v7))) (((decide (x16 < 1)) || (decide (x17 ≥ (x5.1.length : Int)))) == false) rfl (fun hc => ex_bin (vx := (I x19.Up)) (vy := (I v7)) (cond_of hc) (cond_of hc) neqI_ok))) (dcons (dstep1 (Tm := [(64, (Bo ((decide (x16 < 1)) || (decide (x17 ≥ (x5.1.length : Int)))))), (74, (cond (((decide (x16 < 1)) || (decide (x17 ≥ (x5.1.length : Int)))) == false) (Bo (x19.Up != v7)) skipV))]) (L := []) (H := ⟨1, [(0, ⟨1, ((v14).flatMap cI), false⟩)]⟩) rfl rfl rfl rfl rfl (astep_do rfl (ex_pick rfl pkOr))) (dcons (dstep1 (Tm := [(75, (Bo (((decide (x16 < 1)) || (decide (x17 ≥ (x5.1.length : Int)))) || (x19.Up != v7))))]) (L := []) (H := ⟨1, [(0, ⟨1, ((v14).flatMap cI), false⟩)]⟩) rfl rfl rfl rfl rfl (astep_do rfl (ex_move (eV (v := (Bo (((decide (x16 < 1)) || (decide (x17 ≥ (x5.1.length : Int)))) || (x19.Up != v7)))) rfl)))) (dcons (dstep1 (Tm := [(7, (I v13)), (76, (Bo (((decide (x16 < 1)) || (decide (x17 ≥ (x5.1.length : Int)))) || (x19.Up != v7))))]) (L := []) (H := ⟨1, [(0, ⟨1, ((v14).flatMap cI), false⟩)]⟩) rfl rfl rfl rfl rfl (astep_guard (v := (I v13)) ((((decide (x16 < 1)) || (decide (x17 ≥ (x5.1.length : Int)))) || (x19.Up != v7)) == false) rfl (fun hc => ex_move (eV (v := (I v13)) rfl)))) (dcons (dstep1 (Tm := [(77, (cond ((((decide (x16 < 1)) || (decide (x17 ≥ (x5.1.length : Int)))) || (x19.Up != v7)) == false) (I v13) skipV)), (76, (Bo (((decide (x16 < 1)) || (decide (x17 ≥ (x5.1.length : Int)))) || (x19.Up != v7))))]) (L := []) (H := ⟨1, [(0, ⟨1, ((v14).flatMap cI), false⟩)]⟩) rfl rfl rfl rfl rfl (astep_guard (v := (Bo (decide (v13 > 0)))) ((((decide (x16 < 1)) || (decide (x17 ≥ (x5.1.length : Int)))) || (x19.Up != v7)) == false) rfl (fun hc => ex_bin (vx := (I v13)) (vy := (I 0)) (cond_of hc) rfl gtrI_ok))) (dcons (dstep1 (Tm := [(78, (cond ((((decide (x16 < 1)) || (decide (x17 ≥ (x5.1.length : Int)))) || (x19.Up != v7)) == false) (Bo (decide (v13 > 0))) skipV)), (76, (Bo (((decide (x16 < 1)) || (decide (x17 ≥ (x5.1.length : Int)))) || (x19.Up != v7))))]) (L := []) (H := ⟨1, [(0, ⟨1, ((v14).flatMap cI), false⟩)]⟩) rfl rfl rfl rfl rfl (astep_guard (v := (Bo (decide (v13 > 0)))) ((((decide (x16 < 1)) || (decide (x17 ≥ (x5.1.length : Int)))) || (x19.Up != v7)) == false) rfl (fun hc => ex_move (eV (v := (Bo (decide (v13 > 0)))) (cond_of hc))))) (dcons (dstep1 (Tm := [(3, (SL 5 c_api_Node x5.1)), (79, (cond ((((decide (x16 < 1)) || (decide (x17 ≥ (x5.1.length : Int)))) || (x19.Up != v7)) == false) (Bo (decide (v13 > 0))) skipV))]) (L := []) (H := ⟨1, [(0, ⟨1, ((v14).flatMap cI), false⟩)]⟩) rfl rfl rfl rfl rfl (astep_guard (v := (SL 5 c_api_Node x5.1)) (((((decide (x16 < 1)) || (decide (x17 ≥ (x5.1.length : Int)))) || (x19.Up != v7)) == false) && ((decide (v13 > 0)) == true)) gv_nest (fun hc => ex_move (eV (v := (SL 5 c_api_Node x5.1)) rfl)))) (dcons (dstep1 (Tm := [(6, (SL 1 cI x10)), (79, (cond ((((decide (x16 < 1)) || (decide (x17 ≥ (x5.1.length : Int)))) || (x19.Up != v7)) == false) (Bo (decide (v13 > 0))) skipV))]) (L := []) (H := ⟨1, [(0, ⟨1, ((v14).flatMap cI), false⟩)]⟩) rfl rfl rfl rfl rfl (astep_guard (v := (SL 1 cI x10)) (((((decide (x16 < 1)) || (decide (x17 ≥ (x5.1.length : Int)))) || (x19.Up != v7)) == false) && ((decide (v13 > 0)) == true)) gv_nest (fun hc => ex_move (eV (v := (SL 1 cI x10)) rfl)))) (dcons (dstep1 (Tm := [(7, (I v13)), (79, (cond ((((decide (x16 < 1)) || (decide (x17 ≥ (x5.1.length : Int)))) || (x19.Up != v7)) == false) (Bo (decide (v13 > 0))) skipV))]) (L := []) (H := ⟨1, [(0, ⟨1, ((v14).flatMap cI), false⟩)]⟩) rfl rfl rfl rfl rfl (astep_guard (v := (I v13)) (((((decide (x16 < 1)) || (decide (x17 ≥ (x5.1.length : Int)))) || (x19.Up != v7)) == false) && ((decide (v13 > 0)) == true)) gv_nest (fun hc => ex_move (eV (v := (I v13)) rfl)))) (dcons (dstep1 (Tm := [(82, (cond (((((decide (x16 < 1)) || (decide (x17 ≥ (x5.1.length : Int)))) || (x19.Up != v7)) == false) && ((decide (v13 > 0)) == true)) (I v13) skipV)), (79, (cond ((((decide (x16 < 1)) || (decide (x17 ≥ (x5.1.length : Int)))) || (x19.Up != v7)) == false) (Bo (decide (v13 > 0))) skipV))]) (L := []) (H := ⟨1, [(0, ⟨1, ((v14).flatMap cI), false⟩)]⟩) rfl rfl rfl rfl rfl (astep_guard (v := (I (w64 (v13 - 1)))) (((((decide (x16 < 1)) || (decide (x17 ≥ (x5.1.length : Int)))) || (x19.Up != v7)) == false) && ((decide (v13 > 0)) == true)) gv_nest (fun hc => ex_bin (vx := (I v13)) (vy := (I 1)) (cond_of hc) rfl subI_ok))) (dcons (dstep1 (Tm := [(81, (cond (((((decide (x16 < 1)) || (decide (x17 ≥ (x5.1.length : Int)))) || (x19.Up != v7)) == false) && ((decide (v13 > 0)) == true)) (SL 1 cI x10) skipV)), (83, (cond (((((decide (x16 < 1)) || (decide (x17 ≥ (x5.1.length : Int)))) || (x19.Up != v7)) == false) && ((decide (v13 > 0)) == true)) (I (w64 (v13 - 1))) skipV)), (79, (cond ((((decide (x16 < 1)) || (decide (x17 ≥ (x5.1.length : Int)))) || (x19.Up != v7)) == false) (Bo (decide (v13 > 0))) skipV))]) (L := []) (H := ⟨1, [(0, ⟨1, ((v14).flatMap cI), false⟩)]⟩) rfl rfl rfl rfl rfl (astep_guard (v := (DP (cI x20))) (((((decide (x16 < 1)) || (decide (x17 ≥ (x5.1.length : Int)))) || (x19.Up != v7)) == false) && ((decide (v13 > 0)) == true)) gv_nest (fun hc => tx_idxD (c := cI) (xs := x10) (i := (w64 (v13 - 1))) ceI Tryd.underlying29 s_3 (cond_of hc) (cond_of hc) (gd_of hc hx20)))) (dcons (dstep1 (Tm := [(84, (cond (((((decide (x16 < 1)) || (decide (x17 ≥ (x5.1.length : Int)))) || (x19.Up != v7)) == false) && ((decide (v13 > 0)) == true)) (DP (cI x20)) skipV)), (79, (cond ((((decide (x16 < 1)) || (decide (x17 ≥ (x5.1.length : Int)))) || (x19.Up != v7)) == false) (Bo (decide (v13 > 0))) skipV))]) (L := []) (H := ⟨1, [(0, ⟨1, ((v14).flatMap cI), false⟩)]⟩) rfl rfl rfl rfl rfl (astep_guard (v := (I x20)) (((((decide (x16 < 1)) || (decide (x17 ≥ (x5.1.length : Int)))) || (x19.Up != v7)) == false) && ((decide (v13 > 0)) == true)) gv_nest (fun hc => tx_ldD1 (v := (I x20)) Tryd.underlying3 rfl (cond_of hc) rfl))) (dcons (dstep1 (Tm := [(80, (cond (((((decide (x16 < 1)) || (decide (x17 ≥ (x5.1.length : Int)))) || (x19.Up != v7)) == false) && ((decide (v13 > 0)) == true)) (SL 5 c_api_Node x5.1) skipV)), (85, (cond (((((decide (x16 < 1)) || (decide (x17 ≥ (x5.1.length : Int)))) || (x19.Up != v7)) == false) && ((decide (v13 > 0)) == true)) (I x20) skipV)), (79, (cond ((((decide (x16 < 1)) || (decide (x17 ≥ (x5.1.length : Int)))) || (x19.Up != v7)) == false) (Bo (decide (v13 > 0))) skipV))]) (L := []) (H := ⟨1, [(0, ⟨1, ((v14).flatMap cI), false⟩)]⟩) rfl rfl rfl rfl rfl (astep_guard (v := (DP (c_api_Node x21))) (((((decide (x16 < 1)) || (decide (x17 ≥ (x5.1.length : Int)))) || (x19.Up != v7)) == false) && ((decide (v13 > 0)) == true)) gv_nest (fun hc => tx_idxD (c := c_api_Node) (xs := x5.1) (i := x20) ce_api_Node Tryd.underlying25 s_32 (cond_of hc) (cond_of hc) (gd_of hc hx21)))) (dcons (dstep1 (Tm := [(86, (cond (((((decide (x16 < 1)) || (decide (x17 ≥ (x5.1.length : Int)))) || (x19.Up != v7)) == false) && ((decide (v13 > 0)) == true)) (DP (c_api_Node x21)) skipV)), (79, (cond ((((decide (x16 < 1)) || (decide (x17 ≥ (x5.1.length : Int)))) || (x19.Up != v7)) == false) (Bo (decide (v13 > 0))) skipV))]) (L := []) (H := ⟨1, [(0, ⟨1, ((v14).flatMap cI), false⟩)]⟩) rfl rfl rfl rfl rfl (astep_guard (v := (DP (List.drop 2 (c_api_Node x21)))) (((((decide (x16 < 1)) || (decide (x17 ≥ (x5.1.length : Int)))) || (x19.Up != v7)) == false) && ((decide (v13 > 0)) == true)) gv_nest (fun hc => ex_fieldAddrD (vs := (List.drop 2 (c_api_Node x21))) Tryd.underlying32 rfl s_9 (by decide) (cond_of hc) rfl))) (dcons (dstep1 (Tm := [(87, (cond (((((decide (x16 < 1)) || (decide (x17 ≥ (x5.1.length : Int)))) || (x19.Up != v7)) == false) && ((decide (v13 > 0)) == true)) (DP (List.drop 2 (c_api_Node x21))) skipV)), (79, (cond ((((decide (x16 < 1)) || (decide (x17 ≥ (x5.1.length : Int)))) || (x19.Up != v7)) == false) (Bo (decide (v13 > 0))) skipV))]) (L := []) (H := ⟨1, [(0, ⟨1, ((v14).flatMap cI), false⟩)]⟩) rfl rfl rfl rfl rfl (astep_guard (v := (S x21.Name)) (((((decide (x16 < 1)) || (decide (x17 ≥ (x5.1.length : Int)))) || (x19.Up != v7)) == false) && ((decide (v13 > 0)) == true)) gv_nest (fun hc => tx_ldD1 (v := (S x21.Name)) Tryd.underlying9 rfl (cond_of hc) rfl))) (dcons (dstep1 (Tm := [(3, (SL 5 c_api_Node x5.1)), (79, (cond ((((decide (x16 < 1)) || (decide (x17 ≥ (x5.1.length : Int)))) || (x19.Up != v7)) == false) (Bo (decide (v13 > 0))) skipV))]) (L := []) (H := ⟨1, [(0, ⟨1, ((v14).flatMap cI), false⟩)]⟩) rfl rfl rfl rfl rfl (astep_guard (v := (SL 5 c_api_Node x5.1)) (((((decide (x16 < 1)) || (decide (x17 ≥ (x5.1.length : Int)))) || (x19.Up != v7)) == false) && ((decide (v13 > 0)) == true)) gv_nest (fun hc => ex_move (eV (v := (SL 5 c_api_Node x5.1)) rfl)))) (dcons (dstep1 (Tm := [(6, (SL 1 cI x10)), (79, (cond ((((decide (x16 < 1)) || (decide (x17 ≥ (x5.1.length : Int)))) || (x19.Up != v7)) == false) (Bo (decide (v13 > 0))) skipV))]) (L := []) (H := ⟨1, [(0, ⟨1, ((v14).flatMap cI), false⟩)]⟩) rfl rfl rfl rfl rfl (astep_guard (v := (SL 1 cI x10)) (((((decide (x16 < 1)) || (decide (x17 ≥ (x5.1.length : Int)))) || (x19.Up != v7)) == false) && ((decide (v13 > 0)) == true)) gv_nest (fun hc => ex_move (eV (v := (SL 1 cI x10)) rfl)))) (dcons (dstep1 (Tm := [(7, (I v13)), (79, (cond ((((decide (x16 < 1)) || (decide (x17 ≥ (x5.1.length : Int)))) || (x19.Up != v7)) == false) (Bo (decide (v13 > 0))) skipV))]) (L := []) (H := ⟨1, [(0, ⟨1, ((v14).flatMap cI), false⟩)]⟩) rfl rfl rfl rfl rfl (astep_guard (v := (I v13)) (((((decide (x16 < 1)) || (decide (x17 ≥ (x5.1.length : Int)))) || (x19.Up != v7)) == false) && ((decide (v13 > 0)) == true)) gv_nest (fun hc => ex_move (eV (v := (I v13)) rfl)))) (dcons (dstep1 (Tm := [(90, (cond (((((decide (x16 < 1)) || (decide (x17 ≥ (x5.1.length : Int)))) || (x19.Up != v7)) == false) && ((decide (v13 > 0)) == true)) (SL 1 cI x10) skipV)), (91, (cond (((((decide (x16 < 1)) || (decide (x17 ≥ (x5.1.length : Int)))) || (x19.Up != v7)) == false) && ((decide (v13 > 0)) == true)) (I v13) skipV)), (79, (cond ((((decide (x16 < 1)) || (decide (x17 ≥ (x5.1.length : Int)))) || (x19.Up != v7)) == false) (Bo (decide (v13 > 0))) skipV))]) (L := []) (H := ⟨1, [(0, ⟨1, ((v14).flatMap cI), false⟩)]⟩) rfl rfl rfl rfl rfl (astep_guard (v := (DP (cI x22))) (((((decide (x16 < 1)) || (decide (x17 ≥ (x5.1.length : Int)))) || (x19.Up != v7)) == false) && ((decide (v13 > 0)) == true)) gv_nest (fun hc => tx_idxD (c := cI) (xs := x10) (i := v13) ceI Tryd.underlying29 s_3 (cond_of hc) (cond_of hc) (gd_of hc hx22)))) (dcons (dstep1 (Tm := [(92, (cond (((((decide (x16 < 1)) || (decide (x17 ≥ (x5.1.length : Int)))) || (x19.Up != v7)) == false) && ((decide (v13 > 0)) == true)) (DP (cI x22)) skipV)), (79, (cond ((((decide (x16 < 1)) || (decide (x17 ≥ (x5.1.length : Int)))) || (x19.Up != v7)) == false) (Bo (decide (v13 > 0))) skipV))]) (L := []) (H := ⟨1, [(0, ⟨1, ((v14).flatMap cI), false⟩)]⟩) rfl rfl rfl rfl rfl (astep_guard (v := (I x22)) (((((decide (x16 < 1)) || (decide (x17 ≥ (x5.1.length : Int)))) || (x19.Up != v7)) == false) && ((decide (v13 > 0)) == true)) gv_nest (fun hc => tx_ldD1 (v := (I x22)) Tryd.underlying3 rfl (cond_of hc) rfl))) (dcons (dstep1 (Tm := [(89, (cond (((((decide (x16 < 1)) || (decide (x17 ≥ (x5.1.length : Int)))) || (x19.Up != v7)) == false) && ((decide (v13 > 0)) == true)) (SL 5 c_api_Node x5.1) skipV)), (93, (cond (((((decide (x16 < 1)) || (decide (x17 ≥ (x5.1.length : Int)))) || (x19.Up != v7)) == false) && ((decide (v13 > 0)) == true)) (I x22) skipV)), (79, (cond ((((decide (x16 < 1)) || (decide (x17 ≥ (x5.1.length : Int)))) || (x19.Up != v7)) == false) (Bo (decide (v13 > 0))) skipV))]) (L := []) (H := ⟨1, [(0, ⟨1, ((v14).flatMap cI), false⟩)]⟩) rfl rfl rfl rfl rfl (astep_guard (v := (DP (c_api_Node x23))) (((((decide (x16 < 1)) || (decide (x17 ≥ (x5.1.length : Int)))) || (x19.Up != v7)) == false) && ((decide (v13 > 0)) == true)) gv_nest (fun hc => tx_idxD (c := c_api_Node) (xs := x5.1) (i := x22) ce_api_Node Tryd.underlying25 s_32 (cond_of hc) (cond_of hc) (gd_of hc hx23)))) (dcons (dstep1 (Tm := [(94, (cond (((((decide (x16 < 1)) || (decide (x17 ≥ (x5.1.length : Int)))) || (x19.Up != v7)) == false) && ((decide (v13 > 0)) == true)) (DP (c_api_Node x23)) skipV)), (79, (cond ((((decide (x16 < 1)) || (decide (x17 ≥ (x5.1.length : Int)))) || (x19.Up != v7)) == false) (Bo (decide (v13 > 0))) skipV))]) (L := []) (H := ⟨1, [(0, ⟨1, ((v14).flatMap cI), false⟩)]⟩) rfl rfl rfl rfl rfl (astep_guard (v := (DP (List.drop 2 (c_api_Node x23)))) (((((decide (x16 < 1)) || (decide (x17 ≥ (x5.1.length : Int)))) || (x19.Up != v7)) == false) && ((decide (v13 > 0)) == true)) gv_nest (fun hc => ex_fieldAddrD (vs := (List.drop 2 (c_api_Node x23))) Tryd.underlying32 rfl s_9 (by decide) (cond_of hc) rfl))) (dcons (dstep1 (Tm := [(95, (cond (((((decide (x16 < 1)) || (decide (x17 ≥ (x5.1.length : Int)))) || (x19.Up != v7)) == false) && ((decide (v13 > 0)) == true)) (DP (List.drop 2 (c_api_Node x23))) skipV)), (79, (cond ((((decide (x16 < 1)) || (decide (x17 ≥ (x5.1.length : Int)))) || (x19.Up != v7)) == false) (Bo (decide (v13 > 0))) skipV))]) (L := []) (H := ⟨1, [(0, ⟨1, ((v14).flatMap cI), false⟩)]⟩) rfl rfl rfl rfl rfl (astep_guard (v := (S x23.Name)) (((((decide (x16 < 1)) || (decide (x17 ≥ (x5.1.length : Int)))) || (x19.Up != v7)) == false) && ((decide (v13 > 0)) == true)) gv_nest (fun hc => tx_ldD1 (v := (S x23.Name)) Tryd.underlying9 rfl (cond_of hc) rfl))) (dcons (dstep1 (Tm := [(88, (cond (((((decide (x16 < 1)) || (decide (x17 ≥ (x5.1.length : Int)))) || (x19.Up != v7)) == false) && ((decide (v13 > 0)) == true)) (S x21.Name) skipV)), (96, (cond (((((decide (x16 < 1)) || (decide (x17 ≥ (x5.1.length : Int)))) || (x19.Up != v7)) == false) && ((decide (v13 > 0)) == true)) (S x23.Name) skipV)), (79, (cond ((((decide (x16 < 1)) || (decide (x17 ≥ (x5.1.length : Int)))) || (x19.Up != v7)) == false) (Bo (decide (v13 > 0))) skipV))]) (L := []) (H := ⟨1, [(0, ⟨1, ((v14).flatMap cI), false⟩)]⟩) rfl rfl rfl rfl rfl (astep_guard (v := (Bo (!ltS x21.Name x23.Name))) (((((decide (x16 < 1)) || (decide (x17 ≥ (x5.1.length : Int)))) || (x19.Up != v7)) == false) && ((decide (v13 > 0)) == true)) gv_nest (fun hc => ex_bin (vx := (S x21.Name)) (vy := (S x23.Name)) (cond_of hc) (cond_of hc) geqS_ok))) (dcons (dstep1 (Tm := [(79, (cond ((((decide (x16 < 1)) || (decide (x17 ≥ (x5.1.length : Int)))) || (x19.Up != v7)) == false) (Bo (decide (v13 > 0))) skipV)), (97, (cond (((((decide (x16 < 1)) || (decide (x17 ≥ (x5.1.length : Int)))) || (x19.Up != v7)) == false) && ((decide (v13 > 0)) == true)) (Bo (!ltS x21.Name x23.Name)) skipV)), (76, (Bo (((decide (x16 < 1)) || (decide (x17 ≥ (x5.1.length : Int)))) || (x19.Up != v7))))]) (L := []) (H := ⟨1, [(0, ⟨1, ((v14).flatMap cI), false⟩)]⟩) rfl rfl rfl rfl rfl (astep_guard (v := (Bo ((decide (v13 > 0)) && (!ltS x21.Name x23.Name)))) ((((decide (x16 < 1)) || (decide (x17 ≥ (x5.1.length : Int)))) || (x19.Up != v7)) == false) rfl (fun hc => ex_pick (cond_of hc) (pkAndN hc)))) (dcons (dstep1 (Tm := [(76, (Bo (((decide (x16 < 1)) || (decide (x17 ≥ (x5.1.length : Int)))) || (x19.Up != v7)))), (98, (cond ((((decide (x16 < 1)) || (decide (x17 ≥ (x5.1.length : Int)))) || (x19.Up != v7)) == false) (Bo ((decide (v13 > 0)) && (!ltS x21.Name x23.Name))) skipV))]) (L := []) (H := ⟨1, [(0, ⟨1, ((v14).flatMap cI), false⟩)]⟩) rfl rfl rfl rfl rfl (astep_do rfl (ex_pick rfl pkOr))) dnil)))))))))))))))))))))))))))))))))))))))))))))))))) ⟨rfl, rfl⟩) (by kernel_rfl) (by kernel_rfl) ?_
                show AWp _ _ _ _
                rcases Bool.eq_false_or_eq_true ((((decide (x16 < 1)) || (decide (x17 ≥ (x5.1.length : Int)))) || (x19.Up != v7)) || ((decide (v13 > 0)) && (!ltS x21.Name x23.Name))) with hb24 | hb24
                · rw [condT hb24] at h
                  refine awp_condT (boT hb24) ?_
                  refine awp_seq ?_
                  refine awp_region ?_
                  refine arun_do rfl rfl rfl (ex_assign (eV (v := (Bo false)) rfl)) ?_
                  refine arun_keepE [2] 0 0 (st' := ⟨181, 0, [(2, (Bo false))], [], ⟨0, []⟩⟩) (by kernel_rfl) (by kernel_rfl) ?_
                  show AWp _ _ _ _
                  refine awp_ret ?_
                  cases h
                  exact ares1 (rtmp rfl (eV rfl))
                · rw [condF hb24] at h
                  refine awp_condF (boF hb24) ?_
                  refine awp_skip ?_
                  show AWp _ _ _ _
                  refine awp_seq ?_
                  refine awp_region ?_
                  refine arun_do rfl rfl rfl (ex_move (eV (v := (FV 0 v14.length)) rfl)) ?_
                  refine arun_do rfl rfl rfl (ex_move (eV (v := (SL 1 cI x10)) rfl)) ?_
                  refine arun_do rfl rfl rfl (ex_move (eV (v := (I v13)) rfl)) ?_
                  obtain ⟨x25, hx25, h⟩ := bindS h
                  refine arun_do rfl rfl rfl (tx_idxD (c := cI) (xs := x10) (i := v13) ceI Tryd.underlying29 s_3 rfl rfl hx25) ?_
                  refine arun_do rfl rfl rfl (tx_ldD1 (v := (I x25)) Tryd.underlying3 rfl rfl rfl) ?_
                  obtain ⟨x26, hx26, h⟩ := bindS h
                  refine arun_do rfl rfl rfl (tx_idxF (c := cI) (xs := v14) (i := x25) ceI Tryd.underlying29 s_3 rfl rfl rfl hx26) ?_
                  refine arun_do rfl rfl rfl (tx_ldF (v := (I x26)) (s := 1) rfl rfl (part_elem (off := 0) (v := (I x26)) ceI hx26 Tryd.underlying3 rfl (by decide) rfl)) ?_
                  refine arun_do rfl rfl rfl (ex_bin (vx := (I x26)) (vy := (I 1)) rfl rfl addI_ok) ?_
                  obtain ⟨x27, hx27, h⟩ := bindS h
                  refine arun_do rfl rfl rfl (tx_idxF (c := cI) (xs := v14) (i := x25) ceI Tryd.underlying29 s_3 rfl rfl rfl hx27) ?_
                  obtain ⟨x28, hx28, h⟩ := bindS h
                  refine arun_do0 rfl rfl (tx_stF (c := cI) (xs := v14) (e := (w64 (x26 + 1))) (H' := ⟨1, [(0, ⟨1, ((x28).flatMap cI), false⟩)]⟩) ceI s_3 rfl (eV (v := (I (w64 (x26 + 1)))) rfl) rfl rfl hx28 rfl) ?_
                  refine arun_fewer (T' := [(3, (SL 5 c_api_Node x5.1)), (4, (FV 0 x28.length)), (5, (I v7)), (6, (SL 1 cI x10)), (7, (I v13)), (99, (Bo ((((decide (x16 < 1)) || (decide (x17 ≥ (x5.1.length : Int)))) || (x19.Up != v7)) || ((decide (v13 > 0)) && (!ltS x21.Name x23.Name))))), (100, (FV 0 x28.length)), (101, (SL 1 cI x10)), (102, (I v13)), (103, (DP (cI x25))), (104, (I x25)), (106, (I x26)), (107, (I (w64 (x26 + 1))))]) (ReT.keep (v := (SL 5 c_api_Node x5.1)) rfl (ReT.fv rfl (setI_len hx28) (ReT.keep (v := (I v7)) rfl (ReT.keep (v := (SL 1 cI x10)) rfl (ReT.keep (v := (I v13)) rfl (ReT.keep (v := (Bo ((((decide (x16 < 1)) || (decide (x17 ≥ (x5.1.length : Int)))) || (x19.Up != v7)) || ((decide (v13 > 0)) && (!ltS x21.Name x23.Name))))) rfl (ReT.fv rfl (setI_len hx28) (ReT.keep (v := (SL 1 cI x10)) rfl (ReT.keep (v := (I v13)) rfl (ReT.keep (v := (DP (cI x25))) rfl (ReT.keep (v := (I x25)) rfl (ReT.keep (v := (I x26)) rfl (ReT.keep (v := (I (w64 (x26 + 1)))) rfl ReT.nil))))))))))))) ?_
                  refine arun_keepE [3, 4, 5, 6, 7] 0 1 (st' := ⟨181, 0, [(3, (SL 5 c_api_Node x5.1)), (4, (FV 0 x28.length)), (5, (I v7)), (6, (SL 1 cI x10)), (7, (I v13))], [], ⟨1, [(0, ⟨1, ((x28).flatMap cI), false⟩)]⟩⟩) (by kernel_rfl) (by kernel_rfl) ?_
                  show AWp _ _ _ _
                  refine awp_seq ?_
                  refine awp_region ?_
                  refine arun_do rfl rfl rfl (ex_move (eV (v := (SL 5 c_api_Node x5.1)) rfl)) ?_
                  refine arun_do rfl rfl rfl (ex_move (eV (v := (I v7)) rfl)) ?_
                  refine arun_do rfl rfl rfl (ex_move (eV (v := (SL 5 c_api_Node x5.1)) rfl)) ?_
                  refine arun_do rfl rfl rfl (ex_move (eV (v := (SL 1 cI x10)) rfl)) ?_
                  refine arun_do rfl rfl rfl (ex_move (eV (v := (I v13)) rfl)) ?_
                  obtain ⟨x29, hx29, h⟩ := bindS h
                  refine arun_do rfl rfl rfl (tx_idxD (c := cI) (xs := x10) (i := v13) ceI Tryd.underlying29 s_3 rfl rfl hx29) ?_
                  refine arun_do rfl rfl rfl (tx_ldD1 (v := (I x29)) Tryd.underlying3 rfl rfl rfl) ?_
                  obtain ⟨x30, hx30, h⟩ := bindS h
                  refine arun_do rfl rfl rfl (tx_idxD (c := c_api_Node) (xs := x5.1) (i := x29) ce_api_Node Tryd.underlying25 s_32 rfl rfl hx30) ?_
                  refine arun_do rfl rfl rfl (ex_fieldAddrD (vs := (List.drop 2 (c_api_Node x30))) Tryd.underlying32 rfl s_9 (by decide) rfl rfl) ?_
                  refine arun_do rfl rfl rfl (tx_ldD1 (v := (S x30.Name)) Tryd.underlying9 rfl rfl rfl) ?_
                  obtain ⟨x31, hx31, h⟩ := bindS h
                  refine arun_do rfl rfl rfl (ex_call0 (vs := [(SL 5 c_api_Node x5.1), (I v7), (S x30.Name)]) (v := (Value.tuple #[(I x31.1), (Bo x31.2)])) rfl en_11 (cargs (evs rfl (evs rfl (evs rfl evs_nil)))) rfl (ok_node_Kid x5.1 v7 x30.Name x31 hx31) rfl) ?_
                  refine arun_do rfl rfl rfl (ex_move (eV (v := (Value.tuple #[(I x31.1), (Bo x31.2)])) rfl)) ?_
                  refine arun_do rfl rfl rfl (ex_extract (vx := (Value.tuple #[(I x31.1), (Bo x31.2)])) (v := (I x31.1)) rfl rfl) ?_
                  refine arun_do rfl rfl rfl (ex_extract (vx := (Value.tuple #[(I x31.1), (Bo x31.2)])) (v := (Bo x31.2)) rfl rfl) ?_
                  refine arun_do rfl rfl rfl (ex_assign (eV (v := (I x31.1)) rfl)) ?_
                  refine arun_do rfl rfl rfl (ex_assign (eV (v := (Bo x31.2)) rfl)) ?_
                  refine arun_keepE [3, 4, 5, 6, 7, 8, 9] 0 1 (st' := ⟨181, 0, [(3, (SL 5 c_api_Node x5.1)), (4, (FV 0 x28.length)), (5, (I v7)), (6, (SL 1 cI x10)), (7, (I v13)), (8, (I x31.1)), (9, (Bo x31.2))], [], ⟨1, [(0, ⟨1, ((x28).flatMap cI), false⟩)]⟩⟩) (by kernel_rfl) (by kernel_rfl) ?_
                  show AWp _ _ _ _
                  refine awp_seq ?_
                  refine awp_region ?_
                  refine arun_do rfl rfl rfl (ex_move (eV (v := (Bo x31.2)) rfl)) ?_
                  refine arun_do rfl rfl rfl (ex_un (vx := (Bo x31.2)) rfl notB_ok) ?_
                  refine arun_do rfl rfl rfl (ex_move (eV (v := (Bo (!x31.2))) rfl)) ?_
                  refine arun_guard (v := (I x31.1)) ((!x31.2) == false) rfl rfl rfl (fun hc => ex_move (eV (v := (I x31.1)) rfl)) ?_
                  refine arun_guard (v := (SL 1 cI x10)) ((!x31.2) == false) rfl rfl rfl (fun hc => ex_move (eV (v := (SL 1 cI x10)) rfl)) ?_
                  refine arun_guard (v := (I v13)) ((!x31.2) == false) rfl rfl rfl (fun hc => ex_move (eV (v := (I v13)) rfl)) ?_
                  obtain ⟨x32, hx32, h⟩ := bindS h
                  refine arun_guard (v := (DP (cI x32))) ((!x31.2) == false) rfl rfl rfl (fun hc => tx_idxD (c := cI) (xs := x10) (i := v13) ceI Tryd.underlying29 s_3 (cond_of hc) (cond_of hc) (gd_of hc hx32)) ?_
                  refine arun_guard (v := (I x32)) ((!x31.2) == false) rfl rfl rfl (fun hc => tx_ldD1 (v := (I x32)) Tryd.underlying3 rfl (cond_of hc) rfl) ?_
                  refine arun_guard (v := (Bo (x31.1 != x32))) ((!x31.2) == false) rfl rfl rfl (fun hc => ex_bin (vx := (I x31.1)) (vy := (I x32)) (cond_of hc) (cond_of hc) neqI_ok) ?_
                  refine arun_do rfl rfl rfl (ex_pick rfl pkOr) ?_
                  refine arun_keepE [3, 4, 5, 6, 7, 132] 0 1 (st' := ⟨181, 0, [(3, (SL 5 c_api_Node x5.1)), (4, (FV 0 x28.length)), (5, (I v7)), (6, (SL 1 cI x10)), (7, (I v13)), (132, (Bo ((!x31.2) || (x31.1 != x32))))], [], ⟨1, [(0, ⟨1, ((x28).flatMap cI), false⟩)]⟩⟩) (by kernel_rfl) (by kernel_rfl) ?_
                  show AWp _ _ _ _
                  rcases Bool.eq_false_or_eq_true ((!x31.2) || (x31.1 != x32)) with hb33 | hb33
                  · rw [condT hb33] at h
                    refine awp_condT (boT hb33) ?_
                    refine awp_seq ?_
                    refine awp_region ?_
                    refine arun_do rfl rfl rfl (ex_assign (eV (v := (Bo false)) rfl)) ?_
                    refine arun_keepE [2] 0 0 (st' := ⟨181, 0, [(2, (Bo false))], [], ⟨0, []⟩⟩) (by kernel_rfl) (by kernel_rfl) ?_
                    show AWp _ _ _ _
                    refine awp_ret ?_
                    cases h
                    exact ares1 (rtmp rfl (eV rfl))
                  · rw [condF hb33] at h
                    refine awp_condF (boF hb33) ?_
                    refine awp_skip ?_
                    show AWp _ _ _ _
                    refine awp_region ?_
                    refine arun_do rfl rfl rfl (ex_move (eV (v := (I v13)) rfl)) ?_
                    refine arun_do rfl rfl rfl (ex_bin (vx := (I v13)) (vy := (I 1)) rfl rfl addI_ok) ?_
                    refine arun_do rfl rfl rfl (ex_assign (eV (v := (I (w64 (v13 + 1)))) rfl)) ?_
                    refine arun_keepE [3, 4, 5, 6, 7] 0 1 (st' := ⟨181, 0, [(3, (SL 5 c_api_Node x5.1)), (4, (FV 0 x28.length)), (5, (I v7)), (6, (SL 1 cI x10)), (7, (I (w64 (v13 + 1))))], [], ⟨1, [(0, ⟨1, ((x28).flatMap cI), false⟩)]⟩⟩) (by kernel_rfl) (by kernel_rfl) ?_
                    exact Exists.intro n2 (And.intro (Nat.lt_succ_self _) (Exists.intro (w64 (v13 + 1)) (Exists.intro x28 (And.intro rfl h))))
              · rw [condF hb15] at h
                refine awp_condF (boF hb15) ?_
                refine awp_exit ?_
                show AWp _ _ _ _
                refine awp_region ?_
                refine arun_do rfl rfl rfl (ex_move (eV (v := (I v7)) rfl)) ?_
                refine arun_do rfl rfl rfl (ex_bin (vx := (I v7)) (vy := (I 1)) rfl rfl addI_ok) ?_
                refine arun_do rfl rfl rfl (ex_assign (eV (v := (I (w64 (v7 + 1)))) rfl)) ?_
                refine arun_keepE [3, 4, 5] 0 1 (st' := ⟨181, 0, [(3, (SL 5 c_api_Node x5.1)), (4, (FV 0 v14.length)), (5, (I (w64 (v7 + 1))))], [], ⟨1, [(0, ⟨1, ((v14).flatMap cI), false⟩)]⟩⟩) (by kernel_rfl) (by kernel_rfl) ?_
                exact Exists.intro n1 (And.intro (Nat.lt_succ_self _) (Exists.intro (w64 (v7 + 1)) (Exists.intro v14 (And.intro rfl h))))
        · rw [condF hb9] at h
          refine awp_condF (boF hb9) ?_
          refine awp_exit ?_
          show AWp _ _ _ _
          refine awp_seq ?_
          refine awp_seq ?_
          refine awp_region ?_
          refine arun_do rfl rfl rfl (ex_assign (eV (v := (I 1)) rfl)) ?_
          refine arun_keepE [3, 4, 10] 0 1 (st' := ⟨181, 0, [(3, (SL 5 c_api_Node x5.1)), (4, (FV 0 v8.length)), (10, (I 1))], [], ⟨1, [(0, ⟨1, ((v8).flatMap cI), false⟩)]⟩⟩) (by kernel_rfl) (by kernel_rfl) ?_
          show AWp _ _ _ _
          refine awp_block ?_
          refine awp_loop (fun n s => ∃ (v34 : Int), s = ⟨181, 0, [(3, (SL 5 c_api_Node x5.1)), (4, (FV 0 v8.length)), (10, (I v34))], [], ⟨1, [(0, ⟨1, ((v8).flatMap cI), false⟩)]⟩⟩ ∧ M_law12_NodeTree_l3 (M_law12_NodeTree_l1 x5 n1) x5 v8 n v34 = some r) fuel (Exists.intro 1 (And.intro rfl h)) ?_
          rintro n s ⟨v34, rfl, h⟩ -
          cases n with
          | zero => cases h
          | succ n3 =>
            unfold M_law12_NodeTree_l3 at h
            refine awp_seq ?_
            refine awp_seq ?_
            refine awp_region ?_
            refine arun_do rfl rfl rfl (ex_move (eV (v := (I v34)) rfl)) ?_
            refine arun_do rfl rfl rfl (ex_move (eV (v := (SL 5 c_api_Node x5.1)) rfl)) ?_
            refine arun_do rfl rfl rfl (tx_lenD (xs := x5.1) ce_api_Node Tryd.underlying25 rfl) ?_
            refine arun_do rfl rfl rfl (ex_bin (vx := (I v34)) (vy := (I (x5.1.length : Int))) rfl rfl lssI_ok) ?_
            refine arun_keepE [3, 4, 10, 136] 0 1 (st' := ⟨181, 0, [(3, (SL 5 c_api_Node x5.1)), (4, (FV 0 v8.length)), (10, (I v34)), (136, (Bo (decide (v34 < (x5.1.length : Int)))))], [], ⟨1, [(0, ⟨1, ((v8).flatMap cI), false⟩)]⟩⟩) (by kernel_rfl) (by kernel_rfl) ?_
            show AWp _ _ _ _
            rcases Bool.eq_false_or_eq_true (decide (v34 < (x5.1.length : Int))) with hb35 | hb35
            · rw [condT hb35] at h
              refine awp_condT (boT hb35) ?_
              refine awp_skip ?_
              show AWp _ _ _ _
              refine awp_seq ?_
              refine awp_block ?_
              refine awp_seq ?_
              obtain ⟨x36, hx36, h⟩ := bindS h
              obtain ⟨x37, hx37, h⟩ := bindS h
              obtain ⟨x38, hx38, h⟩ := bindS h
              refine awp_kn [3, 4, 10, 157] 0 1 (st' := ⟨181, 0, [(3, (SL 5 c_api_Node x5.1)), (4, (FV 0 v8.length)), (10, (I v34)), (157, (Bo (((x36 == 1) != (x37.Kind != 0)) || (decide (x38 > 1)))))], [], ⟨1, [(0, ⟨1, ((v8).flatMap cI), false⟩)]⟩⟩) (awp_draw (T := [(FV 0 v8.length), (I v34), (NP 0 (v34.toNat * 1)), (I x36), (Bo (x36 == 1)), (SL 5 c_api_Node x5.1), (I v34), (DP (c_api_Node x37)), (DP (List.drop 0 (c_api_Node x37))), (I x37.Kind), (Bo (x37.Kind != 0)), (Bo ((x36 == 1) != (x37.Kind != 0))), (Bo ((x36 == 1) != (x37.Kind != 0))), (cond (((x36 == 1) != (x37.Kind != 0)) == false) (FV 0 v8.length) skipV), (cond (((x36 == 1) != (x37.Kind != 0)) == false) (I v34) skipV), (cond (((x36 == 1) != (x37.Kind != 0)) == false) (NP 0 (v34.toNat * 1)) skipV), (cond (((x36 == 1) != (x37.Kind != 0)) == false) (I x38) skipV), (cond (((x36 == 1) != (x37.Kind != 0)) == false) (Bo (decide (x38 > 1))) skipV), (Bo (((x36 == 1) != (x37.Kind != 0)) || (decide (x38 > 1))))]) (LH := [([], ⟨1, [(0, ⟨1, ((v8).flatMap cI), false⟩)]⟩)]) (D := [⟨[(4, none)], [], [0], false⟩, ⟨[(10, none)], [], [0], false⟩, ⟨[(139, some 0), (140, some 1)], [0, 1], [0], false⟩, ⟨[(141, some 2)], [0, 1, 2], [0], false⟩, ⟨[(142, some 3)], [0, 1, 2, 3], [0], false⟩, ⟨[(3, none)], [], [0], false⟩, ⟨[(10, none)], [], [0], false⟩, ⟨[(144, some 5), (145, some 6)], [5, 6], [0], false⟩, ⟨[(146, some 7)], [5, 6, 7], [0], false⟩, ⟨[(147, some 8)], [5, 6, 7, 8], [0], false⟩, ⟨[(148, some 9)], [5, 6, 7, 8, 9], [0], false⟩, ⟨[(143, some 4), (149, some 10)], [0, 1, 2, 3, 4, 5, 6, 7, 8, 9, 10], [0], false⟩, ⟨[(150, some 11)], [0, 1, 2, 3, 4, 5, 6, 7, 8, 9, 10, 11], [0], false⟩, ⟨[(4, none), (151, some 12)], [0, 1, 2, 3, 4, 5, 6, 7, 8, 9, 10, 11, 12], [0], false⟩, ⟨[(10, none), (151, some 12)], [0, 1, 2, 3, 4, 5, 6, 7, 8, 9, 10, 11, 12], [0], false⟩, ⟨[(152, some 13), (153, some 14), (151, some 12)], [0, 1, 2, 3, 4, 5, 6, 7, 8, 9, 10, 11, 12, 13, 14], [0], false⟩, ⟨[(154, some 15), (151, some 12)], [0, 1, 2, 3, 4, 5, 6, 7, 8, 9, 10, 11, 12, 13, 14, 15], [0], false⟩, ⟨[(155, some 16), (151, some 12)], [0, 1, 2, 3, 4, 5, 6, 7, 8, 9, 10, 11, 12, 13, 14, 15, 16], [0], false⟩, ⟨[(151, some 12), (156, some 17)], [0, 1, 2, 3, 4, 5, 6, 7, 8, 9, 10, 11, 12, 13, 14, 15, 16, 17], [0], false⟩]) (S := []) (plan := [0, 1, 2, 3, 4, 5, 6, 7, 8, 9, 10, 11, 12, 13, 14, 15, 16, 17, 18]) mo (by kernel_rfl) rfl rfl rfl (dcons (dstep1 (Tm := [(4, (FV 0 v8.length))]) (L := []) (H := ⟨1, [(0, ⟨1, ((v8).flatMap cI), false⟩)]⟩) rfl rfl rfl rfl rfl (astep_do rfl (ex_move (eV (v := (FV 0 v8.length)) rfl)))) (dcons (dstep1 (Tm := [(10, (I v34))]) (L := []) (H := ⟨1, [(0, ⟨1, ((v8).flatMap cI), false⟩)]⟩) rfl rfl rfl rfl rfl (astep_do rfl (ex_move (eV (v := (I v34)) rfl)))) (dcons (dstep1 (Tm := [(139, (FV 0 v8.length)), (140, (I v34))]) (L := []) (H := ⟨1, [(0, ⟨1, ((v8).flatMap cI), false⟩)]⟩) rfl rfl rfl rfl rfl (astep_do rfl (tx_idxF (c := cI) (xs := v8) (i := v34) ceI Tryd.underlying29 s_3 rfl rfl rfl hx36))) (dcons (dstep1 (Tm := [(141, (NP 0 (v34.toNat * 1)))]) (L := []) (H := ⟨1, [(0, ⟨1, ((v8).flatMap cI), false⟩)]⟩) rfl rfl rfl rfl rfl (astep_do rfl (tx_ldF (v := (I x36)) (s := 1) rfl rfl (part_elem (off := 0) (v := (I x36)) ceI hx36 Tryd.underlying3 rfl (by decide) rfl)))) (dcons (dstep1 (Tm := [(142, (I x36))]) (L := []) (H := ⟨1, [(0, ⟨1, ((v8).flatMap cI), false⟩)]⟩) rfl rfl rfl rfl rfl (astep_do rfl (ex_bin (vx := (I x36)) (vy := (I 1)) rfl rfl eqlI_ok))) (dcons (dstep1 (Tm := [(3, (SL 5 c_api_Node x5.1))]) (L := []) (H := ⟨1, [(0, ⟨1, ((v8).flatMap cI), false⟩)]⟩) rfl rfl rfl rfl rfl (astep_do rfl (ex_move (eV (v := (SL 5 c_api_Node x5.1)) rfl)))) (dcons (dstep1 (Tm := [(10, (I v34))]) (L := []) (H := ⟨1, [(0, ⟨1, ((v8).flatMap cI), false⟩)]⟩) rfl rfl rfl rfl rfl (astep_do rfl (ex_move (eV (v := (I v34)) rfl)))) (dcons (dstep1 (Tm := [(144, (SL 5 c_api_Node x5.1)), (145, (I v34))]) (L := []) (H := ⟨1, [(0, ⟨1, ((v8).flatMap cI), false⟩)]⟩) rfl rfl rfl rfl rfl (astep_do rfl (tx_idxD (c := c_api_Node) (xs := x5.1) (i := v34) ce_api_Node Tryd.underlying25 s_32 rfl rfl hx37))) (dcons (dstep1 (Tm := [(146, (DP (c_api_Node x37)))]) (L := []) (H := ⟨1, [(0, ⟨1, ((v8).flatMap cI), false⟩)]⟩) rfl rfl rfl rfl rfl (astep_do rfl (ex_fieldAddrD (vs := (List.drop 0 (c_api_Node x37))) Tryd.underlying32 rfl s_3 (by decide) rfl rfl))) (dcons (dstep1 (Tm := [(147, (DP (List.drop 0 (c_api_Node x37))))]) (L := []) (H := ⟨1, [(0, ⟨1, ((v8).flatMap cI), false⟩)]⟩) rfl rfl rfl rfl rfl (astep_do rfl (tx_ldD1 (v := (I x37.Kind)) Tryd.underlying3 rfl rfl rfl))) (dcons (dstep1 (Tm := [(148, (I x37.Kind))]) (L := []) (H := ⟨1, [(0, ⟨1, ((v8).flatMap cI), false⟩)]⟩) rfl rfl rfl rfl rfl (astep_do rfl (ex_bin (vx := (I x37.Kind)) (vy := (I 0)) rfl rfl neqI_ok))) (dcons (dstep1 (Tm := [(143, (Bo (x36 == 1))), (149, (Bo (x37.Kind != 0)))]) (L := []) (H := ⟨1, [(0, ⟨1, ((v8).flatMap cI), false⟩)]⟩) rfl rfl rfl rfl rfl (astep_do rfl (ex_bin (vx := (Bo (x36 == 1))) (vy := (Bo (x37.Kind != 0))) rfl rfl (neqB_ok Tryd.underlying4)))) (dcons (dstep1 (Tm := [(150, (Bo ((x36 == 1) != (x37.Kind != 0))))]) (L := []) (H := ⟨1, [(0, ⟨1, ((v8).flatMap cI), false⟩)]⟩) rfl rfl rfl rfl rfl (astep_do rfl (ex_move (eV (v := (Bo ((x36 == 1) != (x37.Kind != 0)))) rfl)))) (dcons (dstep1 (Tm := [(4, (FV 0 v8.length)), (151, (Bo ((x36 == 1) != (x37.Kind != 0))))]) (L := []) (H := ⟨1, [(0, ⟨1, ((v8).flatMap cI), false⟩)]⟩) rfl rfl rfl rfl rfl (astep_guard (v := (FV 0 v8.length)) (((x36 == 1) != (x37.Kind != 0)) == false) rfl (fun hc => ex_move (eV (v := (FV 0 v8.length)) rfl)))) (dcons (dstep1 (Tm := [(10, (I v34)), (151, (Bo ((x36 == 1) != (x37.Kind != 0))))]) (L := []) (H := ⟨1, [(0, ⟨1, ((v8).flatMap cI), false⟩)]⟩) rfl rfl rfl rfl rfl (astep_guard (v := (I v34)) (((x36 == 1) != (x37.Kind != 0)) == false) rfl (fun hc => ex_move (eV (v := (I v34)) rfl)))) (dcons (dstep1 (Tm := [(152, (cond (((x36 == 1) != (x37.Kind != 0)) == false) (FV 0 v8.length) skipV)), (153, (cond (((x36 == 1) != (x37.Kind != 0)) == false) (I v34) skipV)), (151, (Bo ((x36 == 1) != (x37.Kind != 0))))]) (L := []) (H := ⟨1, [(0, ⟨1, ((v8).flatMap cI), false⟩)]⟩) rfl rfl rfl rfl rfl (astep_guard (v := (NP 0 (v34.toNat * 1))) (((x36 == 1) != (x37.Kind != 0)) == false) rfl (fun hc => tx_idxF (c := cI) (xs := v8) (i := v34) ceI Tryd.underlying29 s_3 (cond_of hc) (cond_of hc) rfl (gd_of hc hx38)))) (dcons (dstep1 (Tm := [(154, (cond (((x36 == 1) != (x37.Kind != 0)) == false) (NP 0 (v34.toNat * 1)) skipV)), (151, (Bo ((x36 == 1) != (x37.Kind != 0))))]) (L := []) (H := ⟨1, [(0, ⟨1, ((v8).flatMap cI), false⟩)]⟩) rfl rfl rfl rfl rfl (astep_guard (v := (I x38)) (((x36 == 1) != (x37.Kind != 0)) == false) rfl (fun hc => tx_ldF (v := (I x38)) (s := 1) (cond_of hc) rfl (part_elem (off := 0) (v := (I x38)) ceI (gd_of hc hx38) Tryd.underlying3 rfl (by decide) rfl)))) (dcons (dstep1 (Tm := [(155, (cond (((x36 == 1) != (x37.Kind != 0)) == false) (I x38) skipV)), (151, (Bo ((x36 == 1) != (x37.Kind != 0))))]) (L := []) (H := ⟨1, [(0, ⟨1, ((v8).flatMap cI), false⟩)]⟩) rfl rfl rfl rfl rfl (astep_guard (v := (Bo (decide (x38 > 1)))) (((x36 == 1) != (x37.Kind != 0)) == false) rfl (fun hc => ex_bin (vx := (I x38)) (vy := (I 1)) (cond_of hc) rfl gtrI_ok))) (dcons (dstep1 (Tm := [(151, (Bo ((x36 == 1) != (x37.Kind != 0)))), (156, (cond (((x36 == 1) != (x37.Kind != 0)) == false) (Bo (decide (x38 > 1))) skipV))]) (L := []) (H := ⟨1, [(0, ⟨1, ((v8).flatMap cI), false⟩)]⟩) rfl rfl rfl rfl rfl (astep_do rfl (ex_pick rfl pkOr))) dnil))))))))))))))))))) ⟨rfl, rfl⟩) (by kernel_rfl) (by kernel_rfl) ?_
              show AWp _ _ _ _
              rcases Bool.eq_false_or_eq_true (((x36 == 1) != (x37.Kind != 0)) || (decide (x38 > 1))) with hb39 | hb39
              · rw [condT hb39] at h
                refine awp_condT (boT hb39) ?_
                refine awp_seq ?_
                refine awp_region ?_
                refine arun_do rfl rfl rfl (ex_assign (eV (v := (Bo false)) rfl)) ?_
                refine arun_keepE [2] 0 0 (st' := ⟨181, 0, [(2, (Bo false))], [], ⟨0, []⟩⟩) (by kernel_rfl) (by kernel_rfl) ?_
                show AWp _ _ _ _
                refine awp_ret ?_
                cases h
                exact ares1 (rtmp rfl (eV rfl))
              · rw [condF hb39] at h
                refine awp_condF (boF hb39) ?_
                refine awp_skip ?_
                show AWp _ _ _ _
                refine awp_region ?_
                refine arun_do rfl rfl rfl (ex_move (eV (v := (I v34)) rfl)) ?_
                refine arun_do rfl rfl rfl (ex_bin (vx := (I v34)) (vy := (I 1)) rfl rfl addI_ok) ?_
                refine arun_do rfl rfl rfl (ex_assign (eV (v := (I (w64 (v34 + 1)))) rfl)) ?_
                refine arun_keepE [3, 4, 10] 0 1 (st' := ⟨181, 0, [(3, (SL 5 c_api_Node x5.1)), (4, (FV 0 v8.length)), (10, (I (w64 (v34 + 1))))], [], ⟨1, [(0, ⟨1, ((v8).flatMap cI), false⟩)]⟩⟩) (by kernel_rfl) (by kernel_rfl) ?_
                exact Exists.intro n3 (And.intro (Nat.lt_succ_self _) (Exists.intro (w64 (v34 + 1)) (And.intro rfl h)))
            · rw [condF hb35] at h
              refine awp_condF (boF hb35) ?_
              refine awp_exit ?_
              show AWp _ _ _ _
              refine awp_seq ?_
              refine awp_region ?_
              refine arun_do rfl rfl rfl (ex_move (eV (v := (SL 5 c_api_Node x5.1)) rfl)) ?_
              obtain ⟨x40, hx40, h⟩ := bindS h
              refine arun_do rfl rfl rfl (ex_call0 (vs := [(SL 5 c_api_Node x5.1)]) (v := (Value.tuple #[(I x40.1), (Bo x40.2)])) rfl en_12 (cargs (evs rfl evs_nil)) rfl (ok_node_Free x5.1 x40 hx40) rfl) ?_
              refine arun_do rfl rfl rfl (ex_move (eV (v := (Value.tuple #[(I x40.1), (Bo x40.2)])) rfl)) ?_
              refine arun_do rfl rfl rfl (ex_extract (vx := (Value.tuple #[(I x40.1), (Bo x40.2)])) (v := (I x40.1)) rfl rfl) ?_
              refine arun_do rfl rfl rfl (ex_extract (vx := (Value.tuple #[(I x40.1), (Bo x40.2)])) (v := (Bo x40.2)) rfl rfl) ?_
              refine arun_do rfl rfl rfl (ex_assign (eV (v := (I x40.1)) rfl)) ?_
              refine arun_do rfl rfl rfl (ex_assign (eV (v := (Bo x40.2)) rfl)) ?_
              refine arun_keepE [3, 11, 12] 0 0 (st' := ⟨181, 0, [(3, (SL 5 c_api_Node x5.1)), (11, (I x40.1)), (12, (Bo x40.2))], [], ⟨0, []⟩⟩) (by kernel_rfl) (by kernel_rfl) ?_
              show AWp _ _ _ _
              refine awp_seq ?_
              refine awp_region ?_
              refine arun_do rfl rfl rfl (ex_move (eV (v := (SL 5 c_api_Node x5.1)) rfl)) ?_
              obtain ⟨x41, hx41, h⟩ := bindS h
              refine arun_do rfl rfl rfl (ex_call0 (vs := [(SL 5 c_api_Node x5.1)]) (v := (Bo x41)) rfl en_13 (cargs (evs rfl evs_nil)) rfl (ok_node_May x5.1 x41 hx41) rfl) ?_
              refine arun_do rfl rfl rfl (ex_move (eV (v := (Bo x41)) rfl)) ?_
              refine arun_guard (v := (Bo x40.2)) (x41 == true) rfl rfl rfl (fun hc => ex_move (eV (v := (Bo x40.2)) rfl)) ?_
              refine arun_guard (v := (Bo (!x40.2))) (x41 == true) rfl rfl rfl (fun hc => ex_un (vx := (Bo x40.2)) (cond_of hc) notB_ok) ?_
              refine arun_guard (v := (Bo (!x40.2))) (x41 == true) rfl rfl rfl (fun hc => ex_move (eV (v := (Bo (!x40.2))) (cond_of hc))) ?_
              refine arun_guard (v := (I x40.1)) ((x41 == true) && ((!x40.2) == false)) rfl rfl gv_nest (fun hc => ex_move (eV (v := (I x40.1)) rfl)) ?_
              refine arun_guard (v := (Bo (decide (x40.1 > 0)))) ((x41 == true) && ((!x40.2) == false)) rfl rfl gv_nest (fun hc => ex_bin (vx := (I x40.1)) (vy := (I 0)) (cond_of hc) rfl gtrI_ok) ?_
              refine arun_guard (v := (Bo (decide (x40.1 > 0)))) ((x41 == true) && ((!x40.2) == false)) rfl rfl gv_nest (fun hc => ex_move (eV (v := (Bo (decide (x40.1 > 0)))) (cond_of hc))) ?_
              refine arun_guard (v := (SL 5 c_api_Node x5.1)) (((x41 == true) && ((!x40.2) == false)) && ((decide (x40.1 > 0)) == true)) rfl rfl gv_nest (fun hc => ex_move (eV (v := (SL 5 c_api_Node x5.1)) rfl)) ?_
              refine arun_guard (v := (I x40.1)) (((x41 == true) && ((!x40.2) == false)) && ((decide (x40.1 > 0)) == true)) rfl rfl gv_nest (fun hc => ex_move (eV (v := (I x40.1)) rfl)) ?_
              obtain ⟨x42, hx42, h⟩ := bindS h
              refine arun_guard (v := (DP (c_api_Node x42))) (((x41 == true) && ((!x40.2) == false)) && ((decide (x40.1 > 0)) == true)) rfl rfl gv_nest (fun hc => tx_idxD (c := c_api_Node) (xs := x5.1) (i := x40.1) ce_api_Node Tryd.underlying25 s_32 (cond_of hc) (cond_of hc) (gd_of hc hx42)) ?_
              refine arun_guard (v := (DP (List.drop 0 (c_api_Node x42)))) (((x41 == true) && ((!x40.2) == false)) && ((decide (x40.1 > 0)) == true)) rfl rfl gv_nest (fun hc => ex_fieldAddrD (vs := (List.drop 0 (c_api_Node x42))) Tryd.underlying32 rfl s_3 (by decide) (cond_of hc) rfl) ?_
              refine arun_guard (v := (I x42.Kind)) (((x41 == true) && ((!x40.2) == false)) && ((decide (x40.1 > 0)) == true)) rfl rfl gv_nest (fun hc => tx_ldD1 (v := (I x42.Kind)) Tryd.underlying3 rfl (cond_of hc) rfl) ?_
              refine arun_guard (v := (Bo (x42.Kind == 0))) (((x41 == true) && ((!x40.2) == false)) && ((decide (x40.1 > 0)) == true)) rfl rfl gv_nest (fun hc => ex_bin (vx := (I x42.Kind)) (vy := (I 0)) (cond_of hc) rfl eqlI_ok) ?_
              refine arun_guard (v := (Bo ((decide (x40.1 > 0)) && (x42.Kind == 0)))) ((x41 == true) && ((!x40.2) == false)) rfl rfl gv_nest (fun hc => ex_pick (cond_of hc) (pkAndN hc)) ?_
              refine arun_guard (v := (Bo ((!x40.2) || ((decide (x40.1 > 0)) && (x42.Kind == 0))))) (x41 == true) rfl rfl rfl (fun hc => ex_pick (cond_of hc) (pkOrN hc)) ?_
              refine arun_do rfl rfl rfl (ex_pick rfl pkAnd) ?_
              refine arun_do rfl rfl rfl (ex_assign (eV (v := (Bo (x41 && ((!x40.2) || ((decide (x40.1 > 0)) && (x42.Kind == 0)))))) rfl)) ?_
              refine arun_keepE [2] 0 0 (st' := ⟨181, 0, [(2, (Bo (x41 && ((!x40.2) || ((decide (x40.1 > 0)) && (x42.Kind == 0))))))], [], ⟨0, []⟩⟩) (by kernel_rfl) (by kernel_rfl) ?_
              show AWp _ _ _ _
              refine awp_ret ?_
              cases h
              exact ares1 (rtmp rfl (eV rfl))

end Go.Proofs
