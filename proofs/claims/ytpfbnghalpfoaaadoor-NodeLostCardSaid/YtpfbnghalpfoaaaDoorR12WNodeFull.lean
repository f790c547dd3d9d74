/- Pure models of functions of the program, and that its code does what they say: palimplaw12 NodeFull. Written by a program. -/
import Derived.Test.YtpfbnghalpfoaaaDoorR1213
import Derived.Test.YtpfbnghalpfoaaaDoorR123
import Derived.Test.YtpfbnghalpfoaaaDoorR124
import Derived.Test.YtpfbnghalpfoaaaDoorR128
import Derived.Test.YtpfbnghalpfoaaaDoorR129
import Derived.Test.YtpfbnghalpfoaaaDoorR12B
set_option maxRecDepth 20000
set_option maxHeartbeats 4000000
namespace Go.Proofs
open Go Go.Fhl
set_option linter.unusedVariables false
set_option linter.unusedSimpArgs false
noncomputable def M_law12_NodeFull_l2 (c_1 : (Int → Int → Option Bool)) (x5 : ((List G_api_Node) × G_palimpmade_Picks)) (v6 : Int) (x10 : (Int × Bool)) : Nat → Int → Option Bool
  | 0, _ => none
  | n2 + 1, v11 =>
  cond (x10.2 && (decide (v11 < x10.1))) (Option.bind (gd ((decide (v11 ≥ (x5.1.length : Int))) == false) (getI x5.1 v11)) fun (x13 : G_api_Node) => cond ((decide (v11 ≥ (x5.1.length : Int))) || (x13.Kind == 0)) (some false) ((M_law12_NodeFull_l2 c_1 x5 v6 x10 n2) (w64 (v11 + 1)))) (some ((x10.2 == (decide (v6 < 7))) && (x10.2 || (x10.1 == 0))))
noncomputable def M_law12_NodeFull_l1 (x5 : ((List G_api_Node) × G_palimpmade_Picks)) : Nat → Int → Int → Option Bool
  | 0, _, _ => none
  | n1 + 1, v6, v7 =>
  cond (decide (v7 < (x5.1.length : Int))) (Option.bind (M_node_Kids x5.1 v7) fun (x9 : (List Int)) => (M_law12_NodeFull_l1 x5 n1) (w64 (v6 + (x9.length : Int))) (w64 (v7 + 1))) (Option.bind (M_node_Free x5.1) fun (x10 : (Int × Bool)) => M_law12_NodeFull_l2 (M_law12_NodeFull_l1 x5 n1) x5 v6 x10 fuel 0)
noncomputable def M_law12_NodeFull (t0 : (List UInt8)) : Option Bool :=
  Option.bind (M_law12_begun) fun (x1 : Bool) => cond (!x1) (some false) (cond (decide ((t0.length : Int) > 60)) (some true) (Option.bind (M_made_Made t0) fun (x4 : G_palimpmade_Picks) => Option.bind (M_made_Picks_Set x4 25) fun (x5 : ((List G_api_Node) × G_palimpmade_Picks)) => M_law12_NodeFull_l1 x5 fuel 0 0))
theorem ok_law12_NodeFull (t0 : (List UInt8)) (r : Bool) (h : M_law12_NodeFull t0 = some r) : FFn Tryd.prog 6 [(SL 1 c8 t0)] (Bo r) := by
  refine FFn.of_body (n := 65) Tryd.func6 rfl Tryd.ntmps6 rfl rfl rfl rfl ?_
  show AWp _ _ _ ⟨65, 0, [(0, (SL 1 c8 t0))], [], ⟨0, []⟩⟩
  unfold M_law12_NodeFull at h
  refine awp_seq ?_
  refine awp_region ?_
  refine arun_do rfl rfl rfl (ex_assign (eV (v := (Bo false)) rfl)) ?_
  refine arun_keepE [0] 0 0 (st' := ⟨65, 0, [(0, (SL 1 c8 t0))], [], ⟨0, []⟩⟩) (by kernel_rfl) (by kernel_rfl) ?_
  show AWp _ _ _ _
  refine awp_seq ?_
  refine awp_seq ?_
  refine awp_region ?_
  obtain ⟨x1, hx1, h⟩ := bindS h
  refine arun_do rfl rfl rfl (ex_call0 (vs := []) (v := (Bo x1)) rfl en_7 (cargs evs_nil) rfl (ok_law12_begun  x1 hx1) rfl) ?_
  refine arun_do rfl rfl rfl (ex_un (vx := (Bo x1)) rfl notB_ok) ?_
  refine arun_keepE [0, 10] 0 0 (st' := ⟨65, 0, [(0, (SL 1 c8 t0)), (10, (Bo (!x1)))], [], ⟨0, []⟩⟩) (by kernel_rfl) (by kernel_rfl) ?_
  show AWp _ _ _ _
  rcases Bool.eq_false_or_eq_true (!x1) with hb2 | hb2
  · rw [condT hb2] at h
    refine awp_condT (boT hb2) ?_
    refine awp_seq ?_
    refine awp_region ?_
    refine arun_do rfl rfl rfl (ex_assign (eV (v := (Bo false)) rfl)) ?_
    refine arun_keepE [2] 0 0 (st' := ⟨65, 0, [(2, (Bo false))], [], ⟨0, []⟩⟩) (by kernel_rfl) (by kernel_rfl) ?_
    show AWp _ _ _ _
    refine awp_ret ?_
    cases h
    exact ares1 (rtmp rfl (eV rfl))
  · rw [condF hb2] at h
    refine awp_condF (boF hb2) ?_
    refine awp_skip ?_
    show AWp _ _ _ _
    refine awp_seq ?_
    refine awp_seq ?_
    refine awp_region ?_
    refine arun_do rfl rfl rfl (ex_move (eV (v := (SL 1 c8 t0)) rfl)) ?_
    refine arun_do rfl rfl rfl (tx_lenD (xs := t0) ce8 Tryd.underlying22 rfl) ?_
    refine arun_do rfl rfl rfl (ex_bin (vx := (I (t0.length : Int))) (vy := (I 60)) rfl rfl gtrI_ok) ?_
    refine arun_keepE [0, 13] 0 0 (st' := ⟨65, 0, [(0, (SL 1 c8 t0)), (13, (Bo (decide ((t0.length : Int) > 60))))], [], ⟨0, []⟩⟩) (by kernel_rfl) (by kernel_rfl) ?_
    show AWp _ _ _ _
    rcases Bool.eq_false_or_eq_true (decide ((t0.length : Int) > 60)) with hb3 | hb3
    · rw [condT hb3] at h
      refine awp_condT (boT hb3) ?_
      refine awp_seq ?_
      refine awp_region ?_
      refine arun_do rfl rfl rfl (ex_assign (eV (v := (Bo true)) rfl)) ?_
      refine arun_keepE [2] 0 0 (st' := ⟨65, 0, [(2, (Bo true))], [], ⟨0, []⟩⟩) (by kernel_rfl) (by kernel_rfl) ?_
      show AWp _ _ _ _
      refine awp_ret ?_
      cases h
      exact ares1 (rtmp rfl (eV rfl))
    · rw [condF hb3] at h
      refine awp_condF (boF hb3) ?_
      refine awp_skip ?_
      show AWp _ _ _ _
      refine awp_seq ?_
      refine awp_region ?_
      refine arun_do rfl rfl rfl (ex_move (eV (v := (SL 1 c8 t0)) rfl)) ?_
      obtain ⟨x4, hx4, h⟩ := bindS h
      refine arun_do rfl rfl rfl (ex_callNew (vs := [(SL 1 c8 t0)]) (k := 0) (b := ⟨1, (c_palimpmade_Picks x4), false⟩) (H' := ⟨1, [(0, ⟨1, (c_palimpmade_Picks x4), false⟩)]⟩) rfl en_8 (cargs (evs rfl evs_nil)) rfl (ok_made_Made t0 x4 hx4) rfl rfl rfl) ?_
      obtain ⟨x5, hx5, h⟩ := bindS h
      refine arun_do rfl rfl rfl (ex_call1 (vs := [(NP 0 0), (I 25)]) (vs' := [(NP 0 0), (I 25)]) (v := (SL 5 c_api_Node x5.1)) (n := 0) (b := ⟨1, (c_palimpmade_Picks x4), false⟩) (b' := ⟨1, (c_palimpmade_Picks x5.2), false⟩) (H' := ⟨1, [(0, ⟨1, (c_palimpmade_Picks x5.2), false⟩)]⟩) rfl en_9 (cargs (evs rfl (evs rfl evs_nil))) rfl rfl (.cons (.inr ⟨_, rfl, rfl⟩) (.cons (.inl ⟨rfl, rfl⟩) .nil)) (ok_made_Picks_Set x4 25 x5 hx5) rfl rfl) ?_
      refine arun_do rfl rfl rfl (ex_assign (eV (v := (SL 5 c_api_Node x5.1)) rfl)) ?_
      refine arun_keepE [3] 0 0 (st' := ⟨65, 0, [(3, (SL 5 c_api_Node x5.1))], [], ⟨0, []⟩⟩) (by kernel_rfl) (by kernel_rfl) ?_
      show AWp _ _ _ _
      refine awp_seq ?_
      refine awp_region ?_
      refine arun_do rfl rfl rfl (ex_assign (eV (v := (I 0)) rfl)) ?_
      refine arun_keepE [3, 4] 0 0 (st' := ⟨65, 0, [(3, (SL 5 c_api_Node x5.1)), (4, (I 0))], [], ⟨0, []⟩⟩) (by kernel_rfl) (by kernel_rfl) ?_
      show AWp _ _ _ _
      refine awp_seq ?_
      refine awp_seq ?_
      refine awp_region ?_
      refine arun_do rfl rfl rfl (ex_assign (eV (v := (I 0)) rfl)) ?_
      refine arun_keepE [3, 4, 5] 0 0 (st' := ⟨65, 0, [(3, (SL 5 c_api_Node x5.1)), (4, (I 0)), (5, (I 0))], [], ⟨0, []⟩⟩) (by kernel_rfl) (by kernel_rfl) ?_
      show AWp _ _ _ _
      refine awp_block ?_
      refine awp_loop (fun n s => ∃ (v6 : Int) (v7 : Int), s = ⟨65, 0, [(3, (SL 5 c_api_Node x5.1)), (4, (I v6)), (5, (I v7))], [], ⟨0, []⟩⟩ ∧ M_law12_NodeFull_l1 x5 n v6 v7 = some r) fuel (Exists.intro 0 (Exists.intro 0 (And.intro rfl h))) ?_
      rintro n s ⟨v6, v7, rfl, h⟩ -
      cases n with
      | zero => cases h
      | succ n1 =>
        unfold M_law12_NodeFull_l1 at h
        refine awp_seq ?_
        refine awp_seq ?_
        refine awp_region ?_
        refine arun_do rfl rfl rfl (ex_move (eV (v := (I v7)) rfl)) ?_
        refine arun_do rfl rfl rfl (ex_move (eV (v := (SL 5 c_api_Node x5.1)) rfl)) ?_
        refine arun_do rfl rfl rfl (tx_lenD (xs := x5.1) ce_api_Node Tryd.underlying25 rfl) ?_
        refine arun_do rfl rfl rfl (ex_bin (vx := (I v7)) (vy := (I (x5.1.length : Int))) rfl rfl lssI_ok) ?_
        refine arun_keepE [3, 4, 5, 20] 0 0 (st' := ⟨65, 0, [(3, (SL 5 c_api_Node x5.1)), (4, (I v6)), (5, (I v7)), (20, (Bo (decide (v7 < (x5.1.length : Int)))))], [], ⟨0, []⟩⟩) (by kernel_rfl) (by kernel_rfl) ?_
        show AWp _ _ _ _
        rcases Bool.eq_false_or_eq_true (decide (v7 < (x5.1.length : Int))) with hb8 | hb8
        · rw [condT hb8] at h
          refine awp_condT (boT hb8) ?_
          refine awp_skip ?_
          show AWp _ _ _ _
          refine awp_seq ?_
          refine awp_block ?_
          refine awp_region ?_
          refine arun_do rfl rfl rfl (ex_move (eV (v := (I v6)) rfl)) ?_
          refine arun_do rfl rfl rfl (ex_move (eV (v := (SL 5 c_api_Node x5.1)) rfl)) ?_
          refine arun_do rfl rfl rfl (ex_move (eV (v := (I v7)) rfl)) ?_
          obtain ⟨x9, hx9, h⟩ := bindS h
          refine arun_do rfl rfl rfl (ex_call0 (vs := [(SL 5 c_api_Node x5.1), (I v7)]) (v := (SL 1 cI x9)) rfl en_10 (cargs (evs rfl (evs rfl evs_nil))) rfl (ok_node_Kids x5.1 v7 x9 hx9) rfl) ?_
          refine arun_do rfl rfl rfl (tx_lenD (xs := x9) ceI Tryd.underlying29 rfl) ?_
          refine arun_do rfl rfl rfl (ex_bin (vx := (I v6)) (vy := (I (x9.length : Int))) rfl rfl addI_ok) ?_
          refine arun_do rfl rfl rfl (ex_assign (eV (v := (I (w64 (v6 + (x9.length : Int))))) rfl)) ?_
          refine arun_keepE [3, 4, 5] 0 0 (st' := ⟨65, 0, [(3, (SL 5 c_api_Node x5.1)), (4, (I (w64 (v6 + (x9.length : Int))))), (5, (I v7))], [], ⟨0, []⟩⟩) (by kernel_rfl) (by kernel_rfl) ?_
          show AWp _ _ _ _
          refine awp_region ?_
          refine arun_do rfl rfl rfl (ex_move (eV (v := (I v7)) rfl)) ?_
          refine arun_do rfl rfl rfl (ex_bin (vx := (I v7)) (vy := (I 1)) rfl rfl addI_ok) ?_
          refine arun_do rfl rfl rfl (ex_assign (eV (v := (I (w64 (v7 + 1)))) rfl)) ?_
          refine arun_keepE [3, 4, 5] 0 0 (st' := ⟨65, 0, [(3, (SL 5 c_api_Node x5.1)), (4, (I (w64 (v6 + (x9.length : Int))))), (5, (I (w64 (v7 + 1))))], [], ⟨0, []⟩⟩) (by kernel_rfl) (by kernel_rfl) ?_
          exact Exists.intro n1 (And.intro (Nat.lt_succ_self _) (Exists.intro (w64 (v6 + (x9.length : Int))) (Exists.intro (w64 (v7 + 1)) (And.intro rfl h))))
        · rw [condF hb8] at h
          refine awp_condF (boF hb8) ?_
          refine awp_exit ?_
          show AWp _ _ _ _
          refine awp_seq ?_
          refine awp_region ?_
          refine arun_do rfl rfl rfl (ex_move (eV (v := (SL 5 c_api_Node x5.1)) rfl)) ?_
          obtain ⟨x10, hx10, h⟩ := bindS h
          refine arun_do rfl rfl rfl (ex_call0 (vs := [(SL 5 c_api_Node x5.1)]) (v := (Value.tuple #[(I x10.1), (Bo x10.2)])) rfl en_12 (cargs (evs rfl evs_nil)) rfl (ok_node_Free x5.1 x10 hx10) rfl) ?_
          refine arun_do rfl rfl rfl (ex_move (eV (v := (Value.tuple #[(I x10.1), (Bo x10.2)])) rfl)) ?_
          refine arun_do rfl rfl rfl (ex_extract (vx := (Value.tuple #[(I x10.1), (Bo x10.2)])) (v := (I x10.1)) rfl rfl) ?_
          refine arun_do rfl rfl rfl (ex_extract (vx := (Value.tuple #[(I x10.1), (Bo x10.2)])) (v := (Bo x10.2)) rfl rfl) ?_
          refine arun_do rfl rfl rfl (ex_assign (eV (v := (I x10.1)) rfl)) ?_
          refine arun_do rfl rfl rfl (ex_assign (eV (v := (Bo x10.2)) rfl)) ?_
          refine arun_keepE [3, 4, 6, 7] 0 0 (st' := ⟨65, 0, [(3, (SL 5 c_api_Node x5.1)), (4, (I v6)), (6, (I x10.1)), (7, (Bo x10.2))], [], ⟨0, []⟩⟩) (by kernel_rfl) (by kernel_rfl) ?_
          show AWp _ _ _ _
          refine awp_seq ?_
          refine awp_seq ?_
          refine awp_region ?_
          refine arun_do rfl rfl rfl (ex_assign (eV (v := (I 0)) rfl)) ?_
          refine arun_keepE [3, 4, 6, 7, 8] 0 0 (st' := ⟨65, 0, [(3, (SL 5 c_api_Node x5.1)), (4, (I v6)), (6, (I x10.1)), (7, (Bo x10.2)), (8, (I 0))], [], ⟨0, []⟩⟩) (by kernel_rfl) (by kernel_rfl) ?_
          show AWp _ _ _ _
          refine awp_block ?_
          refine awp_loop (fun n s => ∃ (v11 : Int), s = ⟨65, 0, [(3, (SL 5 c_api_Node x5.1)), (4, (I v6)), (6, (I x10.1)), (7, (Bo x10.2)), (8, (I v11))], [], ⟨0, []⟩⟩ ∧ M_law12_NodeFull_l2 (M_law12_NodeFull_l1 x5 n1) x5 v6 x10 n v11 = some r) fuel (Exists.intro 0 (And.intro rfl h)) ?_
          rintro n s ⟨v11, rfl, h⟩ -
          cases n with
          | zero => cases h
          | succ n2 =>
            unfold M_law12_NodeFull_l2 at h
            refine awp_seq ?_
            refine awp_seq ?_
            refine awp_region ?_
            refine arun_do rfl rfl rfl (ex_move (eV (v := (Bo x10.2)) rfl)) ?_
            refine arun_do rfl rfl rfl (ex_move (eV (v := (Bo x10.2)) rfl)) ?_
            refine arun_guard (v := (I v11)) (x10.2 == true) rfl rfl rfl (fun hc => ex_move (eV (v := (I v11)) rfl)) ?_
            refine arun_guard (v := (I x10.1)) (x10.2 == true) rfl rfl rfl (fun hc => ex_move (eV (v := (I x10.1)) rfl)) ?_
            refine arun_guard (v := (Bo (decide (v11 < x10.1)))) (x10.2 == true) rfl rfl rfl (fun hc => ex_bin (vx := (I v11)) (vy := (I x10.1)) (cond_of hc) (cond_of hc) lssI_ok) ?_
            refine arun_do rfl rfl rfl (ex_pick rfl pkAnd) ?_
            refine arun_keepE [3, 4, 6, 7, 8, 39] 0 0 (st' := ⟨65, 0, [(3, (SL 5 c_api_Node x5.1)), (4, (I v6)), (6, (I x10.1)), (7, (Bo x10.2)), (8, (I v11)), (39, (Bo (x10.2 && (decide (v11 < x10.1)))))], [], ⟨0, []⟩⟩) (by kernel_rfl) (by kernel_rfl) ?_
            show AWp _ _ _ _
            rcases Bool.eq_false_or_eq_true (x10.2 && (decide (v11 < x10.1))) with hb12 | hb12
            · rw [condT hb12] at h
              refine awp_condT (boT hb12) ?_
              refine awp_skip ?_
              show AWp _ _ _ _
              refine awp_seq ?_
              refine awp_block ?_
              refine awp_seq ?_
              refine awp_region ?_
              refine arun_do rfl rfl rfl (ex_move (eV (v := (I v11)) rfl)) ?_
              refine arun_do rfl rfl rfl (ex_move (eV (v := (SL 5 c_api_Node x5.1)) rfl)) ?_
              refine arun_do rfl rfl rfl (tx_lenD (xs := x5.1) ce_api_Node Tryd.underlying25 rfl) ?_
              refine arun_do rfl rfl rfl (ex_bin (vx := (I v11)) (vy := (I (x5.1.length : Int))) rfl rfl geqI_ok) ?_
              refine arun_do rfl rfl rfl (ex_move (eV (v := (Bo (decide (v11 ≥ (x5.1.length : Int))))) rfl)) ?_
              refine arun_guard (v := (SL 5 c_api_Node x5.1)) ((decide (v11 ≥ (x5.1.length : Int))) == false) rfl rfl rfl (fun hc => ex_move (eV (v := (SL 5 c_api_Node x5.1)) rfl)) ?_
              refine arun_guard (v := (I v11)) ((decide (v11 ≥ (x5.1.length : Int))) == false) rfl rfl rfl (fun hc => ex_move (eV (v := (I v11)) rfl)) ?_
              obtain ⟨x13, hx13, h⟩ := bindS h
              refine arun_guard (v := (DP (c_api_Node x13))) ((decide (v11 ≥ (x5.1.length : Int))) == false) rfl rfl rfl (fun hc => tx_idxD (c := c_api_Node) (xs := x5.1) (i := v11) ce_api_Node Tryd.underlying25 s_32 (cond_of hc) (cond_of hc) (gd_of hc hx13)) ?_
              refine arun_guard (v := (DP (List.drop 0 (c_api_Node x13)))) ((decide (v11 ≥ (x5.1.length : Int))) == false) rfl rfl rfl (fun hc => ex_fieldAddrD (vs := (List.drop 0 (c_api_Node x13))) Tryd.underlying32 rfl s_3 (by decide) (cond_of hc) rfl) ?_
              refine arun_guard (v := (I x13.Kind)) ((decide (v11 ≥ (x5.1.length : Int))) == false) rfl rfl rfl (fun hc => tx_ldD1 (v := (I x13.Kind)) Tryd.underlying3 rfl (cond_of hc) rfl) ?_
              refine arun_guard (v := (Bo (x13.Kind == 0))) ((decide (v11 ≥ (x5.1.length : Int))) == false) rfl rfl rfl (fun hc => ex_bin (vx := (I x13.Kind)) (vy := (I 0)) (cond_of hc) rfl eqlI_ok) ?_
              refine arun_do rfl rfl rfl (ex_pick rfl pkOr) ?_
              refine arun_keepE [3, 4, 6, 7, 8, 53] 0 0 (st' := ⟨65, 0, [(3, (SL 5 c_api_Node x5.1)), (4, (I v6)), (6, (I x10.1)), (7, (Bo x10.2)), (8, (I v11)), (53, (Bo ((decide (v11 ≥ (x5.1.length : Int))) || (x13.Kind == 0))))], [], ⟨0, []⟩⟩) (by kernel_rfl) (by kernel_rfl) ?_
              show AWp _ _ _ _
              rcases Bool.eq_false_or_eq_true ((decide (v11 ≥ (x5.1.length : Int))) || (x13.Kind == 0)) with hb14 | hb14
              · rw [condT hb14] at h
                refine awp_condT (boT hb14) ?_
                refine awp_seq ?_
                refine awp_region ?_
                refine arun_do rfl rfl rfl (ex_assign (eV (v := (Bo false)) rfl)) ?_
                refine arun_keepE [2] 0 0 (st' := ⟨65, 0, [(2, (Bo false))], [], ⟨0, []⟩⟩) (by kernel_rfl) (by kernel_rfl) ?_
                show AWp _ _ _ _
                refine awp_ret ?_
                cases h
                exact ares1 (rtmp rfl (eV rfl))
              · rw [condF hb14] at h
                refine awp_condF (boF hb14) ?_
                refine awp_skip ?_
                show AWp _ _ _ _
                refine awp_region ?_
                refine arun_do rfl rfl rfl (ex_move (eV (v := (I v11)) rfl)) ?_
                refine arun_do rfl rfl rfl (ex_bin (vx := (I v11)) (vy := (I 1)) rfl rfl addI_ok) ?_
                refine arun_do rfl rfl rfl (ex_assign (eV (v := (I (w64 (v11 + 1)))) rfl)) ?_
                refine arun_keepE [3, 4, 6, 7, 8] 0 0 (st' := ⟨65, 0, [(3, (SL 5 c_api_Node x5.1)), (4, (I v6)), (6, (I x10.1)), (7, (Bo x10.2)), (8, (I (w64 (v11 + 1))))], [], ⟨0, []⟩⟩) (by kernel_rfl) (by kernel_rfl) ?_
                exact Exists.intro n2 (And.intro (Nat.lt_succ_self _) (Exists.intro (w64 (v11 + 1)) (And.intro rfl h)))
            · rw [condF hb12] at h
              refine awp_condF (boF hb12) ?_
              refine awp_exit ?_
              show AWp _ _ _ _
              refine awp_seq ?_
              refine awp_region ?_
              refine arun_do rfl rfl rfl (ex_move (eV (v := (Bo x10.2)) rfl)) ?_
              refine arun_do rfl rfl rfl (ex_move (eV (v := (I v6)) rfl)) ?_
              refine arun_do rfl rfl rfl (ex_bin (vx := (I v6)) (vy := (I 7)) rfl rfl lssI_ok) ?_
              refine arun_do rfl rfl rfl (ex_bin (vx := (Bo x10.2)) (vy := (Bo (decide (v6 < 7)))) rfl rfl (eqlB_ok Tryd.underlying4)) ?_
              refine arun_do rfl rfl rfl (ex_move (eV (v := (Bo (x10.2 == (decide (v6 < 7))))) rfl)) ?_
              refine arun_guard (v := (Bo x10.2)) ((x10.2 == (decide (v6 < 7))) == true) rfl rfl rfl (fun hc => ex_move (eV (v := (Bo x10.2)) rfl)) ?_
              refine arun_guard (v := (Bo x10.2)) ((x10.2 == (decide (v6 < 7))) == true) rfl rfl rfl (fun hc => ex_move (eV (v := (Bo x10.2)) (cond_of hc))) ?_
              refine arun_guard (v := (I x10.1)) (((x10.2 == (decide (v6 < 7))) == true) && (x10.2 == false)) rfl rfl gv_nest (fun hc => ex_move (eV (v := (I x10.1)) rfl)) ?_
              refine arun_guard (v := (Bo (x10.1 == 0))) (((x10.2 == (decide (v6 < 7))) == true) && (x10.2 == false)) rfl rfl gv_nest (fun hc => ex_bin (vx := (I x10.1)) (vy := (I 0)) (cond_of hc) rfl eqlI_ok) ?_
              refine arun_guard (v := (Bo (x10.2 || (x10.1 == 0)))) ((x10.2 == (decide (v6 < 7))) == true) rfl rfl rfl (fun hc => ex_pick (cond_of hc) (pkOrN hc)) ?_
              refine arun_do rfl rfl rfl (ex_pick rfl pkAnd) ?_
              refine arun_do rfl rfl rfl (ex_assign (eV (v := (Bo ((x10.2 == (decide (v6 < 7))) && (x10.2 || (x10.1 == 0))))) rfl)) ?_
              refine arun_keepE [2] 0 0 (st' := ⟨65, 0, [(2, (Bo ((x10.2 == (decide (v6 < 7))) && (x10.2 || (x10.1 == 0)))))], [], ⟨0, []⟩⟩) (by kernel_rfl) (by kernel_rfl) ?_
              show AWp _ _ _ _
              refine awp_ret ?_
              cases h
              exact ares1 (rtmp rfl (eV rfl))

end Go.Proofs
