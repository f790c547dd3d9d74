/- Pure models of functions of the program, and that its code does what they say: palimplaw12 NodeLost. Written by a program. -/
import Derived.Test.YtpfbnghalpfoaaaDoorR1213
import Derived.Test.YtpfbnghalpfoaaaDoorR126
import Derived.Test.YtpfbnghalpfoaaaDoorR128
import Derived.Test.YtpfbnghalpfoaaaDoorR129
import Derived.Test.YtpfbnghalpfoaaaDoorR12B
set_option maxRecDepth 20000
set_option maxHeartbeats 4000000
namespace Go.Proofs
open Go Go.Fhl
set_option linter.unusedVariables false
set_option linter.unusedSimpArgs false
noncomputable def M_law12_NodeLost_k1 (c_1 : (Bool → Int → List G_api_Node → Option Bool)) (t1 : (A7 UInt8)) (x5 : ((List G_api_Node) × G_palimpmade_Picks)) (v8 : Int) (y11 : Bool) (y12 : List G_api_Node) : Option Bool :=
  c_1 y11 (w64 (v8 + 1)) y12
noncomputable def M_law12_NodeLost_k2 (c_1 : (Bool → Int → List G_api_Node → Option Bool)) (t1 : (A7 UInt8)) (x5 : ((List G_api_Node) × G_palimpmade_Picks)) (v8 : Int) (x14 : UInt8) (y15 : Bool) (y16 : List G_api_Node) : Option Bool :=
  Option.bind (rem8 x14 3) fun (x24 : UInt8) => Option.bind (gd ((x24 == 1) == true) (getI y16 v8)) fun (x25 : G_api_Node) => cond ((x24 == 1) && ((x25.Kind != 0) || (decide (x14 > 100)))) (Option.bind (getI y16 v8) fun (x27 : G_api_Node) => Option.bind (setI y16 v8 (G_api_Node.mk 3 0 [] [] 0)) fun (x28 : List G_api_Node) => M_law12_NodeLost_k1 c_1 t1 x5 v8 true x28) (M_law12_NodeLost_k1 c_1 t1 x5 v8 y15 y16)
noncomputable def M_law12_NodeLost_l1 (t1 : (A7 UInt8)) (x5 : ((List G_api_Node) × G_palimpmade_Picks)) : Nat → Bool → Int → List G_api_Node → Option Bool
  | 0, _, _, _ => none
  | n1 + 1, v7, v8, v9 =>
  cond ((decide (v8 < ((v9.length : Nat) : Int))) && (decide (v8 < 8))) (Option.bind (inA 7 (w64 (v8 - 1))) fun (x13 : Unit) => Option.bind (A7.get t1 (w64 (v8 - 1))) fun (x14 : UInt8) => Option.bind (getI v9 v8) fun (x17 : G_api_Node) => Option.bind (gd ((x17.Kind == 1) == true) (rem8 x14 3)) fun (x18 : UInt8) => cond ((x17.Kind == 1) && (x18 == 0)) (Option.bind (quo8 x14 16) fun (x20 : UInt8) => Option.bind (getI v9 v8) fun (x21 : G_api_Node) => Option.bind (setI v9 v8 (G_api_Node.mk x21.Kind x21.Up x21.Name x21.Body (x20.toNat : Int))) fun (x22 : List G_api_Node) => Option.bind (gd (v7 == false) (quo8 x14 16)) fun (x23 : UInt8) => M_law12_NodeLost_k2 (M_law12_NodeLost_l1 t1 x5 n1) t1 x5 v8 x14 (v7 || (decide (x23 > 0))) x22) (M_law12_NodeLost_k2 (M_law12_NodeLost_l1 t1 x5 n1) t1 x5 v8 x14 v7 v9)) (Option.bind (M_node_May x5.1) fun (x29 : Bool) => Option.bind (gd (x29 == true) (M_node_Torn x5.1)) fun (x30 : Bool) => cond ((x29 && x30) == true) (Option.bind (M_node_Torn v9) fun (x31 : Bool) => Option.bind (gd (((x29 && x30) && x31) == true) (M_node_May v9)) fun (x32 : Bool) => Option.bind (gd ((((x29 && x30) && x31) && (x32 == (!v7))) == true) (M_node_Same x5.1 v9)) fun (x33 : Bool) => some ((((x29 && x30) && x31) && (x32 == (!v7))) && (x33 == (!v7)))) (some (x29 && x30)))
noncomputable def M_law12_NodeLost (t0 : (List UInt8)) (t1 : (A7 UInt8)) : Option Bool :=
  Option.bind (M_law12_begun) fun (x1 : Bool) => cond (!x1) (some false) (cond (decide ((t0.length : Int) > 60)) (some true) (Option.bind (M_made_Made t0) fun (x4 : G_palimpmade_Picks) => Option.bind (M_made_Picks_Set x4 25) fun (x5 : ((List G_api_Node) × G_palimpmade_Picks)) => Option.bind (appL 56 ([] : List G_api_Node) x5.1) fun (x6 : List G_api_Node) => M_law12_NodeLost_l1 t1 x5 fuel false 1 x6))
theorem ok_law12_NodeLost (t0 : (List UInt8)) (t1 : (A7 UInt8)) (r : Bool) (h : M_law12_NodeLost t0 t1 = some r) : FFn Tryd.prog 5 [(SL 1 c8 t0), (Value.agg ((cA7 c8) t1).toArray)] (Bo r) := by
  refine FFn.of_body (n := 103) Tryd.func5 rfl Tryd.ntmps5 rfl rfl rfl rfl ?_
  show AWp _ _ _ ⟨103, 0, [(0, (SL 1 c8 t0)), (1, (Value.agg ((cA7 c8) t1).toArray))], [], ⟨0, []⟩⟩
  unfold M_law12_NodeLost at h
  refine awp_seq ?_
  refine awp_region ?_
  refine arun_do rfl rfl rfl (ex_box (vx := (Value.agg ((cA7 c8) t1).toArray)) (cs := ((cA7 c8) t1)) (k := 0) (L' := [((cA7 c8) t1)]) (eV (v := (Value.agg ((cA7 c8) t1).toArray)) rfl) rfl rfl rfl) ?_
  refine arun_do rfl rfl rfl (ex_assign (eV (v := (Bo false)) rfl)) ?_
  refine arun_keepE [0, 3] 1 0 (st' := ⟨103, 0, [(0, (SL 1 c8 t0)), (3, (LP 0 0))], [((cA7 c8) t1)], ⟨0, []⟩⟩) (by kernel_rfl) (by kernel_rfl) ?_
  show AWp _ _ _ _
  refine awp_seq ?_
  refine awp_seq ?_
  refine awp_region ?_
  obtain ⟨x1, hx1, h⟩ := bindS h
  refine arun_do rfl rfl rfl (ex_call0 (vs := []) (v := (Bo x1)) rfl en_7 (cargs evs_nil) rfl (ok_law12_begun  x1 hx1) rfl) ?_
  refine arun_do rfl rfl rfl (ex_un (vx := (Bo x1)) rfl notB_ok) ?_
  refine arun_keepE [0, 3, 11] 1 0 (st' := ⟨103, 0, [(0, (SL 1 c8 t0)), (3, (LP 0 0)), (11, (Bo (!x1)))], [((cA7 c8) t1)], ⟨0, []⟩⟩) (by kernel_rfl) (by kernel_rfl) ?_
  show AWp _ _ _ _
  rcases Bool.eq_false_or_eq_true (!x1) with hb2 | hb2
  · rw [condT hb2] at h
    refine awp_condT (boT hb2) ?_
    refine awp_seq ?_
    refine awp_region ?_
    refine arun_do rfl rfl rfl (ex_assign (eV (v := (Bo false)) rfl)) ?_
    refine arun_keepE [4] 0 0 (st' := ⟨103, 0, [(4, (Bo false))], [], ⟨0, []⟩⟩) (by kernel_rfl) (by kernel_rfl) ?_
    show AWp _ _ _ _
    refine awp_ret ?_
    cases h
    exact ares1 (rtmp rfl (eV rfl))
  · rw [condF hb2] at h
    refine awp_condF (boF hb2) ?_
    refine awp_skip ?_
    show AWp _ _ _ _
    refine awp_seq ?_
    refine awp_seq ?_
    refine awp_region ?_
    refine arun_do rfl rfl rfl (ex_move (eV (v := (SL 1 c8 t0)) rfl)) ?_
    refine arun_do rfl rfl rfl (tx_lenD (xs := t0) ce8 Tryd.underlying22 rfl) ?_
    refine arun_do rfl rfl rfl (ex_bin (vx := (I (t0.length : Int))) (vy := (I 60)) rfl rfl gtrI_ok) ?_
    refine arun_keepE [0, 3, 14] 1 0 (st' := ⟨103, 0, [(0, (SL 1 c8 t0)), (3, (LP 0 0)), (14, (Bo (decide ((t0.length : Int) > 60))))], [((cA7 c8) t1)], ⟨0, []⟩⟩) (by kernel_rfl) (by kernel_rfl) ?_
    show AWp _ _ _ _
    rcases Bool.eq_false_or_eq_true (decide ((t0.length : Int) > 60)) with hb3 | hb3
    · rw [condT hb3] at h
      refine awp_condT (boT hb3) ?_
      refine awp_seq ?_
      refine awp_region ?_
      refine arun_do rfl rfl rfl (ex_assign (eV (v := (Bo true)) rfl)) ?_
      refine arun_keepE [4] 0 0 (st' := ⟨103, 0, [(4, (Bo true))], [], ⟨0, []⟩⟩) (by kernel_rfl) (by kernel_rfl) ?_
      show AWp _ _ _ _
      refine awp_ret ?_
      cases h
      exact ares1 (rtmp rfl (eV rfl))
    · rw [condF hb3] at h
      refine awp_condF (boF hb3) ?_
      refine awp_skip ?_
      show AWp _ _ _ _
      refine awp_seq ?_
      refine awp_region ?_
      refine arun_do rfl rfl rfl (ex_move (eV (v := (SL 1 c8 t0)) rfl)) ?_
      obtain ⟨x4, hx4, h⟩ := bindS h
      refine arun_do rfl rfl rfl (ex_callNew (vs := [(SL 1 c8 t0)]) (k := 0) (b := ⟨1, (c_palimpmade_Picks x4), false⟩) (H' := ⟨1, [(0, ⟨1, (c_palimpmade_Picks x4), false⟩)]⟩) rfl en_8 (cargs (evs rfl evs_nil)) rfl (ok_made_Made t0 x4 hx4) rfl rfl rfl) ?_
      obtain ⟨x5, hx5, h⟩ := bindS h
      refine arun_do rfl rfl rfl (ex_call1 (vs := [(NP 0 0), (I 25)]) (vs' := [(NP 0 0), (I 25)]) (v := (SL 5 c_api_Node x5.1)) (n := 0) (b := ⟨1, (c_palimpmade_Picks x4), false⟩) (b' := ⟨1, (c_palimpmade_Picks x5.2), false⟩) (H' := ⟨1, [(0, ⟨1, (c_palimpmade_Picks x5.2), false⟩)]⟩) rfl en_9 (cargs (evs rfl (evs rfl evs_nil))) rfl rfl (.cons (.inr ⟨_, rfl, rfl⟩) (.cons (.inl ⟨rfl, rfl⟩) .nil)) (ok_made_Picks_Set x4 25 x5 hx5) rfl rfl) ?_
      refine arun_do rfl rfl rfl (ex_assign (eV (v := (SL 5 c_api_Node x5.1)) rfl)) ?_
      refine arun_keepE [3, 5] 1 0 (st' := ⟨103, 0, [(3, (LP 0 0)), (5, (SL 5 c_api_Node x5.1))], [((cA7 c8) t1)], ⟨0, []⟩⟩) (by kernel_rfl) (by kernel_rfl) ?_
      show AWp _ _ _ _
      refine awp_seq ?_
      refine awp_region ?_
      refine arun_do rfl rfl rfl (ex_buildSliceG (k := 0) (qs := []) (cells := (([] : List G_api_Node).flatMap c_api_Node)) (H' := ⟨1, [(0, ⟨5, (([] : List G_api_Node).flatMap c_api_Node), true⟩)]⟩) Tryd.underlying25 s_32 (by decide) (by decide) evp_nil rfl (by kernel_rfl) (by kernel_rfl) (by kernel_rfl) rfl rfl) ?_
      refine arun_do rfl rfl rfl (ex_move (eV (v := (SL 5 c_api_Node x5.1)) rfl)) ?_
      obtain ⟨x6, hx6, h⟩ := bindS h
      refine arun_do rfl rfl rfl (tx_appG (c := c_api_Node) (xs := []) (H' := ⟨1, [(0, ⟨5, ((x6).flatMap c_api_Node), true⟩)]⟩) ce_api_Node e_32 rfl rfl rfl (tsrcD (ys := x5.1) ce_api_Node Tryd.underlying25 s_32 Tryd.underlying25 rfl) hx6 rfl) ?_
      refine arun_do rfl rfl rfl (ex_assign (eV (v := (GV 0 x6.length)) rfl)) ?_
      refine arun_keepE [3, 5, 6] 1 1 (st' := ⟨103, 0, [(3, (LP 0 0)), (5, (SL 5 c_api_Node x5.1)), (6, (GV 0 x6.length))], [((cA7 c8) t1)], ⟨1, [(0, ⟨5, ((x6).flatMap c_api_Node), true⟩)]⟩⟩) (by kernel_rfl) (by kernel_rfl) ?_
      show AWp _ _ _ _
      refine awp_seq ?_
      refine awp_region ?_
      refine arun_do rfl rfl rfl (ex_assign (eV (v := (Bo false)) rfl)) ?_
      refine arun_keepE [3, 5, 6, 7] 1 1 (st' := ⟨103, 0, [(3, (LP 0 0)), (5, (SL 5 c_api_Node x5.1)), (6, (GV 0 x6.length)), (7, (Bo false))], [((cA7 c8) t1)], ⟨1, [(0, ⟨5, ((x6).flatMap c_api_Node), true⟩)]⟩⟩) (by kernel_rfl) (by kernel_rfl) ?_
      show AWp _ _ _ _
      refine awp_seq ?_
      refine awp_seq ?_
      refine awp_region ?_
      refine arun_do rfl rfl rfl (ex_assign (eV (v := (I 1)) rfl)) ?_
      refine arun_keepE [3, 5, 6, 7, 8] 1 1 (st' := ⟨103, 0, [(3, (LP 0 0)), (5, (SL 5 c_api_Node x5.1)), (6, (GV 0 x6.length)), (7, (Bo false)), (8, (I 1))], [((cA7 c8) t1)], ⟨1, [(0, ⟨5, ((x6).flatMap c_api_Node), true⟩)]⟩⟩) (by kernel_rfl) (by kernel_rfl) ?_
      show AWp _ _ _ _
      refine awp_block ?_
      refine awp_loop (fun n s => ∃ (v7 : Bool) (v8 : Int) (v9 : List G_api_Node), s = ⟨103, 0, [(3, (LP 0 0)), (5, (SL 5 c_api_Node x5.1)), (6, (GV 0 v9.length)), (7, (Bo v7)), (8, (I v8))], [((cA7 c8) t1)], ⟨1, [(0, ⟨5, ((v9).flatMap c_api_Node), true⟩)]⟩⟩ ∧ M_law12_NodeLost_l1 t1 x5 n v7 v8 v9 = some r) fuel (Exists.intro false (Exists.intro 1 (Exists.intro x6 (And.intro rfl h)))) ?_
      rintro n s ⟨v7, v8, v9, rfl, h⟩ -
      cases n with
      | zero => cases h
      | succ n1 =>
        unfold M_law12_NodeLost_l1 at h
        refine awp_seq ?_
        refine awp_seq ?_
        refine awp_region ?_
        refine arun_do rfl rfl rfl (ex_move (eV (v := (I v8)) rfl)) ?_
        refine arun_do rfl rfl rfl (ex_move (eV (v := (GV 0 v9.length)) rfl)) ?_
        refine arun_do rfl rfl rfl (ex_lenN (n := v9.length) Tryd.underlying25 rfl) ?_
        refine arun_do rfl rfl rfl (ex_bin (vx := (I v8)) (vy := (I ((v9.length : Nat) : Int))) rfl rfl lssI_ok) ?_
        refine arun_do rfl rfl rfl (ex_move (eV (v := (Bo (decide (v8 < ((v9.length : Nat) : Int))))) rfl)) ?_
        refine arun_guard (v := (I v8)) ((decide (v8 < ((v9.length : Nat) : Int))) == true) rfl rfl rfl (fun hc => ex_move (eV (v := (I v8)) rfl)) ?_
        refine arun_guard (v := (Bo (decide (v8 < 8)))) ((decide (v8 < ((v9.length : Nat) : Int))) == true) rfl rfl rfl (fun hc => ex_bin (vx := (I v8)) (vy := (I 8)) (cond_of hc) rfl lssI_ok) ?_
        refine arun_do rfl rfl rfl (ex_pick rfl pkAnd) ?_
        refine arun_keepE [3, 5, 6, 7, 8, 28] 1 1 (st' := ⟨103, 0, [(3, (LP 0 0)), (5, (SL 5 c_api_Node x5.1)), (6, (GV 0 v9.length)), (7, (Bo v7)), (8, (I v8)), (28, (Bo ((decide (v8 < ((v9.length : Nat) : Int))) && (decide (v8 < 8)))))], [((cA7 c8) t1)], ⟨1, [(0, ⟨5, ((v9).flatMap c_api_Node), true⟩)]⟩⟩) (by kernel_rfl) (by kernel_rfl) ?_
        show AWp _ _ _ _
        rcases Bool.eq_false_or_eq_true ((decide (v8 < ((v9.length : Nat) : Int))) && (decide (v8 < 8))) with hb10 | hb10
        · rw [condT hb10] at h
          refine awp_condT (boT hb10) ?_
          refine awp_skip ?_
          show AWp _ _ _ _
          refine awp_seqJ (fun s => ∃ (y11 : Bool) (y12 : List G_api_Node), s = ⟨103, 0, [(3, (LP 0 0)), (5, (SL 5 c_api_Node x5.1)), (6, (GV 0 y12.length)), (7, (Bo y11)), (8, (I v8))], [((cA7 c8) t1)], ⟨1, [(0, ⟨5, ((y12).flatMap c_api_Node), true⟩)]⟩⟩ ∧ M_law12_NodeLost_k1 (M_law12_NodeLost_l1 t1 x5 n1) t1 x5 v8 y11 y12 = some r) ?_ ?_
          · refine awp_block ?_
            refine awp_seq ?_
            refine awp_region ?_
            refine arun_do rfl rfl rfl (ex_move (eV (v := (I v8)) rfl)) ?_
            refine arun_do rfl rfl rfl (ex_bin (vx := (I v8)) (vy := (I 1)) rfl rfl subI_ok) ?_
            obtain ⟨x13, hx13, h⟩ := bindS h
            refine arun_do rfl rfl rfl (ex_indexAddrA (i := (w64 (v8 - 1))) (v := (LP 0 (0 + (w64 (v8 - 1)).toNat * 1))) Tryd.underlying41 s_5 rfl rfl (inA_ok hx13) rfl) ?_
            obtain ⟨x14, hx14, h⟩ := bindS h
            refine arun_do rfl rfl rfl (tx_ldL1 (v := (U8 x14)) Tryd.underlying5 rfl rfl rfl (by obtain ⟨hi, hz⟩ | ⟨hi, hz⟩ | ⟨hi, hz⟩ | ⟨hi, hz⟩ | ⟨hi, hz⟩ | ⟨hi, hz⟩ | ⟨hi, hz⟩ := A7.get_some hx14 <;> (subst hz; simp only [hi]; rfl))) ?_
            refine arun_do rfl rfl rfl (ex_assign (eV (v := (U8 x14)) rfl)) ?_
            refine arun_keepE [3, 5, 6, 7, 8, 9] 1 1 (st' := ⟨103, 0, [(3, (LP 0 0)), (5, (SL 5 c_api_Node x5.1)), (6, (GV 0 v9.length)), (7, (Bo v7)), (8, (I v8)), (9, (U8 x14))], [((cA7 c8) t1)], ⟨1, [(0, ⟨5, ((v9).flatMap c_api_Node), true⟩)]⟩⟩) (by kernel_rfl) (by kernel_rfl) ?_
            show AWp _ _ _ _
            refine awp_seqJ (fun s => ∃ (y15 : Bool) (y16 : List G_api_Node), s = ⟨103, 0, [(3, (LP 0 0)), (5, (SL 5 c_api_Node x5.1)), (6, (GV 0 y16.length)), (7, (Bo y15)), (8, (I v8)), (9, (U8 x14))], [((cA7 c8) t1)], ⟨1, [(0, ⟨5, ((y16).flatMap c_api_Node), true⟩)]⟩⟩ ∧ M_law12_NodeLost_k2 (M_law12_NodeLost_l1 t1 x5 n1) t1 x5 v8 x14 y15 y16 = some r) ?_ ?_
            · refine awp_seq ?_
              refine awp_region ?_
              refine arun_do rfl rfl rfl (ex_move (eV (v := (GV 0 v9.length)) rfl)) ?_
              refine arun_do rfl rfl rfl (ex_move (eV (v := (I v8)) rfl)) ?_
              obtain ⟨x17, hx17, h⟩ := bindS h
              refine arun_do rfl rfl rfl (tx_idxG (c := c_api_Node) (xs := v9) (i := v8) ce_api_Node Tryd.underlying25 s_32 rfl rfl rfl rfl hx17) ?_
              refine arun_do rfl rfl rfl (ex_fieldAddr (v := (GP 0 ((v8.toNat * 5) + 0) (List.flatMap c_api_Node v9).length)) Tryd.underlying32 rfl s_3 (by decide) rfl rfl) ?_
              refine arun_do rfl rfl rfl (tx_ldG (v := (I x17.Kind)) (s := 5) rfl rfl (part_elem (off := 0) (v := (I x17.Kind)) ce_api_Node hx17 Tryd.underlying3 rfl (by decide) rfl)) ?_
              refine arun_do rfl rfl rfl (ex_bin (vx := (I x17.Kind)) (vy := (I 1)) rfl rfl eqlI_ok) ?_
              refine arun_do rfl rfl rfl (ex_move (eV (v := (Bo (x17.Kind == 1))) rfl)) ?_
              refine arun_guard (v := (U8 x14)) ((x17.Kind == 1) == true) rfl rfl rfl (fun hc => ex_move (eV (v := (U8 x14)) rfl)) ?_
              obtain ⟨x18, hx18, h⟩ := bindS h
              refine arun_guard (v := (U8 x18)) ((x17.Kind == 1) == true) rfl rfl rfl (fun hc => ex_bin (vx := (U8 x14)) (vy := (U8 3)) (cond_of hc) rfl (rem8_ok (gd_of hc hx18))) ?_
              refine arun_guard (v := (Bo (x18 == 0))) ((x17.Kind == 1) == true) rfl rfl rfl (fun hc => ex_bin (vx := (U8 x18)) (vy := (U8 0)) (cond_of hc) rfl eql8_ok) ?_
              refine arun_do rfl rfl rfl (ex_pick rfl pkAnd) ?_
              refine arun_keepE [3, 5, 6, 7, 8, 9, 45] 1 1 (st' := ⟨103, 0, [(3, (LP 0 0)), (5, (SL 5 c_api_Node x5.1)), (6, (GV 0 v9.length)), (7, (Bo v7)), (8, (I v8)), (9, (U8 x14)), (45, (Bo ((x17.Kind == 1) && (x18 == 0))))], [((cA7 c8) t1)], ⟨1, [(0, ⟨5, ((v9).flatMap c_api_Node), true⟩)]⟩⟩) (by kernel_rfl) (by kernel_rfl) ?_
              show AWp _ _ _ _
              rcases Bool.eq_false_or_eq_true ((x17.Kind == 1) && (x18 == 0)) with hb19 | hb19
              · rw [condT hb19] at h
                refine awp_condT (boT hb19) ?_
                refine awp_seq ?_
                refine awp_region ?_
                refine arun_do rfl rfl rfl (ex_move (eV (v := (GV 0 v9.length)) rfl)) ?_
                refine arun_do rfl rfl rfl (ex_move (eV (v := (I v8)) rfl)) ?_
                refine arun_do rfl rfl rfl (ex_move (eV (v := (U8 x14)) rfl)) ?_
                obtain ⟨x20, hx20, h⟩ := bindS h
                refine arun_do rfl rfl rfl (ex_bin (vx := (U8 x14)) (vy := (U8 16)) rfl rfl (quo8_ok hx20)) ?_
                refine arun_do rfl rfl rfl (tx_8_64 Tryd.underlying5 Tryd.underlying3 rfl) ?_
                obtain ⟨x21, hx21, h⟩ := bindS h
                refine arun_do rfl rfl rfl (tx_idxG (c := c_api_Node) (xs := v9) (i := v8) ce_api_Node Tryd.underlying25 s_32 rfl rfl rfl rfl hx21) ?_
                refine arun_do rfl rfl rfl (ex_fieldAddr (v := (GP 0 ((v8.toNat * 5) + 4) (List.flatMap c_api_Node v9).length)) Tryd.underlying32 rfl s_3 (by decide) rfl rfl) ?_
                obtain ⟨x22, hx22, h⟩ := bindS h
                refine arun_do0 rfl rfl (tx_stGp (c := c_api_Node) (xs := v9) (e := x21) (e' := (G_api_Node.mk x21.Kind x21.Up x21.Name x21.Body (x20.toNat : Int))) (off := 4) (vs := [(I (x20.toNat : Int))]) (H' := ⟨1, [(0, ⟨5, ((x22).flatMap c_api_Node), true⟩)]⟩) ce_api_Node s_3 rfl (by first | rfl | omega) (eV (v := (I (x20.toNat : Int))) rfl) rfl rfl hx21 (Nat.le_of_ble_eq_true rfl) (by kernel_rfl) rfl (List.cons_ne_nil _ _) hx22 rfl) ?_
                refine arun_fewer (T' := [(3, (LP 0 0)), (5, (SL 5 c_api_Node x5.1)), (6, (GV 0 x22.length)), (7, (Bo v7)), (8, (I v8)), (9, (U8 x14)), (45, (Bo ((x17.Kind == 1) && (x18 == 0)))), (46, (GV 0 x22.length)), (47, (I v8)), (48, (U8 x14)), (49, (U8 x20)), (50, (I (x20.toNat : Int)))]) (ReT.keep (v := (LP 0 0)) rfl (ReT.keep (v := (SL 5 c_api_Node x5.1)) rfl (ReT.gv rfl (setI_len hx22) (ReT.keep (v := (Bo v7)) rfl (ReT.keep (v := (I v8)) rfl (ReT.keep (v := (U8 x14)) rfl (ReT.keep (v := (Bo ((x17.Kind == 1) && (x18 == 0)))) rfl (ReT.gv rfl (setI_len hx22) (ReT.keep (v := (I v8)) rfl (ReT.keep (v := (U8 x14)) rfl (ReT.keep (v := (U8 x20)) rfl (ReT.keep (v := (I (x20.toNat : Int))) rfl ReT.nil)))))))))))) ?_
                refine arun_keepE [3, 5, 6, 7, 8, 9] 1 1 (st' := ⟨103, 0, [(3, (LP 0 0)), (5, (SL 5 c_api_Node x5.1)), (6, (GV 0 x22.length)), (7, (Bo v7)), (8, (I v8)), (9, (U8 x14))], [((cA7 c8) t1)], ⟨1, [(0, ⟨5, ((x22).flatMap c_api_Node), true⟩)]⟩⟩) (by kernel_rfl) (by kernel_rfl) ?_
                show AWp _ _ _ _
                refine awp_region ?_
                refine arun_do rfl rfl rfl (ex_move (eV (v := (Bo v7)) rfl)) ?_
                refine arun_do rfl rfl rfl (ex_move (eV (v := (Bo v7)) rfl)) ?_
                refine arun_guard (v := (U8 x14)) (v7 == false) rfl rfl rfl (fun hc => ex_move (eV (v := (U8 x14)) rfl)) ?_
                obtain ⟨x23, hx23, h⟩ := bindS h
                refine arun_guard (v := (U8 x23)) (v7 == false) rfl rfl rfl (fun hc => ex_bin (vx := (U8 x14)) (vy := (U8 16)) (cond_of hc) rfl (quo8_ok (gd_of hc hx23))) ?_
                refine arun_guard (v := (Bo (decide (x23 > 0)))) (v7 == false) rfl rfl rfl (fun hc => ex_bin (vx := (U8 x23)) (vy := (U8 0)) (cond_of hc) rfl gtr8_ok) ?_
                refine arun_do rfl rfl rfl (ex_pick rfl pkOr) ?_
                refine arun_do rfl rfl rfl (ex_assign (eV (v := (Bo (v7 || (decide (x23 > 0))))) rfl)) ?_
                refine arun_keepE [3, 5, 6, 7, 8, 9] 1 1 (st' := ⟨103, 0, [(3, (LP 0 0)), (5, (SL 5 c_api_Node x5.1)), (6, (GV 0 x22.length)), (7, (Bo (v7 || (decide (x23 > 0))))), (8, (I v8)), (9, (U8 x14))], [((cA7 c8) t1)], ⟨1, [(0, ⟨5, ((x22).flatMap c_api_Node), true⟩)]⟩⟩) (by kernel_rfl) (by kernel_rfl) ?_
                exact (Exists.intro (v7 || (decide (x23 > 0))) (Exists.intro x22 (And.intro rfl h)))
              · rw [condF hb19] at h
                refine awp_condF (boF hb19) ?_
                refine awp_keepE [3, 5, 6, 7, 8, 9] 1 1 (st' := ⟨103, 0, [(3, (LP 0 0)), (5, (SL 5 c_api_Node x5.1)), (6, (GV 0 v9.length)), (7, (Bo v7)), (8, (I v8)), (9, (U8 x14))], [((cA7 c8) t1)], ⟨1, [(0, ⟨5, ((v9).flatMap c_api_Node), true⟩)]⟩⟩) (by kernel_rfl) (by kernel_rfl) ?_
                refine awp_skip ?_
                exact (Exists.intro v7 (Exists.intro v9 (And.intro rfl h)))
            · rintro s ⟨y15, y16, rfl, h⟩
              unfold M_law12_NodeLost_k2 at h
              refine awp_seq ?_
              refine awp_region ?_
              refine arun_do rfl rfl rfl (ex_move (eV (v := (U8 x14)) rfl)) ?_
              obtain ⟨x24, hx24, h⟩ := bindS h
              refine arun_do rfl rfl rfl (ex_bin (vx := (U8 x14)) (vy := (U8 3)) rfl rfl (rem8_ok hx24)) ?_
              refine arun_do rfl rfl rfl (ex_bin (vx := (U8 x24)) (vy := (U8 1)) rfl rfl eql8_ok) ?_
              refine arun_do rfl rfl rfl (ex_move (eV (v := (Bo (x24 == 1))) rfl)) ?_
              refine arun_guard (v := (GV 0 y16.length)) ((x24 == 1) == true) rfl rfl rfl (fun hc => ex_move (eV (v := (GV 0 y16.length)) rfl)) ?_
              refine arun_guard (v := (I v8)) ((x24 == 1) == true) rfl rfl rfl (fun hc => ex_move (eV (v := (I v8)) rfl)) ?_
              obtain ⟨x25, hx25, h⟩ := bindS h
              refine arun_guard (v := (GP 0 (v8.toNat * 5) (List.flatMap c_api_Node y16).length)) ((x24 == 1) == true) rfl rfl rfl (fun hc => tx_idxG (c := c_api_Node) (xs := y16) (i := v8) ce_api_Node Tryd.underlying25 s_32 (cond_of hc) (cond_of hc) rfl rfl (gd_of hc hx25)) ?_
              refine arun_guard (v := (GP 0 ((v8.toNat * 5) + 0) (List.flatMap c_api_Node y16).length)) ((x24 == 1) == true) rfl rfl rfl (fun hc => ex_fieldAddr (v := (GP 0 ((v8.toNat * 5) + 0) (List.flatMap c_api_Node y16).length)) Tryd.underlying32 rfl s_3 (by decide) (cond_of hc) rfl) ?_
              refine arun_guard (v := (I x25.Kind)) ((x24 == 1) == true) rfl rfl rfl (fun hc => tx_ldG (v := (I x25.Kind)) (s := 5) (cond_of hc) rfl (part_elem (off := 0) (v := (I x25.Kind)) ce_api_Node (gd_of hc hx25) Tryd.underlying3 rfl (by decide) rfl)) ?_
              refine arun_guard (v := (Bo (x25.Kind != 0))) ((x24 == 1) == true) rfl rfl rfl (fun hc => ex_bin (vx := (I x25.Kind)) (vy := (I 0)) (cond_of hc) rfl neqI_ok) ?_
              refine arun_guard (v := (Bo (x25.Kind != 0))) ((x24 == 1) == true) rfl rfl rfl (fun hc => ex_move (eV (v := (Bo (x25.Kind != 0))) (cond_of hc))) ?_
              refine arun_guard (v := (U8 x14)) (((x24 == 1) == true) && ((x25.Kind != 0) == false)) rfl rfl gv_nest (fun hc => ex_move (eV (v := (U8 x14)) rfl)) ?_
              refine arun_guard (v := (Bo (decide (x14 > 100)))) (((x24 == 1) == true) && ((x25.Kind != 0) == false)) rfl rfl gv_nest (fun hc => ex_bin (vx := (U8 x14)) (vy := (U8 100)) (cond_of hc) rfl gtr8_ok) ?_
              refine arun_guard (v := (Bo ((x25.Kind != 0) || (decide (x14 > 100))))) ((x24 == 1) == true) rfl rfl rfl (fun hc => ex_pick (cond_of hc) (pkOrN hc)) ?_
              refine arun_do rfl rfl rfl (ex_pick rfl pkAnd) ?_
              refine arun_keepE [3, 5, 6, 7, 8, 73] 1 1 (st' := ⟨103, 0, [(3, (LP 0 0)), (5, (SL 5 c_api_Node x5.1)), (6, (GV 0 y16.length)), (7, (Bo y15)), (8, (I v8)), (73, (Bo ((x24 == 1) && ((x25.Kind != 0) || (decide (x14 > 100))))))], [((cA7 c8) t1)], ⟨1, [(0, ⟨5, ((y16).flatMap c_api_Node), true⟩)]⟩⟩) (by kernel_rfl) (by kernel_rfl) ?_
              show AWp _ _ _ _
              rcases Bool.eq_false_or_eq_true ((x24 == 1) && ((x25.Kind != 0) || (decide (x14 > 100)))) with hb26 | hb26
              · rw [condT hb26] at h
                refine awp_condT (boT hb26) ?_
                refine awp_seq ?_
                refine awp_region ?_
                refine arun_do rfl rfl rfl (ex_move (eV (v := (GV 0 y16.length)) rfl)) ?_
                refine arun_do rfl rfl rfl (ex_move (eV (v := (I v8)) rfl)) ?_
                refine arun_do rfl rfl rfl (ex_build (qs := [(0, (I 3))]) (v := (Value.agg (c_api_Node (G_api_Node.mk 3 0 [] [] 0)).toArray)) (evp rfl evp_nil) (by kernel_rfl)) ?_
                obtain ⟨x27, hx27, h⟩ := bindS h
                refine arun_do rfl rfl rfl (tx_idxG (c := c_api_Node) (xs := y16) (i := v8) ce_api_Node Tryd.underlying25 s_32 rfl rfl rfl rfl hx27) ?_
                obtain ⟨x28, hx28, h⟩ := bindS h
                refine arun_do0 rfl rfl (tx_stG (c := c_api_Node) (xs := y16) (e := (G_api_Node.mk 3 0 [] [] 0)) (H' := ⟨1, [(0, ⟨5, ((x28).flatMap c_api_Node), true⟩)]⟩) ce_api_Node s_32 rfl (eV (v := (Value.agg (c_api_Node (G_api_Node.mk 3 0 [] [] 0)).toArray)) rfl) rfl rfl hx28 rfl) ?_
                refine arun_fewer (T' := [(3, (LP 0 0)), (5, (SL 5 c_api_Node x5.1)), (6, (GV 0 x28.length)), (7, (Bo y15)), (8, (I v8)), (73, (Bo ((x24 == 1) && ((x25.Kind != 0) || (decide (x14 > 100)))))), (74, (GV 0 x28.length)), (75, (I v8)), (76, (Value.agg (c_api_Node (G_api_Node.mk 3 0 [] [] 0)).toArray))]) (ReT.keep (v := (LP 0 0)) rfl (ReT.keep (v := (SL 5 c_api_Node x5.1)) rfl (ReT.gv rfl (setI_len hx28) (ReT.keep (v := (Bo y15)) rfl (ReT.keep (v := (I v8)) rfl (ReT.keep (v := (Bo ((x24 == 1) && ((x25.Kind != 0) || (decide (x14 > 100)))))) rfl (ReT.gv rfl (setI_len hx28) (ReT.keep (v := (I v8)) rfl (ReT.keep (v := (Value.agg (c_api_Node (G_api_Node.mk 3 0 [] [] 0)).toArray)) rfl ReT.nil))))))))) ?_
                refine arun_keepE [3, 5, 6, 8] 1 1 (st' := ⟨103, 0, [(3, (LP 0 0)), (5, (SL 5 c_api_Node x5.1)), (6, (GV 0 x28.length)), (8, (I v8))], [((cA7 c8) t1)], ⟨1, [(0, ⟨5, ((x28).flatMap c_api_Node), true⟩)]⟩⟩) (by kernel_rfl) (by kernel_rfl) ?_
                show AWp _ _ _ _
                refine awp_region ?_
                refine arun_do rfl rfl rfl (ex_assign (eV (v := (Bo true)) rfl)) ?_
                refine arun_keepE [3, 5, 6, 7, 8] 1 1 (st' := ⟨103, 0, [(3, (LP 0 0)), (5, (SL 5 c_api_Node x5.1)), (6, (GV 0 x28.length)), (7, (Bo true)), (8, (I v8))], [((cA7 c8) t1)], ⟨1, [(0, ⟨5, ((x28).flatMap c_api_Node), true⟩)]⟩⟩) (by kernel_rfl) (by kernel_rfl) ?_
                exact (Exists.intro true (Exists.intro x28 (And.intro rfl h)))
              · rw [condF hb26] at h
                refine awp_condF (boF hb26) ?_
                refine awp_keepE [3, 5, 6, 7, 8] 1 1 (st' := ⟨103, 0, [(3, (LP 0 0)), (5, (SL 5 c_api_Node x5.1)), (6, (GV 0 y16.length)), (7, (Bo y15)), (8, (I v8))], [((cA7 c8) t1)], ⟨1, [(0, ⟨5, ((y16).flatMap c_api_Node), true⟩)]⟩⟩) (by kernel_rfl) (by kernel_rfl) ?_
                refine awp_skip ?_
                exact (Exists.intro y15 (Exists.intro y16 (And.intro rfl h)))
          · rintro s ⟨y11, y12, rfl, h⟩
            unfold M_law12_NodeLost_k1 at h
            refine awp_region ?_
            refine arun_do rfl rfl rfl (ex_move (eV (v := (I v8)) rfl)) ?_
            refine arun_do rfl rfl rfl (ex_bin (vx := (I v8)) (vy := (I 1)) rfl rfl addI_ok) ?_
            refine arun_do rfl rfl rfl (ex_assign (eV (v := (I (w64 (v8 + 1)))) rfl)) ?_
            refine arun_keepE [3, 5, 6, 7, 8] 1 1 (st' := ⟨103, 0, [(3, (LP 0 0)), (5, (SL 5 c_api_Node x5.1)), (6, (GV 0 y12.length)), (7, (Bo y11)), (8, (I (w64 (v8 + 1))))], [((cA7 c8) t1)], ⟨1, [(0, ⟨5, ((y12).flatMap c_api_Node), true⟩)]⟩⟩) (by kernel_rfl) (by kernel_rfl) ?_
            exact Exists.intro n1 (And.intro (Nat.lt_succ_self _) (Exists.intro y11 (Exists.intro (w64 (v8 + 1)) (Exists.intro y12 (And.intro rfl h)))))
        · rw [condF hb10] at h
          refine awp_condF (boF hb10) ?_
          refine awp_exit ?_
          show AWp _ _ _ _
          refine awp_seq ?_
          obtain ⟨x29, hx29, h⟩ := bindS h
          obtain ⟨x30, hx30, h⟩ := bindS h
          rcases Bool.eq_false_or_eq_true ((x29 && x30) == true) with hg18_0 | hg18_0
          · rw [condT hg18_0] at h
            refine awp_region ?_
            refine arun_do rfl rfl rfl (ex_move (eV (v := (SL 5 c_api_Node x5.1)) rfl)) ?_
            refine arun_do rfl rfl rfl (ex_call0 (vs := [(SL 5 c_api_Node x5.1)]) (v := (Bo x29)) rfl en_13 (cargs (evs rfl evs_nil)) rfl (ok_node_May x5.1 x29 hx29) rfl) ?_
            refine arun_do rfl rfl rfl (ex_move (eV (v := (Bo x29)) rfl)) ?_
            refine arun_guard (v := (SL 5 c_api_Node x5.1)) (x29 == true) rfl rfl rfl (fun hc => ex_move (eV (v := (SL 5 c_api_Node x5.1)) rfl)) ?_
            refine arun_guard (v := (Bo x30)) (x29 == true) rfl rfl rfl (fun hc => ex_call0 (vs := [(SL 5 c_api_Node x5.1)]) (v := (Bo x30)) rfl en_15 (cargs (evs (cond_of hc) evs_nil)) rfl (ok_node_Torn x5.1 x30 (gd_of hc hx30)) rfl) ?_
            refine arun_do rfl rfl rfl (ex_pick rfl pkAnd) ?_
            refine arun_do rfl rfl rfl (ex_move (eV (v := (Bo (x29 && x30))) rfl)) ?_
            refine arun_do rfl rfl (gT rfl hg18_0) (ex_move (eV (v := (GV 0 v9.length)) rfl)) ?_
            refine arun_freeze 0 (bk := ⟨5, ((v9).flatMap c_api_Node), true⟩) (T' := [(3, (LP 0 0)), (5, (SL 5 c_api_Node x5.1)), (6, (SL 5 c_api_Node v9)), (7, (Bo v7)), (8, (I v8)), (28, (Bo ((decide (v8 < ((v9.length : Nat) : Int))) && (decide (v8 < 8))))), (78, (SL 5 c_api_Node x5.1)), (79, (Bo x29)), (80, (Bo x29)), (81, (cond (x29 == true) (SL 5 c_api_Node x5.1) skipV)), (82, (cond (x29 == true) (Bo x30) skipV)), (83, (Bo (x29 && x30))), (84, (Bo (x29 && x30))), (85, (SL 5 c_api_Node v9))]) (L' := [((cA7 c8) t1)]) rfl (FzT.keep (v := (LP 0 0)) rfl (FzT.keep (v := (SL 5 c_api_Node x5.1)) rfl (fzG ce_api_Node rfl rfl (FzT.keep (v := (Bo v7)) rfl (FzT.keep (v := (I v8)) rfl (FzT.keep (v := (Bo ((decide (v8 < ((v9.length : Nat) : Int))) && (decide (v8 < 8))))) rfl (FzT.keep (v := (SL 5 c_api_Node x5.1)) rfl (FzT.keep (v := (Bo x29)) rfl (FzT.keep (v := (Bo x29)) rfl (FzT.keep (v := (cond (x29 == true) (SL 5 c_api_Node x5.1) skipV)) rfl (FzT.keep (v := (cond (x29 == true) (Bo x30) skipV)) rfl (FzT.keep (v := (Bo (x29 && x30))) rfl (FzT.keep (v := (Bo (x29 && x30))) rfl (fzG ce_api_Node rfl rfl FzT.nil)))))))))))))) (FzL.refl _) ?_
            show ARun _ _ _ _ _ ⟨103, 0, [(3, (LP 0 0)), (5, (SL 5 c_api_Node x5.1)), (6, (SL 5 c_api_Node v9)), (7, (Bo v7)), (8, (I v8)), (28, (Bo ((decide (v8 < ((v9.length : Nat) : Int))) && (decide (v8 < 8))))), (78, (SL 5 c_api_Node x5.1)), (79, (Bo x29)), (80, (Bo x29)), (81, (cond (x29 == true) (SL 5 c_api_Node x5.1) skipV)), (82, (cond (x29 == true) (Bo x30) skipV)), (83, (Bo (x29 && x30))), (84, (Bo (x29 && x30))), (85, (SL 5 c_api_Node v9))], [((cA7 c8) t1)], ⟨1, []⟩⟩
            obtain ⟨x31, hx31, h⟩ := bindS h
            refine arun_do rfl rfl (gT rfl hg18_0) (ex_call0 (vs := [(SL 5 c_api_Node v9)]) (v := (Bo x31)) rfl en_15 (cargs (evs rfl evs_nil)) rfl (ok_node_Torn v9 x31 hx31) rfl) ?_
            refine arun_do rfl rfl rfl (ex_pick rfl pkAndD) ?_
            refine arun_do rfl rfl rfl (ex_move (eV (v := (Bo ((x29 && x30) && x31))) rfl)) ?_
            refine arun_guard (v := (SL 5 c_api_Node v9)) (((x29 && x30) && x31) == true) rfl rfl rfl (fun hc => ex_move (eV (v := (SL 5 c_api_Node v9)) rfl)) ?_
            obtain ⟨x32, hx32, h⟩ := bindS h
            refine arun_guard (v := (Bo x32)) (((x29 && x30) && x31) == true) rfl rfl rfl (fun hc => ex_call0 (vs := [(SL 5 c_api_Node v9)]) (v := (Bo x32)) rfl en_13 (cargs (evs (cond_of hc) evs_nil)) rfl (ok_node_May v9 x32 (gd_of hc hx32)) rfl) ?_
            refine arun_guard (v := (Bo v7)) (((x29 && x30) && x31) == true) rfl rfl rfl (fun hc => ex_move (eV (v := (Bo v7)) rfl)) ?_
            refine arun_guard (v := (Bo (!v7))) (((x29 && x30) && x31) == true) rfl rfl rfl (fun hc => ex_un (vx := (Bo v7)) (cond_of hc) notB_ok) ?_
            refine arun_guard (v := (Bo (x32 == (!v7)))) (((x29 && x30) && x31) == true) rfl rfl rfl (fun hc => ex_bin (vx := (Bo x32)) (vy := (Bo (!v7))) (cond_of hc) (cond_of hc) (eqlB_ok Tryd.underlying4)) ?_
            refine arun_do rfl rfl rfl (ex_pick rfl pkAnd) ?_
            refine arun_do rfl rfl rfl (ex_move (eV (v := (Bo (((x29 && x30) && x31) && (x32 == (!v7))))) rfl)) ?_
            refine arun_guard (v := (SL 5 c_api_Node x5.1)) ((((x29 && x30) && x31) && (x32 == (!v7))) == true) rfl rfl rfl (fun hc => ex_move (eV (v := (SL 5 c_api_Node x5.1)) rfl)) ?_
            refine arun_guard (v := (SL 5 c_api_Node v9)) ((((x29 && x30) && x31) && (x32 == (!v7))) == true) rfl rfl rfl (fun hc => ex_move (eV (v := (SL 5 c_api_Node v9)) rfl)) ?_
            obtain ⟨x33, hx33, h⟩ := bindS h
            refine arun_guard (v := (Bo x33)) ((((x29 && x30) && x31) && (x32 == (!v7))) == true) rfl rfl rfl (fun hc => ex_call0 (vs := [(SL 5 c_api_Node x5.1), (SL 5 c_api_Node v9)]) (v := (Bo x33)) rfl en_16 (cargs (evs (cond_of hc) (evs (cond_of hc) evs_nil))) rfl (ok_node_Same x5.1 v9 x33 (gd_of hc hx33)) rfl) ?_
            refine arun_guard (v := (Bo v7)) ((((x29 && x30) && x31) && (x32 == (!v7))) == true) rfl rfl rfl (fun hc => ex_move (eV (v := (Bo v7)) rfl)) ?_
            refine arun_guard (v := (Bo (!v7))) ((((x29 && x30) && x31) && (x32 == (!v7))) == true) rfl rfl rfl (fun hc => ex_un (vx := (Bo v7)) (cond_of hc) notB_ok) ?_
            refine arun_guard (v := (Bo (x33 == (!v7)))) ((((x29 && x30) && x31) && (x32 == (!v7))) == true) rfl rfl rfl (fun hc => ex_bin (vx := (Bo x33)) (vy := (Bo (!v7))) (cond_of hc) (cond_of hc) (eqlB_ok Tryd.underlying4)) ?_
            refine arun_do rfl rfl rfl (ex_pick rfl pkAnd) ?_
            refine arun_do rfl rfl rfl (ex_assign (eV (v := (Bo ((((x29 && x30) && x31) && (x32 == (!v7))) && (x33 == (!v7))))) rfl)) ?_
            refine arun_keepE [4] 0 0 (st' := ⟨103, 0, [(4, (Bo ((((x29 && x30) && x31) && (x32 == (!v7))) && (x33 == (!v7)))))], [], ⟨0, []⟩⟩) (by kernel_rfl) (by kernel_rfl) ?_
            show AWp _ _ _ _
            refine awp_ret ?_
            cases h
            exact ares1 (rtmp rfl (eV rfl))
          · rw [condF hg18_0] at h
            refine awp_region ?_
            refine arun_do rfl rfl rfl (ex_move (eV (v := (SL 5 c_api_Node x5.1)) rfl)) ?_
            refine arun_do rfl rfl rfl (ex_call0 (vs := [(SL 5 c_api_Node x5.1)]) (v := (Bo x29)) rfl en_13 (cargs (evs rfl evs_nil)) rfl (ok_node_May x5.1 x29 hx29) rfl) ?_
            refine arun_do rfl rfl rfl (ex_move (eV (v := (Bo x29)) rfl)) ?_
            refine arun_guard (v := (SL 5 c_api_Node x5.1)) (x29 == true) rfl rfl rfl (fun hc => ex_move (eV (v := (SL 5 c_api_Node x5.1)) rfl)) ?_
            refine arun_guard (v := (Bo x30)) (x29 == true) rfl rfl rfl (fun hc => ex_call0 (vs := [(SL 5 c_api_Node x5.1)]) (v := (Bo x30)) rfl en_15 (cargs (evs (cond_of hc) evs_nil)) rfl (ok_node_Torn x5.1 x30 (gd_of hc hx30)) rfl) ?_
            refine arun_do rfl rfl rfl (ex_pick rfl pkAnd) ?_
            refine arun_do rfl rfl rfl (ex_move (eV (v := (Bo (x29 && x30))) rfl)) ?_
            refine arun_skip rfl rfl (gF rfl hg18_0) ?_
            refine arun_skip rfl rfl (gF rfl hg18_0) ?_
            refine arun_do rfl rfl rfl (ex_pick rfl (pkAndS hg18_0)) ?_
            refine arun_do rfl rfl rfl (ex_move (eV (v := (Bo (x29 && x30))) rfl)) ?_
            refine arun_skip rfl rfl (gF rfl hg18_0) ?_
            refine arun_skip rfl rfl (gF rfl hg18_0) ?_
            refine arun_skip rfl rfl (gF rfl hg18_0) ?_
            refine arun_skip rfl rfl (gF rfl hg18_0) ?_
            refine arun_skip rfl rfl (gF rfl hg18_0) ?_
            refine arun_do rfl rfl rfl (ex_pick rfl (pkAndS hg18_0)) ?_
            refine arun_do rfl rfl rfl (ex_move (eV (v := (Bo (x29 && x30))) rfl)) ?_
            refine arun_skip rfl rfl (gF rfl hg18_0) ?_
            refine arun_skip rfl rfl (gF rfl hg18_0) ?_
            refine arun_skip rfl rfl (gF rfl hg18_0) ?_
            refine arun_skip rfl rfl (gF rfl hg18_0) ?_
            refine arun_skip rfl rfl (gF rfl hg18_0) ?_
            refine arun_skip rfl rfl (gF rfl hg18_0) ?_
            refine arun_do rfl rfl rfl (ex_pick rfl (pkAndS hg18_0)) ?_
            refine arun_do rfl rfl rfl (ex_assign (eV (v := (Bo (x29 && x30))) rfl)) ?_
            refine arun_keepE [4] 0 0 (st' := ⟨103, 0, [(4, (Bo (x29 && x30)))], [], ⟨0, []⟩⟩) (by kernel_rfl) (by kernel_rfl) ?_
            show AWp _ _ _ _
            refine awp_ret ?_
            cases h
            exact ares1 (rtmp rfl (eV rfl))

end Go.Proofs
