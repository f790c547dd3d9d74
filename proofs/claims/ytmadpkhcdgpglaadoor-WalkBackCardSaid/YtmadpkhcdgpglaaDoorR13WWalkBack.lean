/- Pure models of functions of the program, and that its code does what they say: palimplaw13 WalkBack. Written by a program. -/
import Derived.Test.YtmadpkhcdgpglaaDoorR1313
import Derived.Test.YtmadpkhcdgpglaaDoorR136
import Derived.Test.YtmadpkhcdgpglaaDoorR137
import Derived.Test.YtmadpkhcdgpglaaDoorR138
import Derived.Test.YtmadpkhcdgpglaaDoorR13B
set_option maxRecDepth 20000
set_option maxHeartbeats 4000000
namespace Go.Proofs
open Go Go.Fhl
set_option linter.unusedVariables false
set_option linter.unusedSimpArgs false
noncomputable def M_law13_WalkBack_k1 (c_1 : (Int → Option Bool)) (x5 : ((List G_api_Node) × G_palimpmade_Picks)) (v6 : Int) : Option Bool :=
  c_1 (w64 (v6 + 1))
noncomputable def M_law13_WalkBack_l2 (c_1 : (Int → Option Bool)) (x5 : ((List G_api_Node) × G_palimpmade_Picks)) (v6 : Int) (x8 : (Str × Bool)) : Nat → Int → Option Bool
  | 0, _ => none
  | n2 + 1, v14 =>
  cond (decide (v14 < (x5.1.length : Int))) (Option.bind (M_walk_Way x5.1 v14) fun (x16 : (Str × Bool)) => Option.bind (gd (((x16.2 == true) && (((v6 == 0) || (x16.1 == x8.1)) == false)) && ((decide ((x16.1.length : Int) > (x8.1.length : Int))) == true)) (slL x16.1 0 (w64 ((x8.1.length : Int) + 1)))) fun (x17 : Str) => Option.bind (gd (((x16.2 == true) && (((v6 == 0) || (x16.1 == x8.1)) == false)) && ((decide ((x16.1.length : Int) > (x8.1.length : Int))) == true)) (addS x8.1 ([47] : Str))) fun (x18 : Str) => Option.bind (M_walk_Within x5.1 v14 v6) fun (x19 : Bool) => cond (x19 != (x16.2 && (((v6 == 0) || (x16.1 == x8.1)) || ((decide ((x16.1.length : Int) > (x8.1.length : Int))) && (x17 == x18))))) (some false) ((M_law13_WalkBack_l2 c_1 x5 v6 x8 n2) (w64 (v14 + 1)))) (M_law13_WalkBack_k1 c_1 x5 v6)
noncomputable def M_law13_WalkBack_l1 (x5 : ((List G_api_Node) × G_palimpmade_Picks)) : Nat → Int → Option Bool
  | 0, _ => none
  | n1 + 1, v6 =>
  cond (decide (v6 < (x5.1.length : Int))) (Option.bind (M_walk_Way x5.1 v6) fun (x8 : (Str × Bool)) => Option.bind (getI x5.1 v6) fun (x9 : G_api_Node) => cond (x8.2 != (x9.Kind != 0)) (some false) (cond (!x8.2) (M_law13_WalkBack_k1 (M_law13_WalkBack_l1 x5 n1) x5 v6) (Option.bind (M_walk_Find x5.1 x8.1) fun (x12 : (Int × Int)) => cond ((x12.1 != v6) || (x12.2 != 0)) (some false) (M_law13_WalkBack_l2 (M_law13_WalkBack_l1 x5 n1) x5 v6 x8 fuel 0)))) (some true)
noncomputable def M_law13_WalkBack (t0 : (List UInt8)) : Option Bool :=
  Option.bind (M_law13_begun) fun (x1 : Bool) => cond (!x1) (some false) (cond (decide ((t0.length : Int) > 60)) (some true) (Option.bind (M_made_Made t0) fun (x4 : G_palimpmade_Picks) => Option.bind (M_made_Picks_Set x4 25) fun (x5 : ((List G_api_Node) × G_palimpmade_Picks)) => M_law13_WalkBack_l1 x5 fuel 0))
theorem ok_law13_WalkBack (t0 : (List UInt8)) (r : Bool) (h : M_law13_WalkBack t0 = some r) : FFn Tryd.prog 3 [(SL 1 c8 t0)] (Bo r) := by
  refine FFn.of_body (n := 101) Tryd.func3 rfl Tryd.ntmps3 rfl rfl rfl rfl ?_
  show AWp _ _ _ ⟨101, 0, [(0, (SL 1 c8 t0))], [], ⟨0, []⟩⟩
  unfold M_law13_WalkBack at h
  refine awp_seq ?_
  refine awp_region ?_
  refine arun_do rfl rfl rfl (ex_assign (eV (v := (Bo false)) rfl)) ?_
  refine arun_keepE [0] 0 0 (st' := ⟨101, 0, [(0, (SL 1 c8 t0))], [], ⟨0, []⟩⟩) (by kernel_rfl) (by kernel_rfl) ?_
  show AWp _ _ _ _
  refine awp_seq ?_
  refine awp_seq ?_
  refine awp_region ?_
  obtain ⟨x1, hx1, h⟩ := bindS h
  refine arun_do rfl rfl rfl (ex_call0 (vs := []) (v := (Bo x1)) rfl en_7 (cargs evs_nil) rfl (ok_law13_begun  x1 hx1) rfl) ?_
  refine arun_do rfl rfl rfl (ex_un (vx := (Bo x1)) rfl notB_ok) ?_
  refine arun_keepE [0, 14] 0 0 (st' := ⟨101, 0, [(0, (SL 1 c8 t0)), (14, (Bo (!x1)))], [], ⟨0, []⟩⟩) (by kernel_rfl) (by kernel_rfl) ?_
  show AWp _ _ _ _
  rcases Bool.eq_false_or_eq_true (!x1) with hb2 | hb2
  · rw [condT hb2] at h
    refine awp_condT (boT hb2) ?_
    refine awp_seq ?_
    refine awp_region ?_
    refine arun_do rfl rfl rfl (ex_assign (eV (v := (Bo false)) rfl)) ?_
    refine arun_keepE [2] 0 0 (st' := ⟨101, 0, [(2, (Bo false))], [], ⟨0, []⟩⟩) (by kernel_rfl) (by kernel_rfl) ?_
    show AWp _ _ _ _
    refine awp_ret ?_
    cases h
    exact ares1 (rtmp rfl (eV rfl))
  · rw [condF hb2] at h
    refine awp_condF (boF hb2) ?_
    refine awp_skip ?_
    show AWp _ _ _ _
    refine awp_seq ?_
    refine awp_seq ?_
    refine awp_region ?_
    refine arun_do rfl rfl rfl (ex_move (eV (v := (SL 1 c8 t0)) rfl)) ?_
    refine arun_do rfl rfl rfl (tx_lenD (xs := t0) ce8 Tryd.underlying22 rfl) ?_
    refine arun_do rfl rfl rfl (ex_bin (vx := (I (t0.length : Int))) (vy := (I 60)) rfl rfl gtrI_ok) ?_
    refine arun_keepE [0, 17] 0 0 (st' := ⟨101, 0, [(0, (SL 1 c8 t0)), (17, (Bo (decide ((t0.length : Int) > 60))))], [], ⟨0, []⟩⟩) (by kernel_rfl) (by kernel_rfl) ?_
    show AWp _ _ _ _
    rcases Bool.eq_false_or_eq_true (decide ((t0.length : Int) > 60)) with hb3 | hb3
    · rw [condT hb3] at h
      refine awp_condT (boT hb3) ?_
      refine awp_seq ?_
      refine awp_region ?_
      refine arun_do rfl rfl rfl (ex_assign (eV (v := (Bo true)) rfl)) ?_
      refine arun_keepE [2] 0 0 (st' := ⟨101, 0, [(2, (Bo true))], [], ⟨0, []⟩⟩) (by kernel_rfl) (by kernel_rfl) ?_
      show AWp _ _ _ _
      refine awp_ret ?_
      cases h
      exact ares1 (rtmp rfl (eV rfl))
    · rw [condF hb3] at h
      refine awp_condF (boF hb3) ?_
      refine awp_skip ?_
      show AWp _ _ _ _
      refine awp_seq ?_
      refine awp_region ?_
      refine arun_do rfl rfl rfl (ex_move (eV (v := (SL 1 c8 t0)) rfl)) ?_
      obtain ⟨x4, hx4, h⟩ := bindS h
      refine arun_do rfl rfl rfl (ex_callNew (vs := [(SL 1 c8 t0)]) (k := 0) (b := ⟨1, (c_palimpmade_Picks x4), false⟩) (H' := ⟨1, [(0, ⟨1, (c_palimpmade_Picks x4), false⟩)]⟩) rfl en_8 (cargs (evs rfl evs_nil)) rfl (ok_made_Made t0 x4 hx4) rfl rfl rfl) ?_
      obtain ⟨x5, hx5, h⟩ := bindS h
      refine arun_do rfl rfl rfl (ex_call1 (vs := [(NP 0 0), (I 25)]) (vs' := [(NP 0 0), (I 25)]) (v := (SL 5 c_api_Node x5.1)) (n := 0) (b := ⟨1, (c_palimpmade_Picks x4), false⟩) (b' := ⟨1, (c_palimpmade_Picks x5.2), false⟩) (H' := ⟨1, [(0, ⟨1, (c_palimpmade_Picks x5.2), false⟩)]⟩) rfl en_9 (cargs (evs rfl (evs rfl evs_nil))) rfl rfl (.cons (.inr ⟨_, rfl, rfl⟩) (.cons (.inl ⟨rfl, rfl⟩) .nil)) (ok_made_Picks_Set x4 25 x5 hx5) rfl rfl) ?_
      refine arun_do rfl rfl rfl (ex_assign (eV (v := (SL 5 c_api_Node x5.1)) rfl)) ?_
      refine arun_keepE [3] 0 0 (st' := ⟨101, 0, [(3, (SL 5 c_api_Node x5.1))], [], ⟨0, []⟩⟩) (by kernel_rfl) (by kernel_rfl) ?_
      show AWp _ _ _ _
      refine awp_seq ?_
      refine awp_seq ?_
      refine awp_region ?_
      refine arun_do rfl rfl rfl (ex_assign (eV (v := (I 0)) rfl)) ?_
      refine arun_keepE [3, 4] 0 0 (st' := ⟨101, 0, [(3, (SL 5 c_api_Node x5.1)), (4, (I 0))], [], ⟨0, []⟩⟩) (by kernel_rfl) (by kernel_rfl) ?_
      show AWp _ _ _ _
      refine awp_block ?_
      refine awp_loop (fun n s => ∃ (v6 : Int), s = ⟨101, 0, [(3, (SL 5 c_api_Node x5.1)), (4, (I v6))], [], ⟨0, []⟩⟩ ∧ M_law13_WalkBack_l1 x5 n v6 = some r) fuel (Exists.intro 0 (And.intro rfl h)) ?_
      rintro n s ⟨v6, rfl, h⟩ -
      cases n with
      | zero => cases h
      | succ n1 =>
        unfold M_law13_WalkBack_l1 at h
        refine awp_seq ?_
        refine awp_seq ?_
        refine awp_region ?_
        refine arun_do rfl rfl rfl (ex_move (eV (v := (I v6)) rfl)) ?_
        refine arun_do rfl rfl rfl (ex_move (eV (v := (SL 5 c_api_Node x5.1)) rfl)) ?_
        refine arun_do rfl rfl rfl (tx_lenD (xs := x5.1) ce_api_Node Tryd.underlying25 rfl) ?_
        refine arun_do rfl rfl rfl (ex_bin (vx := (I v6)) (vy := (I (x5.1.length : Int))) rfl rfl lssI_ok) ?_
        refine arun_keepE [3, 4, 24] 0 0 (st' := ⟨101, 0, [(3, (SL 5 c_api_Node x5.1)), (4, (I v6)), (24, (Bo (decide (v6 < (x5.1.length : Int)))))], [], ⟨0, []⟩⟩) (by kernel_rfl) (by kernel_rfl) ?_
        show AWp _ _ _ _
        rcases Bool.eq_false_or_eq_true (decide (v6 < (x5.1.length : Int))) with hb7 | hb7
        · rw [condT hb7] at h
          refine awp_condT (boT hb7) ?_
          refine awp_skip ?_
          show AWp _ _ _ _
          refine awp_seqJ (fun s => s = ⟨101, 0, [(3, (SL 5 c_api_Node x5.1)), (4, (I v6))], [], ⟨0, []⟩⟩ ∧ M_law13_WalkBack_k1 (M_law13_WalkBack_l1 x5 n1) x5 v6 = some r) ?_ ?_
          · refine awp_block ?_
            refine awp_seq ?_
            refine awp_region ?_
            refine arun_do rfl rfl rfl (ex_move (eV (v := (SL 5 c_api_Node x5.1)) rfl)) ?_
            refine arun_do rfl rfl rfl (ex_move (eV (v := (I v6)) rfl)) ?_
            obtain ⟨x8, hx8, h⟩ := bindS h
            refine arun_do rfl rfl rfl (ex_call0 (vs := [(SL 5 c_api_Node x5.1), (I v6)]) (v := (Value.tuple #[(S x8.1), (Bo x8.2)])) rfl en_10 (cargs (evs rfl (evs rfl evs_nil))) rfl (ok_walk_Way x5.1 v6 x8 hx8) rfl) ?_
            refine arun_do rfl rfl rfl (ex_move (eV (v := (Value.tuple #[(S x8.1), (Bo x8.2)])) rfl)) ?_
            refine arun_do rfl rfl rfl (ex_extract (vx := (Value.tuple #[(S x8.1), (Bo x8.2)])) (v := (S x8.1)) rfl rfl) ?_
            refine arun_do rfl rfl rfl (ex_extract (vx := (Value.tuple #[(S x8.1), (Bo x8.2)])) (v := (Bo x8.2)) rfl rfl) ?_
            refine arun_do rfl rfl rfl (ex_assign (eV (v := (S x8.1)) rfl)) ?_
            refine arun_do rfl rfl rfl (ex_assign (eV (v := (Bo x8.2)) rfl)) ?_
            refine arun_keepE [3, 4, 5, 6] 0 0 (st' := ⟨101, 0, [(3, (SL 5 c_api_Node x5.1)), (4, (I v6)), (5, (S x8.1)), (6, (Bo x8.2))], [], ⟨0, []⟩⟩) (by kernel_rfl) (by kernel_rfl) ?_
            show AWp _ _ _ _
            refine awp_seq ?_
            refine awp_seq ?_
            refine awp_region ?_
            refine arun_do rfl rfl rfl (ex_move (eV (v := (Bo x8.2)) rfl)) ?_
            refine arun_do rfl rfl rfl (ex_move (eV (v := (SL 5 c_api_Node x5.1)) rfl)) ?_
            refine arun_do rfl rfl rfl (ex_move (eV (v := (I v6)) rfl)) ?_
            obtain ⟨x9, hx9, h⟩ := bindS h
            refine arun_do rfl rfl rfl (tx_idxD (c := c_api_Node) (xs := x5.1) (i := v6) ce_api_Node Tryd.underlying25 s_32 rfl rfl hx9) ?_
            refine arun_do rfl rfl rfl (ex_fieldAddrD (vs := (List.drop 0 (c_api_Node x9))) Tryd.underlying32 rfl s_3 (by decide) rfl rfl) ?_
            refine arun_do rfl rfl rfl (tx_ldD1 (v := (I x9.Kind)) Tryd.underlying3 rfl rfl rfl) ?_
            refine arun_do rfl rfl rfl (ex_bin (vx := (I x9.Kind)) (vy := (I 0)) rfl rfl neqI_ok) ?_
            refine arun_do rfl rfl rfl (ex_bin (vx := (Bo x8.2)) (vy := (Bo (x9.Kind != 0))) rfl rfl (neqB_ok Tryd.underlying4)) ?_
            refine arun_keepE [3, 4, 5, 6, 40] 0 0 (st' := ⟨101, 0, [(3, (SL 5 c_api_Node x5.1)), (4, (I v6)), (5, (S x8.1)), (6, (Bo x8.2)), (40, (Bo (x8.2 != (x9.Kind != 0))))], [], ⟨0, []⟩⟩) (by kernel_rfl) (by kernel_rfl) ?_
            show AWp _ _ _ _
            rcases Bool.eq_false_or_eq_true (x8.2 != (x9.Kind != 0)) with hb10 | hb10
            · rw [condT hb10] at h
              refine awp_condT (boT hb10) ?_
              refine awp_seq ?_
              refine awp_region ?_
              refine arun_do rfl rfl rfl (ex_assign (eV (v := (Bo false)) rfl)) ?_
              refine arun_keepE [2] 0 0 (st' := ⟨101, 0, [(2, (Bo false))], [], ⟨0, []⟩⟩) (by kernel_rfl) (by kernel_rfl) ?_
              show AWp _ _ _ _
              refine awp_ret ?_
              cases h
              exact ares1 (rtmp rfl (eV rfl))
            · rw [condF hb10] at h
              refine awp_condF (boF hb10) ?_
              refine awp_skip ?_
              show AWp _ _ _ _
              refine awp_seq ?_
              refine awp_seq ?_
              refine awp_region ?_
              refine arun_do rfl rfl rfl (ex_move (eV (v := (Bo x8.2)) rfl)) ?_
              refine arun_do rfl rfl rfl (ex_un (vx := (Bo x8.2)) rfl notB_ok) ?_
              refine arun_keepE [3, 4, 5, 42] 0 0 (st' := ⟨101, 0, [(3, (SL 5 c_api_Node x5.1)), (4, (I v6)), (5, (S x8.1)), (42, (Bo (!x8.2)))], [], ⟨0, []⟩⟩) (by kernel_rfl) (by kernel_rfl) ?_
              show AWp _ _ _ _
              rcases Bool.eq_false_or_eq_true (!x8.2) with hb11 | hb11
              · rw [condT hb11] at h
                refine awp_condT (boT hb11) ?_
                refine awp_keepE [3, 4] 0 0 (st' := ⟨101, 0, [(3, (SL 5 c_api_Node x5.1)), (4, (I v6))], [], ⟨0, []⟩⟩) (by kernel_rfl) (by kernel_rfl) ?_
                refine awp_exit ?_
                exact (And.intro rfl h)
              · rw [condF hb11] at h
                refine awp_condF (boF hb11) ?_
                refine awp_skip ?_
                show AWp _ _ _ _
                refine awp_seq ?_
                refine awp_region ?_
                refine arun_do rfl rfl rfl (ex_move (eV (v := (SL 5 c_api_Node x5.1)) rfl)) ?_
                refine arun_do rfl rfl rfl (ex_move (eV (v := (S x8.1)) rfl)) ?_
                obtain ⟨x12, hx12, h⟩ := bindS h
                refine arun_do rfl rfl rfl (ex_call0 (vs := [(SL 5 c_api_Node x5.1), (S x8.1)]) (v := (Value.tuple #[(I x12.1), (I x12.2)])) rfl en_11 (cargs (evs rfl (evs rfl evs_nil))) rfl (ok_walk_Find x5.1 x8.1 x12 hx12) rfl) ?_
                refine arun_do rfl rfl rfl (ex_move (eV (v := (Value.tuple #[(I x12.1), (I x12.2)])) rfl)) ?_
                refine arun_do rfl rfl rfl (ex_extract (vx := (Value.tuple #[(I x12.1), (I x12.2)])) (v := (I x12.1)) rfl rfl) ?_
                refine arun_do rfl rfl rfl (ex_extract (vx := (Value.tuple #[(I x12.1), (I x12.2)])) (v := (I x12.2)) rfl rfl) ?_
                refine arun_do rfl rfl rfl (ex_assign (eV (v := (I x12.1)) rfl)) ?_
                refine arun_do rfl rfl rfl (ex_assign (eV (v := (I x12.2)) rfl)) ?_
                refine arun_keepE [3, 4, 5, 7, 8] 0 0 (st' := ⟨101, 0, [(3, (SL 5 c_api_Node x5.1)), (4, (I v6)), (5, (S x8.1)), (7, (I x12.1)), (8, (I x12.2))], [], ⟨0, []⟩⟩) (by kernel_rfl) (by kernel_rfl) ?_
                show AWp _ _ _ _
                refine awp_seq ?_
                refine awp_seq ?_
                refine awp_region ?_
                refine arun_do rfl rfl rfl (ex_move (eV (v := (I x12.1)) rfl)) ?_
                refine arun_do rfl rfl rfl (ex_move (eV (v := (I v6)) rfl)) ?_
                refine arun_do rfl rfl rfl (ex_bin (vx := (I x12.1)) (vy := (I v6)) rfl rfl neqI_ok) ?_
                refine arun_do rfl rfl rfl (ex_move (eV (v := (Bo (x12.1 != v6))) rfl)) ?_
                refine arun_guard (v := (I x12.2)) ((x12.1 != v6) == false) rfl rfl rfl (fun hc => ex_move (eV (v := (I x12.2)) rfl)) ?_
                refine arun_guard (v := (Bo (x12.2 != 0))) ((x12.1 != v6) == false) rfl rfl rfl (fun hc => ex_bin (vx := (I x12.2)) (vy := (I 0)) (cond_of hc) rfl neqI_ok) ?_
                refine arun_do rfl rfl rfl (ex_pick rfl pkOr) ?_
                refine arun_keepE [3, 4, 5, 55] 0 0 (st' := ⟨101, 0, [(3, (SL 5 c_api_Node x5.1)), (4, (I v6)), (5, (S x8.1)), (55, (Bo ((x12.1 != v6) || (x12.2 != 0))))], [], ⟨0, []⟩⟩) (by kernel_rfl) (by kernel_rfl) ?_
                show AWp _ _ _ _
                rcases Bool.eq_false_or_eq_true ((x12.1 != v6) || (x12.2 != 0)) with hb13 | hb13
                · rw [condT hb13] at h
                  refine awp_condT (boT hb13) ?_
                  refine awp_seq ?_
                  refine awp_region ?_
                  refine arun_do rfl rfl rfl (ex_assign (eV (v := (Bo false)) rfl)) ?_
                  refine arun_keepE [2] 0 0 (st' := ⟨101, 0, [(2, (Bo false))], [], ⟨0, []⟩⟩) (by kernel_rfl) (by kernel_rfl) ?_
                  show AWp _ _ _ _
                  refine awp_ret ?_
                  cases h
                  exact ares1 (rtmp rfl (eV rfl))
                · rw [condF hb13] at h
                  refine awp_condF (boF hb13) ?_
                  refine awp_skip ?_
                  show AWp _ _ _ _
                  refine awp_seq ?_
                  refine awp_region ?_
                  refine arun_do rfl rfl rfl (ex_assign (eV (v := (I 0)) rfl)) ?_
                  refine arun_keepE [3, 4, 5, 9] 0 0 (st' := ⟨101, 0, [(3, (SL 5 c_api_Node x5.1)), (4, (I v6)), (5, (S x8.1)), (9, (I 0))], [], ⟨0, []⟩⟩) (by kernel_rfl) (by kernel_rfl) ?_
                  show AWp _ _ _ _
                  refine awp_block ?_
                  refine awp_loop (fun n s => ∃ (v14 : Int), s = ⟨101, 0, [(3, (SL 5 c_api_Node x5.1)), (4, (I v6)), (5, (S x8.1)), (9, (I v14))], [], ⟨0, []⟩⟩ ∧ M_law13_WalkBack_l2 (M_law13_WalkBack_l1 x5 n1) x5 v6 x8 n v14 = some r) fuel (Exists.intro 0 (And.intro rfl h)) ?_
                  rintro n s ⟨v14, rfl, h⟩ -
                  cases n with
                  | zero => cases h
                  | succ n2 =>
                    unfold M_law13_WalkBack_l2 at h
                    refine awp_seq ?_
                    refine awp_seq ?_
                    refine awp_region ?_
                    refine arun_do rfl rfl rfl (ex_move (eV (v := (I v14)) rfl)) ?_
                    refine arun_do rfl rfl rfl (ex_move (eV (v := (SL 5 c_api_Node x5.1)) rfl)) ?_
                    refine arun_do rfl rfl rfl (tx_lenD (xs := x5.1) ce_api_Node Tryd.underlying25 rfl) ?_
                    refine arun_do rfl rfl rfl (ex_bin (vx := (I v14)) (vy := (I (x5.1.length : Int))) rfl rfl lssI_ok) ?_
                    refine arun_keepE [3, 4, 5, 9, 59] 0 0 (st' := ⟨101, 0, [(3, (SL 5 c_api_Node x5.1)), (4, (I v6)), (5, (S x8.1)), (9, (I v14)), (59, (Bo (decide (v14 < (x5.1.length : Int)))))], [], ⟨0, []⟩⟩) (by kernel_rfl) (by kernel_rfl) ?_
                    show AWp _ _ _ _
                    rcases Bool.eq_false_or_eq_true (decide (v14 < (x5.1.length : Int))) with hb15 | hb15
                    · rw [condT hb15] at h
                      refine awp_condT (boT hb15) ?_
                      refine awp_skip ?_
                      show AWp _ _ _ _
                      refine awp_seq ?_
                      refine awp_block ?_
                      refine awp_seq ?_
                      refine awp_region ?_
                      refine arun_do rfl rfl rfl (ex_move (eV (v := (SL 5 c_api_Node x5.1)) rfl)) ?_
                      refine arun_do rfl rfl rfl (ex_move (eV (v := (I v14)) rfl)) ?_
                      obtain ⟨x16, hx16, h⟩ := bindS h
                      refine arun_do rfl rfl rfl (ex_call0 (vs := [(SL 5 c_api_Node x5.1), (I v14)]) (v := (Value.tuple #[(S x16.1), (Bo x16.2)])) rfl en_10 (cargs (evs rfl (evs rfl evs_nil))) rfl (ok_walk_Way x5.1 v14 x16 hx16) rfl) ?_
                      refine arun_do rfl rfl rfl (ex_move (eV (v := (Value.tuple #[(S x16.1), (Bo x16.2)])) rfl)) ?_
                      refine arun_do rfl rfl rfl (ex_extract (vx := (Value.tuple #[(S x16.1), (Bo x16.2)])) (v := (S x16.1)) rfl rfl) ?_
                      refine arun_do rfl rfl rfl (ex_extract (vx := (Value.tuple #[(S x16.1), (Bo x16.2)])) (v := (Bo x16.2)) rfl rfl) ?_
                      refine arun_do rfl rfl rfl (ex_assign (eV (v := (S x16.1)) rfl)) ?_
                      refine arun_do rfl rfl rfl (ex_assign (eV (v := (Bo x16.2)) rfl)) ?_
                      refine arun_keepE [3, 4, 5, 9, 10, 11] 0 0 (st' := ⟨101, 0, [(3, (SL 5 c_api_Node x5.1)), (4, (I v6)), (5, (S x8.1)), (9, (I v14)), (10, (S x16.1)), (11, (Bo x16.2))], [], ⟨0, []⟩⟩) (by kernel_rfl) (by kernel_rfl) ?_
                      show AWp _ _ _ _
                      refine awp_seq ?_
                      refine awp_region ?_
                      refine arun_do rfl rfl rfl (ex_move (eV (v := (Bo x16.2)) rfl)) ?_
                      refine arun_do rfl rfl rfl (ex_move (eV (v := (Bo x16.2)) rfl)) ?_
                      refine arun_guard (v := (I v6)) (x16.2 == true) rfl rfl rfl (fun hc => ex_move (eV (v := (I v6)) rfl)) ?_
                      refine arun_guard (v := (Bo (v6 == 0))) (x16.2 == true) rfl rfl rfl (fun hc => ex_bin (vx := (I v6)) (vy := (I 0)) (cond_of hc) rfl eqlI_ok) ?_
                      refine arun_guard (v := (Bo (v6 == 0))) (x16.2 == true) rfl rfl rfl (fun hc => ex_move (eV (v := (Bo (v6 == 0))) (cond_of hc))) ?_
                      refine arun_guard (v := (S x16.1)) ((x16.2 == true) && ((v6 == 0) == false)) rfl rfl gv_nest (fun hc => ex_move (eV (v := (S x16.1)) rfl)) ?_
                      refine arun_guard (v := (S x8.1)) ((x16.2 == true) && ((v6 == 0) == false)) rfl rfl gv_nest (fun hc => ex_move (eV (v := (S x8.1)) rfl)) ?_
                      refine arun_guard (v := (Bo (x16.1 == x8.1))) ((x16.2 == true) && ((v6 == 0) == false)) rfl rfl gv_nest (fun hc => ex_bin (vx := (S x16.1)) (vy := (S x8.1)) (cond_of hc) (cond_of hc) eqlS_ok) ?_
                      refine arun_guard (v := (Bo ((v6 == 0) || (x16.1 == x8.1)))) (x16.2 == true) rfl rfl rfl (fun hc => ex_pick (cond_of hc) (pkOrN hc)) ?_
                      refine arun_guard (v := (Bo ((v6 == 0) || (x16.1 == x8.1)))) (x16.2 == true) rfl rfl rfl (fun hc => ex_move (eV (v := (Bo ((v6 == 0) || (x16.1 == x8.1)))) (cond_of hc))) ?_
                      refine arun_guard (v := (S x16.1)) ((x16.2 == true) && (((v6 == 0) || (x16.1 == x8.1)) == false)) rfl rfl gv_nest (fun hc => ex_move (eV (v := (S x16.1)) rfl)) ?_
                      refine arun_guard (v := (I (x16.1.length : Int))) ((x16.2 == true) && (((v6 == 0) || (x16.1 == x8.1)) == false)) rfl rfl gv_nest (fun hc => tx_lenS Tryd.underlying9 (cond_of hc)) ?_
                      refine arun_guard (v := (S x8.1)) ((x16.2 == true) && (((v6 == 0) || (x16.1 == x8.1)) == false)) rfl rfl gv_nest (fun hc => ex_move (eV (v := (S x8.1)) rfl)) ?_
                      refine arun_guard (v := (I (x8.1.length : Int))) ((x16.2 == true) && (((v6 == 0) || (x16.1 == x8.1)) == false)) rfl rfl gv_nest (fun hc => tx_lenS Tryd.underlying9 (cond_of hc)) ?_
                      refine arun_guard (v := (Bo (decide ((x16.1.length : Int) > (x8.1.length : Int))))) ((x16.2 == true) && (((v6 == 0) || (x16.1 == x8.1)) == false)) rfl rfl gv_nest (fun hc => ex_bin (vx := (I (x16.1.length : Int))) (vy := (I (x8.1.length : Int))) (cond_of hc) (cond_of hc) gtrI_ok) ?_
                      refine arun_guard (v := (Bo (decide ((x16.1.length : Int) > (x8.1.length : Int))))) ((x16.2 == true) && (((v6 == 0) || (x16.1 == x8.1)) == false)) rfl rfl gv_nest (fun hc => ex_move (eV (v := (Bo (decide ((x16.1.length : Int) > (x8.1.length : Int))))) (cond_of hc))) ?_
                      refine arun_guard (v := (S x16.1)) (((x16.2 == true) && (((v6 == 0) || (x16.1 == x8.1)) == false)) && ((decide ((x16.1.length : Int) > (x8.1.length : Int))) == true)) rfl rfl gv_nest (fun hc => ex_move (eV (v := (S x16.1)) rfl)) ?_
                      refine arun_guard (v := (S x8.1)) (((x16.2 == true) && (((v6 == 0) || (x16.1 == x8.1)) == false)) && ((decide ((x16.1.length : Int) > (x8.1.length : Int))) == true)) rfl rfl gv_nest (fun hc => ex_move (eV (v := (S x8.1)) rfl)) ?_
                      refine arun_guard (v := (I (x8.1.length : Int))) (((x16.2 == true) && (((v6 == 0) || (x16.1 == x8.1)) == false)) && ((decide ((x16.1.length : Int) > (x8.1.length : Int))) == true)) rfl rfl gv_nest (fun hc => tx_lenS Tryd.underlying9 (cond_of hc)) ?_
                      refine arun_guard (v := (I (w64 ((x8.1.length : Int) + 1)))) (((x16.2 == true) && (((v6 == 0) || (x16.1 == x8.1)) == false)) && ((decide ((x16.1.length : Int) > (x8.1.length : Int))) == true)) rfl rfl gv_nest (fun hc => ex_bin (vx := (I (x8.1.length : Int))) (vy := (I 1)) (cond_of hc) rfl addI_ok) ?_
                      obtain ⟨x17, hx17, h⟩ := bindS h
                      refine arun_guard (v := (S x17)) (((x16.2 == true) && (((v6 == 0) || (x16.1 == x8.1)) == false)) && ((decide ((x16.1.length : Int) > (x8.1.length : Int))) == true)) rfl rfl gv_nest (fun hc => tx_slS (u := x16.1) Tryd.underlying9 (cond_of hc) lo0 (hiX (l := (w64 ((x8.1.length : Int) + 1))) (cond_of hc)) (gd_of hc hx17)) ?_
                      refine arun_guard (v := (S x8.1)) (((x16.2 == true) && (((v6 == 0) || (x16.1 == x8.1)) == false)) && ((decide ((x16.1.length : Int) > (x8.1.length : Int))) == true)) rfl rfl gv_nest (fun hc => ex_move (eV (v := (S x8.1)) rfl)) ?_
                      obtain ⟨x18, hx18, h⟩ := bindS h
                      refine arun_guard (v := (S x18)) (((x16.2 == true) && (((v6 == 0) || (x16.1 == x8.1)) == false)) && ((decide ((x16.1.length : Int) > (x8.1.length : Int))) == true)) rfl rfl gv_nest (fun hc => ex_bin (vx := (S x8.1)) (vy := (S ([47] : Str))) (cond_of hc) rfl (addS_ok (gd_of hc hx18))) ?_
                      refine arun_guard (v := (Bo (x17 == x18))) (((x16.2 == true) && (((v6 == 0) || (x16.1 == x8.1)) == false)) && ((decide ((x16.1.length : Int) > (x8.1.length : Int))) == true)) rfl rfl gv_nest (fun hc => ex_bin (vx := (S x17)) (vy := (S x18)) (cond_of hc) (cond_of hc) eqlS_ok) ?_
                      refine arun_guard (v := (Bo ((decide ((x16.1.length : Int) > (x8.1.length : Int))) && (x17 == x18)))) ((x16.2 == true) && (((v6 == 0) || (x16.1 == x8.1)) == false)) rfl rfl gv_nest (fun hc => ex_pick (cond_of hc) (pkAndN hc)) ?_
                      refine arun_guard (v := (Bo (((v6 == 0) || (x16.1 == x8.1)) || ((decide ((x16.1.length : Int) > (x8.1.length : Int))) && (x17 == x18))))) (x16.2 == true) rfl rfl rfl (fun hc => ex_pick (cond_of hc) (pkOrN hc)) ?_
                      refine arun_do rfl rfl rfl (ex_pick rfl pkAnd) ?_
                      refine arun_do rfl rfl rfl (ex_assign (eV (v := (Bo (x16.2 && (((v6 == 0) || (x16.1 == x8.1)) || ((decide ((x16.1.length : Int) > (x8.1.length : Int))) && (x17 == x18)))))) rfl)) ?_
                      refine arun_keepE [3, 4, 5, 9, 12] 0 0 (st' := ⟨101, 0, [(3, (SL 5 c_api_Node x5.1)), (4, (I v6)), (5, (S x8.1)), (9, (I v14)), (12, (Bo (x16.2 && (((v6 == 0) || (x16.1 == x8.1)) || ((decide ((x16.1.length : Int) > (x8.1.length : Int))) && (x17 == x18))))))], [], ⟨0, []⟩⟩) (by kernel_rfl) (by kernel_rfl) ?_
                      show AWp _ _ _ _
                      refine awp_seq ?_
                      refine awp_region ?_
                      refine arun_do rfl rfl rfl (ex_move (eV (v := (SL 5 c_api_Node x5.1)) rfl)) ?_
                      refine arun_do rfl rfl rfl (ex_move (eV (v := (I v14)) rfl)) ?_
                      refine arun_do rfl rfl rfl (ex_move (eV (v := (I v6)) rfl)) ?_
                      obtain ⟨x19, hx19, h⟩ := bindS h
                      refine arun_do rfl rfl rfl (ex_call0 (vs := [(SL 5 c_api_Node x5.1), (I v14), (I v6)]) (v := (Bo x19)) rfl en_12 (cargs (evs rfl (evs rfl (evs rfl evs_nil)))) rfl (ok_walk_Within x5.1 v14 v6 x19 hx19) rfl) ?_
                      refine arun_do rfl rfl rfl (ex_move (eV (v := (Bo (x16.2 && (((v6 == 0) || (x16.1 == x8.1)) || ((decide ((x16.1.length : Int) > (x8.1.length : Int))) && (x17 == x18)))))) rfl)) ?_
                      refine arun_do rfl rfl rfl (ex_bin (vx := (Bo x19)) (vy := (Bo (x16.2 && (((v6 == 0) || (x16.1 == x8.1)) || ((decide ((x16.1.length : Int) > (x8.1.length : Int))) && (x17 == x18)))))) rfl rfl (neqB_ok Tryd.underlying4)) ?_
                      refine arun_keepE [3, 4, 5, 9, 100] 0 0 (st' := ⟨101, 0, [(3, (SL 5 c_api_Node x5.1)), (4, (I v6)), (5, (S x8.1)), (9, (I v14)), (100, (Bo (x19 != (x16.2 && (((v6 == 0) || (x16.1 == x8.1)) || ((decide ((x16.1.length : Int) > (x8.1.length : Int))) && (x17 == x18)))))))], [], ⟨0, []⟩⟩) (by kernel_rfl) (by kernel_rfl) ?_
                      show AWp _ _ _ _
                      rcases Bool.eq_false_or_eq_true (x19 != (x16.2 && (((v6 == 0) || (x16.1 == x8.1)) || ((decide ((x16.1.length : Int) > (x8.1.length : Int))) && (x17 == x18))))) with hb20 | hb20
                      · rw [condT hb20] at h
                        refine awp_condT (boT hb20) ?_
                        refine awp_seq ?_
                        refine awp_region ?_
                        refine arun_do rfl rfl rfl (ex_assign (eV (v := (Bo false)) rfl)) ?_
                        refine arun_keepE [2] 0 0 (st' := ⟨101, 0, [(2, (Bo false))], [], ⟨0, []⟩⟩) (by kernel_rfl) (by kernel_rfl) ?_
                        show AWp _ _ _ _
                        refine awp_ret ?_
                        cases h
                        exact ares1 (rtmp rfl (eV rfl))
                      · rw [condF hb20] at h
                        refine awp_condF (boF hb20) ?_
                        refine awp_skip ?_
                        show AWp _ _ _ _
                        refine awp_region ?_
                        refine arun_do rfl rfl rfl (ex_move (eV (v := (I v14)) rfl)) ?_
                        refine arun_do rfl rfl rfl (ex_bin (vx := (I v14)) (vy := (I 1)) rfl rfl addI_ok) ?_
                        refine arun_do rfl rfl rfl (ex_assign (eV (v := (I (w64 (v14 + 1)))) rfl)) ?_
                        refine arun_keepE [3, 4, 5, 9] 0 0 (st' := ⟨101, 0, [(3, (SL 5 c_api_Node x5.1)), (4, (I v6)), (5, (S x8.1)), (9, (I (w64 (v14 + 1))))], [], ⟨0, []⟩⟩) (by kernel_rfl) (by kernel_rfl) ?_
                        exact Exists.intro n2 (And.intro (Nat.lt_succ_self _) (Exists.intro (w64 (v14 + 1)) (And.intro rfl h)))
                    · rw [condF hb15] at h
                      refine awp_condF (boF hb15) ?_
                      refine awp_keepE [3, 4] 0 0 (st' := ⟨101, 0, [(3, (SL 5 c_api_Node x5.1)), (4, (I v6))], [], ⟨0, []⟩⟩) (by kernel_rfl) (by kernel_rfl) ?_
                      refine awp_exit ?_
                      exact (And.intro rfl h)
          · rintro s ⟨rfl, h⟩
            unfold M_law13_WalkBack_k1 at h
            refine awp_region ?_
            refine arun_do rfl rfl rfl (ex_move (eV (v := (I v6)) rfl)) ?_
            refine arun_do rfl rfl rfl (ex_bin (vx := (I v6)) (vy := (I 1)) rfl rfl addI_ok) ?_
            refine arun_do rfl rfl rfl (ex_assign (eV (v := (I (w64 (v6 + 1)))) rfl)) ?_
            refine arun_keepE [3, 4] 0 0 (st' := ⟨101, 0, [(3, (SL 5 c_api_Node x5.1)), (4, (I (w64 (v6 + 1))))], [], ⟨0, []⟩⟩) (by kernel_rfl) (by kernel_rfl) ?_
            exact Exists.intro n1 (And.intro (Nat.lt_succ_self _) (Exists.intro (w64 (v6 + 1)) (And.intro rfl h)))
        · rw [condF hb7] at h
          refine awp_condF (boF hb7) ?_
          refine awp_exit ?_
          show AWp _ _ _ _
          refine awp_seq ?_
          refine awp_region ?_
          refine arun_do rfl rfl rfl (ex_assign (eV (v := (Bo true)) rfl)) ?_
          refine arun_keepE [2] 0 0 (st' := ⟨101, 0, [(2, (Bo true))], [], ⟨0, []⟩⟩) (by kernel_rfl) (by kernel_rfl) ?_
          show AWp _ _ _ _
          refine awp_ret ?_
          cases h
          exact ares1 (rtmp rfl (eV rfl))

end Go.Proofs
