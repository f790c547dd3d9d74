/- Pure models of functions of the program, and that its code does what they say: name May, name Parts, walk files at, node Kids$1 at a closure, slices insertionSortCmpFunc[int] at a closure. Written by a program. -/
import Derived.Test.YtlcclhkbmkmfkaaDoorREO0
import Derived.Test.YtlcclhkbmkmfkaaDoorREOB
import Derived.Test.YtlcclhkbmkmfkaaDoorREOX
set_option maxRecDepth 20000
set_option maxHeartbeats 4000000
namespace Go.Proofs
open Go Go.Fhl
set_option linter.unusedVariables false
set_option linter.unusedSimpArgs false
noncomputable def M_name_May (t0 : Str) : Option Bool :=
  Option.bind (gd (((t0 != []) && (decide ((t0.length : Int) ≤ 8))) == true) (M_name_plain t0)) fun (x1 : Bool) => some (((((t0 != []) && (decide ((t0.length : Int) ≤ 8))) && x1) && (t0 != ([46] : Str))) && (t0 != ([46, 46] : Str)))
theorem ok_name_May (t0 : Str) (r : Bool) (h : M_name_May t0 = some r) : FFn Tryd.prog 51 [(S t0)] (Bo r) := by
  refine FFn.of_body (n := 22) Tryd.func51 rfl Tryd.ntmps51 rfl rfl rfl rfl ?_
  show AWp _ _ _ ⟨22, 0, [(0, (S t0))], [], ⟨0, []⟩⟩
  unfold M_name_May at h
  refine awp_seq ?_
  refine awp_region ?_
  refine arun_do rfl rfl rfl (ex_assign (eV (v := (Bo false)) rfl)) ?_
  refine arun_keepE [0] 0 0 (st' := ⟨22, 0, [(0, (S t0))], [], ⟨0, []⟩⟩) (by kernel_rfl) (by kernel_rfl) ?_
  show AWp _ _ _ _
  refine awp_seq ?_
  refine awp_region ?_
  refine arun_do rfl rfl rfl (ex_move (eV (v := (S t0)) rfl)) ?_
  refine arun_do rfl rfl rfl (ex_bin (vx := (S t0)) (vy := (S [])) rfl rfl neqS_ok) ?_
  refine arun_do rfl rfl rfl (ex_move (eV (v := (Bo (t0 != []))) rfl)) ?_
  refine arun_guard (v := (S t0)) ((t0 != []) == true) rfl rfl rfl (fun hc => ex_move (eV (v := (S t0)) rfl)) ?_
  refine arun_guard (v := (I (t0.length : Int))) ((t0 != []) == true) rfl rfl rfl (fun hc => tx_lenS Tryd.underlying9 (cond_of hc)) ?_
  refine arun_guard (v := (Bo (decide ((t0.length : Int) ≤ 8)))) ((t0 != []) == true) rfl rfl rfl (fun hc => ex_bin (vx := (I (t0.length : Int))) (vy := (I 8)) (cond_of hc) rfl leqI_ok) ?_
  refine arun_do rfl rfl rfl (ex_pick rfl pkAnd) ?_
  refine arun_do rfl rfl rfl (ex_move (eV (v := (Bo ((t0 != []) && (decide ((t0.length : Int) ≤ 8))))) rfl)) ?_
  refine arun_guard (v := (S t0)) (((t0 != []) && (decide ((t0.length : Int) ≤ 8))) == true) rfl rfl rfl (fun hc => ex_move (eV (v := (S t0)) rfl)) ?_
  obtain ⟨x1, hx1, h⟩ := bindS h
  refine arun_guard (v := (Bo x1)) (((t0 != []) && (decide ((t0.length : Int) ≤ 8))) == true) rfl rfl rfl (fun hc => ex_call0 (vs := [(S t0)]) (v := (Bo x1)) rfl en_65 (cargs (evs (cond_of hc) evs_nil)) rfl (ok_name_plain t0 x1 (gd_of hc hx1)) rfl) ?_
  refine arun_do rfl rfl rfl (ex_pick rfl pkAnd) ?_
  refine arun_do rfl rfl rfl (ex_move (eV (v := (Bo (((t0 != []) && (decide ((t0.length : Int) ≤ 8))) && x1))) rfl)) ?_
  refine arun_guard (v := (S t0)) ((((t0 != []) && (decide ((t0.length : Int) ≤ 8))) && x1) == true) rfl rfl rfl (fun hc => ex_move (eV (v := (S t0)) rfl)) ?_
  refine arun_guard (v := (Bo (t0 != ([46] : Str)))) ((((t0 != []) && (decide ((t0.length : Int) ≤ 8))) && x1) == true) rfl rfl rfl (fun hc => ex_bin (vx := (S t0)) (vy := (S ([46] : Str))) (cond_of hc) rfl neqS_ok) ?_
  refine arun_do rfl rfl rfl (ex_pick rfl pkAnd) ?_
  refine arun_do rfl rfl rfl (ex_move (eV (v := (Bo ((((t0 != []) && (decide ((t0.length : Int) ≤ 8))) && x1) && (t0 != ([46] : Str))))) rfl)) ?_
  refine arun_guard (v := (S t0)) (((((t0 != []) && (decide ((t0.length : Int) ≤ 8))) && x1) && (t0 != ([46] : Str))) == true) rfl rfl rfl (fun hc => ex_move (eV (v := (S t0)) rfl)) ?_
  refine arun_guard (v := (Bo (t0 != ([46, 46] : Str)))) (((((t0 != []) && (decide ((t0.length : Int) ≤ 8))) && x1) && (t0 != ([46] : Str))) == true) rfl rfl rfl (fun hc => ex_bin (vx := (S t0)) (vy := (S ([46, 46] : Str))) (cond_of hc) rfl neqS_ok) ?_
  refine arun_do rfl rfl rfl (ex_pick rfl pkAnd) ?_
  refine arun_do rfl rfl rfl (ex_assign (eV (v := (Bo (((((t0 != []) && (decide ((t0.length : Int) ≤ 8))) && x1) && (t0 != ([46] : Str))) && (t0 != ([46, 46] : Str))))) rfl)) ?_
  refine arun_keepE [2] 0 0 (st' := ⟨22, 0, [(2, (Bo (((((t0 != []) && (decide ((t0.length : Int) ≤ 8))) && x1) && (t0 != ([46] : Str))) && (t0 != ([46, 46] : Str)))))], [], ⟨0, []⟩⟩) (by kernel_rfl) (by kernel_rfl) ?_
  show AWp _ _ _ _
  refine awp_ret ?_
  cases h
  exact ares1 (rtmp rfl (eV rfl))

noncomputable def M_name_Parts_l1 (x2 : (List Str)) : Nat → Int → Option ((List Str) × Bool)
  | 0, _ => none
  | n1 + 1, v4 =>
  cond (decide (v4 < (x2.length : Int))) (Option.bind (getI x2 v4) fun (x6 : Str) => Option.bind (M_name_May x6) fun (x7 : Bool) => cond (!x7) (some ([], false)) ((M_name_Parts_l1 x2 n1) (w64 (v4 + 1)))) (some (x2, true))
noncomputable def M_name_Parts (t0 : Str) : Option ((List Str) × Bool) :=
  cond (t0 == []) (some ([], true)) (Option.bind (M_strings_Split t0 ([47] : Str)) fun (x2 : (List Str)) => cond (decide ((x2.length : Int) ≥ 8)) (some ([], false)) (M_name_Parts_l1 x2 fuel 0))
theorem ok_name_Parts (t0 : Str) (r : ((List Str) × Bool)) (h : M_name_Parts t0 = some r) : FFn Tryd.prog 34 [(S t0)] (Value.tuple #[(SL 1 cS r.1), (Bo r.2)]) := by
  refine FFn.of_body (n := 25) Tryd.func34 rfl Tryd.ntmps34 rfl rfl rfl rfl ?_
  show AWp _ _ _ ⟨25, 0, [(0, (S t0))], [], ⟨0, []⟩⟩
  unfold M_name_Parts at h
  refine awp_seq ?_
  refine awp_region ?_
  refine arun_do rfl rfl rfl (ex_assign (eV (v := (Value.slice none 0 0)) rfl)) ?_
  refine arun_do rfl rfl rfl (ex_assign (eV (v := (Bo false)) rfl)) ?_
  refine arun_keepE [0] 0 0 (st' := ⟨25, 0, [(0, (S t0))], [], ⟨0, []⟩⟩) (by kernel_rfl) (by kernel_rfl) ?_
  show AWp _ _ _ _
  refine awp_seq ?_
  refine awp_seq ?_
  refine awp_region ?_
  refine arun_do rfl rfl rfl (ex_move (eV (v := (S t0)) rfl)) ?_
  refine arun_do rfl rfl rfl (ex_bin (vx := (S t0)) (vy := (S [])) rfl rfl eqlS_ok) ?_
  refine arun_keepE [0, 8] 0 0 (st' := ⟨25, 0, [(0, (S t0)), (8, (Bo (t0 == [])))], [], ⟨0, []⟩⟩) (by kernel_rfl) (by kernel_rfl) ?_
  show AWp _ _ _ _
  rcases Bool.eq_false_or_eq_true (t0 == []) with hb1 | hb1
  · rw [condT hb1] at h
    refine awp_condT (boT hb1) ?_
    refine awp_seq ?_
    refine awp_region ?_
    refine arun_do rfl rfl rfl (ex_assign (eV (v := (Value.slice none 0 0)) rfl)) ?_
    refine arun_do rfl rfl rfl (ex_assign (eV (v := (Bo true)) rfl)) ?_
    refine arun_keepE [2, 3] 0 0 (st' := ⟨25, 0, [(2, (Value.slice none 0 0)), (3, (Bo true))], [], ⟨0, []⟩⟩) (by kernel_rfl) (by kernel_rfl) ?_
    show AWp _ _ _ _
    refine awp_ret ?_
    cases h
    exact aresN rfl (L2.cons (rtmp rfl (eN rfl)) (L2.cons (rtmp rfl (eV rfl)) L2.nil)) rfl
  · rw [condF hb1] at h
    refine awp_condF (boF hb1) ?_
    refine awp_skip ?_
    show AWp _ _ _ _
    refine awp_seq ?_
    refine awp_region ?_
    refine arun_do rfl rfl rfl (ex_move (eV (v := (S t0)) rfl)) ?_
    obtain ⟨x2, hx2, h⟩ := bindS h
    refine arun_do rfl rfl rfl (ex_call0 (vs := [(S t0), (S ([47] : Str))]) (v := (SL 1 cS x2)) rfl en_50 (cargs (evs rfl (evs rfl evs_nil))) rfl (ok_strings_Split t0 ([47] : Str) x2 hx2) rfl) ?_
    refine arun_do rfl rfl rfl (ex_assign (eV (v := (SL 1 cS x2)) rfl)) ?_
    refine arun_keepE [4] 0 0 (st' := ⟨25, 0, [(4, (SL 1 cS x2))], [], ⟨0, []⟩⟩) (by kernel_rfl) (by kernel_rfl) ?_
    show AWp _ _ _ _
    refine awp_seq ?_
    refine awp_seq ?_
    refine awp_region ?_
    refine arun_do rfl rfl rfl (ex_move (eV (v := (SL 1 cS x2)) rfl)) ?_
    refine arun_do rfl rfl rfl (tx_lenD (xs := x2) ceS Tryd.underlying60 rfl) ?_
    refine arun_do rfl rfl rfl (ex_bin (vx := (I (x2.length : Int))) (vy := (I 8)) rfl rfl geqI_ok) ?_
    refine arun_keepE [4, 13] 0 0 (st' := ⟨25, 0, [(4, (SL 1 cS x2)), (13, (Bo (decide ((x2.length : Int) ≥ 8))))], [], ⟨0, []⟩⟩) (by kernel_rfl) (by kernel_rfl) ?_
    show AWp _ _ _ _
    rcases Bool.eq_false_or_eq_true (decide ((x2.length : Int) ≥ 8)) with hb3 | hb3
    · rw [condT hb3] at h
      refine awp_condT (boT hb3) ?_
      refine awp_seq ?_
      refine awp_region ?_
      refine arun_do rfl rfl rfl (ex_assign (eV (v := (Value.slice none 0 0)) rfl)) ?_
      refine arun_do rfl rfl rfl (ex_assign (eV (v := (Bo false)) rfl)) ?_
      refine arun_keepE [2, 3] 0 0 (st' := ⟨25, 0, [(2, (Value.slice none 0 0)), (3, (Bo false))], [], ⟨0, []⟩⟩) (by kernel_rfl) (by kernel_rfl) ?_
      show AWp _ _ _ _
      refine awp_ret ?_
      cases h
      exact aresN rfl (L2.cons (rtmp rfl (eN rfl)) (L2.cons (rtmp rfl (eV rfl)) L2.nil)) rfl
    · rw [condF hb3] at h
      refine awp_condF (boF hb3) ?_
      refine awp_skip ?_
      show AWp _ _ _ _
      refine awp_seq ?_
      refine awp_seq ?_
      refine awp_region ?_
      refine arun_do rfl rfl rfl (ex_move (eV (v := (SL 1 cS x2)) rfl)) ?_
      refine arun_do rfl rfl rfl (tx_lenD (xs := x2) ceS Tryd.underlying60 rfl) ?_
      refine arun_do rfl rfl rfl (ex_move (eV (v := (I 0)) rfl)) ?_
      refine arun_keepE [4, 14, 15, 16] 0 0 (st' := ⟨25, 0, [(4, (SL 1 cS x2)), (14, (SL 1 cS x2)), (15, (I (x2.length : Int))), (16, (I 0))], [], ⟨0, []⟩⟩) (by kernel_rfl) (by kernel_rfl) ?_
      show AWp _ _ _ _
      refine awp_block ?_
      refine awp_loop (fun n s => ∃ (v4 : Int), s = ⟨25, 0, [(4, (SL 1 cS x2)), (14, (SL 1 cS x2)), (15, (I (x2.length : Int))), (16, (I v4))], [], ⟨0, []⟩⟩ ∧ M_name_Parts_l1 x2 n v4 = some r) fuel (Exists.intro 0 (And.intro rfl h)) ?_
      rintro n s ⟨v4, rfl, h⟩ -
      cases n with
      | zero => cases h
      | succ n1 =>
        unfold M_name_Parts_l1 at h
        refine awp_seq ?_
        refine awp_region ?_
        refine arun_do rfl rfl rfl (ex_bin (vx := (I v4)) (vy := (I (x2.length : Int))) rfl rfl lssI_ok) ?_
        refine arun_keepE [4, 14, 15, 16, 17] 0 0 (st' := ⟨25, 0, [(4, (SL 1 cS x2)), (14, (SL 1 cS x2)), (15, (I (x2.length : Int))), (16, (I v4)), (17, (Bo (decide (v4 < (x2.length : Int)))))], [], ⟨0, []⟩⟩) (by kernel_rfl) (by kernel_rfl) ?_
        show AWp _ _ _ _
        refine awp_seq ?_
        rcases Bool.eq_false_or_eq_true (decide (v4 < (x2.length : Int))) with hb5 | hb5
        · rw [condT hb5] at h
          refine awp_condT (boT hb5) ?_
          refine awp_skip ?_
          show AWp _ _ _ _
          refine awp_seq ?_
          refine awp_block ?_
          refine awp_seq ?_
          refine awp_region ?_
          obtain ⟨x6, hx6, h⟩ := bindS h
          refine arun_do rfl rfl rfl (tx_idxD (c := cS) (xs := x2) (i := v4) ceS Tryd.underlying60 s_9 rfl rfl hx6) ?_
          refine arun_do rfl rfl rfl (tx_ldD1 (v := (S x6)) Tryd.underlying9 rfl rfl rfl) ?_
          refine arun_do rfl rfl rfl (ex_assign (eV (v := (S x6)) rfl)) ?_
          refine arun_keepE [4, 6, 14, 15, 16] 0 0 (st' := ⟨25, 0, [(4, (SL 1 cS x2)), (6, (S x6)), (14, (SL 1 cS x2)), (15, (I (x2.length : Int))), (16, (I v4))], [], ⟨0, []⟩⟩) (by kernel_rfl) (by kernel_rfl) ?_
          show AWp _ _ _ _
          refine awp_seq ?_
          refine awp_region ?_
          refine arun_do rfl rfl rfl (ex_move (eV (v := (S x6)) rfl)) ?_
          obtain ⟨x7, hx7, h⟩ := bindS h
          refine arun_do rfl rfl rfl (ex_call0 (vs := [(S x6)]) (v := (Bo x7)) rfl en_51 (cargs (evs rfl evs_nil)) rfl (ok_name_May x6 x7 hx7) rfl) ?_
          refine arun_do rfl rfl rfl (ex_un (vx := (Bo x7)) rfl notB_ok) ?_
          refine arun_keepE [4, 14, 15, 16, 22] 0 0 (st' := ⟨25, 0, [(4, (SL 1 cS x2)), (14, (SL 1 cS x2)), (15, (I (x2.length : Int))), (16, (I v4)), (22, (Bo (!x7)))], [], ⟨0, []⟩⟩) (by kernel_rfl) (by kernel_rfl) ?_
          show AWp _ _ _ _
          rcases Bool.eq_false_or_eq_true (!x7) with hb8 | hb8
          · rw [condT hb8] at h
            refine awp_condT (boT hb8) ?_
            refine awp_seq ?_
            refine awp_region ?_
            refine arun_do rfl rfl rfl (ex_assign (eV (v := (Value.slice none 0 0)) rfl)) ?_
            refine arun_do rfl rfl rfl (ex_assign (eV (v := (Bo false)) rfl)) ?_
            refine arun_keepE [2, 3] 0 0 (st' := ⟨25, 0, [(2, (Value.slice none 0 0)), (3, (Bo false))], [], ⟨0, []⟩⟩) (by kernel_rfl) (by kernel_rfl) ?_
            show AWp _ _ _ _
            refine awp_ret ?_
            cases h
            exact aresN rfl (L2.cons (rtmp rfl (eN rfl)) (L2.cons (rtmp rfl (eV rfl)) L2.nil)) rfl
          · rw [condF hb8] at h
            refine awp_condF (boF hb8) ?_
            refine awp_skip ?_
            show AWp _ _ _ _
            refine awp_region ?_
            refine arun_do rfl rfl rfl (ex_bin (vx := (I v4)) (vy := (I 1)) rfl rfl addI_ok) ?_
            refine arun_do rfl rfl rfl (ex_move (eV (v := (I (w64 (v4 + 1)))) rfl)) ?_
            refine arun_keepE [4, 14, 15, 16] 0 0 (st' := ⟨25, 0, [(4, (SL 1 cS x2)), (14, (SL 1 cS x2)), (15, (I (x2.length : Int))), (16, (I (w64 (v4 + 1))))], [], ⟨0, []⟩⟩) (by kernel_rfl) (by kernel_rfl) ?_
            exact Exists.intro n1 (And.intro (Nat.lt_succ_self _) (Exists.intro (w64 (v4 + 1)) (And.intro rfl h)))
        · rw [condF hb5] at h
          refine awp_condF (boF hb5) ?_
          refine awp_exit ?_
          show AWp _ _ _ _
          refine awp_seq ?_
          refine awp_region ?_
          refine arun_do rfl rfl rfl (ex_move (eV (v := (SL 1 cS x2)) rfl)) ?_
          refine arun_do rfl rfl rfl (ex_assign (eV (v := (SL 1 cS x2)) rfl)) ?_
          refine arun_do rfl rfl rfl (ex_assign (eV (v := (Bo true)) rfl)) ?_
          refine arun_keepE [2, 3] 0 0 (st' := ⟨25, 0, [(2, (SL 1 cS x2)), (3, (Bo true))], [], ⟨0, []⟩⟩) (by kernel_rfl) (by kernel_rfl) ?_
          show AWp _ _ _ _
          refine awp_ret ?_
          cases h
          exact aresN rfl (L2.cons (rtmp rfl (eV rfl)) (L2.cons (rtmp rfl (eV rfl)) L2.nil)) rfl

noncomputable def M_walk_files_at (t0 : G_walk_files) (t1 : Int) : Option G_api_Node :=
  cond ((decide (t1 < 0)) || (decide (t1 ≥ (t0.Set.length : Int)))) (some (G_api_Node.mk 0 0 [] [] 0)) (Option.bind (getI t0.Set t1) fun (x2 : G_api_Node) => some x2)
theorem ok_walk_files_at (t0 : G_walk_files) (t1 : Int) (r : G_api_Node) (h : M_walk_files_at t0 t1 = some r) : FFn Tryd.prog 39 [(Value.agg (c_walk_files t0).toArray), (I t1)] (Value.agg (c_api_Node r).toArray) := by
  refine FFn.of_body (n := 20) Tryd.func39 rfl Tryd.ntmps39 rfl rfl rfl rfl ?_
  show AWp _ _ _ ⟨20, 0, [(0, (Value.agg (c_walk_files t0).toArray)), (1, (I t1))], [], ⟨0, []⟩⟩
  unfold M_walk_files_at at h
  refine awp_seq ?_
  refine awp_region ?_
  refine arun_do rfl rfl rfl (ex_box (vx := (Value.agg (c_walk_files t0).toArray)) (cs := (c_walk_files t0)) (k := 0) (L' := [(c_walk_files t0)]) (eV (v := (Value.agg (c_walk_files t0).toArray)) rfl) rfl rfl rfl) ?_
  refine arun_do rfl rfl rfl (ex_alloc (k := 1) (zs := (c_api_Node (G_api_Node.mk 0 0 [] [] 0))) (L' := [(c_walk_files t0), (c_api_Node (G_api_Node.mk 0 0 [] [] 0))]) z_39 rfl rfl rfl rfl) ?_
  refine arun_keepE [1, 2, 4] 2 0 (st' := ⟨20, 0, [(1, (I t1)), (2, (LP 0 0)), (4, (LP 1 0))], [(c_walk_files t0), (c_api_Node (G_api_Node.mk 0 0 [] [] 0))], ⟨0, []⟩⟩) (by kernel_rfl) (by kernel_rfl) ?_
  show AWp _ _ _ _
  refine awp_seq ?_
  refine awp_seq ?_
  refine awp_region ?_
  refine arun_do rfl rfl rfl (ex_move (eV (v := (I t1)) rfl)) ?_
  refine arun_do rfl rfl rfl (ex_bin (vx := (I t1)) (vy := (I 0)) rfl rfl lssI_ok) ?_
  refine arun_do rfl rfl rfl (ex_move (eV (v := (Bo (decide (t1 < 0)))) rfl)) ?_
  refine arun_guard (v := (I t1)) ((decide (t1 < 0)) == false) rfl rfl rfl (fun hc => ex_move (eV (v := (I t1)) rfl)) ?_
  refine arun_guard (v := (LP 0 0)) ((decide (t1 < 0)) == false) rfl rfl rfl (fun hc => ex_fieldAddr (v := (LP 0 0)) Tryd.underlying71 rfl s_25 (by decide) rfl rfl) ?_
  refine arun_guard (v := (SL 5 c_api_Node t0.Set)) ((decide (t1 < 0)) == false) rfl rfl rfl (fun hc => tx_ldL1 (v := (SL 5 c_api_Node t0.Set)) Tryd.underlying25 rfl (cond_of hc) rfl rfl) ?_
  refine arun_guard (v := (I (t0.Set.length : Int))) ((decide (t1 < 0)) == false) rfl rfl rfl (fun hc => tx_lenD (xs := t0.Set) ce_api_Node Tryd.underlying25 (cond_of hc)) ?_
  refine arun_guard (v := (Bo (decide (t1 ≥ (t0.Set.length : Int))))) ((decide (t1 < 0)) == false) rfl rfl rfl (fun hc => ex_bin (vx := (I t1)) (vy := (I (t0.Set.length : Int))) (cond_of hc) (cond_of hc) geqI_ok) ?_
  refine arun_do rfl rfl rfl (ex_pick rfl pkOr) ?_
  refine arun_keepE [1, 2, 4, 13] 2 0 (st' := ⟨20, 0, [(1, (I t1)), (2, (LP 0 0)), (4, (LP 1 0)), (13, (Bo ((decide (t1 < 0)) || (decide (t1 ≥ (t0.Set.length : Int))))))], [(c_walk_files t0), (c_api_Node (G_api_Node.mk 0 0 [] [] 0))], ⟨0, []⟩⟩) (by kernel_rfl) (by kernel_rfl) ?_
  show AWp _ _ _ _
  rcases Bool.eq_false_or_eq_true ((decide (t1 < 0)) || (decide (t1 ≥ (t0.Set.length : Int)))) with hb1 | hb1
  · rw [condT hb1] at h
    refine awp_condT (boT hb1) ?_
    refine awp_seq ?_
    refine awp_region ?_
    refine arun_do rfl rfl rfl (ex_build (qs := []) (v := (Value.agg (c_api_Node (G_api_Node.mk 0 0 [] [] 0)).toArray)) evp_nil (by kernel_rfl)) ?_
    refine arun_do0 rfl rfl (ex_storeL (vy := (Value.agg (c_api_Node (G_api_Node.mk 0 0 [] [] 0)).toArray)) (cs := (c_api_Node (G_api_Node.mk 0 0 [] [] 0))) (vs := (c_api_Node (G_api_Node.mk 0 0 [] [] 0))) (L' := [(c_walk_files t0), (c_api_Node (G_api_Node.mk 0 0 [] [] 0))]) rfl (eV (v := (Value.agg (c_api_Node (G_api_Node.mk 0 0 [] [] 0)).toArray)) rfl) rfl s_39 rfl (Nat.le_of_ble_eq_true rfl) (by kernel_rfl)) ?_
    refine arun_keepE [4] 2 0 (st' := ⟨20, 0, [(4, (LP 1 0))], [(c_walk_files t0), (c_api_Node (G_api_Node.mk 0 0 [] [] 0))], ⟨0, []⟩⟩) (by kernel_rfl) (by kernel_rfl) ?_
    show AWp _ _ _ _
    refine awp_ret ?_
    cases h
    exact ares1 (rcellL rfl rfl rfl (partA Tryd.underlying39 rfl s_39 (by decide) (Nat.le_of_ble_eq_true rfl) rfl))
  · rw [condF hb1] at h
    refine awp_condF (boF hb1) ?_
    refine awp_skip ?_
    show AWp _ _ _ _
    refine awp_seq ?_
    refine awp_region ?_
    refine arun_do rfl rfl rfl (ex_fieldAddr (v := (LP 0 0)) Tryd.underlying71 rfl s_25 (by decide) rfl rfl) ?_
    refine arun_do rfl rfl rfl (tx_ldL1 (v := (SL 5 c_api_Node t0.Set)) Tryd.underlying25 rfl rfl rfl rfl) ?_
    refine arun_do rfl rfl rfl (ex_move (eV (v := (I t1)) rfl)) ?_
    obtain ⟨x2, hx2, h⟩ := bindS h
    refine arun_do rfl rfl rfl (tx_idxD (c := c_api_Node) (xs := t0.Set) (i := t1) ce_api_Node Tryd.underlying25 s_39 rfl rfl hx2) ?_
    refine arun_do rfl rfl rfl (tx_ldDA (vs := (c_api_Node x2)) Tryd.underlying39 rfl s_39 (by decide) rfl (Nat.le_of_ble_eq_true rfl) rfl) ?_
    refine arun_do0 rfl rfl (ex_storeL (vy := (Value.agg (c_api_Node x2).toArray)) (cs := (c_api_Node (G_api_Node.mk 0 0 [] [] 0))) (vs := (c_api_Node x2)) (L' := [(c_walk_files t0), (c_api_Node x2)]) rfl (eV (v := (Value.agg (c_api_Node x2).toArray)) rfl) rfl s_39 rfl (Nat.le_of_ble_eq_true rfl) (by kernel_rfl)) ?_
    refine arun_keepE [4] 2 0 (st' := ⟨20, 0, [(4, (LP 1 0))], [(c_walk_files t0), (c_api_Node x2)], ⟨0, []⟩⟩) (by kernel_rfl) (by kernel_rfl) ?_
    show AWp _ _ _ _
    refine awp_ret ?_
    cases h
    exact ares1 (rcellL rfl rfl rfl (partA Tryd.underlying39 rfl s_39 (by decide) (Nat.le_of_ble_eq_true rfl) rfl))

noncomputable def M_node_Kids_1 (t0 : Int) (t1 : Int) (u0 : (List G_api_Node)) : Option Int :=
  Option.bind (getI u0 t0) fun (x1 : G_api_Node) => Option.bind (getI u0 t1) fun (x2 : G_api_Node) => Option.bind (M_strings_Compare x1.Name x2.Name) fun (x3 : Int) => some x3
theorem ok_node_Kids_1 (t0 : Int) (t1 : Int) (u0 : (List G_api_Node)) (r : Int) (h : M_node_Kids_1 t0 t1 u0 = some r) : FFn Tryd.prog 37 [(I t0), (I t1), (DP [(SL 5 c_api_Node u0)])] (I r) := by
  refine FFn.of_body (n := 17) Tryd.func37 rfl Tryd.ntmps37 rfl rfl rfl rfl ?_
  show AWp _ _ _ ⟨17, 0, [(0, (I t0)), (1, (I t1)), (2, (DP [(SL 5 c_api_Node u0)]))], [], ⟨0, []⟩⟩
  unfold M_node_Kids_1 at h
  refine awp_seq ?_
  refine awp_region ?_
  refine arun_do rfl rfl rfl (ex_assign (eV (v := (I 0)) rfl)) ?_
  refine arun_keepE [0, 1, 2] 0 0 (st' := ⟨17, 0, [(0, (I t0)), (1, (I t1)), (2, (DP [(SL 5 c_api_Node u0)]))], [], ⟨0, []⟩⟩) (by kernel_rfl) (by kernel_rfl) ?_
  show AWp _ _ _ _
  refine awp_seq ?_
  obtain ⟨x1, hx1, h⟩ := bindS h
  obtain ⟨x2, hx2, h⟩ := bindS h
  obtain ⟨x3, hx3, h⟩ := bindS h
  refine awp_kn [5] 0 0 (st' := ⟨17, 0, [(5, (I x3))], [], ⟨0, []⟩⟩) (awp_draw (T := [(SL 5 c_api_Node u0), (I t0), (DP (c_api_Node x1)), (DP (List.drop 2 (c_api_Node x1))), (S x1.Name), (SL 5 c_api_Node u0), (I t1), (DP (c_api_Node x2)), (DP (List.drop 2 (c_api_Node x2))), (S x2.Name), (I x3), (I x3)]) (LH := [([], ⟨0, []⟩)]) (D := [⟨[(2, none)], [], [0], false⟩, ⟨[(0, none)], [], [0], false⟩, ⟨[(6, some 0), (7, some 1)], [0, 1], [0], false⟩, ⟨[(8, some 2)], [0, 1, 2], [0], false⟩, ⟨[(9, some 3)], [0, 1, 2, 3], [0], false⟩, ⟨[(2, none)], [], [0], false⟩, ⟨[(1, none)], [], [0], false⟩, ⟨[(11, some 5), (12, some 6)], [5, 6], [0], false⟩, ⟨[(13, some 7)], [5, 6, 7], [0], false⟩, ⟨[(14, some 8)], [5, 6, 7, 8], [0], false⟩, ⟨[(10, some 4), (15, some 9)], [0, 1, 2, 3, 4, 5, 6, 7, 8, 9], [0], false⟩, ⟨[(16, some 10)], [0, 1, 2, 3, 4, 5, 6, 7, 8, 9, 10], [0], false⟩]) (S := []) (plan := [0, 1, 2, 3, 4, 5, 6, 7, 8, 9, 10, 11]) mo (by kernel_rfl) rfl rfl rfl (dcons (dstep1 (Tm := [(2, (DP [(SL 5 c_api_Node u0)]))]) (L := []) (H := ⟨0, []⟩) rfl rfl rfl rfl rfl (astep_do rfl (tx_ldD1 (v := (SL 5 c_api_Node u0)) Tryd.underlying25 rfl rfl rfl))) (dcons (dstep1 (Tm := [(0, (I t0))]) (L := []) (H := ⟨0, []⟩) rfl rfl rfl rfl rfl (astep_do rfl (ex_move (eV (v := (I t0)) rfl)))) (dcons (dstep1 (Tm := [(6, (SL 5 c_api_Node u0)), (7, (I t0))]) (L := []) (H := ⟨0, []⟩) rfl rfl rfl rfl rfl (astep_do rfl (tx_idxD (c := c_api_Node) (xs := u0) (i := t0) ce_api_Node Tryd.underlying25 s_39 rfl rfl hx1))) (dcons (dstep1 (Tm := [(8, (DP (c_api_Node x1)))]) (L := []) (H := ⟨0, []⟩) rfl rfl rfl rfl rfl (astep_do rfl (ex_fieldAddrD (vs := (List.drop 2 (c_api_Node x1))) Tryd.underlying39 rfl s_9 (by decide) rfl rfl))) (dcons (dstep1 (Tm := [(9, (DP (List.drop 2 (c_api_Node x1))))]) (L := []) (H := ⟨0, []⟩) rfl rfl rfl rfl rfl (astep_do rfl (tx_ldD1 (v := (S x1.Name)) Tryd.underlying9 rfl rfl rfl))) (dcons (dstep1 (Tm := [(2, (DP [(SL 5 c_api_Node u0)]))]) (L := []) (H := ⟨0, []⟩) rfl rfl rfl rfl rfl (astep_do rfl (tx_ldD1 (v := (SL 5 c_api_Node u0)) Tryd.underlying25 rfl rfl rfl))) (dcons (dstep1 (Tm := [(1, (I t1))]) (L := []) (H := ⟨0, []⟩) rfl rfl rfl rfl rfl (astep_do rfl (ex_move (eV (v := (I t1)) rfl)))) (dcons (dstep1 (Tm := [(11, (SL 5 c_api_Node u0)), (12, (I t1))]) (L := []) (H := ⟨0, []⟩) rfl rfl rfl rfl rfl (astep_do rfl (tx_idxD (c := c_api_Node) (xs := u0) (i := t1) ce_api_Node Tryd.underlying25 s_39 rfl rfl hx2))) (dcons (dstep1 (Tm := [(13, (DP (c_api_Node x2)))]) (L := []) (H := ⟨0, []⟩) rfl rfl rfl rfl rfl (astep_do rfl (ex_fieldAddrD (vs := (List.drop 2 (c_api_Node x2))) Tryd.underlying39 rfl s_9 (by decide) rfl rfl))) (dcons (dstep1 (Tm := [(14, (DP (List.drop 2 (c_api_Node x2))))]) (L := []) (H := ⟨0, []⟩) rfl rfl rfl rfl rfl (astep_do rfl (tx_ldD1 (v := (S x2.Name)) Tryd.underlying9 rfl rfl rfl))) (dcons (dstep1 (Tm := [(10, (S x1.Name)), (15, (S x2.Name))]) (L := []) (H := ⟨0, []⟩) rfl rfl rfl rfl rfl (astep_do rfl (ex_call0 (vs := [(S x1.Name), (S x2.Name)]) (v := (I x3)) rfl en_38 (cargs (evs rfl (evs rfl evs_nil))) rfl (ok_strings_Compare x1.Name x2.Name x3 hx3) rfl))) (dcons (dstep1 (Tm := [(16, (I x3))]) (L := []) (H := ⟨0, []⟩) rfl rfl rfl rfl rfl (astep_do rfl (ex_assign (eV (v := (I x3)) rfl)))) dnil)))))))))))) ⟨rfl, rfl⟩) (by kernel_rfl) (by kernel_rfl) ?_
  show AWp _ _ _ _
  refine awp_ret ?_
  cases h
  exact ares1 (rtmp rfl (eV rfl))

noncomputable def M_slices_insertionSortCmpFunc_int_c37_l2 (c_1 : (Int → List Int → Option (Unit × List Int))) (t1 : Int) (t2 : Int) (t3_0 : (List G_api_Node)) (v1 : Int) : Nat → Int → List Int → Option (Unit × List Int)
  | 0, _, _ => none
  | n2 + 1, v4, v5 =>
  Option.bind (gd ((decide (v4 > t1)) == true) (getI v5 v4)) fun (x6 : Int) => Option.bind (gd ((decide (v4 > t1)) == true) (getI v5 (w64 (v4 - 1)))) fun (x7 : Int) => cond ((decide (v4 > t1)) == true) (Option.bind (M_node_Kids_1 x6 x7 t3_0) fun (x8 : Int) => cond ((decide (v4 > t1)) && (decide (x8 < 0))) (Option.bind (getI v5 (w64 (v4 - 1))) fun (x10 : Int) => Option.bind (getI v5 v4) fun (x11 : Int) => Option.bind (getI v5 v4) fun (x12 : Int) => Option.bind (setI v5 v4 x10) fun (x13 : List Int) => Option.bind (getI x13 (w64 (v4 - 1))) fun (x14 : Int) => Option.bind (setI x13 (w64 (v4 - 1)) x11) fun (x15 : List Int) => (M_slices_insertionSortCmpFunc_int_c37_l2 c_1 t1 t2 t3_0 v1 n2) (w64 (v4 - 1)) x15) (c_1 (w64 (v1 + 1)) v5)) (cond (decide (v4 > t1)) (Option.bind (getI v5 (w64 (v4 - 1))) fun (x9 : Int) => Option.bind (getI v5 v4) fun (x10 : Int) => Option.bind (getI v5 v4) fun (x11 : Int) => Option.bind (setI v5 v4 x9) fun (x12 : List Int) => Option.bind (getI x12 (w64 (v4 - 1))) fun (x13 : Int) => Option.bind (setI x12 (w64 (v4 - 1)) x10) fun (x14 : List Int) => (M_slices_insertionSortCmpFunc_int_c37_l2 c_1 t1 t2 t3_0 v1 n2) (w64 (v4 - 1)) x14) (c_1 (w64 (v1 + 1)) v5))
noncomputable def M_slices_insertionSortCmpFunc_int_c37_l1 (t1 : Int) (t2 : Int) (t3_0 : (List G_api_Node)) : Nat → Int → List Int → Option (Unit × List Int)
  | 0, _, _ => none
  | n1 + 1, v1, v2 =>
  cond (decide (v1 < t2)) (M_slices_insertionSortCmpFunc_int_c37_l2 (M_slices_insertionSortCmpFunc_int_c37_l1 t1 t2 t3_0 n1) t1 t2 t3_0 v1 fuel v1 v2) (some ((), v2))
noncomputable def M_slices_insertionSortCmpFunc_int_c37 (t0 : List Int) (t1 : Int) (t2 : Int) (t3_0 : (List G_api_Node)) : Option (Unit × List Int) :=
  M_slices_insertionSortCmpFunc_int_c37_l1 t1 t2 t3_0 fuel (w64 (t1 + 1)) t0
theorem ok_slices_insertionSortCmpFunc_int_c37 (t0 : List Int) (t1 : Int) (t2 : Int) (t3_0 : (List G_api_Node)) (r : (Unit × List Int)) (h : M_slices_insertionSortCmpFunc_int_c37 t0 t1 t2 t3_0 = some r) : F1n Tryd.prog 68 [(GV 0 t0.length), (I t1), (I t2), (Value.func (Fn.func 37) #[] #[(DP [(SL 5 c_api_Node t3_0)])])] ⟨1, (t0).flatMap cI, true⟩ (Value.tuple #[]) ⟨1, (r.2).flatMap cI, true⟩ := by
  refine F1n.of_body (n := 53) Tryd.func68 rfl Tryd.ntmps68 rfl rfl rfl rfl ?_
  show AWp _ _ _ ⟨53, 1, [(0, (GV 0 t0.length)), (1, (I t1)), (2, (I t2)), (3, (Value.func (Fn.func 37) #[] #[(DP [(SL 5 c_api_Node t3_0)])]))], [], ⟨1, [(0, ⟨1, ((t0).flatMap cI), true⟩)]⟩⟩
  unfold M_slices_insertionSortCmpFunc_int_c37 at h
  refine awp_seq ?_
  refine awp_region ?_
  refine arun_do rfl rfl rfl (ex_move (eV (v := (I t1)) rfl)) ?_
  refine arun_do rfl rfl rfl (ex_bin (vx := (I t1)) (vy := (I 1)) rfl rfl addI_ok) ?_
  refine arun_do rfl rfl rfl (ex_assign (eV (v := (I (w64 (t1 + 1)))) rfl)) ?_
  refine arun_keepE [0, 1, 2, 3, 8] 0 1 (st' := ⟨53, 1, [(0, (GV 0 t0.length)), (1, (I t1)), (2, (I t2)), (3, (Value.func (Fn.func 37) #[] #[(DP [(SL 5 c_api_Node t3_0)])])), (8, (I (w64 (t1 + 1))))], [], ⟨1, [(0, ⟨1, ((t0).flatMap cI), true⟩)]⟩⟩) (by kernel_rfl) (by kernel_rfl) ?_
  show AWp _ _ _ _
  refine awp_block ?_
  refine awp_loop (fun n s => ∃ (v1 : Int) (v2 : List Int), s = ⟨53, 1, [(0, (GV 0 v2.length)), (1, (I t1)), (2, (I t2)), (3, (Value.func (Fn.func 37) #[] #[(DP [(SL 5 c_api_Node t3_0)])])), (8, (I v1))], [], ⟨1, [(0, ⟨1, ((v2).flatMap cI), true⟩)]⟩⟩ ∧ M_slices_insertionSortCmpFunc_int_c37_l1 t1 t2 t3_0 n v1 v2 = some r) fuel (Exists.intro (w64 (t1 + 1)) (Exists.intro t0 (And.intro rfl h))) ?_
  rintro n s ⟨v1, v2, rfl, h⟩ -
  cases n with
  | zero => cases h
  | succ n1 =>
    unfold M_slices_insertionSortCmpFunc_int_c37_l1 at h
    refine awp_seq ?_
    refine awp_seq ?_
    refine awp_region ?_
    refine arun_do rfl rfl rfl (ex_move (eV (v := (I v1)) rfl)) ?_
    refine arun_do rfl rfl rfl (ex_move (eV (v := (I t2)) rfl)) ?_
    refine arun_do rfl rfl rfl (ex_bin (vx := (I v1)) (vy := (I t2)) rfl rfl lssI_ok) ?_
    refine arun_keepE [0, 1, 2, 3, 8, 14] 0 1 (st' := ⟨53, 1, [(0, (GV 0 v2.length)), (1, (I t1)), (2, (I t2)), (3, (Value.func (Fn.func 37) #[] #[(DP [(SL 5 c_api_Node t3_0)])])), (8, (I v1)), (14, (Bo (decide (v1 < t2))))], [], ⟨1, [(0, ⟨1, ((v2).flatMap cI), true⟩)]⟩⟩) (by kernel_rfl) (by kernel_rfl) ?_
    show AWp _ _ _ _
    rcases Bool.eq_false_or_eq_true (decide (v1 < t2)) with hb3 | hb3
    · rw [condT hb3] at h
      refine awp_condT (boT hb3) ?_
      refine awp_skip ?_
      show AWp _ _ _ _
      refine awp_seq ?_
      refine awp_block ?_
      refine awp_seq ?_
      refine awp_region ?_
      refine arun_do rfl rfl rfl (ex_move (eV (v := (I v1)) rfl)) ?_
      refine arun_do rfl rfl rfl (ex_assign (eV (v := (I v1)) rfl)) ?_
      refine arun_keepE [0, 1, 2, 3, 8, 9] 0 1 (st' := ⟨53, 1, [(0, (GV 0 v2.length)), (1, (I t1)), (2, (I t2)), (3, (Value.func (Fn.func 37) #[] #[(DP [(SL 5 c_api_Node t3_0)])])), (8, (I v1)), (9, (I v1))], [], ⟨1, [(0, ⟨1, ((v2).flatMap cI), true⟩)]⟩⟩) (by kernel_rfl) (by kernel_rfl) ?_
      show AWp _ _ _ _
      refine awp_block ?_
      refine awp_loop (fun n s => ∃ (v4 : Int) (v5 : List Int), s = ⟨53, 1, [(0, (GV 0 v5.length)), (1, (I t1)), (2, (I t2)), (3, (Value.func (Fn.func 37) #[] #[(DP [(SL 5 c_api_Node t3_0)])])), (8, (I v1)), (9, (I v4))], [], ⟨1, [(0, ⟨1, ((v5).flatMap cI), true⟩)]⟩⟩ ∧ M_slices_insertionSortCmpFunc_int_c37_l2 (M_slices_insertionSortCmpFunc_int_c37_l1 t1 t2 t3_0 n1) t1 t2 t3_0 v1 n v4 v5 = some r) fuel (Exists.intro v1 (Exists.intro v2 (And.intro rfl h))) ?_
      rintro n s ⟨v4, v5, rfl, h⟩ -
      cases n with
      | zero => cases h
      | succ n2 =>
        unfold M_slices_insertionSortCmpFunc_int_c37_l2 at h
        refine awp_seq ?_
        refine awp_seq ?_
        obtain ⟨x6, hx6, h⟩ := bindS h
        obtain ⟨x7, hx7, h⟩ := bindS h
        rcases Bool.eq_false_or_eq_true ((decide (v4 > t1)) == true) with hg4_0 | hg4_0
        · rw [condT hg4_0] at h
          obtain ⟨x8, hx8, h⟩ := bindS h
          refine awp_kn [0, 1, 2, 3, 8, 9, 34] 0 1 (st' := ⟨53, 1, [(0, (GV 0 v5.length)), (1, (I t1)), (2, (I t2)), (3, (Value.func (Fn.func 37) #[] #[(DP [(SL 5 c_api_Node t3_0)])])), (8, (I v1)), (9, (I v4)), (34, (Bo ((decide (v4 > t1)) && (decide (x8 < 0)))))], [], ⟨1, [(0, ⟨1, ((v5).flatMap cI), true⟩)]⟩⟩) (awp_draw (T := [(I v4), (I t1), (Bo (decide (v4 > t1))), (Bo (decide (v4 > t1))), (Value.func (Fn.func 37) #[] #[(DP [(SL 5 c_api_Node t3_0)])]), (GV 0 v5.length), (I v4), (GP 0 (v4.toNat * 1) (List.flatMap cI v5).length), (I x6), (GV 0 v5.length), (I v4), (I (w64 (v4 - 1))), (GP 0 ((w64 (v4 - 1)).toNat * 1) (List.flatMap cI v5).length), (I x7), (I x8), (Bo (decide (x8 < 0))), (Bo ((decide (v4 > t1)) && (decide (x8 < 0))))]) (LH := [([], ⟨1, [(0, ⟨1, ((v5).flatMap cI), true⟩)]⟩)]) (D := [⟨[(9, none)], [], [0], false⟩, ⟨[(1, none)], [], [0], false⟩, ⟨[(18, some 0), (19, some 1)], [0, 1], [0], false⟩, ⟨[(20, some 2)], [0, 1, 2], [0], false⟩, ⟨[(3, none), (21, some 3)], [0, 1, 2, 3], [0], false⟩, ⟨[(0, none), (21, some 3)], [0, 1, 2, 3], [0], false⟩, ⟨[(9, none), (21, some 3)], [0, 1, 2, 3], [0], false⟩, ⟨[(23, some 5), (24, some 6), (21, some 3)], [0, 1, 2, 3, 5, 6], [0], false⟩, ⟨[(25, some 7), (21, some 3)], [0, 1, 2, 3, 5, 6, 7], [0], false⟩, ⟨[(0, none), (21, some 3)], [0, 1, 2, 3], [0], false⟩, ⟨[(9, none), (21, some 3)], [0, 1, 2, 3], [0], false⟩, ⟨[(28, some 10), (21, some 3)], [0, 1, 2, 3, 10], [0], false⟩, ⟨[(27, some 9), (29, some 11), (21, some 3)], [0, 1, 2, 3, 9, 10, 11], [0], false⟩, ⟨[(30, some 12), (21, some 3)], [0, 1, 2, 3, 9, 10, 11, 12], [0], false⟩, ⟨[(22, some 4), (26, some 8), (31, some 13), (21, some 3)], [0, 1, 2, 3, 4, 5, 6, 7, 8, 9, 10, 11, 12, 13], [0], false⟩, ⟨[(32, some 14), (21, some 3)], [0, 1, 2, 3, 4, 5, 6, 7, 8, 9, 10, 11, 12, 13, 14], [0], false⟩, ⟨[(21, some 3), (33, some 15)], [0, 1, 2, 3, 4, 5, 6, 7, 8, 9, 10, 11, 12, 13, 14, 15], [0], false⟩]) (S := []) (plan := [0, 1, 2, 3, 4, 5, 6, 7, 8, 9, 10, 11, 12, 13, 14, 15, 16]) mo (by kernel_rfl) rfl rfl rfl (dcons (dstep1 (Tm := [(9, (I v4))]) (L := []) (H := ⟨1, [(0, ⟨1, ((v5).flatMap cI), true⟩)]⟩) rfl rfl rfl rfl rfl (astep_do rfl (ex_move (eV (v := (I v4)) rfl)))) (dcons (dstep1 (Tm := [(1, (I t1))]) (L := []) (H := ⟨1, [(0, ⟨1, ((v5).flatMap cI), true⟩)]⟩) rfl rfl rfl rfl rfl (astep_do rfl (ex_move (eV (v := (I t1)) rfl)))) (dcons (dstep1 (Tm := [(18, (I v4)), (19, (I t1))]) (L := []) (H := ⟨1, [(0, ⟨1, ((v5).flatMap cI), true⟩)]⟩) rfl rfl rfl rfl rfl (astep_do rfl (ex_bin (vx := (I v4)) (vy := (I t1)) rfl rfl gtrI_ok))) (dcons (dstep1 (Tm := [(20, (Bo (decide (v4 > t1))))]) (L := []) (H := ⟨1, [(0, ⟨1, ((v5).flatMap cI), true⟩)]⟩) rfl rfl rfl rfl rfl (astep_do rfl (ex_move (eV (v := (Bo (decide (v4 > t1)))) rfl)))) (dcons (dstep1 (Tm := [(3, (Value.func (Fn.func 37) #[] #[(DP [(SL 5 c_api_Node t3_0)])])), (21, (Bo (decide (v4 > t1))))]) (L := []) (H := ⟨1, [(0, ⟨1, ((v5).flatMap cI), true⟩)]⟩) rfl rfl rfl rfl rfl (astep_do (gT rfl hg4_0) (ex_move (eV (v := (Value.func (Fn.func 37) #[] #[(DP [(SL 5 c_api_Node t3_0)])])) rfl)))) (dcons (dstep1 (Tm := [(0, (GV 0 v5.length)), (21, (Bo (decide (v4 > t1))))]) (L := []) (H := ⟨1, [(0, ⟨1, ((v5).flatMap cI), true⟩)]⟩) rfl rfl rfl rfl rfl (astep_do (gT rfl hg4_0) (ex_move (eV (v := (GV 0 v5.length)) rfl)))) (dcons (dstep1 (Tm := [(9, (I v4)), (21, (Bo (decide (v4 > t1))))]) (L := []) (H := ⟨1, [(0, ⟨1, ((v5).flatMap cI), true⟩)]⟩) rfl rfl rfl rfl rfl (astep_do (gT rfl hg4_0) (ex_move (eV (v := (I v4)) rfl)))) (dcons (dstep1 (Tm := [(23, (GV 0 v5.length)), (24, (I v4)), (21, (Bo (decide (v4 > t1))))]) (L := []) (H := ⟨1, [(0, ⟨1, ((v5).flatMap cI), true⟩)]⟩) rfl rfl rfl rfl rfl (astep_do (gT rfl hg4_0) (tx_idxG (c := cI) (xs := v5) (i := v4) ceI Tryd.underlying29 s_3 rfl rfl rfl rfl (gd_of hg4_0 hx6)))) (dcons (dstep1 (Tm := [(25, (GP 0 (v4.toNat * 1) (List.flatMap cI v5).length)), (21, (Bo (decide (v4 > t1))))]) (L := []) (H := ⟨1, [(0, ⟨1, ((v5).flatMap cI), true⟩)]⟩) rfl rfl rfl rfl rfl (astep_do (gT rfl hg4_0) (tx_ldG (v := (I x6)) (s := 1) rfl rfl (part_elem (off := 0) (v := (I x6)) ceI (gd_of hg4_0 hx6) Tryd.underlying3 rfl (by decide) rfl)))) (dcons (dstep1 (Tm := [(0, (GV 0 v5.length)), (21, (Bo (decide (v4 > t1))))]) (L := []) (H := ⟨1, [(0, ⟨1, ((v5).flatMap cI), true⟩)]⟩) rfl rfl rfl rfl rfl (astep_do (gT rfl hg4_0) (ex_move (eV (v := (GV 0 v5.length)) rfl)))) (dcons (dstep1 (Tm := [(9, (I v4)), (21, (Bo (decide (v4 > t1))))]) (L := []) (H := ⟨1, [(0, ⟨1, ((v5).flatMap cI), true⟩)]⟩) rfl rfl rfl rfl rfl (astep_do (gT rfl hg4_0) (ex_move (eV (v := (I v4)) rfl)))) (dcons (dstep1 (Tm := [(28, (I v4)), (21, (Bo (decide (v4 > t1))))]) (L := []) (H := ⟨1, [(0, ⟨1, ((v5).flatMap cI), true⟩)]⟩) rfl rfl rfl rfl rfl (astep_do (gT rfl hg4_0) (ex_bin (vx := (I v4)) (vy := (I 1)) rfl rfl subI_ok))) (dcons (dstep1 (Tm := [(27, (GV 0 v5.length)), (29, (I (w64 (v4 - 1)))), (21, (Bo (decide (v4 > t1))))]) (L := []) (H := ⟨1, [(0, ⟨1, ((v5).flatMap cI), true⟩)]⟩) rfl rfl rfl rfl rfl (astep_do (gT rfl hg4_0) (tx_idxG (c := cI) (xs := v5) (i := (w64 (v4 - 1))) ceI Tryd.underlying29 s_3 rfl rfl rfl rfl (gd_of hg4_0 hx7)))) (dcons (dstep1 (Tm := [(30, (GP 0 ((w64 (v4 - 1)).toNat * 1) (List.flatMap cI v5).length)), (21, (Bo (decide (v4 > t1))))]) (L := []) (H := ⟨1, [(0, ⟨1, ((v5).flatMap cI), true⟩)]⟩) rfl rfl rfl rfl rfl (astep_do (gT rfl hg4_0) (tx_ldG (v := (I x7)) (s := 1) rfl rfl (part_elem (off := 0) (v := (I x7)) ceI (gd_of hg4_0 hx7) Tryd.underlying3 rfl (by decide) rfl)))) (dcons (dstep1 (Tm := [(22, (Value.func (Fn.func 37) #[] #[(DP [(SL 5 c_api_Node t3_0)])])), (26, (I x6)), (31, (I x7)), (21, (Bo (decide (v4 > t1))))]) (L := []) (H := ⟨1, [(0, ⟨1, ((v5).flatMap cI), true⟩)]⟩) rfl rfl rfl rfl rfl (astep_do (gT rfl hg4_0) (ex_callA (vs := [(I x6), (I x7), (DP [(SL 5 c_api_Node t3_0)])]) (v := (I x8)) rfl en_37 (cargsC (us := [(I x6), (I x7)]) (evs rfl (evs rfl evs_nil)) rfl) rfl (ok_node_Kids_1 x6 x7 t3_0 x8 hx8) rfl))) (dcons (dstep1 (Tm := [(32, (I x8)), (21, (Bo (decide (v4 > t1))))]) (L := []) (H := ⟨1, [(0, ⟨1, ((v5).flatMap cI), true⟩)]⟩) rfl rfl rfl rfl rfl (astep_do (gT rfl hg4_0) (ex_bin (vx := (I x8)) (vy := (I 0)) rfl rfl lssI_ok))) (dcons (dstep1 (Tm := [(21, (Bo (decide (v4 > t1)))), (33, (Bo (decide (x8 < 0))))]) (L := []) (H := ⟨1, [(0, ⟨1, ((v5).flatMap cI), true⟩)]⟩) rfl rfl rfl rfl rfl (astep_do rfl (ex_pick rfl pkAndD))) dnil))))))))))))))))) ⟨rfl, rfl⟩) (by kernel_rfl) (by kernel_rfl) ?_
          show AWp _ _ _ _
          rcases Bool.eq_false_or_eq_true ((decide (v4 > t1)) && (decide (x8 < 0))) with hb9 | hb9
          · rw [condT hb9] at h
            refine awp_condT (boT hb9) ?_
            refine awp_skip ?_
            show AWp _ _ _ _
            refine awp_seq ?_
            refine awp_block ?_
            obtain ⟨x10, hx10, h⟩ := bindS h
            obtain ⟨x11, hx11, h⟩ := bindS h
            obtain ⟨x12, hx12, h⟩ := bindS h
            obtain ⟨x13, hx13, h⟩ := bindS h
            obtain ⟨x14, hx14, h⟩ := bindS h
            obtain ⟨x15, hx15, h⟩ := bindS h
            refine awp_knR [0, 1, 2, 3, 8, 9] 0 1 [(0, (GV 0 x15.length)), (1, (I t1)), (2, (I t2)), (3, (Value.func (Fn.func 37) #[] #[(DP [(SL 5 c_api_Node t3_0)])])), (8, (I v1)), (9, (I v4))] (st' := ⟨53, 1, [(0, (GV 0 v5.length)), (1, (I t1)), (2, (I t2)), (3, (Value.func (Fn.func 37) #[] #[(DP [(SL 5 c_api_Node t3_0)])])), (8, (I v1)), (9, (I v4))], [], ⟨1, [(0, ⟨1, ((x15).flatMap cI), true⟩)]⟩⟩) (awp_draw (T := [(GV 0 v5.length), (I v4), (GV 0 v5.length), (I v4), (I (w64 (v4 - 1))), (GV 0 v5.length), (I v4), (I (w64 (v4 - 1))), (GP 0 ((w64 (v4 - 1)).toNat * 1) (List.flatMap cI v5).length), (I x10), (GV 0 v5.length), (I v4), (GP 0 (v4.toNat * 1) (List.flatMap cI v5).length), (I x11), (GP 0 (v4.toNat * 1) (List.flatMap cI v5).length), undef, (GP 0 ((w64 (v4 - 1)).toNat * 1) (List.flatMap cI x13).length), undef]) (LH := [([], ⟨1, [(0, ⟨1, ((v5).flatMap cI), true⟩)]⟩), ([], ⟨1, [(0, ⟨1, ((x13).flatMap cI), true⟩)]⟩), ([], ⟨1, [(0, ⟨1, ((x15).flatMap cI), true⟩)]⟩)]) (D := [⟨[(0, none)], [], [0], false⟩, ⟨[(9, none)], [], [0], false⟩, ⟨[(0, none)], [], [0, 1], false⟩, ⟨[(9, none)], [], [0, 1], false⟩, ⟨[(40, some 3)], [3], [0, 1], false⟩, ⟨[(0, none)], [], [0], false⟩, ⟨[(9, none)], [], [0], false⟩, ⟨[(43, some 6)], [6], [0], false⟩, ⟨[(42, some 5), (44, some 7)], [5, 6, 7], [0], false⟩, ⟨[(45, some 8)], [5, 6, 7, 8], [0], false⟩, ⟨[(0, none)], [], [0], false⟩, ⟨[(9, none)], [], [0], false⟩, ⟨[(47, some 10), (48, some 11)], [10, 11], [0], false⟩, ⟨[(49, some 12)], [10, 11, 12], [0], false⟩, ⟨[(37, some 0), (38, some 1)], [0, 1, 5, 6, 7, 8, 9, 10, 11, 12, 13], [0], false⟩, ⟨[(51, some 14), (46, some 9)], [0, 1, 5, 6, 7, 8, 9, 10, 11, 12, 13, 14], [0], true⟩, ⟨[(39, some 2), (41, some 4)], [0, 1, 2, 3, 4, 5, 6, 7, 8, 9, 10, 11, 12, 13, 14, 15], [1], false⟩, ⟨[(52, some 16), (50, some 13)], [0, 1, 2, 3, 4, 5, 6, 7, 8, 9, 10, 11, 12, 13, 14, 15, 16], [1], true⟩]) (S := [15, 17]) (plan := [0, 1, 2, 3, 4, 5, 6, 7, 8, 9, 10, 11, 12, 13, 14, 15, 16, 17]) mo (by kernel_rfl) rfl rfl rfl (dcons (dstep1 (Tm := [(0, (GV 0 v5.length))]) (L := []) (H := ⟨1, [(0, ⟨1, ((v5).flatMap cI), true⟩)]⟩) rfl rfl rfl rfl rfl (astep_do rfl (ex_move (eV (v := (GV 0 v5.length)) rfl)))) (dcons (dstep1 (Tm := [(9, (I v4))]) (L := []) (H := ⟨1, [(0, ⟨1, ((v5).flatMap cI), true⟩)]⟩) rfl rfl rfl rfl rfl (astep_do rfl (ex_move (eV (v := (I v4)) rfl)))) (dcons (dstepN (by intro k hk; simp only [List.mem_cons, List.not_mem_nil, or_false] at hk; rcases hk with rfl | rfl <;> exact ⟨[(0, (GV 0 v5.length))], _, _, _, _, _, rfl, rfl, rfl, rfl, astep_do rfl (ex_move (eV (v := (GV 0 v5.length)) rfl))⟩)) (dcons (dstepN (by intro k hk; simp only [List.mem_cons, List.not_mem_nil, or_false] at hk; rcases hk with rfl | rfl <;> exact ⟨[(9, (I v4))], _, _, _, _, _, rfl, rfl, rfl, rfl, astep_do rfl (ex_move (eV (v := (I v4)) rfl))⟩)) (dcons (dstepN (by intro k hk; simp only [List.mem_cons, List.not_mem_nil, or_false] at hk; rcases hk with rfl | rfl <;> exact ⟨[(40, (I v4))], _, _, _, _, _, rfl, rfl, rfl, rfl, astep_do rfl (ex_bin (vx := (I v4)) (vy := (I 1)) rfl rfl subI_ok)⟩)) (dcons (dstep1 (Tm := [(0, (GV 0 v5.length))]) (L := []) (H := ⟨1, [(0, ⟨1, ((v5).flatMap cI), true⟩)]⟩) rfl rfl rfl rfl rfl (astep_do rfl (ex_move (eV (v := (GV 0 v5.length)) rfl)))) (dcons (dstep1 (Tm := [(9, (I v4))]) (L := []) (H := ⟨1, [(0, ⟨1, ((v5).flatMap cI), true⟩)]⟩) rfl rfl rfl rfl rfl (astep_do rfl (ex_move (eV (v := (I v4)) rfl)))) (dcons (dstep1 (Tm := [(43, (I v4))]) (L := []) (H := ⟨1, [(0, ⟨1, ((v5).flatMap cI), true⟩)]⟩) rfl rfl rfl rfl rfl (astep_do rfl (ex_bin (vx := (I v4)) (vy := (I 1)) rfl rfl subI_ok))) (dcons (dstep1 (Tm := [(42, (GV 0 v5.length)), (44, (I (w64 (v4 - 1))))]) (L := []) (H := ⟨1, [(0, ⟨1, ((v5).flatMap cI), true⟩)]⟩) rfl rfl rfl rfl rfl (astep_do rfl (tx_idxG (c := cI) (xs := v5) (i := (w64 (v4 - 1))) ceI Tryd.underlying29 s_3 rfl rfl rfl rfl hx10))) (dcons (dstep1 (Tm := [(45, (GP 0 ((w64 (v4 - 1)).toNat * 1) (List.flatMap cI v5).length))]) (L := []) (H := ⟨1, [(0, ⟨1, ((v5).flatMap cI), true⟩)]⟩) rfl rfl rfl rfl rfl (astep_do rfl (tx_ldG (v := (I x10)) (s := 1) rfl rfl (part_elem (off := 0) (v := (I x10)) ceI hx10 Tryd.underlying3 rfl (by decide) rfl)))) (dcons (dstep1 (Tm := [(0, (GV 0 v5.length))]) (L := []) (H := ⟨1, [(0, ⟨1, ((v5).flatMap cI), true⟩)]⟩) rfl rfl rfl rfl rfl (astep_do rfl (ex_move (eV (v := (GV 0 v5.length)) rfl)))) (dcons (dstep1 (Tm := [(9, (I v4))]) (L := []) (H := ⟨1, [(0, ⟨1, ((v5).flatMap cI), true⟩)]⟩) rfl rfl rfl rfl rfl (astep_do rfl (ex_move (eV (v := (I v4)) rfl)))) (dcons (dstep1 (Tm := [(47, (GV 0 v5.length)), (48, (I v4))]) (L := []) (H := ⟨1, [(0, ⟨1, ((v5).flatMap cI), true⟩)]⟩) rfl rfl rfl rfl rfl (astep_do rfl (tx_idxG (c := cI) (xs := v5) (i := v4) ceI Tryd.underlying29 s_3 rfl rfl rfl rfl hx11))) (dcons (dstep1 (Tm := [(49, (GP 0 (v4.toNat * 1) (List.flatMap cI v5).length))]) (L := []) (H := ⟨1, [(0, ⟨1, ((v5).flatMap cI), true⟩)]⟩) rfl rfl rfl rfl rfl (astep_do rfl (tx_ldG (v := (I x11)) (s := 1) rfl rfl (part_elem (off := 0) (v := (I x11)) ceI hx11 Tryd.underlying3 rfl (by decide) rfl)))) (dcons (dstep1 (Tm := [(37, (GV 0 v5.length)), (38, (I v4))]) (L := []) (H := ⟨1, [(0, ⟨1, ((v5).flatMap cI), true⟩)]⟩) rfl rfl rfl rfl rfl (astep_do rfl (tx_idxG (c := cI) (xs := v5) (i := v4) ceI Tryd.underlying29 s_3 rfl rfl rfl rfl hx12))) (dcons (dstep1 (Tm := [(51, (GP 0 (v4.toNat * 1) (List.flatMap cI v5).length)), (46, (I x10))]) (L := []) (H := ⟨1, [(0, ⟨1, ((v5).flatMap cI), true⟩)]⟩) rfl rfl rfl rfl rfl (astep_do rfl (tx_stG (c := cI) (xs := v5) (e := x10) (H' := ⟨1, [(0, ⟨1, ((x13).flatMap cI), true⟩)]⟩) ceI s_3 rfl (eV (v := (I x10)) rfl) rfl rfl hx13 rfl))) (dcons (dstep1 (Tm := [(39, (GV 0 v5.length)), (41, (I (w64 (v4 - 1))))]) (L := []) (H := ⟨1, [(0, ⟨1, ((x13).flatMap cI), true⟩)]⟩) rfl rfl rfl rfl rfl (astep_do rfl (tx_idxG (c := cI) (xs := x13) (i := (w64 (v4 - 1))) ceI Tryd.underlying29 s_3 rfl rfl rfl (setI_len hx13) hx14))) (dcons (dstep1 (Tm := [(52, (GP 0 ((w64 (v4 - 1)).toNat * 1) (List.flatMap cI x13).length)), (50, (I x11))]) (L := []) (H := ⟨1, [(0, ⟨1, ((x13).flatMap cI), true⟩)]⟩) rfl rfl rfl rfl rfl (astep_do rfl (tx_stG (c := cI) (xs := x13) (e := x11) (H' := ⟨1, [(0, ⟨1, ((x15).flatMap cI), true⟩)]⟩) ceI s_3 rfl (eV (v := (I x11)) rfl) rfl rfl hx15 rfl))) dnil)))))))))))))))))) ⟨rfl, rfl⟩) (by kernel_rfl) (by kernel_rfl) (ReT.gv rfl (Eq.trans (setI_len hx13) (setI_len hx15)) (ReT.keep (v := (I t1)) rfl (ReT.keep (v := (I t2)) rfl (ReT.keep (v := (Value.func (Fn.func 37) #[] #[(DP [(SL 5 c_api_Node t3_0)])])) rfl (ReT.keep (v := (I v1)) rfl (ReT.keep (v := (I v4)) rfl ReT.nil)))))) ?_
            show AWp _ _ _ _
            refine awp_region ?_
            refine arun_do rfl rfl rfl (ex_move (eV (v := (I v4)) rfl)) ?_
            refine arun_do rfl rfl rfl (ex_bin (vx := (I v4)) (vy := (I 1)) rfl rfl subI_ok) ?_
            refine arun_do rfl rfl rfl (ex_assign (eV (v := (I (w64 (v4 - 1)))) rfl)) ?_
            refine arun_keepE [0, 1, 2, 3, 8, 9] 0 1 (st' := ⟨53, 1, [(0, (GV 0 x15.length)), (1, (I t1)), (2, (I t2)), (3, (Value.func (Fn.func 37) #[] #[(DP [(SL 5 c_api_Node t3_0)])])), (8, (I v1)), (9, (I (w64 (v4 - 1))))], [], ⟨1, [(0, ⟨1, ((x15).flatMap cI), true⟩)]⟩⟩) (by kernel_rfl) (by kernel_rfl) ?_
            exact Exists.intro n2 (And.intro (Nat.lt_succ_self _) (Exists.intro (w64 (v4 - 1)) (Exists.intro x15 (And.intro rfl h))))
          · rw [condF hb9] at h
            refine awp_condF (boF hb9) ?_
            refine awp_exit ?_
            show AWp _ _ _ _
            refine awp_region ?_
            refine arun_do rfl rfl rfl (ex_move (eV (v := (I v1)) rfl)) ?_
            refine arun_do rfl rfl rfl (ex_bin (vx := (I v1)) (vy := (I 1)) rfl rfl addI_ok) ?_
            refine arun_do rfl rfl rfl (ex_assign (eV (v := (I (w64 (v1 + 1)))) rfl)) ?_
            refine arun_keepE [0, 1, 2, 3, 8] 0 1 (st' := ⟨53, 1, [(0, (GV 0 v5.length)), (1, (I t1)), (2, (I t2)), (3, (Value.func (Fn.func 37) #[] #[(DP [(SL 5 c_api_Node t3_0)])])), (8, (I (w64 (v1 + 1))))], [], ⟨1, [(0, ⟨1, ((v5).flatMap cI), true⟩)]⟩⟩) (by kernel_rfl) (by kernel_rfl) ?_
            exact Exists.intro n1 (And.intro (Nat.lt_succ_self _) (Exists.intro (w64 (v1 + 1)) (Exists.intro v5 (And.intro rfl h))))
        · rw [condF hg4_0] at h
          refine awp_kn [0, 1, 2, 3, 8, 9, 34] 0 1 (st' := ⟨53, 1, [(0, (GV 0 v5.length)), (1, (I t1)), (2, (I t2)), (3, (Value.func (Fn.func 37) #[] #[(DP [(SL 5 c_api_Node t3_0)])])), (8, (I v1)), (9, (I v4)), (34, (Bo (decide (v4 > t1))))], [], ⟨1, [(0, ⟨1, ((v5).flatMap cI), true⟩)]⟩⟩) (awp_draw (T := [(I v4), (I t1), (Bo (decide (v4 > t1))), (Bo (decide (v4 > t1))), skipV, skipV, skipV, skipV, skipV, skipV, skipV, skipV, skipV, skipV, skipV, skipV, (Bo (decide (v4 > t1)))]) (LH := [([], ⟨1, [(0, ⟨1, ((v5).flatMap cI), true⟩)]⟩)]) (D := [⟨[(9, none)], [], [0], false⟩, ⟨[(1, none)], [], [0], false⟩, ⟨[(18, some 0), (19, some 1)], [0, 1], [0], false⟩, ⟨[(20, some 2)], [0, 1, 2], [0], false⟩, ⟨[(3, none), (21, some 3)], [0, 1, 2, 3], [0], false⟩, ⟨[(0, none), (21, some 3)], [0, 1, 2, 3], [0], false⟩, ⟨[(9, none), (21, some 3)], [0, 1, 2, 3], [0], false⟩, ⟨[(23, some 5), (24, some 6), (21, some 3)], [0, 1, 2, 3, 5, 6], [0], false⟩, ⟨[(25, some 7), (21, some 3)], [0, 1, 2, 3, 5, 6, 7], [0], false⟩, ⟨[(0, none), (21, some 3)], [0, 1, 2, 3], [0], false⟩, ⟨[(9, none), (21, some 3)], [0, 1, 2, 3], [0], false⟩, ⟨[(28, some 10), (21, some 3)], [0, 1, 2, 3, 10], [0], false⟩, ⟨[(27, some 9), (29, some 11), (21, some 3)], [0, 1, 2, 3, 9, 10, 11], [0], false⟩, ⟨[(30, some 12), (21, some 3)], [0, 1, 2, 3, 9, 10, 11, 12], [0], false⟩, ⟨[(22, some 4), (26, some 8), (31, some 13), (21, some 3)], [0, 1, 2, 3, 4, 5, 6, 7, 8, 9, 10, 11, 12, 13], [0], false⟩, ⟨[(32, some 14), (21, some 3)], [0, 1, 2, 3, 4, 5, 6, 7, 8, 9, 10, 11, 12, 13, 14], [0], false⟩, ⟨[(21, some 3), (33, some 15)], [0, 1, 2, 3, 4, 5, 6, 7, 8, 9, 10, 11, 12, 13, 14, 15], [0], false⟩]) (S := []) (plan := [0, 1, 2, 3, 4, 5, 6, 7, 8, 9, 10, 11, 12, 13, 14, 15, 16]) mo (by kernel_rfl) rfl rfl rfl (dcons (dstep1 (Tm := [(9, (I v4))]) (L := []) (H := ⟨1, [(0, ⟨1, ((v5).flatMap cI), true⟩)]⟩) rfl rfl rfl rfl rfl (astep_do rfl (ex_move (eV (v := (I v4)) rfl)))) (dcons (dstep1 (Tm := [(1, (I t1))]) (L := []) (H := ⟨1, [(0, ⟨1, ((v5).flatMap cI), true⟩)]⟩) rfl rfl rfl rfl rfl (astep_do rfl (ex_move (eV (v := (I t1)) rfl)))) (dcons (dstep1 (Tm := [(18, (I v4)), (19, (I t1))]) (L := []) (H := ⟨1, [(0, ⟨1, ((v5).flatMap cI), true⟩)]⟩) rfl rfl rfl rfl rfl (astep_do rfl (ex_bin (vx := (I v4)) (vy := (I t1)) rfl rfl gtrI_ok))) (dcons (dstep1 (Tm := [(20, (Bo (decide (v4 > t1))))]) (L := []) (H := ⟨1, [(0, ⟨1, ((v5).flatMap cI), true⟩)]⟩) rfl rfl rfl rfl rfl (astep_do rfl (ex_move (eV (v := (Bo (decide (v4 > t1)))) rfl)))) (dcons (dstep1 (Tm := [(3, (Value.func (Fn.func 37) #[] #[(DP [(SL 5 c_api_Node t3_0)])])), (21, (Bo (decide (v4 > t1))))]) (L := []) (H := ⟨1, [(0, ⟨1, ((v5).flatMap cI), true⟩)]⟩) rfl rfl rfl rfl rfl (astep_skip (gF rfl hg4_0))) (dcons (dstep1 (Tm := [(0, (GV 0 v5.length)), (21, (Bo (decide (v4 > t1))))]) (L := []) (H := ⟨1, [(0, ⟨1, ((v5).flatMap cI), true⟩)]⟩) rfl rfl rfl rfl rfl (astep_skip (gF rfl hg4_0))) (dcons (dstep1 (Tm := [(9, (I v4)), (21, (Bo (decide (v4 > t1))))]) (L := []) (H := ⟨1, [(0, ⟨1, ((v5).flatMap cI), true⟩)]⟩) rfl rfl rfl rfl rfl (astep_skip (gF rfl hg4_0))) (dcons (dstep1 (Tm := [(23, skipV), (24, skipV), (21, (Bo (decide (v4 > t1))))]) (L := []) (H := ⟨1, [(0, ⟨1, ((v5).flatMap cI), true⟩)]⟩) rfl rfl rfl rfl rfl (astep_skip (gF rfl hg4_0))) (dcons (dstep1 (Tm := [(25, skipV), (21, (Bo (decide (v4 > t1))))]) (L := []) (H := ⟨1, [(0, ⟨1, ((v5).flatMap cI), true⟩)]⟩) rfl rfl rfl rfl rfl (astep_skip (gF rfl hg4_0))) (dcons (dstep1 (Tm := [(0, (GV 0 v5.length)), (21, (Bo (decide (v4 > t1))))]) (L := []) (H := ⟨1, [(0, ⟨1, ((v5).flatMap cI), true⟩)]⟩) rfl rfl rfl rfl rfl (astep_skip (gF rfl hg4_0))) (dcons (dstep1 (Tm := [(9, (I v4)), (21, (Bo (decide (v4 > t1))))]) (L := []) (H := ⟨1, [(0, ⟨1, ((v5).flatMap cI), true⟩)]⟩) rfl rfl rfl rfl rfl (astep_skip (gF rfl hg4_0))) (dcons (dstep1 (Tm := [(28, skipV), (21, (Bo (decide (v4 > t1))))]) (L := []) (H := ⟨1, [(0, ⟨1, ((v5).flatMap cI), true⟩)]⟩) rfl rfl rfl rfl rfl (astep_skip (gF rfl hg4_0))) (dcons (dstep1 (Tm := [(27, skipV), (29, skipV), (21, (Bo (decide (v4 > t1))))]) (L := []) (H := ⟨1, [(0, ⟨1, ((v5).flatMap cI), true⟩)]⟩) rfl rfl rfl rfl rfl (astep_skip (gF rfl hg4_0))) (dcons (dstep1 (Tm := [(30, skipV), (21, (Bo (decide (v4 > t1))))]) (L := []) (H := ⟨1, [(0, ⟨1, ((v5).flatMap cI), true⟩)]⟩) rfl rfl rfl rfl rfl (astep_skip (gF rfl hg4_0))) (dcons (dstep1 (Tm := [(22, skipV), (26, skipV), (31, skipV), (21, (Bo (decide (v4 > t1))))]) (L := []) (H := ⟨1, [(0, ⟨1, ((v5).flatMap cI), true⟩)]⟩) rfl rfl rfl rfl rfl (astep_skip (gF rfl hg4_0))) (dcons (dstep1 (Tm := [(32, skipV), (21, (Bo (decide (v4 > t1))))]) (L := []) (H := ⟨1, [(0, ⟨1, ((v5).flatMap cI), true⟩)]⟩) rfl rfl rfl rfl rfl (astep_skip (gF rfl hg4_0))) (dcons (dstep1 (Tm := [(21, (Bo (decide (v4 > t1)))), (33, skipV)]) (L := []) (H := ⟨1, [(0, ⟨1, ((v5).flatMap cI), true⟩)]⟩) rfl rfl rfl rfl rfl (astep_do rfl (ex_pick rfl (pkAndS hg4_0)))) dnil))))))))))))))))) ⟨rfl, rfl⟩) (by kernel_rfl) (by kernel_rfl) ?_
          show AWp _ _ _ _
          rcases Bool.eq_false_or_eq_true (decide (v4 > t1)) with hb8 | hb8
          · rw [condT hb8] at h
            refine awp_condT (boT hb8) ?_
            refine awp_skip ?_
            show AWp _ _ _ _
            refine awp_seq ?_
            refine awp_block ?_
            obtain ⟨x9, hx9, h⟩ := bindS h
            obtain ⟨x10, hx10, h⟩ := bindS h
            obtain ⟨x11, hx11, h⟩ := bindS h
            obtain ⟨x12, hx12, h⟩ := bindS h
            obtain ⟨x13, hx13, h⟩ := bindS h
            obtain ⟨x14, hx14, h⟩ := bindS h
            refine awp_knR [0, 1, 2, 3, 8, 9] 0 1 [(0, (GV 0 x14.length)), (1, (I t1)), (2, (I t2)), (3, (Value.func (Fn.func 37) #[] #[(DP [(SL 5 c_api_Node t3_0)])])), (8, (I v1)), (9, (I v4))] (st' := ⟨53, 1, [(0, (GV 0 v5.length)), (1, (I t1)), (2, (I t2)), (3, (Value.func (Fn.func 37) #[] #[(DP [(SL 5 c_api_Node t3_0)])])), (8, (I v1)), (9, (I v4))], [], ⟨1, [(0, ⟨1, ((x14).flatMap cI), true⟩)]⟩⟩) (awp_draw (T := [(GV 0 v5.length), (I v4), (GV 0 v5.length), (I v4), (I (w64 (v4 - 1))), (GV 0 v5.length), (I v4), (I (w64 (v4 - 1))), (GP 0 ((w64 (v4 - 1)).toNat * 1) (List.flatMap cI v5).length), (I x9), (GV 0 v5.length), (I v4), (GP 0 (v4.toNat * 1) (List.flatMap cI v5).length), (I x10), (GP 0 (v4.toNat * 1) (List.flatMap cI v5).length), undef, (GP 0 ((w64 (v4 - 1)).toNat * 1) (List.flatMap cI x12).length), undef]) (LH := [([], ⟨1, [(0, ⟨1, ((v5).flatMap cI), true⟩)]⟩), ([], ⟨1, [(0, ⟨1, ((x12).flatMap cI), true⟩)]⟩), ([], ⟨1, [(0, ⟨1, ((x14).flatMap cI), true⟩)]⟩)]) (D := [⟨[(0, none)], [], [0], false⟩, ⟨[(9, none)], [], [0], false⟩, ⟨[(0, none)], [], [0, 1], false⟩, ⟨[(9, none)], [], [0, 1], false⟩, ⟨[(40, some 3)], [3], [0, 1], false⟩, ⟨[(0, none)], [], [0], false⟩, ⟨[(9, none)], [], [0], false⟩, ⟨[(43, some 6)], [6], [0], false⟩, ⟨[(42, some 5), (44, some 7)], [5, 6, 7], [0], false⟩, ⟨[(45, some 8)], [5, 6, 7, 8], [0], false⟩, ⟨[(0, none)], [], [0], false⟩, ⟨[(9, none)], [], [0], false⟩, ⟨[(47, some 10), (48, some 11)], [10, 11], [0], false⟩, ⟨[(49, some 12)], [10, 11, 12], [0], false⟩, ⟨[(37, some 0), (38, some 1)], [0, 1, 5, 6, 7, 8, 9, 10, 11, 12, 13], [0], false⟩, ⟨[(51, some 14), (46, some 9)], [0, 1, 5, 6, 7, 8, 9, 10, 11, 12, 13, 14], [0], true⟩, ⟨[(39, some 2), (41, some 4)], [0, 1, 2, 3, 4, 5, 6, 7, 8, 9, 10, 11, 12, 13, 14, 15], [1], false⟩, ⟨[(52, some 16), (50, some 13)], [0, 1, 2, 3, 4, 5, 6, 7, 8, 9, 10, 11, 12, 13, 14, 15, 16], [1], true⟩]) (S := [15, 17]) (plan := [0, 1, 2, 3, 4, 5, 6, 7, 8, 9, 10, 11, 12, 13, 14, 15, 16, 17]) mo (by kernel_rfl) rfl rfl rfl (dcons (dstep1 (Tm := [(0, (GV 0 v5.length))]) (L := []) (H := ⟨1, [(0, ⟨1, ((v5).flatMap cI), true⟩)]⟩) rfl rfl rfl rfl rfl (astep_do rfl (ex_move (eV (v := (GV 0 v5.length)) rfl)))) (dcons (dstep1 (Tm := [(9, (I v4))]) (L := []) (H := ⟨1, [(0, ⟨1, ((v5).flatMap cI), true⟩)]⟩) rfl rfl rfl rfl rfl (astep_do rfl (ex_move (eV (v := (I v4)) rfl)))) (dcons (dstepN (by intro k hk; simp only [List.mem_cons, List.not_mem_nil, or_false] at hk; rcases hk with rfl | rfl <;> exact ⟨[(0, (GV 0 v5.length))], _, _, _, _, _, rfl, rfl, rfl, rfl, astep_do rfl (ex_move (eV (v := (GV 0 v5.length)) rfl))⟩)) (dcons (dstepN (by intro k hk; simp only [List.mem_cons, List.not_mem_nil, or_false] at hk; rcases hk with rfl | rfl <;> exact ⟨[(9, (I v4))], _, _, _, _, _, rfl, rfl, rfl, rfl, astep_do rfl (ex_move (eV (v := (I v4)) rfl))⟩)) (dcons (dstepN (by intro k hk; simp only [List.mem_cons, List.not_mem_nil, or_false] at hk; rcases hk with rfl | rfl <;> exact ⟨[(40, (I v4))], _, _, _, _, _, rfl, rfl, rfl, rfl, astep_do rfl (ex_bin (vx := (I v4)) (vy := (I 1)) rfl rfl subI_ok)⟩)) (dcons (dstep1 (Tm := [(0, (GV 0 v5.length))]) (L := []) (H := ⟨1, [(0, ⟨1, ((v5).flatMap cI), true⟩)]⟩) rfl rfl rfl rfl rfl (astep_do rfl (ex_move (eV (v := (GV 0 v5.length)) rfl)))) (dcons (dstep1 (Tm := [(9, (I v4))]) (L := []) (H := ⟨1, [(0, ⟨1, ((v5).flatMap cI), true⟩)]⟩) rfl rfl rfl rfl rfl (astep_do rfl (ex_move (eV (v := (I v4)) rfl)))) (dcons (dstep1 (Tm := [(43, (I v4))]) (L := []) (H := ⟨1, [(0, ⟨1, ((v5).flatMap cI), true⟩)]⟩) rfl rfl rfl rfl rfl (astep_do rfl (ex_bin (vx := (I v4)) (vy := (I 1)) rfl rfl subI_ok))) (dcons (dstep1 (Tm := [(42, (GV 0 v5.length)), (44, (I (w64 (v4 - 1))))]) (L := []) (H := ⟨1, [(0, ⟨1, ((v5).flatMap cI), true⟩)]⟩) rfl rfl rfl rfl rfl (astep_do rfl (tx_idxG (c := cI) (xs := v5) (i := (w64 (v4 - 1))) ceI Tryd.underlying29 s_3 rfl rfl rfl rfl hx9))) (dcons (dstep1 (Tm := [(45, (GP 0 ((w64 (v4 - 1)).toNat * 1) (List.flatMap cI v5).length))]) (L := []) (H := ⟨1, [(0, ⟨1, ((v5).flatMap cI), true⟩)]⟩) rfl rfl rfl rfl rfl (astep_do rfl (tx_ldG (v := (I x9)) (s := 1) rfl rfl (part_elem (off := 0) (v := (I x9)) ceI hx9 Tryd.underlying3 rfl (by decide) rfl)))) (dcons (dstep1 (Tm := [(0, (GV 0 v5.length))]) (L := []) (H := ⟨1, [(0, ⟨1, ((v5).flatMap cI), true⟩)]⟩) rfl rfl rfl rfl rfl (astep_do rfl (ex_move (eV (v := (GV 0 v5.length)) rfl)))) (dcons (dstep1 (Tm := [(9, (I v4))]) (L := []) (H := ⟨1, [(0, ⟨1, ((v5).flatMap cI), true⟩)]⟩) rfl rfl rfl rfl rfl (astep_do rfl (ex_move (eV (v := (I v4)) rfl)))) (dcons (dstep1 (Tm := [(47, (GV 0 v5.length)), (48, (I v4))]) (L := []) (H := ⟨1, [(0, ⟨1, ((v5).flatMap cI), true⟩)]⟩) rfl rfl rfl rfl rfl (astep_do rfl (tx_idxG (c := cI) (xs := v5) (i := v4) ceI Tryd.underlying29 s_3 rfl rfl rfl rfl hx10))) (dcons (dstep1 (Tm := [(49, (GP 0 (v4.toNat * 1) (List.flatMap cI v5).length))]) (L := []) (H := ⟨1, [(0, ⟨1, ((v5).flatMap cI), true⟩)]⟩) rfl rfl rfl rfl rfl (astep_do rfl (tx_ldG (v := (I x10)) (s := 1) rfl rfl (part_elem (off := 0) (v := (I x10)) ceI hx10 Tryd.underlying3 rfl (by decide) rfl)))) (dcons (dstep1 (Tm := [(37, (GV 0 v5.length)), (38, (I v4))]) (L := []) (H := ⟨1, [(0, ⟨1, ((v5).flatMap cI), true⟩)]⟩) rfl rfl rfl rfl rfl (astep_do rfl (tx_idxG (c := cI) (xs := v5) (i := v4) ceI Tryd.underlying29 s_3 rfl rfl rfl rfl hx11))) (dcons (dstep1 (Tm := [(51, (GP 0 (v4.toNat * 1) (List.flatMap cI v5).length)), (46, (I x9))]) (L := []) (H := ⟨1, [(0, ⟨1, ((v5).flatMap cI), true⟩)]⟩) rfl rfl rfl rfl rfl (astep_do rfl (tx_stG (c := cI) (xs := v5) (e := x9) (H' := ⟨1, [(0, ⟨1, ((x12).flatMap cI), true⟩)]⟩) ceI s_3 rfl (eV (v := (I x9)) rfl) rfl rfl hx12 rfl))) (dcons (dstep1 (Tm := [(39, (GV 0 v5.length)), (41, (I (w64 (v4 - 1))))]) (L := []) (H := ⟨1, [(0, ⟨1, ((x12).flatMap cI), true⟩)]⟩) rfl rfl rfl rfl rfl (astep_do rfl (tx_idxG (c := cI) (xs := x12) (i := (w64 (v4 - 1))) ceI Tryd.underlying29 s_3 rfl rfl rfl (setI_len hx12) hx13))) (dcons (dstep1 (Tm := [(52, (GP 0 ((w64 (v4 - 1)).toNat * 1) (List.flatMap cI x12).length)), (50, (I x10))]) (L := []) (H := ⟨1, [(0, ⟨1, ((x12).flatMap cI), true⟩)]⟩) rfl rfl rfl rfl rfl (astep_do rfl (tx_stG (c := cI) (xs := x12) (e := x10) (H' := ⟨1, [(0, ⟨1, ((x14).flatMap cI), true⟩)]⟩) ceI s_3 rfl (eV (v := (I x10)) rfl) rfl rfl hx14 rfl))) dnil)))))))))))))))))) ⟨rfl, rfl⟩) (by kernel_rfl) (by kernel_rfl) (ReT.gv rfl (Eq.trans (setI_len hx12) (setI_len hx14)) (ReT.keep (v := (I t1)) rfl (ReT.keep (v := (I t2)) rfl (ReT.keep (v := (Value.func (Fn.func 37) #[] #[(DP [(SL 5 c_api_Node t3_0)])])) rfl (ReT.keep (v := (I v1)) rfl (ReT.keep (v := (I v4)) rfl ReT.nil)))))) ?_
            show AWp _ _ _ _
            refine awp_region ?_
            refine arun_do rfl rfl rfl (ex_move (eV (v := (I v4)) rfl)) ?_
            refine arun_do rfl rfl rfl (ex_bin (vx := (I v4)) (vy := (I 1)) rfl rfl subI_ok) ?_
            refine arun_do rfl rfl rfl (ex_assign (eV (v := (I (w64 (v4 - 1)))) rfl)) ?_
            refine arun_keepE [0, 1, 2, 3, 8, 9] 0 1 (st' := ⟨53, 1, [(0, (GV 0 x14.length)), (1, (I t1)), (2, (I t2)), (3, (Value.func (Fn.func 37) #[] #[(DP [(SL 5 c_api_Node t3_0)])])), (8, (I v1)), (9, (I (w64 (v4 - 1))))], [], ⟨1, [(0, ⟨1, ((x14).flatMap cI), true⟩)]⟩⟩) (by kernel_rfl) (by kernel_rfl) ?_
            exact Exists.intro n2 (And.intro (Nat.lt_succ_self _) (Exists.intro (w64 (v4 - 1)) (Exists.intro x14 (And.intro rfl h))))
          · rw [condF hb8] at h
            refine awp_condF (boF hb8) ?_
            refine awp_exit ?_
            show AWp _ _ _ _
            refine awp_region ?_
            refine arun_do rfl rfl rfl (ex_move (eV (v := (I v1)) rfl)) ?_
            refine arun_do rfl rfl rfl (ex_bin (vx := (I v1)) (vy := (I 1)) rfl rfl addI_ok) ?_
            refine arun_do rfl rfl rfl (ex_assign (eV (v := (I (w64 (v1 + 1)))) rfl)) ?_
            refine arun_keepE [0, 1, 2, 3, 8] 0 1 (st' := ⟨53, 1, [(0, (GV 0 v5.length)), (1, (I t1)), (2, (I t2)), (3, (Value.func (Fn.func 37) #[] #[(DP [(SL 5 c_api_Node t3_0)])])), (8, (I (w64 (v1 + 1))))], [], ⟨1, [(0, ⟨1, ((v5).flatMap cI), true⟩)]⟩⟩) (by kernel_rfl) (by kernel_rfl) ?_
            exact Exists.intro n1 (And.intro (Nat.lt_succ_self _) (Exists.intro (w64 (v1 + 1)) (Exists.intro v5 (And.intro rfl h))))
    · rw [condF hb3] at h
      refine awp_condF (boF hb3) ?_
      refine awp_exit ?_
      cases h
      exact And.intro (aresN rfl L2.nil rfl) rfl

end Go.Proofs
