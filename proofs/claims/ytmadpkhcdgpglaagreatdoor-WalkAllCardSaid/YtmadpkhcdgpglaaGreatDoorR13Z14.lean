/- Pure models of functions of the program, and that its code does what they say: palimpref11 Join, palimpref11 Way. Written by a program. -/
import Derived.Test.YtmadpkhcdgpglaaGreatDoorR13Z11
import Derived.Test.YtmadpkhcdgpglaaGreatDoorR13ZB
import Derived.Test.YtmadpkhcdgpglaaGreatDoorR13ZX
set_option maxRecDepth 20000
set_option maxHeartbeats 4000000
namespace Go.Proofs
open Go Go.Fhl
set_option linter.unusedVariables false
set_option linter.unusedSimpArgs false
noncomputable def M_ref11_Join (t0 : (List Str)) : Option Str :=
  Option.bind (M_strings_Join t0 ([47] : Str)) fun (x1 : Str) => some x1
theorem ok_ref11_Join (t0 : (List Str)) (r : Str) (h : M_ref11_Join t0 = some r) : FFn Tryz.prog 30 [(SL 1 cS t0)] (S r) := by
  refine FFn.of_body (n := 5) Tryz.func30 rfl Tryz.ntmps30 rfl rfl rfl rfl ?_
  show AWp _ _ _ ⟨5, 0, [(0, (SL 1 cS t0))], [], ⟨0, []⟩⟩
  unfold M_ref11_Join at h
  refine awp_seq ?_
  refine awp_region ?_
  refine arun_do rfl rfl rfl (ex_assign (eV (v := (S [])) rfl)) ?_
  refine arun_keepE [0] 0 0 (st' := ⟨5, 0, [(0, (SL 1 cS t0))], [], ⟨0, []⟩⟩) (by kernel_rfl) (by kernel_rfl) ?_
  show AWp _ _ _ _
  refine awp_seq ?_
  refine awp_region ?_
  refine arun_do rfl rfl rfl (ex_move (eV (v := (SL 1 cS t0)) rfl)) ?_
  obtain ⟨x1, hx1, h⟩ := bindS h
  refine arun_do rfl rfl rfl (ex_call0 (vs := [(SL 1 cS t0), (S ([47] : Str))]) (v := (S x1)) rfl en_44 (cargs (evs rfl (evs rfl evs_nil))) rfl (ok_strings_Join t0 ([47] : Str) x1 hx1) rfl) ?_
  refine arun_do rfl rfl rfl (ex_assign (eV (v := (S x1)) rfl)) ?_
  refine arun_keepE [2] 0 0 (st' := ⟨5, 0, [(2, (S x1))], [], ⟨0, []⟩⟩) (by kernel_rfl) (by kernel_rfl) ?_
  show AWp _ _ _ _
  refine awp_ret ?_
  cases h
  exact ares1 (rtmp rfl (eV rfl))

noncomputable def M_ref11_Way_l1 (t0 : (List G_api_Node)) : Nat → Int → (List Str) → Int → Option (Str × Bool)
  | 0, _, _, _ => none
  | n1 + 1, v3, v4, v5 =>
  cond ((decide (v5 < (t0.length : Int))) && (v3 != 0)) (Option.bind (getI t0 v3) fun (x7 : G_api_Node) => Option.bind (appL 16 ([x7.Name] : List Str) v4) fun (x8 : List Str) => Option.bind (getI t0 v3) fun (x9 : G_api_Node) => (M_ref11_Way_l1 t0 n1) x9.Up x8 (w64 (v5 + 1))) (Option.bind (M_ref11_Join v4) fun (x10 : Str) => some (x10, true))
noncomputable def M_ref11_Way (t0 : (List G_api_Node)) (t1 : Int) : Option (Str × Bool) :=
  Option.bind (M_ref11_there t0 t1) fun (x1 : Bool) => cond (!x1) (some ([], false)) (M_ref11_Way_l1 t0 fuel t1 ([] : (List Str)) 0)
theorem ok_ref11_Way (t0 : (List G_api_Node)) (t1 : Int) (r : (Str × Bool)) (h : M_ref11_Way t0 t1 = some r) : FFn Tryz.prog 14 [(SL 5 c_api_Node t0), (I t1)] (Value.tuple #[(S r.1), (Bo r.2)]) := by
  refine FFn.of_body (n := 37) Tryz.func14 rfl Tryz.ntmps14 rfl rfl rfl rfl ?_
  show AWp _ _ _ ⟨37, 0, [(0, (SL 5 c_api_Node t0)), (1, (I t1))], [], ⟨0, []⟩⟩
  unfold M_ref11_Way at h
  refine awp_seq ?_
  refine awp_region ?_
  refine arun_do rfl rfl rfl (ex_assign (eV (v := (S [])) rfl)) ?_
  refine arun_do rfl rfl rfl (ex_assign (eV (v := (Bo false)) rfl)) ?_
  refine arun_keepE [0, 1] 0 0 (st' := ⟨37, 0, [(0, (SL 5 c_api_Node t0)), (1, (I t1))], [], ⟨0, []⟩⟩) (by kernel_rfl) (by kernel_rfl) ?_
  show AWp _ _ _ _
  refine awp_seq ?_
  refine awp_seq ?_
  refine awp_region ?_
  refine arun_do rfl rfl rfl (ex_move (eV (v := (SL 5 c_api_Node t0)) rfl)) ?_
  refine arun_do rfl rfl rfl (ex_move (eV (v := (I t1)) rfl)) ?_
  obtain ⟨x1, hx1, h⟩ := bindS h
  refine arun_do rfl rfl rfl (ex_call0 (vs := [(SL 5 c_api_Node t0), (I t1)]) (v := (Bo x1)) rfl en_29 (cargs (evs rfl (evs rfl evs_nil))) rfl (ok_ref11_there t0 t1 x1 hx1) rfl) ?_
  refine arun_do rfl rfl rfl (ex_un (vx := (Bo x1)) rfl notB_ok) ?_
  refine arun_keepE [0, 1, 11] 0 0 (st' := ⟨37, 0, [(0, (SL 5 c_api_Node t0)), (1, (I t1)), (11, (Bo (!x1)))], [], ⟨0, []⟩⟩) (by kernel_rfl) (by kernel_rfl) ?_
  show AWp _ _ _ _
  rcases Bool.eq_false_or_eq_true (!x1) with hb2 | hb2
  · rw [condT hb2] at h
    refine awp_condT (boT hb2) ?_
    refine awp_seq ?_
    refine awp_region ?_
    refine arun_do rfl rfl rfl (ex_assign (eV (v := (S [])) rfl)) ?_
    refine arun_do rfl rfl rfl (ex_assign (eV (v := (Bo false)) rfl)) ?_
    refine arun_keepE [4, 5] 0 0 (st' := ⟨37, 0, [(4, (S [])), (5, (Bo false))], [], ⟨0, []⟩⟩) (by kernel_rfl) (by kernel_rfl) ?_
    show AWp _ _ _ _
    refine awp_ret ?_
    cases h
    exact aresN rfl (L2.cons (rtmp rfl (eV rfl)) (L2.cons (rtmp rfl (eV rfl)) L2.nil)) rfl
  · rw [condF hb2] at h
    refine awp_condF (boF hb2) ?_
    refine awp_skip ?_
    show AWp _ _ _ _
    refine awp_seq ?_
    refine awp_region ?_
    refine arun_do rfl rfl rfl (ex_assign (eV (v := (Value.slice none 0 0)) rfl)) ?_
    refine arun_keepE [0, 1, 6] 0 0 (st' := ⟨37, 0, [(0, (SL 5 c_api_Node t0)), (1, (I t1)), (6, (Value.slice none 0 0))], [], ⟨0, []⟩⟩) (by kernel_rfl) (by kernel_rfl) ?_
    show AWp _ _ _ _
    refine awp_seq ?_
    refine awp_seq ?_
    refine awp_region ?_
    refine arun_do rfl rfl rfl (ex_assign (eV (v := (I 0)) rfl)) ?_
    refine arun_keepE [0, 1, 6, 7] 0 0 (st' := ⟨37, 0, [(0, (SL 5 c_api_Node t0)), (1, (I t1)), (6, (Value.slice none 0 0)), (7, (I 0))], [], ⟨0, []⟩⟩) (by kernel_rfl) (by kernel_rfl) ?_
    show AWp _ _ _ _
    refine awp_block ?_
    refine awp_nilDeep 6 0 rfl ?_
    refine awp_keepE [0, 1, 6, 7] 0 0 (st' := ⟨37, 0, [(0, (SL 5 c_api_Node t0)), (1, (I t1)), (6, (SL 1 cS [])), (7, (I 0))], [], ⟨0, []⟩⟩) (by kernel_rfl) (by kernel_rfl) ?_
    refine awp_loop (fun n s => ∃ (v3 : Int) (v4 : (List Str)) (v5 : Int), s = ⟨37, 0, [(0, (SL 5 c_api_Node t0)), (1, (I v3)), (6, (SL 1 cS v4)), (7, (I v5))], [], ⟨0, []⟩⟩ ∧ M_ref11_Way_l1 t0 n v3 v4 v5 = some r) fuel (Exists.intro t1 (Exists.intro ([] : (List Str)) (Exists.intro 0 (And.intro rfl h)))) ?_
    rintro n s ⟨v3, v4, v5, rfl, h⟩ -
    cases n with
    | zero => cases h
    | succ n1 =>
      unfold M_ref11_Way_l1 at h
      refine awp_seq ?_
      refine awp_seq ?_
      refine awp_region ?_
      refine arun_do rfl rfl rfl (ex_move (eV (v := (I v5)) rfl)) ?_
      refine arun_do rfl rfl rfl (ex_move (eV (v := (SL 5 c_api_Node t0)) rfl)) ?_
      refine arun_do rfl rfl rfl (tx_lenD (xs := t0) ce_api_Node Tryz.underlying25 rfl) ?_
      refine arun_do rfl rfl rfl (ex_bin (vx := (I v5)) (vy := (I (t0.length : Int))) rfl rfl lssI_ok) ?_
      refine arun_do rfl rfl rfl (ex_move (eV (v := (Bo (decide (v5 < (t0.length : Int))))) rfl)) ?_
      refine arun_guard (v := (I v3)) ((decide (v5 < (t0.length : Int))) == true) rfl rfl rfl (fun hc => ex_move (eV (v := (I v3)) rfl)) ?_
      refine arun_guard (v := (Bo (v3 != 0))) ((decide (v5 < (t0.length : Int))) == true) rfl rfl rfl (fun hc => ex_bin (vx := (I v3)) (vy := (I 0)) (cond_of hc) rfl neqI_ok) ?_
      refine arun_do rfl rfl rfl (ex_pick rfl pkAnd) ?_
      refine arun_keepE [0, 1, 6, 7, 19] 0 0 (st' := ⟨37, 0, [(0, (SL 5 c_api_Node t0)), (1, (I v3)), (6, (SL 1 cS v4)), (7, (I v5)), (19, (Bo ((decide (v5 < (t0.length : Int))) && (v3 != 0))))], [], ⟨0, []⟩⟩) (by kernel_rfl) (by kernel_rfl) ?_
      show AWp _ _ _ _
      rcases Bool.eq_false_or_eq_true ((decide (v5 < (t0.length : Int))) && (v3 != 0)) with hb6 | hb6
      · rw [condT hb6] at h
        refine awp_condT (boT hb6) ?_
        refine awp_skip ?_
        show AWp _ _ _ _
        refine awp_seq ?_
        refine awp_block ?_
        refine awp_seq ?_
        refine awp_region ?_
        refine arun_do rfl rfl rfl (ex_move (eV (v := (SL 5 c_api_Node t0)) rfl)) ?_
        refine arun_do rfl rfl rfl (ex_move (eV (v := (I v3)) rfl)) ?_
        obtain ⟨x7, hx7, h⟩ := bindS h
        refine arun_do rfl rfl rfl (tx_idxD (c := c_api_Node) (xs := t0) (i := v3) ce_api_Node Tryz.underlying25 s_49 rfl rfl hx7) ?_
        refine arun_do rfl rfl rfl (ex_fieldAddrD (vs := (List.drop 2 (c_api_Node x7))) Tryz.underlying49 rfl s_9 (by decide) rfl rfl) ?_
        refine arun_do rfl rfl rfl (tx_ldD1 (v := (S x7.Name)) Tryz.underlying9 rfl rfl rfl) ?_
        refine arun_do rfl rfl rfl (ex_buildSliceG (k := 0) (qs := [(0, (S x7.Name))]) (cells := (([x7.Name] : List Str).flatMap cS)) (H' := ⟨1, [(0, ⟨1, (([x7.Name] : List Str).flatMap cS), true⟩)]⟩) Tryz.underlying30 s_9 (by decide) (by decide) (evp rfl evp_nil) rfl (by kernel_rfl) (by kernel_rfl) (by kernel_rfl) rfl rfl) ?_
        refine arun_do rfl rfl rfl (ex_move (eV (v := (SL 1 cS v4)) rfl)) ?_
        obtain ⟨x8, hx8, h⟩ := bindS h
        refine arun_do rfl rfl rfl (tx_appG (c := cS) (xs := [x7.Name]) (H' := ⟨1, [(0, ⟨1, ((x8).flatMap cS), true⟩)]⟩) ceS e_9 rfl rfl rfl (tsrcD (ys := v4) ceS Tryz.underlying30 s_9 Tryz.underlying30 rfl) hx8 rfl) ?_
        refine arun_do rfl rfl rfl (ex_assign (eV (v := (GV 0 x8.length)) rfl)) ?_
        refine arun_keepE [0, 1, 6, 7] 0 1 (st' := ⟨37, 0, [(0, (SL 5 c_api_Node t0)), (1, (I v3)), (6, (GV 0 x8.length)), (7, (I v5))], [], ⟨1, [(0, ⟨1, ((x8).flatMap cS), true⟩)]⟩⟩) (by kernel_rfl) (by kernel_rfl) ?_
        show AWp _ _ _ _
        refine awp_region ?_
        refine arun_do rfl rfl rfl (ex_move (eV (v := (SL 5 c_api_Node t0)) rfl)) ?_
        refine arun_do rfl rfl rfl (ex_move (eV (v := (I v3)) rfl)) ?_
        obtain ⟨x9, hx9, h⟩ := bindS h
        refine arun_do rfl rfl rfl (tx_idxD (c := c_api_Node) (xs := t0) (i := v3) ce_api_Node Tryz.underlying25 s_49 rfl rfl hx9) ?_
        refine arun_do rfl rfl rfl (ex_fieldAddrD (vs := (List.drop 1 (c_api_Node x9))) Tryz.underlying49 rfl s_3 (by decide) rfl rfl) ?_
        refine arun_do rfl rfl rfl (tx_ldD1 (v := (I x9.Up)) Tryz.underlying3 rfl rfl rfl) ?_
        refine arun_do rfl rfl rfl (ex_assign (eV (v := (I x9.Up)) rfl)) ?_
        refine arun_keepE [0, 1, 6, 7] 0 1 (st' := ⟨37, 0, [(0, (SL 5 c_api_Node t0)), (1, (I x9.Up)), (6, (GV 0 x8.length)), (7, (I v5))], [], ⟨1, [(0, ⟨1, ((x8).flatMap cS), true⟩)]⟩⟩) (by kernel_rfl) (by kernel_rfl) ?_
        show AWp _ _ _ _
        refine awp_region ?_
        refine arun_do rfl rfl rfl (ex_move (eV (v := (I v5)) rfl)) ?_
        refine arun_do rfl rfl rfl (ex_bin (vx := (I v5)) (vy := (I 1)) rfl rfl addI_ok) ?_
        refine arun_do rfl rfl rfl (ex_assign (eV (v := (I (w64 (v5 + 1)))) rfl)) ?_
        refine arun_freeze 0 (bk := ⟨1, ((x8).flatMap cS), true⟩) (T' := [(0, (SL 5 c_api_Node t0)), (1, (I x9.Up)), (6, (SL 1 cS x8)), (20, (I v5)), (21, (I (w64 (v5 + 1)))), (7, (I (w64 (v5 + 1))))]) (L' := []) rfl (FzT.keep (v := (SL 5 c_api_Node t0)) rfl (FzT.keep (v := (I x9.Up)) rfl (fzG ceS rfl rfl (FzT.keep (v := (I v5)) rfl (FzT.keep (v := (I (w64 (v5 + 1)))) rfl (FzT.keep (v := (I (w64 (v5 + 1)))) rfl FzT.nil)))))) (FzL.refl _) ?_
        show ARun _ _ _ _ _ ⟨37, 0, [(0, (SL 5 c_api_Node t0)), (1, (I x9.Up)), (6, (SL 1 cS x8)), (20, (I v5)), (21, (I (w64 (v5 + 1)))), (7, (I (w64 (v5 + 1))))], [], ⟨1, []⟩⟩
        refine arun_keepE [0, 1, 6, 7] 0 0 (st' := ⟨37, 0, [(0, (SL 5 c_api_Node t0)), (1, (I x9.Up)), (6, (SL 1 cS x8)), (7, (I (w64 (v5 + 1))))], [], ⟨0, []⟩⟩) (by kernel_rfl) (by kernel_rfl) ?_
        exact Exists.intro n1 (And.intro (Nat.lt_succ_self _) (Exists.intro x9.Up (Exists.intro x8 (Exists.intro (w64 (v5 + 1)) (And.intro rfl h)))))
      · rw [condF hb6] at h
        refine awp_condF (boF hb6) ?_
        refine awp_exit ?_
        show AWp _ _ _ _
        refine awp_seq ?_
        refine awp_region ?_
        refine arun_do rfl rfl rfl (ex_move (eV (v := (SL 1 cS v4)) rfl)) ?_
        obtain ⟨x10, hx10, h⟩ := bindS h
        refine arun_do rfl rfl rfl (ex_call0 (vs := [(SL 1 cS v4)]) (v := (S x10)) rfl en_30 (cargs (evs rfl evs_nil)) rfl (ok_ref11_Join v4 x10 hx10) rfl) ?_
        refine arun_do rfl rfl rfl (ex_assign (eV (v := (S x10)) rfl)) ?_
        refine arun_do rfl rfl rfl (ex_assign (eV (v := (Bo true)) rfl)) ?_
        refine arun_keepE [4, 5] 0 0 (st' := ⟨37, 0, [(4, (S x10)), (5, (Bo true))], [], ⟨0, []⟩⟩) (by kernel_rfl) (by kernel_rfl) ?_
        show AWp _ _ _ _
        refine awp_ret ?_
        cases h
        exact aresN rfl (L2.cons (rtmp rfl (eV rfl)) (L2.cons (rtmp rfl (eV rfl)) L2.nil)) rfl

end Go.Proofs
