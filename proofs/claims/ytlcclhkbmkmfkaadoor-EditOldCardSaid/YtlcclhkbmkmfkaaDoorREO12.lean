/- Pure models of functions of the program, and that its code does what they say: palimpref11 Place, palimpref11 Free, palimpref11 with, palimpref11 Make. Written by a program. -/
import Derived.Test.YtlcclhkbmkmfkaaDoorREO8
import Derived.Test.YtlcclhkbmkmfkaaDoorREO9
import Derived.Test.YtlcclhkbmkmfkaaDoorREOB
set_option maxRecDepth 20000
set_option maxHeartbeats 4000000
namespace Go.Proofs
open Go Go.Fhl
set_option linter.unusedVariables false
set_option linter.unusedSimpArgs false
noncomputable def M_ref11_Place (t0 : (List G_api_Node)) (t1 : Str) : Option (Int × Str × Int) :=
  Option.bind (M_ref11_Parts t1) fun (x1 : ((List Str) × Bool)) => cond ((!x1.2) || ((x1.1.length : Int) == 0)) (some (0, [], 1)) (Option.bind (slL x1.1 0 (w64 ((x1.1.length : Int) - 1))) fun (x3 : (List Str)) => Option.bind (M_ref11_down t0 x3) fun (x4 : (Int × Int)) => cond (x4.2 != 0) (some (0, [], x4.2)) (Option.bind (gd ((decide (x4.1 ≥ (t0.length : Int))) == false) (getI t0 x4.1)) fun (x6 : G_api_Node) => cond ((decide (x4.1 ≥ (t0.length : Int))) || (x6.Kind != 2)) (some (0, [], 5)) (Option.bind (getI x1.1 (w64 ((x1.1.length : Int) - 1))) fun (x8 : Str) => some (x4.1, x8, 0))))
theorem ok_ref11_Place (t0 : (List G_api_Node)) (t1 : Str) (r : (Int × Str × Int)) (h : M_ref11_Place t0 t1 = some r) : FFn Tryd.prog 58 [(SL 5 c_api_Node t0), (S t1)] (Value.tuple #[(I r.1), (S r.2.1), (I r.2.2)]) := by
  refine FFn.of_body (n := 55) Tryd.func58 rfl Tryd.ntmps58 rfl rfl rfl rfl ?_
  show AWp _ _ _ ⟨55, 0, [(0, (SL 5 c_api_Node t0)), (1, (S t1))], [], ⟨0, []⟩⟩
  unfold M_ref11_Place at h
  refine awp_seq ?_
  refine awp_region ?_
  refine arun_do rfl rfl rfl (ex_assign (eV (v := (I 0)) rfl)) ?_
  refine arun_do rfl rfl rfl (ex_assign (eV (v := (S [])) rfl)) ?_
  refine arun_do rfl rfl rfl (ex_assign (eV (v := (I 0)) rfl)) ?_
  refine arun_keepE [0, 1] 0 0 (st' := ⟨55, 0, [(0, (SL 5 c_api_Node t0)), (1, (S t1))], [], ⟨0, []⟩⟩) (by kernel_rfl) (by kernel_rfl) ?_
  show AWp _ _ _ _
  refine awp_seq ?_
  refine awp_region ?_
  refine arun_do rfl rfl rfl (ex_move (eV (v := (S t1)) rfl)) ?_
  obtain ⟨x1, hx1, h⟩ := bindS h
  refine arun_do rfl rfl rfl (ex_call0 (vs := [(S t1)]) (v := (Value.tuple #[(SL 1 cS x1.1), (Bo x1.2)])) rfl en_26 (cargs (evs rfl evs_nil)) rfl (ok_ref11_Parts t1 x1 hx1) rfl) ?_
  refine arun_do rfl rfl rfl (ex_move (eV (v := (Value.tuple #[(SL 1 cS x1.1), (Bo x1.2)])) rfl)) ?_
  refine arun_do rfl rfl rfl (ex_extract (vx := (Value.tuple #[(SL 1 cS x1.1), (Bo x1.2)])) (v := (SL 1 cS x1.1)) rfl rfl) ?_
  refine arun_do rfl rfl rfl (ex_extract (vx := (Value.tuple #[(SL 1 cS x1.1), (Bo x1.2)])) (v := (Bo x1.2)) rfl rfl) ?_
  refine arun_do rfl rfl rfl (ex_assign (eV (v := (SL 1 cS x1.1)) rfl)) ?_
  refine arun_do rfl rfl rfl (ex_assign (eV (v := (Bo x1.2)) rfl)) ?_
  refine arun_keepE [0, 7, 8] 0 0 (st' := ⟨55, 0, [(0, (SL 5 c_api_Node t0)), (7, (SL 1 cS x1.1)), (8, (Bo x1.2))], [], ⟨0, []⟩⟩) (by kernel_rfl) (by kernel_rfl) ?_
  show AWp _ _ _ _
  refine awp_seq ?_
  refine awp_seq ?_
  refine awp_region ?_
  refine arun_do rfl rfl rfl (ex_move (eV (v := (Bo x1.2)) rfl)) ?_
  refine arun_do rfl rfl rfl (ex_un (vx := (Bo x1.2)) rfl notB_ok) ?_
  refine arun_do rfl rfl rfl (ex_move (eV (v := (Bo (!x1.2))) rfl)) ?_
  refine arun_guard (v := (SL 1 cS x1.1)) ((!x1.2) == false) rfl rfl rfl (fun hc => ex_move (eV (v := (SL 1 cS x1.1)) rfl)) ?_
  refine arun_guard (v := (I (x1.1.length : Int))) ((!x1.2) == false) rfl rfl rfl (fun hc => tx_lenD (xs := x1.1) ceS Tryd.underlying60 (cond_of hc)) ?_
  refine arun_guard (v := (Bo ((x1.1.length : Int) == 0))) ((!x1.2) == false) rfl rfl rfl (fun hc => ex_bin (vx := (I (x1.1.length : Int))) (vy := (I 0)) (cond_of hc) rfl eqlI_ok) ?_
  refine arun_do rfl rfl rfl (ex_pick rfl pkOr) ?_
  refine arun_keepE [0, 7, 22] 0 0 (st' := ⟨55, 0, [(0, (SL 5 c_api_Node t0)), (7, (SL 1 cS x1.1)), (22, (Bo ((!x1.2) || ((x1.1.length : Int) == 0))))], [], ⟨0, []⟩⟩) (by kernel_rfl) (by kernel_rfl) ?_
  show AWp _ _ _ _
  rcases Bool.eq_false_or_eq_true ((!x1.2) || ((x1.1.length : Int) == 0)) with hb2 | hb2
  · rw [condT hb2] at h
    refine awp_condT (boT hb2) ?_
    refine awp_seq ?_
    refine awp_region ?_
    refine arun_do rfl rfl rfl (ex_assign (eV (v := (I 0)) rfl)) ?_
    refine arun_do rfl rfl rfl (ex_assign (eV (v := (S [])) rfl)) ?_
    refine arun_do rfl rfl rfl (ex_assign (eV (v := (I 1)) rfl)) ?_
    refine arun_keepE [4, 5, 6] 0 0 (st' := ⟨55, 0, [(4, (I 0)), (5, (S [])), (6, (I 1))], [], ⟨0, []⟩⟩) (by kernel_rfl) (by kernel_rfl) ?_
    show AWp _ _ _ _
    refine awp_ret ?_
    cases h
    exact aresN rfl (L2.cons (rtmp rfl (eV rfl)) (L2.cons (rtmp rfl (eV rfl)) (L2.cons (rtmp rfl (eV rfl)) L2.nil))) rfl
  · rw [condF hb2] at h
    refine awp_condF (boF hb2) ?_
    refine awp_skip ?_
    show AWp _ _ _ _
    refine awp_seq ?_
    refine awp_region ?_
    refine arun_do rfl rfl rfl (ex_move (eV (v := (SL 5 c_api_Node t0)) rfl)) ?_
    refine arun_do rfl rfl rfl (ex_move (eV (v := (SL 1 cS x1.1)) rfl)) ?_
    refine arun_do rfl rfl rfl (ex_move (eV (v := (SL 1 cS x1.1)) rfl)) ?_
    refine arun_do rfl rfl rfl (tx_lenD (xs := x1.1) ceS Tryd.underlying60 rfl) ?_
    refine arun_do rfl rfl rfl (ex_bin (vx := (I (x1.1.length : Int))) (vy := (I 1)) rfl rfl subI_ok) ?_
    obtain ⟨x3, hx3, h⟩ := bindS h
    refine arun_do rfl rfl rfl (tx_slD (c := cS) (xs := x1.1) ceS Tryd.underlying60 s_9 rfl lo0 (hiX (l := (w64 ((x1.1.length : Int) - 1))) rfl) hx3) ?_
    obtain ⟨x4, hx4, h⟩ := bindS h
    refine arun_do rfl rfl rfl (ex_call0 (vs := [(SL 5 c_api_Node t0), (SL 1 cS x3)]) (v := (Value.tuple #[(I x4.1), (I x4.2)])) rfl en_27 (cargs (evs rfl (evs rfl evs_nil))) rfl (ok_ref11_down t0 x3 x4 hx4) rfl) ?_
    refine arun_do rfl rfl rfl (ex_move (eV (v := (Value.tuple #[(I x4.1), (I x4.2)])) rfl)) ?_
    refine arun_do rfl rfl rfl (ex_extract (vx := (Value.tuple #[(I x4.1), (I x4.2)])) (v := (I x4.1)) rfl rfl) ?_
    refine arun_do rfl rfl rfl (ex_extract (vx := (Value.tuple #[(I x4.1), (I x4.2)])) (v := (I x4.2)) rfl rfl) ?_
    refine arun_do rfl rfl rfl (ex_assign (eV (v := (I x4.1)) rfl)) ?_
    refine arun_do rfl rfl rfl (ex_assign (eV (v := (I x4.2)) rfl)) ?_
    refine arun_keepE [0, 7, 9, 10] 0 0 (st' := ⟨55, 0, [(0, (SL 5 c_api_Node t0)), (7, (SL 1 cS x1.1)), (9, (I x4.1)), (10, (I x4.2))], [], ⟨0, []⟩⟩) (by kernel_rfl) (by kernel_rfl) ?_
    show AWp _ _ _ _
    refine awp_seq ?_
    refine awp_seq ?_
    refine awp_region ?_
    refine arun_do rfl rfl rfl (ex_move (eV (v := (I x4.2)) rfl)) ?_
    refine arun_do rfl rfl rfl (ex_bin (vx := (I x4.2)) (vy := (I 0)) rfl rfl neqI_ok) ?_
    refine arun_keepE [0, 7, 9, 10, 34] 0 0 (st' := ⟨55, 0, [(0, (SL 5 c_api_Node t0)), (7, (SL 1 cS x1.1)), (9, (I x4.1)), (10, (I x4.2)), (34, (Bo (x4.2 != 0)))], [], ⟨0, []⟩⟩) (by kernel_rfl) (by kernel_rfl) ?_
    show AWp _ _ _ _
    rcases Bool.eq_false_or_eq_true (x4.2 != 0) with hb5 | hb5
    · rw [condT hb5] at h
      refine awp_condT (boT hb5) ?_
      refine awp_seq ?_
      refine awp_region ?_
      refine arun_do rfl rfl rfl (ex_move (eV (v := (I x4.2)) rfl)) ?_
      refine arun_do rfl rfl rfl (ex_assign (eV (v := (I 0)) rfl)) ?_
      refine arun_do rfl rfl rfl (ex_assign (eV (v := (S [])) rfl)) ?_
      refine arun_do rfl rfl rfl (ex_assign (eV (v := (I x4.2)) rfl)) ?_
      refine arun_keepE [4, 5, 6] 0 0 (st' := ⟨55, 0, [(4, (I 0)), (5, (S [])), (6, (I x4.2))], [], ⟨0, []⟩⟩) (by kernel_rfl) (by kernel_rfl) ?_
      show AWp _ _ _ _
      refine awp_ret ?_
      cases h
      exact aresN rfl (L2.cons (rtmp rfl (eV rfl)) (L2.cons (rtmp rfl (eV rfl)) (L2.cons (rtmp rfl (eV rfl)) L2.nil))) rfl
    · rw [condF hb5] at h
      refine awp_condF (boF hb5) ?_
      refine awp_skip ?_
      show AWp _ _ _ _
      refine awp_seq ?_
      refine awp_seq ?_
      refine awp_region ?_
      refine arun_do rfl rfl rfl (ex_move (eV (v := (I x4.1)) rfl)) ?_
      refine arun_do rfl rfl rfl (ex_move (eV (v := (SL 5 c_api_Node t0)) rfl)) ?_
      refine arun_do rfl rfl rfl (tx_lenD (xs := t0) ce_api_Node Tryd.underlying25 rfl) ?_
      refine arun_do rfl rfl rfl (ex_bin (vx := (I x4.1)) (vy := (I (t0.length : Int))) rfl rfl geqI_ok) ?_
      refine arun_do rfl rfl rfl (ex_move (eV (v := (Bo (decide (x4.1 ≥ (t0.length : Int))))) rfl)) ?_
      refine arun_guard (v := (SL 5 c_api_Node t0)) ((decide (x4.1 ≥ (t0.length : Int))) == false) rfl rfl rfl (fun hc => ex_move (eV (v := (SL 5 c_api_Node t0)) rfl)) ?_
      refine arun_guard (v := (I x4.1)) ((decide (x4.1 ≥ (t0.length : Int))) == false) rfl rfl rfl (fun hc => ex_move (eV (v := (I x4.1)) rfl)) ?_
      obtain ⟨x6, hx6, h⟩ := bindS h
      refine arun_guard (v := (DP (c_api_Node x6))) ((decide (x4.1 ≥ (t0.length : Int))) == false) rfl rfl rfl (fun hc => tx_idxD (c := c_api_Node) (xs := t0) (i := x4.1) ce_api_Node Tryd.underlying25 s_39 (cond_of hc) (cond_of hc) (gd_of hc hx6)) ?_
      refine arun_guard (v := (DP (List.drop 0 (c_api_Node x6)))) ((decide (x4.1 ≥ (t0.length : Int))) == false) rfl rfl rfl (fun hc => ex_fieldAddrD (vs := (List.drop 0 (c_api_Node x6))) Tryd.underlying39 rfl s_3 (by decide) (cond_of hc) rfl) ?_
      refine arun_guard (v := (I x6.Kind)) ((decide (x4.1 ≥ (t0.length : Int))) == false) rfl rfl rfl (fun hc => tx_ldD1 (v := (I x6.Kind)) Tryd.underlying3 rfl (cond_of hc) rfl) ?_
      refine arun_guard (v := (Bo (x6.Kind != 2))) ((decide (x4.1 ≥ (t0.length : Int))) == false) rfl rfl rfl (fun hc => ex_bin (vx := (I x6.Kind)) (vy := (I 2)) (cond_of hc) rfl neqI_ok) ?_
      refine arun_do rfl rfl rfl (ex_pick rfl pkOr) ?_
      refine arun_keepE [7, 9, 47] 0 0 (st' := ⟨55, 0, [(7, (SL 1 cS x1.1)), (9, (I x4.1)), (47, (Bo ((decide (x4.1 ≥ (t0.length : Int))) || (x6.Kind != 2))))], [], ⟨0, []⟩⟩) (by kernel_rfl) (by kernel_rfl) ?_
      show AWp _ _ _ _
      rcases Bool.eq_false_or_eq_true ((decide (x4.1 ≥ (t0.length : Int))) || (x6.Kind != 2)) with hb7 | hb7
      · rw [condT hb7] at h
        refine awp_condT (boT hb7) ?_
        refine awp_seq ?_
        refine awp_region ?_
        refine arun_do rfl rfl rfl (ex_assign (eV (v := (I 0)) rfl)) ?_
        refine arun_do rfl rfl rfl (ex_assign (eV (v := (S [])) rfl)) ?_
        refine arun_do rfl rfl rfl (ex_assign (eV (v := (I 5)) rfl)) ?_
        refine arun_keepE [4, 5, 6] 0 0 (st' := ⟨55, 0, [(4, (I 0)), (5, (S [])), (6, (I 5))], [], ⟨0, []⟩⟩) (by kernel_rfl) (by kernel_rfl) ?_
        show AWp _ _ _ _
        refine awp_ret ?_
        cases h
        exact aresN rfl (L2.cons (rtmp rfl (eV rfl)) (L2.cons (rtmp rfl (eV rfl)) (L2.cons (rtmp rfl (eV rfl)) L2.nil))) rfl
      · rw [condF hb7] at h
        refine awp_condF (boF hb7) ?_
        refine awp_skip ?_
        show AWp _ _ _ _
        refine awp_seq ?_
        obtain ⟨x8, hx8, h⟩ := bindS h
        refine awp_kn [4, 5, 6] 0 0 (st' := ⟨55, 0, [(4, (I x4.1)), (5, (S x8)), (6, (I 0))], [], ⟨0, []⟩⟩) (awp_draw (T := [(I x4.1), (SL 1 cS x1.1), (SL 1 cS x1.1), (I (x1.1.length : Int)), (I (w64 ((x1.1.length : Int) - 1))), (DP (cS x8)), (S x8), (I x4.1), (S x8), (I 0)]) (LH := [([], ⟨0, []⟩)]) (D := [⟨[(9, none)], [], [0], false⟩, ⟨[(7, none)], [], [0], false⟩, ⟨[(7, none)], [], [0], false⟩, ⟨[(50, some 2)], [2], [0], false⟩, ⟨[(51, some 3)], [2, 3], [0], false⟩, ⟨[(49, some 1), (52, some 4)], [1, 2, 3, 4], [0], false⟩, ⟨[(53, some 5)], [1, 2, 3, 4, 5], [0], false⟩, ⟨[(48, some 0)], [0], [0], false⟩, ⟨[(54, some 6)], [0, 1, 2, 3, 4, 5, 6, 7], [0], false⟩, ⟨[], [0, 1, 2, 3, 4, 5, 6, 7, 8], [0], false⟩]) (S := []) (plan := [0, 1, 2, 3, 4, 5, 6, 7, 8, 9]) mo (by kernel_rfl) rfl rfl rfl (dcons (dstep1 (Tm := [(9, (I x4.1))]) (L := []) (H := ⟨0, []⟩) rfl rfl rfl rfl rfl (astep_do rfl (ex_move (eV (v := (I x4.1)) rfl)))) (dcons (dstep1 (Tm := [(7, (SL 1 cS x1.1))]) (L := []) (H := ⟨0, []⟩) rfl rfl rfl rfl rfl (astep_do rfl (ex_move (eV (v := (SL 1 cS x1.1)) rfl)))) (dcons (dstep1 (Tm := [(7, (SL 1 cS x1.1))]) (L := []) (H := ⟨0, []⟩) rfl rfl rfl rfl rfl (astep_do rfl (ex_move (eV (v := (SL 1 cS x1.1)) rfl)))) (dcons (dstep1 (Tm := [(50, (SL 1 cS x1.1))]) (L := []) (H := ⟨0, []⟩) rfl rfl rfl rfl rfl (astep_do rfl (tx_lenD (xs := x1.1) ceS Tryd.underlying60 rfl))) (dcons (dstep1 (Tm := [(51, (I (x1.1.length : Int)))]) (L := []) (H := ⟨0, []⟩) rfl rfl rfl rfl rfl (astep_do rfl (ex_bin (vx := (I (x1.1.length : Int))) (vy := (I 1)) rfl rfl subI_ok))) (dcons (dstep1 (Tm := [(49, (SL 1 cS x1.1)), (52, (I (w64 ((x1.1.length : Int) - 1))))]) (L := []) (H := ⟨0, []⟩) rfl rfl rfl rfl rfl (astep_do rfl (tx_idxD (c := cS) (xs := x1.1) (i := (w64 ((x1.1.length : Int) - 1))) ceS Tryd.underlying60 s_9 rfl rfl hx8))) (dcons (dstep1 (Tm := [(53, (DP (cS x8)))]) (L := []) (H := ⟨0, []⟩) rfl rfl rfl rfl rfl (astep_do rfl (tx_ldD1 (v := (S x8)) Tryd.underlying9 rfl rfl rfl))) (dcons (dstep1 (Tm := [(48, (I x4.1))]) (L := []) (H := ⟨0, []⟩) rfl rfl rfl rfl rfl (astep_do rfl (ex_assign (eV (v := (I x4.1)) rfl)))) (dcons (dstep1 (Tm := [(54, (S x8))]) (L := []) (H := ⟨0, []⟩) rfl rfl rfl rfl rfl (astep_do rfl (ex_assign (eV (v := (S x8)) rfl)))) (dcons (dstep1 (Tm := []) (L := []) (H := ⟨0, []⟩) rfl rfl rfl rfl rfl (astep_do rfl (ex_assign (eV (v := (I 0)) rfl)))) dnil)))))))))) ⟨rfl, rfl⟩) (by kernel_rfl) (by kernel_rfl) ?_
        show AWp _ _ _ _
        refine awp_ret ?_
        cases h
        exact aresN rfl (L2.cons (rtmp rfl (eV rfl)) (L2.cons (rtmp rfl (eV rfl)) (L2.cons (rtmp rfl (eV rfl)) L2.nil))) rfl

noncomputable def M_ref11_Free_l1 (t0 : (List G_api_Node)) : Nat → Int → Option (Int × Bool)
  | 0, _ => none
  | n1 + 1, v1 =>
  cond (decide (v1 < (t0.length : Int))) (Option.bind (getI t0 v1) fun (x3 : G_api_Node) => cond (x3.Kind == 0) (some (v1, true)) ((M_ref11_Free_l1 t0 n1) (w64 (v1 + 1)))) (some (0, false))
noncomputable def M_ref11_Free (t0 : (List G_api_Node)) : Option (Int × Bool) :=
  M_ref11_Free_l1 t0 fuel 0
theorem ok_ref11_Free (t0 : (List G_api_Node)) (r : (Int × Bool)) (h : M_ref11_Free t0 = some r) : FFn Tryd.prog 59 [(SL 5 c_api_Node t0)] (Value.tuple #[(I r.1), (Bo r.2)]) := by
  refine FFn.of_body (n := 18) Tryd.func59 rfl Tryd.ntmps59 rfl rfl rfl rfl ?_
  show AWp _ _ _ ⟨18, 0, [(0, (SL 5 c_api_Node t0))], [], ⟨0, []⟩⟩
  unfold M_ref11_Free at h
  refine awp_seq ?_
  refine awp_region ?_
  refine arun_do rfl rfl rfl (ex_assign (eV (v := (I 0)) rfl)) ?_
  refine arun_do rfl rfl rfl (ex_assign (eV (v := (Bo false)) rfl)) ?_
  refine arun_keepE [0] 0 0 (st' := ⟨18, 0, [(0, (SL 5 c_api_Node t0))], [], ⟨0, []⟩⟩) (by kernel_rfl) (by kernel_rfl) ?_
  show AWp _ _ _ _
  refine awp_seq ?_
  refine awp_seq ?_
  refine awp_region ?_
  refine arun_do rfl rfl rfl (ex_assign (eV (v := (I 0)) rfl)) ?_
  refine arun_keepE [0, 4] 0 0 (st' := ⟨18, 0, [(0, (SL 5 c_api_Node t0)), (4, (I 0))], [], ⟨0, []⟩⟩) (by kernel_rfl) (by kernel_rfl) ?_
  show AWp _ _ _ _
  refine awp_block ?_
  refine awp_loop (fun n s => ∃ (v1 : Int), s = ⟨18, 0, [(0, (SL 5 c_api_Node t0)), (4, (I v1))], [], ⟨0, []⟩⟩ ∧ M_ref11_Free_l1 t0 n v1 = some r) fuel (Exists.intro 0 (And.intro rfl h)) ?_
  rintro n s ⟨v1, rfl, h⟩ -
  cases n with
  | zero => cases h
  | succ n1 =>
    unfold M_ref11_Free_l1 at h
    refine awp_seq ?_
    refine awp_seq ?_
    refine awp_region ?_
    refine arun_do rfl rfl rfl (ex_move (eV (v := (I v1)) rfl)) ?_
    refine arun_do rfl rfl rfl (ex_move (eV (v := (SL 5 c_api_Node t0)) rfl)) ?_
    refine arun_do rfl rfl rfl (tx_lenD (xs := t0) ce_api_Node Tryd.underlying25 rfl) ?_
    refine arun_do rfl rfl rfl (ex_bin (vx := (I v1)) (vy := (I (t0.length : Int))) rfl rfl lssI_ok) ?_
    refine arun_keepE [0, 4, 8] 0 0 (st' := ⟨18, 0, [(0, (SL 5 c_api_Node t0)), (4, (I v1)), (8, (Bo (decide (v1 < (t0.length : Int)))))], [], ⟨0, []⟩⟩) (by kernel_rfl) (by kernel_rfl) ?_
    show AWp _ _ _ _
    rcases Bool.eq_false_or_eq_true (decide (v1 < (t0.length : Int))) with hb2 | hb2
    · rw [condT hb2] at h
      refine awp_condT (boT hb2) ?_
      refine awp_skip ?_
      show AWp _ _ _ _
      refine awp_seq ?_
      refine awp_block ?_
      refine awp_seq ?_
      refine awp_region ?_
      refine arun_do rfl rfl rfl (ex_move (eV (v := (SL 5 c_api_Node t0)) rfl)) ?_
      refine arun_do rfl rfl rfl (ex_move (eV (v := (I v1)) rfl)) ?_
      obtain ⟨x3, hx3, h⟩ := bindS h
      refine arun_do rfl rfl rfl (tx_idxD (c := c_api_Node) (xs := t0) (i := v1) ce_api_Node Tryd.underlying25 s_39 rfl rfl hx3) ?_
      refine arun_do rfl rfl rfl (ex_fieldAddrD (vs := (List.drop 0 (c_api_Node x3))) Tryd.underlying39 rfl s_3 (by decide) rfl rfl) ?_
      refine arun_do rfl rfl rfl (tx_ldD1 (v := (I x3.Kind)) Tryd.underlying3 rfl rfl rfl) ?_
      refine arun_do rfl rfl rfl (ex_bin (vx := (I x3.Kind)) (vy := (I 0)) rfl rfl eqlI_ok) ?_
      refine arun_keepE [0, 4, 16] 0 0 (st' := ⟨18, 0, [(0, (SL 5 c_api_Node t0)), (4, (I v1)), (16, (Bo (x3.Kind == 0)))], [], ⟨0, []⟩⟩) (by kernel_rfl) (by kernel_rfl) ?_
      show AWp _ _ _ _
      rcases Bool.eq_false_or_eq_true (x3.Kind == 0) with hb4 | hb4
      · rw [condT hb4] at h
        refine awp_condT (boT hb4) ?_
        refine awp_seq ?_
        refine awp_region ?_
        refine arun_do rfl rfl rfl (ex_move (eV (v := (I v1)) rfl)) ?_
        refine arun_do rfl rfl rfl (ex_assign (eV (v := (I v1)) rfl)) ?_
        refine arun_do rfl rfl rfl (ex_assign (eV (v := (Bo true)) rfl)) ?_
        refine arun_keepE [2, 3] 0 0 (st' := ⟨18, 0, [(2, (I v1)), (3, (Bo true))], [], ⟨0, []⟩⟩) (by kernel_rfl) (by kernel_rfl) ?_
        show AWp _ _ _ _
        refine awp_ret ?_
        cases h
        exact aresN rfl (L2.cons (rtmp rfl (eV rfl)) (L2.cons (rtmp rfl (eV rfl)) L2.nil)) rfl
      · rw [condF hb4] at h
        refine awp_condF (boF hb4) ?_
        refine awp_skip ?_
        show AWp _ _ _ _
        refine awp_region ?_
        refine arun_do rfl rfl rfl (ex_move (eV (v := (I v1)) rfl)) ?_
        refine arun_do rfl rfl rfl (ex_bin (vx := (I v1)) (vy := (I 1)) rfl rfl addI_ok) ?_
        refine arun_do rfl rfl rfl (ex_assign (eV (v := (I (w64 (v1 + 1)))) rfl)) ?_
        refine arun_keepE [0, 4] 0 0 (st' := ⟨18, 0, [(0, (SL 5 c_api_Node t0)), (4, (I (w64 (v1 + 1))))], [], ⟨0, []⟩⟩) (by kernel_rfl) (by kernel_rfl) ?_
        exact Exists.intro n1 (And.intro (Nat.lt_succ_self _) (Exists.intro (w64 (v1 + 1)) (And.intro rfl h)))
    · rw [condF hb2] at h
      refine awp_condF (boF hb2) ?_
      refine awp_exit ?_
      show AWp _ _ _ _
      refine awp_seq ?_
      refine awp_region ?_
      refine arun_do rfl rfl rfl (ex_assign (eV (v := (I 0)) rfl)) ?_
      refine arun_do rfl rfl rfl (ex_assign (eV (v := (Bo false)) rfl)) ?_
      refine arun_keepE [2, 3] 0 0 (st' := ⟨18, 0, [(2, (I 0)), (3, (Bo false))], [], ⟨0, []⟩⟩) (by kernel_rfl) (by kernel_rfl) ?_
      show AWp _ _ _ _
      refine awp_ret ?_
      cases h
      exact aresN rfl (L2.cons (rtmp rfl (eV rfl)) (L2.cons (rtmp rfl (eV rfl)) L2.nil)) rfl

noncomputable def M_ref11_with_k1 (y2 : List G_api_Node) : Option (List G_api_Node) :=
  some y2
noncomputable def M_ref11_with (t0 : (List G_api_Node)) (t1 : Int) (t2 : G_api_Node) : Option (List G_api_Node) :=
  Option.bind (appL 56 ([] : List G_api_Node) t0) fun (x1 : List G_api_Node) => cond ((decide (t1 ≥ 0)) && (decide (t1 < ((x1.length : Nat) : Int)))) (Option.bind (getI x1 t1) fun (x4 : G_api_Node) => Option.bind (setI x1 t1 t2) fun (x5 : List G_api_Node) => M_ref11_with_k1 x5) (M_ref11_with_k1 x1)
theorem ok_ref11_with (t0 : (List G_api_Node)) (t1 : Int) (t2 : G_api_Node) (r : (List G_api_Node)) (h : M_ref11_with t0 t1 t2 = some r) : FFn Tryd.prog 60 [(SL 5 c_api_Node t0), (I t1), (Value.agg (c_api_Node t2).toArray)] (SL 5 c_api_Node r) := by
  refine FFn.of_body (n := 24) Tryd.func60 rfl Tryd.ntmps60 rfl rfl rfl rfl ?_
  show AWp _ _ _ ⟨24, 0, [(0, (SL 5 c_api_Node t0)), (1, (I t1)), (2, (Value.agg (c_api_Node t2).toArray))], [], ⟨0, []⟩⟩
  unfold M_ref11_with at h
  refine awp_seq ?_
  refine awp_region ?_
  refine arun_do rfl rfl rfl (ex_box (vx := (Value.agg (c_api_Node t2).toArray)) (cs := (c_api_Node t2)) (k := 0) (L' := [(c_api_Node t2)]) (eV (v := (Value.agg (c_api_Node t2).toArray)) rfl) rfl rfl rfl) ?_
  refine arun_do rfl rfl rfl (ex_assign (eV (v := (Value.slice none 0 0)) rfl)) ?_
  refine arun_keepE [0, 1, 5] 1 0 (st' := ⟨24, 0, [(0, (SL 5 c_api_Node t0)), (1, (I t1)), (5, (LP 0 0))], [(c_api_Node t2)], ⟨0, []⟩⟩) (by kernel_rfl) (by kernel_rfl) ?_
  show AWp _ _ _ _
  refine awp_seq ?_
  refine awp_region ?_
  refine arun_do rfl rfl rfl (ex_buildSliceG (k := 0) (qs := []) (cells := (([] : List G_api_Node).flatMap c_api_Node)) (H' := ⟨1, [(0, ⟨5, (([] : List G_api_Node).flatMap c_api_Node), true⟩)]⟩) Tryd.underlying25 s_39 (by decide) (by decide) evp_nil rfl (by kernel_rfl) (by kernel_rfl) (by kernel_rfl) rfl rfl) ?_
  refine arun_do rfl rfl rfl (ex_move (eV (v := (SL 5 c_api_Node t0)) rfl)) ?_
  obtain ⟨x1, hx1, h⟩ := bindS h
  refine arun_do rfl rfl rfl (tx_appG (c := c_api_Node) (xs := []) (H' := ⟨1, [(0, ⟨5, ((x1).flatMap c_api_Node), true⟩)]⟩) ce_api_Node e_39 rfl rfl rfl (tsrcD (ys := t0) ce_api_Node Tryd.underlying25 s_39 Tryd.underlying25 rfl) hx1 rfl) ?_
  refine arun_do rfl rfl rfl (ex_assign (eV (v := (GV 0 x1.length)) rfl)) ?_
  refine arun_keepE [1, 5, 7] 1 1 (st' := ⟨24, 0, [(1, (I t1)), (5, (LP 0 0)), (7, (GV 0 x1.length))], [(c_api_Node t2)], ⟨1, [(0, ⟨5, ((x1).flatMap c_api_Node), true⟩)]⟩⟩) (by kernel_rfl) (by kernel_rfl) ?_
  show AWp _ _ _ _
  refine awp_seqJ (fun s => ∃ (y2 : List G_api_Node), s = ⟨24, 0, [(7, (GV 0 y2.length))], [], ⟨1, [(0, ⟨5, ((y2).flatMap c_api_Node), true⟩)]⟩⟩ ∧ M_ref11_with_k1 y2 = some r) ?_ ?_
  · refine awp_seq ?_
    refine awp_region ?_
    refine arun_do rfl rfl rfl (ex_move (eV (v := (I t1)) rfl)) ?_
    refine arun_do rfl rfl rfl (ex_bin (vx := (I t1)) (vy := (I 0)) rfl rfl geqI_ok) ?_
    refine arun_do rfl rfl rfl (ex_move (eV (v := (Bo (decide (t1 ≥ 0)))) rfl)) ?_
    refine arun_guard (v := (I t1)) ((decide (t1 ≥ 0)) == true) rfl rfl rfl (fun hc => ex_move (eV (v := (I t1)) rfl)) ?_
    refine arun_guard (v := (GV 0 x1.length)) ((decide (t1 ≥ 0)) == true) rfl rfl rfl (fun hc => ex_move (eV (v := (GV 0 x1.length)) rfl)) ?_
    refine arun_guard (v := (I ((x1.length : Nat) : Int))) ((decide (t1 ≥ 0)) == true) rfl rfl rfl (fun hc => ex_lenN (n := x1.length) Tryd.underlying25 (cond_of hc)) ?_
    refine arun_guard (v := (Bo (decide (t1 < ((x1.length : Nat) : Int))))) ((decide (t1 ≥ 0)) == true) rfl rfl rfl (fun hc => ex_bin (vx := (I t1)) (vy := (I ((x1.length : Nat) : Int))) (cond_of hc) (cond_of hc) lssI_ok) ?_
    refine arun_do rfl rfl rfl (ex_pick rfl pkAnd) ?_
    refine arun_keepE [1, 5, 7, 18] 1 1 (st' := ⟨24, 0, [(1, (I t1)), (5, (LP 0 0)), (7, (GV 0 x1.length)), (18, (Bo ((decide (t1 ≥ 0)) && (decide (t1 < ((x1.length : Nat) : Int))))))], [(c_api_Node t2)], ⟨1, [(0, ⟨5, ((x1).flatMap c_api_Node), true⟩)]⟩⟩) (by kernel_rfl) (by kernel_rfl) ?_
    show AWp _ _ _ _
    rcases Bool.eq_false_or_eq_true ((decide (t1 ≥ 0)) && (decide (t1 < ((x1.length : Nat) : Int)))) with hb3 | hb3
    · rw [condT hb3] at h
      refine awp_condT (boT hb3) ?_
      refine awp_region ?_
      refine arun_do rfl rfl rfl (ex_move (eV (v := (GV 0 x1.length)) rfl)) ?_
      refine arun_do rfl rfl rfl (ex_move (eV (v := (I t1)) rfl)) ?_
      refine arun_do rfl rfl rfl (tx_ldLA (vs := (c_api_Node t2)) Tryd.underlying39 rfl s_39 (by decide) rfl rfl rfl rfl) ?_
      obtain ⟨x4, hx4, h⟩ := bindS h
      refine arun_do rfl rfl rfl (tx_idxG (c := c_api_Node) (xs := x1) (i := t1) ce_api_Node Tryd.underlying25 s_39 rfl rfl rfl rfl hx4) ?_
      obtain ⟨x5, hx5, h⟩ := bindS h
      refine arun_do0 rfl rfl (tx_stG (c := c_api_Node) (xs := x1) (e := t2) (H' := ⟨1, [(0, ⟨5, ((x5).flatMap c_api_Node), true⟩)]⟩) ce_api_Node s_39 rfl (eV (v := (Value.agg (c_api_Node t2).toArray)) rfl) rfl rfl hx5 rfl) ?_
      refine arun_fewer (T' := [(1, (I t1)), (5, (LP 0 0)), (7, (GV 0 x5.length)), (18, (Bo ((decide (t1 ≥ 0)) && (decide (t1 < ((x1.length : Nat) : Int)))))), (19, (GV 0 x5.length)), (20, (I t1)), (21, (Value.agg (c_api_Node t2).toArray))]) (ReT.keep (v := (I t1)) rfl (ReT.keep (v := (LP 0 0)) rfl (ReT.gv rfl (setI_len hx5) (ReT.keep (v := (Bo ((decide (t1 ≥ 0)) && (decide (t1 < ((x1.length : Nat) : Int)))))) rfl (ReT.gv rfl (setI_len hx5) (ReT.keep (v := (I t1)) rfl (ReT.keep (v := (Value.agg (c_api_Node t2).toArray)) rfl ReT.nil))))))) ?_
      refine arun_keepE [7] 0 1 (st' := ⟨24, 0, [(7, (GV 0 x5.length))], [], ⟨1, [(0, ⟨5, ((x5).flatMap c_api_Node), true⟩)]⟩⟩) (by kernel_rfl) (by kernel_rfl) ?_
      exact (Exists.intro x5 (And.intro rfl h))
    · rw [condF hb3] at h
      refine awp_condF (boF hb3) ?_
      refine awp_keepE [7] 0 1 (st' := ⟨24, 0, [(7, (GV 0 x1.length))], [], ⟨1, [(0, ⟨5, ((x1).flatMap c_api_Node), true⟩)]⟩⟩) (by kernel_rfl) (by kernel_rfl) ?_
      refine awp_skip ?_
      exact (Exists.intro x1 (And.intro rfl h))
  · rintro s ⟨y2, rfl, h⟩
    unfold M_ref11_with_k1 at h
    refine awp_seq ?_
    refine awp_region ?_
    refine arun_do rfl rfl rfl (ex_move (eV (v := (GV 0 y2.length)) rfl)) ?_
    refine arun_do rfl rfl rfl (ex_assign (eV (v := (GV 0 y2.length)) rfl)) ?_
    refine arun_keepE [6] 0 1 (st' := ⟨24, 0, [(6, (GV 0 y2.length))], [], ⟨1, [(0, ⟨5, ((y2).flatMap c_api_Node), true⟩)]⟩⟩) (by kernel_rfl) (by kernel_rfl) ?_
    show AWp _ _ _ _
    refine awp_freeze 0 (bk := ⟨5, ((y2).flatMap c_api_Node), true⟩) (T' := [(6, (SL 5 c_api_Node y2))]) (L' := []) rfl (fzG ce_api_Node rfl rfl FzT.nil) (FzL.refl _) ?_
    show AWp _ _ _ ⟨24, 0, [(6, (SL 5 c_api_Node y2))], [], ⟨1, []⟩⟩
    refine awp_ret ?_
    cases h
    exact ares1 (rtmp rfl (eV rfl))

noncomputable def M_ref11_Make (t0 : (List G_api_Node)) (t1 : Str) (t2 : Int) : Option ((List G_api_Node) × Int) :=
  cond ((t2 != 1) && (t2 != 2)) (some (t0, 1)) (Option.bind (M_ref11_Place t0 t1) fun (x2 : (Int × Str × Int)) => cond (x2.2.2 != 0) (some (t0, x2.2.2)) (Option.bind (M_ref11_Kid t0 x2.1 x2.2.1) fun (x4 : (Int × Bool)) => cond x4.2 (some (t0, 3)) (Option.bind (M_ref11_Free t0) fun (x6 : (Int × Bool)) => cond (!x6.2) (some (t0, 8)) (Option.bind (M_ref11_with t0 x6.1 (G_api_Node.mk t2 x2.1 x2.2.1 [] 0)) fun (x8 : (List G_api_Node)) => some (x8, 0)))))
theorem ok_ref11_Make (t0 : (List G_api_Node)) (t1 : Str) (t2 : Int) (r : ((List G_api_Node) × Int)) (h : M_ref11_Make t0 t1 t2 = some r) : FFn Tryd.prog 45 [(SL 5 c_api_Node t0), (S t1), (I t2)] (Value.tuple #[(SL 5 c_api_Node r.1), (I r.2)]) := by
  refine FFn.of_body (n := 57) Tryd.func45 rfl Tryd.ntmps45 rfl rfl rfl rfl ?_
  show AWp _ _ _ ⟨57, 0, [(0, (SL 5 c_api_Node t0)), (1, (S t1)), (2, (I t2))], [], ⟨0, []⟩⟩
  unfold M_ref11_Make at h
  refine awp_seq ?_
  refine awp_region ?_
  refine arun_do rfl rfl rfl (ex_assign (eV (v := (Value.slice none 0 0)) rfl)) ?_
  refine arun_do rfl rfl rfl (ex_assign (eV (v := (I 0)) rfl)) ?_
  refine arun_keepE [0, 1, 2] 0 0 (st' := ⟨57, 0, [(0, (SL 5 c_api_Node t0)), (1, (S t1)), (2, (I t2))], [], ⟨0, []⟩⟩) (by kernel_rfl) (by kernel_rfl) ?_
  show AWp _ _ _ _
  refine awp_seq ?_
  refine awp_seq ?_
  refine awp_region ?_
  refine arun_do rfl rfl rfl (ex_move (eV (v := (I t2)) rfl)) ?_
  refine arun_do rfl rfl rfl (ex_bin (vx := (I t2)) (vy := (I 1)) rfl rfl neqI_ok) ?_
  refine arun_do rfl rfl rfl (ex_move (eV (v := (Bo (t2 != 1))) rfl)) ?_
  refine arun_guard (v := (I t2)) ((t2 != 1) == true) rfl rfl rfl (fun hc => ex_move (eV (v := (I t2)) rfl)) ?_
  refine arun_guard (v := (Bo (t2 != 2))) ((t2 != 1) == true) rfl rfl rfl (fun hc => ex_bin (vx := (I t2)) (vy := (I 2)) (cond_of hc) rfl neqI_ok) ?_
  refine arun_do rfl rfl rfl (ex_pick rfl pkAnd) ?_
  refine arun_keepE [0, 1, 2, 20] 0 0 (st' := ⟨57, 0, [(0, (SL 5 c_api_Node t0)), (1, (S t1)), (2, (I t2)), (20, (Bo ((t2 != 1) && (t2 != 2))))], [], ⟨0, []⟩⟩) (by kernel_rfl) (by kernel_rfl) ?_
  show AWp _ _ _ _
  rcases Bool.eq_false_or_eq_true ((t2 != 1) && (t2 != 2)) with hb1 | hb1
  · rw [condT hb1] at h
    refine awp_condT (boT hb1) ?_
    refine awp_seq ?_
    refine awp_region ?_
    refine arun_do rfl rfl rfl (ex_move (eV (v := (SL 5 c_api_Node t0)) rfl)) ?_
    refine arun_do rfl rfl rfl (ex_assign (eV (v := (SL 5 c_api_Node t0)) rfl)) ?_
    refine arun_do rfl rfl rfl (ex_assign (eV (v := (I 1)) rfl)) ?_
    refine arun_keepE [6, 7] 0 0 (st' := ⟨57, 0, [(6, (SL 5 c_api_Node t0)), (7, (I 1))], [], ⟨0, []⟩⟩) (by kernel_rfl) (by kernel_rfl) ?_
    show AWp _ _ _ _
    refine awp_ret ?_
    cases h
    exact aresN rfl (L2.cons (rtmp rfl (eV rfl)) (L2.cons (rtmp rfl (eV rfl)) L2.nil)) rfl
  · rw [condF hb1] at h
    refine awp_condF (boF hb1) ?_
    refine awp_skip ?_
    show AWp _ _ _ _
    refine awp_seq ?_
    refine awp_region ?_
    refine arun_do rfl rfl rfl (ex_move (eV (v := (SL 5 c_api_Node t0)) rfl)) ?_
    refine arun_do rfl rfl rfl (ex_move (eV (v := (S t1)) rfl)) ?_
    obtain ⟨x2, hx2, h⟩ := bindS h
    refine arun_do rfl rfl rfl (ex_call0 (vs := [(SL 5 c_api_Node t0), (S t1)]) (v := (Value.tuple #[(I x2.1), (S x2.2.1), (I x2.2.2)])) rfl en_58 (cargs (evs rfl (evs rfl evs_nil))) rfl (ok_ref11_Place t0 t1 x2 hx2) rfl) ?_
    refine arun_do rfl rfl rfl (ex_move (eV (v := (Value.tuple #[(I x2.1), (S x2.2.1), (I x2.2.2)])) rfl)) ?_
    refine arun_do rfl rfl rfl (ex_extract (vx := (Value.tuple #[(I x2.1), (S x2.2.1), (I x2.2.2)])) (v := (I x2.1)) rfl rfl) ?_
    refine arun_do rfl rfl rfl (ex_extract (vx := (Value.tuple #[(I x2.1), (S x2.2.1), (I x2.2.2)])) (v := (S x2.2.1)) rfl rfl) ?_
    refine arun_do rfl rfl rfl (ex_extract (vx := (Value.tuple #[(I x2.1), (S x2.2.1), (I x2.2.2)])) (v := (I x2.2.2)) rfl rfl) ?_
    refine arun_do rfl rfl rfl (ex_assign (eV (v := (I x2.1)) rfl)) ?_
    refine arun_do rfl rfl rfl (ex_assign (eV (v := (S x2.2.1)) rfl)) ?_
    refine arun_do rfl rfl rfl (ex_assign (eV (v := (I x2.2.2)) rfl)) ?_
    refine arun_keepE [0, 2, 8, 9, 10] 0 0 (st' := ⟨57, 0, [(0, (SL 5 c_api_Node t0)), (2, (I t2)), (8, (I x2.1)), (9, (S x2.2.1)), (10, (I x2.2.2))], [], ⟨0, []⟩⟩) (by kernel_rfl) (by kernel_rfl) ?_
    show AWp _ _ _ _
    refine awp_seq ?_
    refine awp_seq ?_
    refine awp_region ?_
    refine arun_do rfl rfl rfl (ex_move (eV (v := (I x2.2.2)) rfl)) ?_
    refine arun_do rfl rfl rfl (ex_bin (vx := (I x2.2.2)) (vy := (I 0)) rfl rfl neqI_ok) ?_
    refine arun_keepE [0, 2, 8, 9, 10, 30] 0 0 (st' := ⟨57, 0, [(0, (SL 5 c_api_Node t0)), (2, (I t2)), (8, (I x2.1)), (9, (S x2.2.1)), (10, (I x2.2.2)), (30, (Bo (x2.2.2 != 0)))], [], ⟨0, []⟩⟩) (by kernel_rfl) (by kernel_rfl) ?_
    show AWp _ _ _ _
    rcases Bool.eq_false_or_eq_true (x2.2.2 != 0) with hb3 | hb3
    · rw [condT hb3] at h
      refine awp_condT (boT hb3) ?_
      refine awp_seq ?_
      refine awp_region ?_
      refine arun_do rfl rfl rfl (ex_move (eV (v := (SL 5 c_api_Node t0)) rfl)) ?_
      refine arun_do rfl rfl rfl (ex_move (eV (v := (I x2.2.2)) rfl)) ?_
      refine arun_do rfl rfl rfl (ex_assign (eV (v := (SL 5 c_api_Node t0)) rfl)) ?_
      refine arun_do rfl rfl rfl (ex_assign (eV (v := (I x2.2.2)) rfl)) ?_
      refine arun_keepE [6, 7] 0 0 (st' := ⟨57, 0, [(6, (SL 5 c_api_Node t0)), (7, (I x2.2.2))], [], ⟨0, []⟩⟩) (by kernel_rfl) (by kernel_rfl) ?_
      show AWp _ _ _ _
      refine awp_ret ?_
      cases h
      exact aresN rfl (L2.cons (rtmp rfl (eV rfl)) (L2.cons (rtmp rfl (eV rfl)) L2.nil)) rfl
    · rw [condF hb3] at h
      refine awp_condF (boF hb3) ?_
      refine awp_skip ?_
      show AWp _ _ _ _
      refine awp_seq ?_
      refine awp_region ?_
      refine arun_do rfl rfl rfl (ex_move (eV (v := (SL 5 c_api_Node t0)) rfl)) ?_
      refine arun_do rfl rfl rfl (ex_move (eV (v := (I x2.1)) rfl)) ?_
      refine arun_do rfl rfl rfl (ex_move (eV (v := (S x2.2.1)) rfl)) ?_
      obtain ⟨x4, hx4, h⟩ := bindS h
      refine arun_do rfl rfl rfl (ex_call0 (vs := [(SL 5 c_api_Node t0), (I x2.1), (S x2.2.1)]) (v := (Value.tuple #[(I x4.1), (Bo x4.2)])) rfl en_43 (cargs (evs rfl (evs rfl (evs rfl evs_nil)))) rfl (ok_ref11_Kid t0 x2.1 x2.2.1 x4 hx4) rfl) ?_
      refine arun_do rfl rfl rfl (ex_move (eV (v := (Value.tuple #[(I x4.1), (Bo x4.2)])) rfl)) ?_
      refine arun_do rfl rfl rfl (ex_extract (vx := (Value.tuple #[(I x4.1), (Bo x4.2)])) (v := (I x4.1)) rfl rfl) ?_
      refine arun_do rfl rfl rfl (ex_extract (vx := (Value.tuple #[(I x4.1), (Bo x4.2)])) (v := (Bo x4.2)) rfl rfl) ?_
      refine arun_do rfl rfl rfl (ex_assign (eV (v := (I x4.1)) rfl)) ?_
      refine arun_do rfl rfl rfl (ex_assign (eV (v := (Bo x4.2)) rfl)) ?_
      refine arun_keepE [0, 2, 8, 9, 12] 0 0 (st' := ⟨57, 0, [(0, (SL 5 c_api_Node t0)), (2, (I t2)), (8, (I x2.1)), (9, (S x2.2.1)), (12, (Bo x4.2))], [], ⟨0, []⟩⟩) (by kernel_rfl) (by kernel_rfl) ?_
      show AWp _ _ _ _
      refine awp_seq ?_
      refine awp_seq ?_
      refine awp_region ?_
      refine arun_do rfl rfl rfl (ex_move (eV (v := (Bo x4.2)) rfl)) ?_
      refine arun_keepE [0, 2, 8, 9, 40] 0 0 (st' := ⟨57, 0, [(0, (SL 5 c_api_Node t0)), (2, (I t2)), (8, (I x2.1)), (9, (S x2.2.1)), (40, (Bo x4.2))], [], ⟨0, []⟩⟩) (by kernel_rfl) (by kernel_rfl) ?_
      show AWp _ _ _ _
      rcases Bool.eq_false_or_eq_true x4.2 with hb5 | hb5
      · rw [condT hb5] at h
        refine awp_condT (boT hb5) ?_
        refine awp_seq ?_
        refine awp_region ?_
        refine arun_do rfl rfl rfl (ex_move (eV (v := (SL 5 c_api_Node t0)) rfl)) ?_
        refine arun_do rfl rfl rfl (ex_assign (eV (v := (SL 5 c_api_Node t0)) rfl)) ?_
        refine arun_do rfl rfl rfl (ex_assign (eV (v := (I 3)) rfl)) ?_
        refine arun_keepE [6, 7] 0 0 (st' := ⟨57, 0, [(6, (SL 5 c_api_Node t0)), (7, (I 3))], [], ⟨0, []⟩⟩) (by kernel_rfl) (by kernel_rfl) ?_
        show AWp _ _ _ _
        refine awp_ret ?_
        cases h
        exact aresN rfl (L2.cons (rtmp rfl (eV rfl)) (L2.cons (rtmp rfl (eV rfl)) L2.nil)) rfl
      · rw [condF hb5] at h
        refine awp_condF (boF hb5) ?_
        refine awp_skip ?_
        show AWp _ _ _ _
        refine awp_seq ?_
        refine awp_region ?_
        refine arun_do rfl rfl rfl (ex_move (eV (v := (SL 5 c_api_Node t0)) rfl)) ?_
        obtain ⟨x6, hx6, h⟩ := bindS h
        refine arun_do rfl rfl rfl (ex_call0 (vs := [(SL 5 c_api_Node t0)]) (v := (Value.tuple #[(I x6.1), (Bo x6.2)])) rfl en_59 (cargs (evs rfl evs_nil)) rfl (ok_ref11_Free t0 x6 hx6) rfl) ?_
        refine arun_do rfl rfl rfl (ex_move (eV (v := (Value.tuple #[(I x6.1), (Bo x6.2)])) rfl)) ?_
        refine arun_do rfl rfl rfl (ex_extract (vx := (Value.tuple #[(I x6.1), (Bo x6.2)])) (v := (I x6.1)) rfl rfl) ?_
        refine arun_do rfl rfl rfl (ex_extract (vx := (Value.tuple #[(I x6.1), (Bo x6.2)])) (v := (Bo x6.2)) rfl rfl) ?_
        refine arun_do rfl rfl rfl (ex_assign (eV (v := (I x6.1)) rfl)) ?_
        refine arun_do rfl rfl rfl (ex_assign (eV (v := (Bo x6.2)) rfl)) ?_
        refine arun_keepE [0, 2, 8, 9, 13, 14] 0 0 (st' := ⟨57, 0, [(0, (SL 5 c_api_Node t0)), (2, (I t2)), (8, (I x2.1)), (9, (S x2.2.1)), (13, (I x6.1)), (14, (Bo x6.2))], [], ⟨0, []⟩⟩) (by kernel_rfl) (by kernel_rfl) ?_
        show AWp _ _ _ _
        refine awp_seq ?_
        refine awp_seq ?_
        refine awp_region ?_
        refine arun_do rfl rfl rfl (ex_move (eV (v := (Bo x6.2)) rfl)) ?_
        refine arun_do rfl rfl rfl (ex_un (vx := (Bo x6.2)) rfl notB_ok) ?_
        refine arun_keepE [0, 2, 8, 9, 13, 48] 0 0 (st' := ⟨57, 0, [(0, (SL 5 c_api_Node t0)), (2, (I t2)), (8, (I x2.1)), (9, (S x2.2.1)), (13, (I x6.1)), (48, (Bo (!x6.2)))], [], ⟨0, []⟩⟩) (by kernel_rfl) (by kernel_rfl) ?_
        show AWp _ _ _ _
        rcases Bool.eq_false_or_eq_true (!x6.2) with hb7 | hb7
        · rw [condT hb7] at h
          refine awp_condT (boT hb7) ?_
          refine awp_seq ?_
          refine awp_region ?_
          refine arun_do rfl rfl rfl (ex_move (eV (v := (SL 5 c_api_Node t0)) rfl)) ?_
          refine arun_do rfl rfl rfl (ex_assign (eV (v := (SL 5 c_api_Node t0)) rfl)) ?_
          refine arun_do rfl rfl rfl (ex_assign (eV (v := (I 8)) rfl)) ?_
          refine arun_keepE [6, 7] 0 0 (st' := ⟨57, 0, [(6, (SL 5 c_api_Node t0)), (7, (I 8))], [], ⟨0, []⟩⟩) (by kernel_rfl) (by kernel_rfl) ?_
          show AWp _ _ _ _
          refine awp_ret ?_
          cases h
          exact aresN rfl (L2.cons (rtmp rfl (eV rfl)) (L2.cons (rtmp rfl (eV rfl)) L2.nil)) rfl
        · rw [condF hb7] at h
          refine awp_condF (boF hb7) ?_
          refine awp_skip ?_
          show AWp _ _ _ _
          refine awp_seq ?_
          refine awp_region ?_
          refine arun_do rfl rfl rfl (ex_move (eV (v := (SL 5 c_api_Node t0)) rfl)) ?_
          refine arun_do rfl rfl rfl (ex_move (eV (v := (I x6.1)) rfl)) ?_
          refine arun_do rfl rfl rfl (ex_move (eV (v := (I t2)) rfl)) ?_
          refine arun_do rfl rfl rfl (ex_move (eV (v := (I x2.1)) rfl)) ?_
          refine arun_do rfl rfl rfl (ex_move (eV (v := (S x2.2.1)) rfl)) ?_
          refine arun_do rfl rfl rfl (ex_build (qs := [(0, (I t2)), (1, (I x2.1)), (2, (S x2.2.1))]) (v := (Value.agg (c_api_Node (G_api_Node.mk t2 x2.1 x2.2.1 [] 0)).toArray)) (evp rfl (evp rfl (evp rfl evp_nil))) (by kernel_rfl)) ?_
          obtain ⟨x8, hx8, h⟩ := bindS h
          refine arun_do rfl rfl rfl (ex_call0 (vs := [(SL 5 c_api_Node t0), (I x6.1), (Value.agg (c_api_Node (G_api_Node.mk t2 x2.1 x2.2.1 [] 0)).toArray)]) (v := (SL 5 c_api_Node x8)) rfl en_60 (cargs (evs rfl (evs rfl (evs rfl evs_nil)))) rfl (ok_ref11_with t0 x6.1 (G_api_Node.mk t2 x2.1 x2.2.1 [] 0) x8 hx8) rfl) ?_
          refine arun_do rfl rfl rfl (ex_assign (eV (v := (SL 5 c_api_Node x8)) rfl)) ?_
          refine arun_do rfl rfl rfl (ex_assign (eV (v := (I 0)) rfl)) ?_
          refine arun_keepE [6, 7] 0 0 (st' := ⟨57, 0, [(6, (SL 5 c_api_Node x8)), (7, (I 0))], [], ⟨0, []⟩⟩) (by kernel_rfl) (by kernel_rfl) ?_
          show AWp _ _ _ _
          refine awp_ret ?_
          cases h
          exact aresN rfl (L2.cons (rtmp rfl (eV rfl)) (L2.cons (rtmp rfl (eV rfl)) L2.nil)) rfl

end Go.Proofs
