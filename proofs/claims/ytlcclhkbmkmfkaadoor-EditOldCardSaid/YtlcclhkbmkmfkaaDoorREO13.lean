/- Pure models of functions of the program, and that its code does what they say: palimpref11 Drop, palimpref11 there, palimpref11 Within, palimpref11 Move. Written by a program. -/
import Derived.Test.YtlcclhkbmkmfkaaDoorREO12
import Derived.Test.YtlcclhkbmkmfkaaDoorREO8
import Derived.Test.YtlcclhkbmkmfkaaDoorREO9
import Derived.Test.YtlcclhkbmkmfkaaDoorREOB
set_option maxRecDepth 20000
set_option maxHeartbeats 4000000
namespace Go.Proofs
open Go Go.Fhl
set_option linter.unusedVariables false
set_option linter.unusedSimpArgs false
noncomputable def M_ref11_Drop (t0 : (List G_api_Node)) (t1 : Str) : Option ((List G_api_Node) × Int) :=
  Option.bind (M_ref11_Find t0 t1) fun (x1 : (Int × Int)) => cond (x1.2 != 0) (some (t0, x1.2)) (cond (x1.1 == 0) (some (t0, 4)) (Option.bind (M_ref11_Kids t0 x1.1) fun (x4 : (List Int)) => cond (decide ((x4.length : Int) > 0)) (some (t0, 6)) (Option.bind (M_ref11_with t0 x1.1 (G_api_Node.mk 0 0 [] [] 0)) fun (x6 : (List G_api_Node)) => some (x6, 0))))
theorem ok_ref11_Drop (t0 : (List G_api_Node)) (t1 : Str) (r : ((List G_api_Node) × Int)) (h : M_ref11_Drop t0 t1 = some r) : FFn Tryd.prog 46 [(SL 5 c_api_Node t0), (S t1)] (Value.tuple #[(SL 5 c_api_Node r.1), (I r.2)]) := by
  refine FFn.of_body (n := 31) Tryd.func46 rfl Tryd.ntmps46 rfl rfl rfl rfl ?_
  show AWp _ _ _ ⟨31, 0, [(0, (SL 5 c_api_Node t0)), (1, (S t1))], [], ⟨0, []⟩⟩
  unfold M_ref11_Drop at h
  refine awp_seq ?_
  refine awp_region ?_
  refine arun_do rfl rfl rfl (ex_assign (eV (v := (Value.slice none 0 0)) rfl)) ?_
  refine arun_do rfl rfl rfl (ex_assign (eV (v := (I 0)) rfl)) ?_
  refine arun_keepE [0, 1] 0 0 (st' := ⟨31, 0, [(0, (SL 5 c_api_Node t0)), (1, (S t1))], [], ⟨0, []⟩⟩) (by kernel_rfl) (by kernel_rfl) ?_
  show AWp _ _ _ _
  refine awp_seq ?_
  refine awp_region ?_
  refine arun_do rfl rfl rfl (ex_move (eV (v := (SL 5 c_api_Node t0)) rfl)) ?_
  refine arun_do rfl rfl rfl (ex_move (eV (v := (S t1)) rfl)) ?_
  obtain ⟨x1, hx1, h⟩ := bindS h
  refine arun_do rfl rfl rfl (ex_call0 (vs := [(SL 5 c_api_Node t0), (S t1)]) (v := (Value.tuple #[(I x1.1), (I x1.2)])) rfl en_13 (cargs (evs rfl (evs rfl evs_nil))) rfl (ok_ref11_Find t0 t1 x1 hx1) rfl) ?_
  refine arun_do rfl rfl rfl (ex_move (eV (v := (Value.tuple #[(I x1.1), (I x1.2)])) rfl)) ?_
  refine arun_do rfl rfl rfl (ex_extract (vx := (Value.tuple #[(I x1.1), (I x1.2)])) (v := (I x1.1)) rfl rfl) ?_
  refine arun_do rfl rfl rfl (ex_extract (vx := (Value.tuple #[(I x1.1), (I x1.2)])) (v := (I x1.2)) rfl rfl) ?_
  refine arun_do rfl rfl rfl (ex_assign (eV (v := (I x1.1)) rfl)) ?_
  refine arun_do rfl rfl rfl (ex_assign (eV (v := (I x1.2)) rfl)) ?_
  refine arun_keepE [0, 6, 7] 0 0 (st' := ⟨31, 0, [(0, (SL 5 c_api_Node t0)), (6, (I x1.1)), (7, (I x1.2))], [], ⟨0, []⟩⟩) (by kernel_rfl) (by kernel_rfl) ?_
  show AWp _ _ _ _
  refine awp_seq ?_
  refine awp_seq ?_
  refine awp_region ?_
  refine arun_do rfl rfl rfl (ex_move (eV (v := (I x1.2)) rfl)) ?_
  refine arun_do rfl rfl rfl (ex_bin (vx := (I x1.2)) (vy := (I 0)) rfl rfl neqI_ok) ?_
  refine arun_keepE [0, 6, 7, 15] 0 0 (st' := ⟨31, 0, [(0, (SL 5 c_api_Node t0)), (6, (I x1.1)), (7, (I x1.2)), (15, (Bo (x1.2 != 0)))], [], ⟨0, []⟩⟩) (by kernel_rfl) (by kernel_rfl) ?_
  show AWp _ _ _ _
  rcases Bool.eq_false_or_eq_true (x1.2 != 0) with hb2 | hb2
  · rw [condT hb2] at h
    refine awp_condT (boT hb2) ?_
    refine awp_seq ?_
    refine awp_region ?_
    refine arun_do rfl rfl rfl (ex_move (eV (v := (SL 5 c_api_Node t0)) rfl)) ?_
    refine arun_do rfl rfl rfl (ex_move (eV (v := (I x1.2)) rfl)) ?_
    refine arun_do rfl rfl rfl (ex_assign (eV (v := (SL 5 c_api_Node t0)) rfl)) ?_
    refine arun_do rfl rfl rfl (ex_assign (eV (v := (I x1.2)) rfl)) ?_
    refine arun_keepE [4, 5] 0 0 (st' := ⟨31, 0, [(4, (SL 5 c_api_Node t0)), (5, (I x1.2))], [], ⟨0, []⟩⟩) (by kernel_rfl) (by kernel_rfl) ?_
    show AWp _ _ _ _
    refine awp_ret ?_
    cases h
    exact aresN rfl (L2.cons (rtmp rfl (eV rfl)) (L2.cons (rtmp rfl (eV rfl)) L2.nil)) rfl
  · rw [condF hb2] at h
    refine awp_condF (boF hb2) ?_
    refine awp_skip ?_
    show AWp _ _ _ _
    refine awp_seq ?_
    refine awp_seq ?_
    refine awp_region ?_
    refine arun_do rfl rfl rfl (ex_move (eV (v := (I x1.1)) rfl)) ?_
    refine arun_do rfl rfl rfl (ex_bin (vx := (I x1.1)) (vy := (I 0)) rfl rfl eqlI_ok) ?_
    refine arun_keepE [0, 6, 19] 0 0 (st' := ⟨31, 0, [(0, (SL 5 c_api_Node t0)), (6, (I x1.1)), (19, (Bo (x1.1 == 0)))], [], ⟨0, []⟩⟩) (by kernel_rfl) (by kernel_rfl) ?_
    show AWp _ _ _ _
    rcases Bool.eq_false_or_eq_true (x1.1 == 0) with hb3 | hb3
    · rw [condT hb3] at h
      refine awp_condT (boT hb3) ?_
      refine awp_seq ?_
      refine awp_region ?_
      refine arun_do rfl rfl rfl (ex_move (eV (v := (SL 5 c_api_Node t0)) rfl)) ?_
      refine arun_do rfl rfl rfl (ex_assign (eV (v := (SL 5 c_api_Node t0)) rfl)) ?_
      refine arun_do rfl rfl rfl (ex_assign (eV (v := (I 4)) rfl)) ?_
      refine arun_keepE [4, 5] 0 0 (st' := ⟨31, 0, [(4, (SL 5 c_api_Node t0)), (5, (I 4))], [], ⟨0, []⟩⟩) (by kernel_rfl) (by kernel_rfl) ?_
      show AWp _ _ _ _
      refine awp_ret ?_
      cases h
      exact aresN rfl (L2.cons (rtmp rfl (eV rfl)) (L2.cons (rtmp rfl (eV rfl)) L2.nil)) rfl
    · rw [condF hb3] at h
      refine awp_condF (boF hb3) ?_
      refine awp_skip ?_
      show AWp _ _ _ _
      refine awp_seq ?_
      refine awp_seq ?_
      refine awp_region ?_
      refine arun_do rfl rfl rfl (ex_move (eV (v := (SL 5 c_api_Node t0)) rfl)) ?_
      refine arun_do rfl rfl rfl (ex_move (eV (v := (I x1.1)) rfl)) ?_
      obtain ⟨x4, hx4, h⟩ := bindS h
      refine arun_do rfl rfl rfl (ex_call0 (vs := [(SL 5 c_api_Node t0), (I x1.1)]) (v := (SL 1 cI x4)) rfl en_57 (cargs (evs rfl (evs rfl evs_nil))) rfl (ok_ref11_Kids t0 x1.1 x4 hx4) rfl) ?_
      refine arun_do rfl rfl rfl (tx_lenD (xs := x4) ceI Tryd.underlying29 rfl) ?_
      refine arun_do rfl rfl rfl (ex_bin (vx := (I (x4.length : Int))) (vy := (I 0)) rfl rfl gtrI_ok) ?_
      refine arun_keepE [0, 6, 25] 0 0 (st' := ⟨31, 0, [(0, (SL 5 c_api_Node t0)), (6, (I x1.1)), (25, (Bo (decide ((x4.length : Int) > 0))))], [], ⟨0, []⟩⟩) (by kernel_rfl) (by kernel_rfl) ?_
      show AWp _ _ _ _
      rcases Bool.eq_false_or_eq_true (decide ((x4.length : Int) > 0)) with hb5 | hb5
      · rw [condT hb5] at h
        refine awp_condT (boT hb5) ?_
        refine awp_seq ?_
        refine awp_region ?_
        refine arun_do rfl rfl rfl (ex_move (eV (v := (SL 5 c_api_Node t0)) rfl)) ?_
        refine arun_do rfl rfl rfl (ex_assign (eV (v := (SL 5 c_api_Node t0)) rfl)) ?_
        refine arun_do rfl rfl rfl (ex_assign (eV (v := (I 6)) rfl)) ?_
        refine arun_keepE [4, 5] 0 0 (st' := ⟨31, 0, [(4, (SL 5 c_api_Node t0)), (5, (I 6))], [], ⟨0, []⟩⟩) (by kernel_rfl) (by kernel_rfl) ?_
        show AWp _ _ _ _
        refine awp_ret ?_
        cases h
        exact aresN rfl (L2.cons (rtmp rfl (eV rfl)) (L2.cons (rtmp rfl (eV rfl)) L2.nil)) rfl
      · rw [condF hb5] at h
        refine awp_condF (boF hb5) ?_
        refine awp_skip ?_
        show AWp _ _ _ _
        refine awp_seq ?_
        refine awp_region ?_
        refine arun_do rfl rfl rfl (ex_move (eV (v := (SL 5 c_api_Node t0)) rfl)) ?_
        refine arun_do rfl rfl rfl (ex_move (eV (v := (I x1.1)) rfl)) ?_
        refine arun_do rfl rfl rfl (ex_build (qs := []) (v := (Value.agg (c_api_Node (G_api_Node.mk 0 0 [] [] 0)).toArray)) evp_nil (by kernel_rfl)) ?_
        obtain ⟨x6, hx6, h⟩ := bindS h
        refine arun_do rfl rfl rfl (ex_call0 (vs := [(SL 5 c_api_Node t0), (I x1.1), (Value.agg (c_api_Node (G_api_Node.mk 0 0 [] [] 0)).toArray)]) (v := (SL 5 c_api_Node x6)) rfl en_60 (cargs (evs rfl (evs rfl (evs rfl evs_nil)))) rfl (ok_ref11_with t0 x1.1 (G_api_Node.mk 0 0 [] [] 0) x6 hx6) rfl) ?_
        refine arun_do rfl rfl rfl (ex_assign (eV (v := (SL 5 c_api_Node x6)) rfl)) ?_
        refine arun_do rfl rfl rfl (ex_assign (eV (v := (I 0)) rfl)) ?_
        refine arun_keepE [4, 5] 0 0 (st' := ⟨31, 0, [(4, (SL 5 c_api_Node x6)), (5, (I 0))], [], ⟨0, []⟩⟩) (by kernel_rfl) (by kernel_rfl) ?_
        show AWp _ _ _ _
        refine awp_ret ?_
        cases h
        exact aresN rfl (L2.cons (rtmp rfl (eV rfl)) (L2.cons (rtmp rfl (eV rfl)) L2.nil)) rfl

noncomputable def M_ref11_there (t0 : (List G_api_Node)) (t1 : Int) : Option Bool :=
  Option.bind (gd (((decide (t1 ≥ 0)) && (decide (t1 < (t0.length : Int)))) == true) (getI t0 t1)) fun (x1 : G_api_Node) => some (((decide (t1 ≥ 0)) && (decide (t1 < (t0.length : Int)))) && (x1.Kind != 0))
theorem ok_ref11_there (t0 : (List G_api_Node)) (t1 : Int) (r : Bool) (h : M_ref11_there t0 t1 = some r) : FFn Tryd.prog 79 [(SL 5 c_api_Node t0), (I t1)] (Bo r) := by
  refine FFn.of_body (n := 21) Tryd.func79 rfl Tryd.ntmps79 rfl rfl rfl rfl ?_
  show AWp _ _ _ ⟨21, 0, [(0, (SL 5 c_api_Node t0)), (1, (I t1))], [], ⟨0, []⟩⟩
  unfold M_ref11_there at h
  refine awp_seq ?_
  refine awp_region ?_
  refine arun_do rfl rfl rfl (ex_assign (eV (v := (Bo false)) rfl)) ?_
  refine arun_keepE [0, 1] 0 0 (st' := ⟨21, 0, [(0, (SL 5 c_api_Node t0)), (1, (I t1))], [], ⟨0, []⟩⟩) (by kernel_rfl) (by kernel_rfl) ?_
  show AWp _ _ _ _
  refine awp_seq ?_
  refine awp_region ?_
  refine arun_do rfl rfl rfl (ex_move (eV (v := (I t1)) rfl)) ?_
  refine arun_do rfl rfl rfl (ex_bin (vx := (I t1)) (vy := (I 0)) rfl rfl geqI_ok) ?_
  refine arun_do rfl rfl rfl (ex_move (eV (v := (Bo (decide (t1 ≥ 0)))) rfl)) ?_
  refine arun_guard (v := (I t1)) ((decide (t1 ≥ 0)) == true) rfl rfl rfl (fun hc => ex_move (eV (v := (I t1)) rfl)) ?_
  refine arun_guard (v := (SL 5 c_api_Node t0)) ((decide (t1 ≥ 0)) == true) rfl rfl rfl (fun hc => ex_move (eV (v := (SL 5 c_api_Node t0)) rfl)) ?_
  refine arun_guard (v := (I (t0.length : Int))) ((decide (t1 ≥ 0)) == true) rfl rfl rfl (fun hc => tx_lenD (xs := t0) ce_api_Node Tryd.underlying25 (cond_of hc)) ?_
  refine arun_guard (v := (Bo (decide (t1 < (t0.length : Int))))) ((decide (t1 ≥ 0)) == true) rfl rfl rfl (fun hc => ex_bin (vx := (I t1)) (vy := (I (t0.length : Int))) (cond_of hc) (cond_of hc) lssI_ok) ?_
  refine arun_do rfl rfl rfl (ex_pick rfl pkAnd) ?_
  refine arun_do rfl rfl rfl (ex_move (eV (v := (Bo ((decide (t1 ≥ 0)) && (decide (t1 < (t0.length : Int)))))) rfl)) ?_
  refine arun_guard (v := (SL 5 c_api_Node t0)) (((decide (t1 ≥ 0)) && (decide (t1 < (t0.length : Int)))) == true) rfl rfl rfl (fun hc => ex_move (eV (v := (SL 5 c_api_Node t0)) rfl)) ?_
  refine arun_guard (v := (I t1)) (((decide (t1 ≥ 0)) && (decide (t1 < (t0.length : Int)))) == true) rfl rfl rfl (fun hc => ex_move (eV (v := (I t1)) rfl)) ?_
  obtain ⟨x1, hx1, h⟩ := bindS h
  refine arun_guard (v := (DP (c_api_Node x1))) (((decide (t1 ≥ 0)) && (decide (t1 < (t0.length : Int)))) == true) rfl rfl rfl (fun hc => tx_idxD (c := c_api_Node) (xs := t0) (i := t1) ce_api_Node Tryd.underlying25 s_39 (cond_of hc) (cond_of hc) (gd_of hc hx1)) ?_
  refine arun_guard (v := (DP (List.drop 0 (c_api_Node x1)))) (((decide (t1 ≥ 0)) && (decide (t1 < (t0.length : Int)))) == true) rfl rfl rfl (fun hc => ex_fieldAddrD (vs := (List.drop 0 (c_api_Node x1))) Tryd.underlying39 rfl s_3 (by decide) (cond_of hc) rfl) ?_
  refine arun_guard (v := (I x1.Kind)) (((decide (t1 ≥ 0)) && (decide (t1 < (t0.length : Int)))) == true) rfl rfl rfl (fun hc => tx_ldD1 (v := (I x1.Kind)) Tryd.underlying3 rfl (cond_of hc) rfl) ?_
  refine arun_guard (v := (Bo (x1.Kind != 0))) (((decide (t1 ≥ 0)) && (decide (t1 < (t0.length : Int)))) == true) rfl rfl rfl (fun hc => ex_bin (vx := (I x1.Kind)) (vy := (I 0)) (cond_of hc) rfl neqI_ok) ?_
  refine arun_do rfl rfl rfl (ex_pick rfl pkAnd) ?_
  refine arun_do rfl rfl rfl (ex_assign (eV (v := (Bo (((decide (t1 ≥ 0)) && (decide (t1 < (t0.length : Int)))) && (x1.Kind != 0)))) rfl)) ?_
  refine arun_keepE [4] 0 0 (st' := ⟨21, 0, [(4, (Bo (((decide (t1 ≥ 0)) && (decide (t1 < (t0.length : Int)))) && (x1.Kind != 0))))], [], ⟨0, []⟩⟩) (by kernel_rfl) (by kernel_rfl) ?_
  show AWp _ _ _ _
  refine awp_ret ?_
  cases h
  exact ares1 (rtmp rfl (eV rfl))

noncomputable def M_ref11_Within_l1 (t0 : (List G_api_Node)) (t2 : Int) : Nat → Int → Int → Option Bool
  | 0, _, _ => none
  | n1 + 1, v4, v5 =>
  cond (((decide (v5 < (t0.length : Int))) && (v4 != t2)) && (v4 != 0)) (Option.bind (getI t0 v4) fun (x7 : G_api_Node) => (M_ref11_Within_l1 t0 t2 n1) x7.Up (w64 (v5 + 1))) (some (v4 == t2))
noncomputable def M_ref11_Within (t0 : (List G_api_Node)) (t1 : Int) (t2 : Int) : Option Bool :=
  Option.bind (M_ref11_there t0 t1) fun (x1 : Bool) => Option.bind (gd ((!x1) == false) (M_ref11_there t0 t2)) fun (x2 : Bool) => cond ((!x1) || (!x2)) (some false) (M_ref11_Within_l1 t0 t2 fuel t1 0)
theorem ok_ref11_Within (t0 : (List G_api_Node)) (t1 : Int) (t2 : Int) (r : Bool) (h : M_ref11_Within t0 t1 t2 = some r) : FFn Tryd.prog 61 [(SL 5 c_api_Node t0), (I t1), (I t2)] (Bo r) := by
  refine FFn.of_body (n := 41) Tryd.func61 rfl Tryd.ntmps61 rfl rfl rfl rfl ?_
  show AWp _ _ _ ⟨41, 0, [(0, (SL 5 c_api_Node t0)), (1, (I t1)), (2, (I t2))], [], ⟨0, []⟩⟩
  unfold M_ref11_Within at h
  refine awp_seq ?_
  refine awp_region ?_
  refine arun_do rfl rfl rfl (ex_assign (eV (v := (Bo false)) rfl)) ?_
  refine arun_keepE [0, 1, 2] 0 0 (st' := ⟨41, 0, [(0, (SL 5 c_api_Node t0)), (1, (I t1)), (2, (I t2))], [], ⟨0, []⟩⟩) (by kernel_rfl) (by kernel_rfl) ?_
  show AWp _ _ _ _
  refine awp_seq ?_
  refine awp_seq ?_
  refine awp_region ?_
  refine arun_do rfl rfl rfl (ex_move (eV (v := (SL 5 c_api_Node t0)) rfl)) ?_
  refine arun_do rfl rfl rfl (ex_move (eV (v := (I t1)) rfl)) ?_
  obtain ⟨x1, hx1, h⟩ := bindS h
  refine arun_do rfl rfl rfl (ex_call0 (vs := [(SL 5 c_api_Node t0), (I t1)]) (v := (Bo x1)) rfl en_79 (cargs (evs rfl (evs rfl evs_nil))) rfl (ok_ref11_there t0 t1 x1 hx1) rfl) ?_
  refine arun_do rfl rfl rfl (ex_un (vx := (Bo x1)) rfl notB_ok) ?_
  refine arun_do rfl rfl rfl (ex_move (eV (v := (Bo (!x1))) rfl)) ?_
  refine arun_guard (v := (SL 5 c_api_Node t0)) ((!x1) == false) rfl rfl rfl (fun hc => ex_move (eV (v := (SL 5 c_api_Node t0)) rfl)) ?_
  refine arun_guard (v := (I t2)) ((!x1) == false) rfl rfl rfl (fun hc => ex_move (eV (v := (I t2)) rfl)) ?_
  obtain ⟨x2, hx2, h⟩ := bindS h
  refine arun_guard (v := (Bo x2)) ((!x1) == false) rfl rfl rfl (fun hc => ex_call0 (vs := [(SL 5 c_api_Node t0), (I t2)]) (v := (Bo x2)) rfl en_79 (cargs (evs (cond_of hc) (evs (cond_of hc) evs_nil))) rfl (ok_ref11_there t0 t2 x2 (gd_of hc hx2)) rfl) ?_
  refine arun_guard (v := (Bo (!x2))) ((!x1) == false) rfl rfl rfl (fun hc => ex_un (vx := (Bo x2)) (cond_of hc) notB_ok) ?_
  refine arun_do rfl rfl rfl (ex_pick rfl pkOr) ?_
  refine arun_keepE [0, 1, 2, 17] 0 0 (st' := ⟨41, 0, [(0, (SL 5 c_api_Node t0)), (1, (I t1)), (2, (I t2)), (17, (Bo ((!x1) || (!x2))))], [], ⟨0, []⟩⟩) (by kernel_rfl) (by kernel_rfl) ?_
  show AWp _ _ _ _
  rcases Bool.eq_false_or_eq_true ((!x1) || (!x2)) with hb3 | hb3
  · rw [condT hb3] at h
    refine awp_condT (boT hb3) ?_
    refine awp_seq ?_
    refine awp_region ?_
    refine arun_do rfl rfl rfl (ex_assign (eV (v := (Bo false)) rfl)) ?_
    refine arun_keepE [6] 0 0 (st' := ⟨41, 0, [(6, (Bo false))], [], ⟨0, []⟩⟩) (by kernel_rfl) (by kernel_rfl) ?_
    show AWp _ _ _ _
    refine awp_ret ?_
    cases h
    exact ares1 (rtmp rfl (eV rfl))
  · rw [condF hb3] at h
    refine awp_condF (boF hb3) ?_
    refine awp_skip ?_
    show AWp _ _ _ _
    refine awp_seq ?_
    refine awp_seq ?_
    refine awp_region ?_
    refine arun_do rfl rfl rfl (ex_assign (eV (v := (I 0)) rfl)) ?_
    refine arun_keepE [0, 1, 2, 7] 0 0 (st' := ⟨41, 0, [(0, (SL 5 c_api_Node t0)), (1, (I t1)), (2, (I t2)), (7, (I 0))], [], ⟨0, []⟩⟩) (by kernel_rfl) (by kernel_rfl) ?_
    show AWp _ _ _ _
    refine awp_block ?_
    refine awp_loop (fun n s => ∃ (v4 : Int) (v5 : Int), s = ⟨41, 0, [(0, (SL 5 c_api_Node t0)), (1, (I v4)), (2, (I t2)), (7, (I v5))], [], ⟨0, []⟩⟩ ∧ M_ref11_Within_l1 t0 t2 n v4 v5 = some r) fuel (Exists.intro t1 (Exists.intro 0 (And.intro rfl h))) ?_
    rintro n s ⟨v4, v5, rfl, h⟩ -
    cases n with
    | zero => cases h
    | succ n1 =>
      unfold M_ref11_Within_l1 at h
      refine awp_seq ?_
      refine awp_seq ?_
      refine awp_region ?_
      refine arun_do rfl rfl rfl (ex_move (eV (v := (I v5)) rfl)) ?_
      refine arun_do rfl rfl rfl (ex_move (eV (v := (SL 5 c_api_Node t0)) rfl)) ?_
      refine arun_do rfl rfl rfl (tx_lenD (xs := t0) ce_api_Node Tryd.underlying25 rfl) ?_
      refine arun_do rfl rfl rfl (ex_bin (vx := (I v5)) (vy := (I (t0.length : Int))) rfl rfl lssI_ok) ?_
      refine arun_do rfl rfl rfl (ex_move (eV (v := (Bo (decide (v5 < (t0.length : Int))))) rfl)) ?_
      refine arun_guard (v := (I v4)) ((decide (v5 < (t0.length : Int))) == true) rfl rfl rfl (fun hc => ex_move (eV (v := (I v4)) rfl)) ?_
      refine arun_guard (v := (I t2)) ((decide (v5 < (t0.length : Int))) == true) rfl rfl rfl (fun hc => ex_move (eV (v := (I t2)) rfl)) ?_
      refine arun_guard (v := (Bo (v4 != t2))) ((decide (v5 < (t0.length : Int))) == true) rfl rfl rfl (fun hc => ex_bin (vx := (I v4)) (vy := (I t2)) (cond_of hc) (cond_of hc) neqI_ok) ?_
      refine arun_do rfl rfl rfl (ex_pick rfl pkAnd) ?_
      refine arun_do rfl rfl rfl (ex_move (eV (v := (Bo ((decide (v5 < (t0.length : Int))) && (v4 != t2)))) rfl)) ?_
      refine arun_guard (v := (I v4)) (((decide (v5 < (t0.length : Int))) && (v4 != t2)) == true) rfl rfl rfl (fun hc => ex_move (eV (v := (I v4)) rfl)) ?_
      refine arun_guard (v := (Bo (v4 != 0))) (((decide (v5 < (t0.length : Int))) && (v4 != t2)) == true) rfl rfl rfl (fun hc => ex_bin (vx := (I v4)) (vy := (I 0)) (cond_of hc) rfl neqI_ok) ?_
      refine arun_do rfl rfl rfl (ex_pick rfl pkAnd) ?_
      refine arun_keepE [0, 1, 2, 7, 30] 0 0 (st' := ⟨41, 0, [(0, (SL 5 c_api_Node t0)), (1, (I v4)), (2, (I t2)), (7, (I v5)), (30, (Bo (((decide (v5 < (t0.length : Int))) && (v4 != t2)) && (v4 != 0))))], [], ⟨0, []⟩⟩) (by kernel_rfl) (by kernel_rfl) ?_
      show AWp _ _ _ _
      rcases Bool.eq_false_or_eq_true (((decide (v5 < (t0.length : Int))) && (v4 != t2)) && (v4 != 0)) with hb6 | hb6
      · rw [condT hb6] at h
        refine awp_condT (boT hb6) ?_
        refine awp_skip ?_
        show AWp _ _ _ _
        refine awp_seq ?_
        refine awp_block ?_
        refine awp_region ?_
        refine arun_do rfl rfl rfl (ex_move (eV (v := (SL 5 c_api_Node t0)) rfl)) ?_
        refine arun_do rfl rfl rfl (ex_move (eV (v := (I v4)) rfl)) ?_
        obtain ⟨x7, hx7, h⟩ := bindS h
        refine arun_do rfl rfl rfl (tx_idxD (c := c_api_Node) (xs := t0) (i := v4) ce_api_Node Tryd.underlying25 s_39 rfl rfl hx7) ?_
        refine arun_do rfl rfl rfl (ex_fieldAddrD (vs := (List.drop 1 (c_api_Node x7))) Tryd.underlying39 rfl s_3 (by decide) rfl rfl) ?_
        refine arun_do rfl rfl rfl (tx_ldD1 (v := (I x7.Up)) Tryd.underlying3 rfl rfl rfl) ?_
        refine arun_do rfl rfl rfl (ex_assign (eV (v := (I x7.Up)) rfl)) ?_
        refine arun_keepE [0, 1, 2, 7] 0 0 (st' := ⟨41, 0, [(0, (SL 5 c_api_Node t0)), (1, (I x7.Up)), (2, (I t2)), (7, (I v5))], [], ⟨0, []⟩⟩) (by kernel_rfl) (by kernel_rfl) ?_
        show AWp _ _ _ _
        refine awp_region ?_
        refine arun_do rfl rfl rfl (ex_move (eV (v := (I v5)) rfl)) ?_
        refine arun_do rfl rfl rfl (ex_bin (vx := (I v5)) (vy := (I 1)) rfl rfl addI_ok) ?_
        refine arun_do rfl rfl rfl (ex_assign (eV (v := (I (w64 (v5 + 1)))) rfl)) ?_
        refine arun_keepE [0, 1, 2, 7] 0 0 (st' := ⟨41, 0, [(0, (SL 5 c_api_Node t0)), (1, (I x7.Up)), (2, (I t2)), (7, (I (w64 (v5 + 1))))], [], ⟨0, []⟩⟩) (by kernel_rfl) (by kernel_rfl) ?_
        exact Exists.intro n1 (And.intro (Nat.lt_succ_self _) (Exists.intro x7.Up (Exists.intro (w64 (v5 + 1)) (And.intro rfl h))))
      · rw [condF hb6] at h
        refine awp_condF (boF hb6) ?_
        refine awp_exit ?_
        show AWp _ _ _ _
        refine awp_seq ?_
        refine awp_region ?_
        refine arun_do rfl rfl rfl (ex_move (eV (v := (I v4)) rfl)) ?_
        refine arun_do rfl rfl rfl (ex_move (eV (v := (I t2)) rfl)) ?_
        refine arun_do rfl rfl rfl (ex_bin (vx := (I v4)) (vy := (I t2)) rfl rfl eqlI_ok) ?_
        refine arun_do rfl rfl rfl (ex_assign (eV (v := (Bo (v4 == t2))) rfl)) ?_
        refine arun_keepE [6] 0 0 (st' := ⟨41, 0, [(6, (Bo (v4 == t2)))], [], ⟨0, []⟩⟩) (by kernel_rfl) (by kernel_rfl) ?_
        show AWp _ _ _ _
        refine awp_ret ?_
        cases h
        exact ares1 (rtmp rfl (eV rfl))

noncomputable def M_ref11_Move (t0 : (List G_api_Node)) (t1 : Str) (t2 : Str) : Option ((List G_api_Node) × Int) :=
  Option.bind (M_ref11_Find t0 t1) fun (x1 : (Int × Int)) => cond (x1.2 != 0) (some (t0, x1.2)) (cond (x1.1 == 0) (some (t0, 4)) (Option.bind (M_ref11_Place t0 t2) fun (x4 : (Int × Str × Int)) => cond (x4.2.2 != 0) (some (t0, x4.2.2)) (Option.bind (M_ref11_Kid t0 x4.1 x4.2.1) fun (x6 : (Int × Bool)) => cond (x6.2 && (x6.1 == x1.1)) (some (t0, 0)) (cond x6.2 (some (t0, 3)) (Option.bind (M_ref11_Within t0 x4.1 x1.1) fun (x9 : Bool) => cond x9 (some (t0, 7)) (Option.bind (getI t0 x1.1) fun (x11 : G_api_Node) => Option.bind (M_ref11_with t0 x1.1 (G_api_Node.mk x11.Kind x4.1 x4.2.1 x11.Body x11.Bad)) fun (x12 : (List G_api_Node)) => some (x12, 0)))))))
theorem ok_ref11_Move (t0 : (List G_api_Node)) (t1 : Str) (t2 : Str) (r : ((List G_api_Node) × Int)) (h : M_ref11_Move t0 t1 t2 = some r) : FFn Tryd.prog 47 [(SL 5 c_api_Node t0), (S t1), (S t2)] (Value.tuple #[(SL 5 c_api_Node r.1), (I r.2)]) := by
  refine FFn.of_body (n := 72) Tryd.func47 rfl Tryd.ntmps47 rfl rfl rfl rfl ?_
  show AWp _ _ _ ⟨72, 0, [(0, (SL 5 c_api_Node t0)), (1, (S t1)), (2, (S t2))], [], ⟨0, []⟩⟩
  unfold M_ref11_Move at h
  refine awp_seq ?_
  refine awp_region ?_
  refine arun_do rfl rfl rfl (ex_assign (eV (v := (Value.slice none 0 0)) rfl)) ?_
  refine arun_do rfl rfl rfl (ex_assign (eV (v := (I 0)) rfl)) ?_
  refine arun_keepE [0, 1, 2] 0 0 (st' := ⟨72, 0, [(0, (SL 5 c_api_Node t0)), (1, (S t1)), (2, (S t2))], [], ⟨0, []⟩⟩) (by kernel_rfl) (by kernel_rfl) ?_
  show AWp _ _ _ _
  refine awp_seq ?_
  refine awp_region ?_
  refine arun_do rfl rfl rfl (ex_move (eV (v := (SL 5 c_api_Node t0)) rfl)) ?_
  refine arun_do rfl rfl rfl (ex_move (eV (v := (S t1)) rfl)) ?_
  obtain ⟨x1, hx1, h⟩ := bindS h
  refine arun_do rfl rfl rfl (ex_call0 (vs := [(SL 5 c_api_Node t0), (S t1)]) (v := (Value.tuple #[(I x1.1), (I x1.2)])) rfl en_13 (cargs (evs rfl (evs rfl evs_nil))) rfl (ok_ref11_Find t0 t1 x1 hx1) rfl) ?_
  refine arun_do rfl rfl rfl (ex_move (eV (v := (Value.tuple #[(I x1.1), (I x1.2)])) rfl)) ?_
  refine arun_do rfl rfl rfl (ex_extract (vx := (Value.tuple #[(I x1.1), (I x1.2)])) (v := (I x1.1)) rfl rfl) ?_
  refine arun_do rfl rfl rfl (ex_extract (vx := (Value.tuple #[(I x1.1), (I x1.2)])) (v := (I x1.2)) rfl rfl) ?_
  refine arun_do rfl rfl rfl (ex_assign (eV (v := (I x1.1)) rfl)) ?_
  refine arun_do rfl rfl rfl (ex_assign (eV (v := (I x1.2)) rfl)) ?_
  refine arun_keepE [0, 2, 8, 9] 0 0 (st' := ⟨72, 0, [(0, (SL 5 c_api_Node t0)), (2, (S t2)), (8, (I x1.1)), (9, (I x1.2))], [], ⟨0, []⟩⟩) (by kernel_rfl) (by kernel_rfl) ?_
  show AWp _ _ _ _
  refine awp_seq ?_
  refine awp_seq ?_
  refine awp_region ?_
  refine arun_do rfl rfl rfl (ex_move (eV (v := (I x1.2)) rfl)) ?_
  refine arun_do rfl rfl rfl (ex_bin (vx := (I x1.2)) (vy := (I 0)) rfl rfl neqI_ok) ?_
  refine arun_keepE [0, 2, 8, 9, 22] 0 0 (st' := ⟨72, 0, [(0, (SL 5 c_api_Node t0)), (2, (S t2)), (8, (I x1.1)), (9, (I x1.2)), (22, (Bo (x1.2 != 0)))], [], ⟨0, []⟩⟩) (by kernel_rfl) (by kernel_rfl) ?_
  show AWp _ _ _ _
  rcases Bool.eq_false_or_eq_true (x1.2 != 0) with hb2 | hb2
  · rw [condT hb2] at h
    refine awp_condT (boT hb2) ?_
    refine awp_seq ?_
    refine awp_region ?_
    refine arun_do rfl rfl rfl (ex_move (eV (v := (SL 5 c_api_Node t0)) rfl)) ?_
    refine arun_do rfl rfl rfl (ex_move (eV (v := (I x1.2)) rfl)) ?_
    refine arun_do rfl rfl rfl (ex_assign (eV (v := (SL 5 c_api_Node t0)) rfl)) ?_
    refine arun_do rfl rfl rfl (ex_assign (eV (v := (I x1.2)) rfl)) ?_
    refine arun_keepE [6, 7] 0 0 (st' := ⟨72, 0, [(6, (SL 5 c_api_Node t0)), (7, (I x1.2))], [], ⟨0, []⟩⟩) (by kernel_rfl) (by kernel_rfl) ?_
    show AWp _ _ _ _
    refine awp_ret ?_
    cases h
    exact aresN rfl (L2.cons (rtmp rfl (eV rfl)) (L2.cons (rtmp rfl (eV rfl)) L2.nil)) rfl
  · rw [condF hb2] at h
    refine awp_condF (boF hb2) ?_
    refine awp_skip ?_
    show AWp _ _ _ _
    refine awp_seq ?_
    refine awp_seq ?_
    refine awp_region ?_
    refine arun_do rfl rfl rfl (ex_move (eV (v := (I x1.1)) rfl)) ?_
    refine arun_do rfl rfl rfl (ex_bin (vx := (I x1.1)) (vy := (I 0)) rfl rfl eqlI_ok) ?_
    refine arun_keepE [0, 2, 8, 26] 0 0 (st' := ⟨72, 0, [(0, (SL 5 c_api_Node t0)), (2, (S t2)), (8, (I x1.1)), (26, (Bo (x1.1 == 0)))], [], ⟨0, []⟩⟩) (by kernel_rfl) (by kernel_rfl) ?_
    show AWp _ _ _ _
    rcases Bool.eq_false_or_eq_true (x1.1 == 0) with hb3 | hb3
    · rw [condT hb3] at h
      refine awp_condT (boT hb3) ?_
      refine awp_seq ?_
      refine awp_region ?_
      refine arun_do rfl rfl rfl (ex_move (eV (v := (SL 5 c_api_Node t0)) rfl)) ?_
      refine arun_do rfl rfl rfl (ex_assign (eV (v := (SL 5 c_api_Node t0)) rfl)) ?_
      refine arun_do rfl rfl rfl (ex_assign (eV (v := (I 4)) rfl)) ?_
      refine arun_keepE [6, 7] 0 0 (st' := ⟨72, 0, [(6, (SL 5 c_api_Node t0)), (7, (I 4))], [], ⟨0, []⟩⟩) (by kernel_rfl) (by kernel_rfl) ?_
      show AWp _ _ _ _
      refine awp_ret ?_
      cases h
      exact aresN rfl (L2.cons (rtmp rfl (eV rfl)) (L2.cons (rtmp rfl (eV rfl)) L2.nil)) rfl
    · rw [condF hb3] at h
      refine awp_condF (boF hb3) ?_
      refine awp_skip ?_
      show AWp _ _ _ _
      refine awp_seq ?_
      refine awp_region ?_
      refine arun_do rfl rfl rfl (ex_move (eV (v := (SL 5 c_api_Node t0)) rfl)) ?_
      refine arun_do rfl rfl rfl (ex_move (eV (v := (S t2)) rfl)) ?_
      obtain ⟨x4, hx4, h⟩ := bindS h
      refine arun_do rfl rfl rfl (ex_call0 (vs := [(SL 5 c_api_Node t0), (S t2)]) (v := (Value.tuple #[(I x4.1), (S x4.2.1), (I x4.2.2)])) rfl en_58 (cargs (evs rfl (evs rfl evs_nil))) rfl (ok_ref11_Place t0 t2 x4 hx4) rfl) ?_
      refine arun_do rfl rfl rfl (ex_move (eV (v := (Value.tuple #[(I x4.1), (S x4.2.1), (I x4.2.2)])) rfl)) ?_
      refine arun_do rfl rfl rfl (ex_extract (vx := (Value.tuple #[(I x4.1), (S x4.2.1), (I x4.2.2)])) (v := (I x4.1)) rfl rfl) ?_
      refine arun_do rfl rfl rfl (ex_extract (vx := (Value.tuple #[(I x4.1), (S x4.2.1), (I x4.2.2)])) (v := (S x4.2.1)) rfl rfl) ?_
      refine arun_do rfl rfl rfl (ex_extract (vx := (Value.tuple #[(I x4.1), (S x4.2.1), (I x4.2.2)])) (v := (I x4.2.2)) rfl rfl) ?_
      refine arun_do rfl rfl rfl (ex_assign (eV (v := (I x4.1)) rfl)) ?_
      refine arun_do rfl rfl rfl (ex_assign (eV (v := (S x4.2.1)) rfl)) ?_
      refine arun_do rfl rfl rfl (ex_assign (eV (v := (I x4.2.2)) rfl)) ?_
      refine arun_keepE [0, 8, 9, 10, 11] 0 0 (st' := ⟨72, 0, [(0, (SL 5 c_api_Node t0)), (8, (I x1.1)), (9, (I x4.2.2)), (10, (I x4.1)), (11, (S x4.2.1))], [], ⟨0, []⟩⟩) (by kernel_rfl) (by kernel_rfl) ?_
      show AWp _ _ _ _
      refine awp_seq ?_
      refine awp_seq ?_
      refine awp_region ?_
      refine arun_do rfl rfl rfl (ex_move (eV (v := (I x4.2.2)) rfl)) ?_
      refine arun_do rfl rfl rfl (ex_bin (vx := (I x4.2.2)) (vy := (I 0)) rfl rfl neqI_ok) ?_
      refine arun_keepE [0, 8, 9, 10, 11, 36] 0 0 (st' := ⟨72, 0, [(0, (SL 5 c_api_Node t0)), (8, (I x1.1)), (9, (I x4.2.2)), (10, (I x4.1)), (11, (S x4.2.1)), (36, (Bo (x4.2.2 != 0)))], [], ⟨0, []⟩⟩) (by kernel_rfl) (by kernel_rfl) ?_
      show AWp _ _ _ _
      rcases Bool.eq_false_or_eq_true (x4.2.2 != 0) with hb5 | hb5
      · rw [condT hb5] at h
        refine awp_condT (boT hb5) ?_
        refine awp_seq ?_
        refine awp_region ?_
        refine arun_do rfl rfl rfl (ex_move (eV (v := (SL 5 c_api_Node t0)) rfl)) ?_
        refine arun_do rfl rfl rfl (ex_move (eV (v := (I x4.2.2)) rfl)) ?_
        refine arun_do rfl rfl rfl (ex_assign (eV (v := (SL 5 c_api_Node t0)) rfl)) ?_
        refine arun_do rfl rfl rfl (ex_assign (eV (v := (I x4.2.2)) rfl)) ?_
        refine arun_keepE [6, 7] 0 0 (st' := ⟨72, 0, [(6, (SL 5 c_api_Node t0)), (7, (I x4.2.2))], [], ⟨0, []⟩⟩) (by kernel_rfl) (by kernel_rfl) ?_
        show AWp _ _ _ _
        refine awp_ret ?_
        cases h
        exact aresN rfl (L2.cons (rtmp rfl (eV rfl)) (L2.cons (rtmp rfl (eV rfl)) L2.nil)) rfl
      · rw [condF hb5] at h
        refine awp_condF (boF hb5) ?_
        refine awp_skip ?_
        show AWp _ _ _ _
        refine awp_seq ?_
        refine awp_region ?_
        refine arun_do rfl rfl rfl (ex_move (eV (v := (SL 5 c_api_Node t0)) rfl)) ?_
        refine arun_do rfl rfl rfl (ex_move (eV (v := (I x4.1)) rfl)) ?_
        refine arun_do rfl rfl rfl (ex_move (eV (v := (S x4.2.1)) rfl)) ?_
        obtain ⟨x6, hx6, h⟩ := bindS h
        refine arun_do rfl rfl rfl (ex_call0 (vs := [(SL 5 c_api_Node t0), (I x4.1), (S x4.2.1)]) (v := (Value.tuple #[(I x6.1), (Bo x6.2)])) rfl en_43 (cargs (evs rfl (evs rfl (evs rfl evs_nil)))) rfl (ok_ref11_Kid t0 x4.1 x4.2.1 x6 hx6) rfl) ?_
        refine arun_do rfl rfl rfl (ex_move (eV (v := (Value.tuple #[(I x6.1), (Bo x6.2)])) rfl)) ?_
        refine arun_do rfl rfl rfl (ex_extract (vx := (Value.tuple #[(I x6.1), (Bo x6.2)])) (v := (I x6.1)) rfl rfl) ?_
        refine arun_do rfl rfl rfl (ex_extract (vx := (Value.tuple #[(I x6.1), (Bo x6.2)])) (v := (Bo x6.2)) rfl rfl) ?_
        refine arun_do rfl rfl rfl (ex_assign (eV (v := (I x6.1)) rfl)) ?_
        refine arun_do rfl rfl rfl (ex_assign (eV (v := (Bo x6.2)) rfl)) ?_
        refine arun_keepE [0, 8, 10, 11, 12, 13] 0 0 (st' := ⟨72, 0, [(0, (SL 5 c_api_Node t0)), (8, (I x1.1)), (10, (I x4.1)), (11, (S x4.2.1)), (12, (I x6.1)), (13, (Bo x6.2))], [], ⟨0, []⟩⟩) (by kernel_rfl) (by kernel_rfl) ?_
        show AWp _ _ _ _
        refine awp_seq ?_
        refine awp_seq ?_
        refine awp_region ?_
        refine arun_do rfl rfl rfl (ex_move (eV (v := (Bo x6.2)) rfl)) ?_
        refine arun_do rfl rfl rfl (ex_move (eV (v := (Bo x6.2)) rfl)) ?_
        refine arun_guard (v := (I x6.1)) (x6.2 == true) rfl rfl rfl (fun hc => ex_move (eV (v := (I x6.1)) rfl)) ?_
        refine arun_guard (v := (I x1.1)) (x6.2 == true) rfl rfl rfl (fun hc => ex_move (eV (v := (I x1.1)) rfl)) ?_
        refine arun_guard (v := (Bo (x6.1 == x1.1))) (x6.2 == true) rfl rfl rfl (fun hc => ex_bin (vx := (I x6.1)) (vy := (I x1.1)) (cond_of hc) (cond_of hc) eqlI_ok) ?_
        refine arun_do rfl rfl rfl (ex_pick rfl pkAnd) ?_
        refine arun_keepE [0, 8, 10, 11, 13, 51] 0 0 (st' := ⟨72, 0, [(0, (SL 5 c_api_Node t0)), (8, (I x1.1)), (10, (I x4.1)), (11, (S x4.2.1)), (13, (Bo x6.2)), (51, (Bo (x6.2 && (x6.1 == x1.1))))], [], ⟨0, []⟩⟩) (by kernel_rfl) (by kernel_rfl) ?_
        show AWp _ _ _ _
        rcases Bool.eq_false_or_eq_true (x6.2 && (x6.1 == x1.1)) with hb7 | hb7
        · rw [condT hb7] at h
          refine awp_condT (boT hb7) ?_
          refine awp_seq ?_
          refine awp_region ?_
          refine arun_do rfl rfl rfl (ex_move (eV (v := (SL 5 c_api_Node t0)) rfl)) ?_
          refine arun_do rfl rfl rfl (ex_assign (eV (v := (SL 5 c_api_Node t0)) rfl)) ?_
          refine arun_do rfl rfl rfl (ex_assign (eV (v := (I 0)) rfl)) ?_
          refine arun_keepE [6, 7] 0 0 (st' := ⟨72, 0, [(6, (SL 5 c_api_Node t0)), (7, (I 0))], [], ⟨0, []⟩⟩) (by kernel_rfl) (by kernel_rfl) ?_
          show AWp _ _ _ _
          refine awp_ret ?_
          cases h
          exact aresN rfl (L2.cons (rtmp rfl (eV rfl)) (L2.cons (rtmp rfl (eV rfl)) L2.nil)) rfl
        · rw [condF hb7] at h
          refine awp_condF (boF hb7) ?_
          refine awp_skip ?_
          show AWp _ _ _ _
          refine awp_seq ?_
          refine awp_seq ?_
          refine awp_region ?_
          refine arun_do rfl rfl rfl (ex_move (eV (v := (Bo x6.2)) rfl)) ?_
          refine arun_keepE [0, 8, 10, 11, 53] 0 0 (st' := ⟨72, 0, [(0, (SL 5 c_api_Node t0)), (8, (I x1.1)), (10, (I x4.1)), (11, (S x4.2.1)), (53, (Bo x6.2))], [], ⟨0, []⟩⟩) (by kernel_rfl) (by kernel_rfl) ?_
          show AWp _ _ _ _
          rcases Bool.eq_false_or_eq_true x6.2 with hb8 | hb8
          · rw [condT hb8] at h
            refine awp_condT (boT hb8) ?_
            refine awp_seq ?_
            refine awp_region ?_
            refine arun_do rfl rfl rfl (ex_move (eV (v := (SL 5 c_api_Node t0)) rfl)) ?_
            refine arun_do rfl rfl rfl (ex_assign (eV (v := (SL 5 c_api_Node t0)) rfl)) ?_
            refine arun_do rfl rfl rfl (ex_assign (eV (v := (I 3)) rfl)) ?_
            refine arun_keepE [6, 7] 0 0 (st' := ⟨72, 0, [(6, (SL 5 c_api_Node t0)), (7, (I 3))], [], ⟨0, []⟩⟩) (by kernel_rfl) (by kernel_rfl) ?_
            show AWp _ _ _ _
            refine awp_ret ?_
            cases h
            exact aresN rfl (L2.cons (rtmp rfl (eV rfl)) (L2.cons (rtmp rfl (eV rfl)) L2.nil)) rfl
          · rw [condF hb8] at h
            refine awp_condF (boF hb8) ?_
            refine awp_skip ?_
            show AWp _ _ _ _
            refine awp_seq ?_
            refine awp_seq ?_
            refine awp_region ?_
            refine arun_do rfl rfl rfl (ex_move (eV (v := (SL 5 c_api_Node t0)) rfl)) ?_
            refine arun_do rfl rfl rfl (ex_move (eV (v := (I x4.1)) rfl)) ?_
            refine arun_do rfl rfl rfl (ex_move (eV (v := (I x1.1)) rfl)) ?_
            obtain ⟨x9, hx9, h⟩ := bindS h
            refine arun_do rfl rfl rfl (ex_call0 (vs := [(SL 5 c_api_Node t0), (I x4.1), (I x1.1)]) (v := (Bo x9)) rfl en_61 (cargs (evs rfl (evs rfl (evs rfl evs_nil)))) rfl (ok_ref11_Within t0 x4.1 x1.1 x9 hx9) rfl) ?_
            refine arun_keepE [0, 8, 10, 11, 58] 0 0 (st' := ⟨72, 0, [(0, (SL 5 c_api_Node t0)), (8, (I x1.1)), (10, (I x4.1)), (11, (S x4.2.1)), (58, (Bo x9))], [], ⟨0, []⟩⟩) (by kernel_rfl) (by kernel_rfl) ?_
            show AWp _ _ _ _
            rcases Bool.eq_false_or_eq_true x9 with hb10 | hb10
            · rw [condT hb10] at h
              refine awp_condT (boT hb10) ?_
              refine awp_seq ?_
              refine awp_region ?_
              refine arun_do rfl rfl rfl (ex_move (eV (v := (SL 5 c_api_Node t0)) rfl)) ?_
              refine arun_do rfl rfl rfl (ex_assign (eV (v := (SL 5 c_api_Node t0)) rfl)) ?_
              refine arun_do rfl rfl rfl (ex_assign (eV (v := (I 7)) rfl)) ?_
              refine arun_keepE [6, 7] 0 0 (st' := ⟨72, 0, [(6, (SL 5 c_api_Node t0)), (7, (I 7))], [], ⟨0, []⟩⟩) (by kernel_rfl) (by kernel_rfl) ?_
              show AWp _ _ _ _
              refine awp_ret ?_
              cases h
              exact aresN rfl (L2.cons (rtmp rfl (eV rfl)) (L2.cons (rtmp rfl (eV rfl)) L2.nil)) rfl
            · rw [condF hb10] at h
              refine awp_condF (boF hb10) ?_
              refine awp_skip ?_
              show AWp _ _ _ _
              refine awp_seq ?_
              refine awp_region ?_
              refine arun_do rfl rfl rfl (ex_move (eV (v := (SL 5 c_api_Node t0)) rfl)) ?_
              refine arun_do rfl rfl rfl (ex_move (eV (v := (I x1.1)) rfl)) ?_
              obtain ⟨x11, hx11, h⟩ := bindS h
              refine arun_do rfl rfl rfl (tx_idxD (c := c_api_Node) (xs := t0) (i := x1.1) ce_api_Node Tryd.underlying25 s_39 rfl rfl hx11) ?_
              refine arun_do rfl rfl rfl (tx_ldDA (vs := (c_api_Node x11)) Tryd.underlying39 rfl s_39 (by decide) rfl (Nat.le_of_ble_eq_true rfl) rfl) ?_
              refine arun_do rfl rfl rfl (ex_alloc (k := 0) (zs := (c_api_Node (G_api_Node.mk 0 0 [] [] 0))) (L' := [(c_api_Node (G_api_Node.mk 0 0 [] [] 0))]) z_39 rfl rfl rfl rfl) ?_
              refine arun_do0 rfl rfl (ex_storeL (vy := (Value.agg (c_api_Node x11).toArray)) (cs := (c_api_Node (G_api_Node.mk 0 0 [] [] 0))) (vs := (c_api_Node x11)) (L' := [(c_api_Node x11)]) rfl (eV (v := (Value.agg (c_api_Node x11).toArray)) rfl) rfl s_39 rfl (Nat.le_of_ble_eq_true rfl) (by kernel_rfl)) ?_
              refine arun_keepE [0, 8, 10, 11, 14] 1 0 (st' := ⟨72, 0, [(0, (SL 5 c_api_Node t0)), (8, (I x1.1)), (10, (I x4.1)), (11, (S x4.2.1)), (14, (LP 0 0))], [(c_api_Node x11)], ⟨0, []⟩⟩) (by kernel_rfl) (by kernel_rfl) ?_
              show AWp _ _ _ _
              refine awp_seq ?_
              refine awp_region ?_
              refine arun_do rfl rfl rfl (ex_move (eV (v := (I x4.1)) rfl)) ?_
              refine arun_do rfl rfl rfl (ex_move (eV (v := (S x4.2.1)) rfl)) ?_
              refine arun_do rfl rfl rfl (ex_fieldAddr (v := (LP 0 1)) Tryd.underlying39 rfl s_3 (by decide) rfl rfl) ?_
              refine arun_do0 rfl rfl (ex_storeL (vy := (I x4.1)) (cs := (c_api_Node x11)) (vs := [(I x4.1)]) (L' := [(c_api_Node (G_api_Node.mk x11.Kind x4.1 x11.Name x11.Body x11.Bad))]) rfl (eV (v := (I x4.1)) rfl) rfl s_3 rfl (Nat.le_of_ble_eq_true rfl) (by kernel_rfl)) ?_
              refine arun_do rfl rfl rfl (ex_fieldAddr (v := (LP 0 2)) Tryd.underlying39 rfl s_9 (by decide) rfl rfl) ?_
              refine arun_do0 rfl rfl (ex_storeL (vy := (S x4.2.1)) (cs := (c_api_Node (G_api_Node.mk x11.Kind x4.1 x11.Name x11.Body x11.Bad))) (vs := [(S x4.2.1)]) (L' := [(c_api_Node (G_api_Node.mk x11.Kind x4.1 x4.2.1 x11.Body x11.Bad))]) rfl (eV (v := (S x4.2.1)) rfl) rfl s_9 rfl (Nat.le_of_ble_eq_true rfl) (by kernel_rfl)) ?_
              refine arun_keepE [0, 8, 14] 1 0 (st' := ⟨72, 0, [(0, (SL 5 c_api_Node t0)), (8, (I x1.1)), (14, (LP 0 0))], [(c_api_Node (G_api_Node.mk x11.Kind x4.1 x4.2.1 x11.Body x11.Bad))], ⟨0, []⟩⟩) (by kernel_rfl) (by kernel_rfl) ?_
              show AWp _ _ _ _
              refine awp_seq ?_
              refine awp_region ?_
              refine arun_do rfl rfl rfl (ex_move (eV (v := (SL 5 c_api_Node t0)) rfl)) ?_
              refine arun_do rfl rfl rfl (ex_move (eV (v := (I x1.1)) rfl)) ?_
              refine arun_do rfl rfl rfl (tx_ldLA (vs := (c_api_Node (G_api_Node.mk x11.Kind x4.1 x4.2.1 x11.Body x11.Bad))) Tryd.underlying39 rfl s_39 (by decide) rfl rfl rfl rfl) ?_
              obtain ⟨x12, hx12, h⟩ := bindS h
              refine arun_do rfl rfl rfl (ex_call0 (vs := [(SL 5 c_api_Node t0), (I x1.1), (Value.agg (c_api_Node (G_api_Node.mk x11.Kind x4.1 x4.2.1 x11.Body x11.Bad)).toArray)]) (v := (SL 5 c_api_Node x12)) rfl en_60 (cargs (evs rfl (evs rfl (evs rfl evs_nil)))) rfl (ok_ref11_with t0 x1.1 (G_api_Node.mk x11.Kind x4.1 x4.2.1 x11.Body x11.Bad) x12 hx12) rfl) ?_
              refine arun_do rfl rfl rfl (ex_assign (eV (v := (SL 5 c_api_Node x12)) rfl)) ?_
              refine arun_do rfl rfl rfl (ex_assign (eV (v := (I 0)) rfl)) ?_
              refine arun_keepE [6, 7] 0 0 (st' := ⟨72, 0, [(6, (SL 5 c_api_Node x12)), (7, (I 0))], [], ⟨0, []⟩⟩) (by kernel_rfl) (by kernel_rfl) ?_
              show AWp _ _ _ _
              refine awp_ret ?_
              cases h
              exact aresN rfl (L2.cons (rtmp rfl (eV rfl)) (L2.cons (rtmp rfl (eV rfl)) L2.nil)) rfl

end Go.Proofs
