/- Pure models of functions of the program, and that its code does what they say: palimpref11 Same, palimpref11 Find, palimpref11 file, palimpref11 long, palimpref11 Write. Written by a program. -/
import Derived.Test.YtiolemkcnkokaaaDoorR150
import Derived.Test.YtiolemkcnkokaaaDoorR151
import Derived.Test.YtiolemkcnkokaaaDoorR152
import Derived.Test.YtiolemkcnkokaaaDoorR15B
set_option maxRecDepth 20000
set_option maxHeartbeats 4000000
namespace Go.Proofs
open Go Go.Fhl
set_option linter.unusedVariables false
set_option linter.unusedSimpArgs false
noncomputable def M_ref11_Same_l1 (t0 : (List G_api_Node)) (t1 : (List G_api_Node)) : Nat → Int → Option Bool
  | 0, _ => none
  | n1 + 1, v2 =>
  cond (decide (v2 < (t0.length : Int))) (Option.bind (getI t0 v2) fun (x4 : G_api_Node) => Option.bind (getI t1 v2) fun (x5 : G_api_Node) => cond (!decide (x4 = x5)) (some false) ((M_ref11_Same_l1 t0 t1 n1) (w64 (v2 + 1)))) (some true)
noncomputable def M_ref11_Same (t0 : (List G_api_Node)) (t1 : (List G_api_Node)) : Option Bool :=
  cond ((t0.length : Int) != (t1.length : Int)) (some false) (M_ref11_Same_l1 t0 t1 fuel 0)
theorem ok_ref11_Same (t0 : (List G_api_Node)) (t1 : (List G_api_Node)) (r : Bool) (h : M_ref11_Same t0 t1 = some r) : FFn Tryd.prog 13 [(SL 5 c_api_Node t0), (SL 5 c_api_Node t1)] (Bo r) := by
  refine FFn.of_body (n := 26) Tryd.func13 rfl Tryd.ntmps13 rfl rfl rfl rfl ?_
  show AWp _ _ _ ⟨26, 0, [(0, (SL 5 c_api_Node t0)), (1, (SL 5 c_api_Node t1))], [], ⟨0, []⟩⟩
  unfold M_ref11_Same at h
  refine awp_seq ?_
  refine awp_region ?_
  refine arun_do rfl rfl rfl (ex_assign (eV (v := (Bo false)) rfl)) ?_
  refine arun_keepE [0, 1] 0 0 (st' := ⟨26, 0, [(0, (SL 5 c_api_Node t0)), (1, (SL 5 c_api_Node t1))], [], ⟨0, []⟩⟩) (by kernel_rfl) (by kernel_rfl) ?_
  show AWp _ _ _ _
  refine awp_seq ?_
  refine awp_seq ?_
  refine awp_region ?_
  refine arun_do rfl rfl rfl (ex_move (eV (v := (SL 5 c_api_Node t0)) rfl)) ?_
  refine arun_do rfl rfl rfl (tx_lenD (xs := t0) ce_api_Node Tryd.underlying24 rfl) ?_
  refine arun_do rfl rfl rfl (ex_move (eV (v := (SL 5 c_api_Node t1)) rfl)) ?_
  refine arun_do rfl rfl rfl (tx_lenD (xs := t1) ce_api_Node Tryd.underlying24 rfl) ?_
  refine arun_do rfl rfl rfl (ex_bin (vx := (I (t0.length : Int))) (vy := (I (t1.length : Int))) rfl rfl neqI_ok) ?_
  refine arun_keepE [0, 1, 10] 0 0 (st' := ⟨26, 0, [(0, (SL 5 c_api_Node t0)), (1, (SL 5 c_api_Node t1)), (10, (Bo ((t0.length : Int) != (t1.length : Int))))], [], ⟨0, []⟩⟩) (by kernel_rfl) (by kernel_rfl) ?_
  show AWp _ _ _ _
  rcases Bool.eq_false_or_eq_true ((t0.length : Int) != (t1.length : Int)) with hb1 | hb1
  · rw [condT hb1] at h
    refine awp_condT (boT hb1) ?_
    refine awp_seq ?_
    refine awp_region ?_
    refine arun_do rfl rfl rfl (ex_assign (eV (v := (Bo false)) rfl)) ?_
    refine arun_keepE [4] 0 0 (st' := ⟨26, 0, [(4, (Bo false))], [], ⟨0, []⟩⟩) (by kernel_rfl) (by kernel_rfl) ?_
    show AWp _ _ _ _
    refine awp_ret ?_
    cases h
    exact ares1 (rtmp rfl (eV rfl))
  · rw [condF hb1] at h
    refine awp_condF (boF hb1) ?_
    refine awp_skip ?_
    show AWp _ _ _ _
    refine awp_seq ?_
    refine awp_seq ?_
    refine awp_region ?_
    refine arun_do rfl rfl rfl (ex_assign (eV (v := (I 0)) rfl)) ?_
    refine arun_keepE [0, 1, 5] 0 0 (st' := ⟨26, 0, [(0, (SL 5 c_api_Node t0)), (1, (SL 5 c_api_Node t1)), (5, (I 0))], [], ⟨0, []⟩⟩) (by kernel_rfl) (by kernel_rfl) ?_
    show AWp _ _ _ _
    refine awp_block ?_
    refine awp_loop (fun n s => ∃ (v2 : Int), s = ⟨26, 0, [(0, (SL 5 c_api_Node t0)), (1, (SL 5 c_api_Node t1)), (5, (I v2))], [], ⟨0, []⟩⟩ ∧ M_ref11_Same_l1 t0 t1 n v2 = some r) fuel (Exists.intro 0 (And.intro rfl h)) ?_
    rintro n s ⟨v2, rfl, h⟩ -
    cases n with
    | zero => cases h
    | succ n1 =>
      unfold M_ref11_Same_l1 at h
      refine awp_seq ?_
      refine awp_seq ?_
      refine awp_region ?_
      refine arun_do rfl rfl rfl (ex_move (eV (v := (I v2)) rfl)) ?_
      refine arun_do rfl rfl rfl (ex_move (eV (v := (SL 5 c_api_Node t0)) rfl)) ?_
      refine arun_do rfl rfl rfl (tx_lenD (xs := t0) ce_api_Node Tryd.underlying24 rfl) ?_
      refine arun_do rfl rfl rfl (ex_bin (vx := (I v2)) (vy := (I (t0.length : Int))) rfl rfl lssI_ok) ?_
      refine arun_keepE [0, 1, 5, 14] 0 0 (st' := ⟨26, 0, [(0, (SL 5 c_api_Node t0)), (1, (SL 5 c_api_Node t1)), (5, (I v2)), (14, (Bo (decide (v2 < (t0.length : Int)))))], [], ⟨0, []⟩⟩) (by kernel_rfl) (by kernel_rfl) ?_
      show AWp _ _ _ _
      rcases Bool.eq_false_or_eq_true (decide (v2 < (t0.length : Int))) with hb3 | hb3
      · rw [condT hb3] at h
        refine awp_condT (boT hb3) ?_
        refine awp_skip ?_
        show AWp _ _ _ _
        refine awp_seq ?_
        refine awp_block ?_
        refine awp_seq ?_
        obtain ⟨x4, hx4, h⟩ := bindS h
        obtain ⟨x5, hx5, h⟩ := bindS h
        refine awp_kn [0, 1, 5, 25] 0 0 (st' := ⟨26, 0, [(0, (SL 5 c_api_Node t0)), (1, (SL 5 c_api_Node t1)), (5, (I v2)), (25, (Bo (!decide (x4 = x5))))], [], ⟨0, []⟩⟩) (awp_draw (T := [(SL 5 c_api_Node t0), (I v2), (DP (c_api_Node x4)), (Value.agg (c_api_Node x4).toArray), (SL 5 c_api_Node t1), (I v2), (DP (c_api_Node x5)), (Value.agg (c_api_Node x5).toArray), (Bo (!decide (x4 = x5)))]) (LH := [([], ⟨0, []⟩)]) (D := [⟨[(0, none)], [], [0], false⟩, ⟨[(5, none)], [], [0], false⟩, ⟨[(17, some 0), (18, some 1)], [0, 1], [0], false⟩, ⟨[(19, some 2)], [0, 1, 2], [0], false⟩, ⟨[(1, none)], [], [0], false⟩, ⟨[(5, none)], [], [0], false⟩, ⟨[(21, some 4), (22, some 5)], [4, 5], [0], false⟩, ⟨[(23, some 6)], [4, 5, 6], [0], false⟩, ⟨[(20, some 3), (24, some 7)], [0, 1, 2, 3, 4, 5, 6, 7], [0], false⟩]) (S := []) (plan := [0, 1, 2, 3, 4, 5, 6, 7, 8]) mo (by kernel_rfl) rfl rfl rfl (dcons (dstep1 (Tm := [(0, (SL 5 c_api_Node t0))]) (L := []) (H := ⟨0, []⟩) rfl rfl rfl rfl rfl (astep_do rfl (ex_move (eV (v := (SL 5 c_api_Node t0)) rfl)))) (dcons (dstep1 (Tm := [(5, (I v2))]) (L := []) (H := ⟨0, []⟩) rfl rfl rfl rfl rfl (astep_do rfl (ex_move (eV (v := (I v2)) rfl)))) (dcons (dstep1 (Tm := [(17, (SL 5 c_api_Node t0)), (18, (I v2))]) (L := []) (H := ⟨0, []⟩) rfl rfl rfl rfl rfl (astep_do rfl (tx_idxD (c := c_api_Node) (xs := t0) (i := v2) ce_api_Node Tryd.underlying24 s_39 rfl rfl hx4))) (dcons (dstep1 (Tm := [(19, (DP (c_api_Node x4)))]) (L := []) (H := ⟨0, []⟩) rfl rfl rfl rfl rfl (astep_do rfl (tx_ldDA (vs := (c_api_Node x4)) Tryd.underlying39 rfl s_39 (by decide) rfl (Nat.le_of_ble_eq_true rfl) rfl))) (dcons (dstep1 (Tm := [(1, (SL 5 c_api_Node t1))]) (L := []) (H := ⟨0, []⟩) rfl rfl rfl rfl rfl (astep_do rfl (ex_move (eV (v := (SL 5 c_api_Node t1)) rfl)))) (dcons (dstep1 (Tm := [(5, (I v2))]) (L := []) (H := ⟨0, []⟩) rfl rfl rfl rfl rfl (astep_do rfl (ex_move (eV (v := (I v2)) rfl)))) (dcons (dstep1 (Tm := [(21, (SL 5 c_api_Node t1)), (22, (I v2))]) (L := []) (H := ⟨0, []⟩) rfl rfl rfl rfl rfl (astep_do rfl (tx_idxD (c := c_api_Node) (xs := t1) (i := v2) ce_api_Node Tryd.underlying24 s_39 rfl rfl hx5))) (dcons (dstep1 (Tm := [(23, (DP (c_api_Node x5)))]) (L := []) (H := ⟨0, []⟩) rfl rfl rfl rfl rfl (astep_do rfl (tx_ldDA (vs := (c_api_Node x5)) Tryd.underlying39 rfl s_39 (by decide) rfl (Nat.le_of_ble_eq_true rfl) rfl))) (dcons (dstep1 (Tm := [(20, (Value.agg (c_api_Node x4).toArray)), (24, (Value.agg (c_api_Node x5).toArray))]) (L := []) (H := ⟨0, []⟩) rfl rfl rfl rfl rfl (astep_do rfl (ex_bin (vx := (Value.agg (c_api_Node x4).toArray)) (vy := (Value.agg (c_api_Node x5).toArray)) rfl rfl neq_39))) dnil))))))))) ⟨rfl, rfl⟩) (by kernel_rfl) (by kernel_rfl) ?_
        show AWp _ _ _ _
        rcases Bool.eq_false_or_eq_true (!decide (x4 = x5)) with hb6 | hb6
        · rw [condT hb6] at h
          refine awp_condT (boT hb6) ?_
          refine awp_seq ?_
          refine awp_region ?_
          refine arun_do rfl rfl rfl (ex_assign (eV (v := (Bo false)) rfl)) ?_
          refine arun_keepE [4] 0 0 (st' := ⟨26, 0, [(4, (Bo false))], [], ⟨0, []⟩⟩) (by kernel_rfl) (by kernel_rfl) ?_
          show AWp _ _ _ _
          refine awp_ret ?_
          cases h
          exact ares1 (rtmp rfl (eV rfl))
        · rw [condF hb6] at h
          refine awp_condF (boF hb6) ?_
          refine awp_skip ?_
          show AWp _ _ _ _
          refine awp_region ?_
          refine arun_do rfl rfl rfl (ex_move (eV (v := (I v2)) rfl)) ?_
          refine arun_do rfl rfl rfl (ex_bin (vx := (I v2)) (vy := (I 1)) rfl rfl addI_ok) ?_
          refine arun_do rfl rfl rfl (ex_assign (eV (v := (I (w64 (v2 + 1)))) rfl)) ?_
          refine arun_keepE [0, 1, 5] 0 0 (st' := ⟨26, 0, [(0, (SL 5 c_api_Node t0)), (1, (SL 5 c_api_Node t1)), (5, (I (w64 (v2 + 1))))], [], ⟨0, []⟩⟩) (by kernel_rfl) (by kernel_rfl) ?_
          exact Exists.intro n1 (And.intro (Nat.lt_succ_self _) (Exists.intro (w64 (v2 + 1)) (And.intro rfl h)))
      · rw [condF hb3] at h
        refine awp_condF (boF hb3) ?_
        refine awp_exit ?_
        show AWp _ _ _ _
        refine awp_seq ?_
        refine awp_region ?_
        refine arun_do rfl rfl rfl (ex_assign (eV (v := (Bo true)) rfl)) ?_
        refine arun_keepE [4] 0 0 (st' := ⟨26, 0, [(4, (Bo true))], [], ⟨0, []⟩⟩) (by kernel_rfl) (by kernel_rfl) ?_
        show AWp _ _ _ _
        refine awp_ret ?_
        cases h
        exact ares1 (rtmp rfl (eV rfl))

noncomputable def M_ref11_Find (t0 : (List G_api_Node)) (t1 : Str) : Option (Int × Int) :=
  Option.bind (M_ref11_Parts t1) fun (x1 : ((List Str) × Bool)) => cond (!x1.2) (some (0, 1)) (Option.bind (M_ref11_down t0 x1.1) fun (x3 : (Int × Int)) => some (x3.1, x3.2))
theorem ok_ref11_Find (t0 : (List G_api_Node)) (t1 : Str) (r : (Int × Int)) (h : M_ref11_Find t0 t1 = some r) : FFn Tryd.prog 40 [(SL 5 c_api_Node t0), (S t1)] (Value.tuple #[(I r.1), (I r.2)]) := by
  refine FFn.of_body (n := 20) Tryd.func40 rfl Tryd.ntmps40 rfl rfl rfl rfl ?_
  show AWp _ _ _ ⟨20, 0, [(0, (SL 5 c_api_Node t0)), (1, (S t1))], [], ⟨0, []⟩⟩
  unfold M_ref11_Find at h
  refine awp_seq ?_
  refine awp_region ?_
  refine arun_do rfl rfl rfl (ex_assign (eV (v := (I 0)) rfl)) ?_
  refine arun_do rfl rfl rfl (ex_assign (eV (v := (I 0)) rfl)) ?_
  refine arun_keepE [0, 1] 0 0 (st' := ⟨20, 0, [(0, (SL 5 c_api_Node t0)), (1, (S t1))], [], ⟨0, []⟩⟩) (by kernel_rfl) (by kernel_rfl) ?_
  show AWp _ _ _ _
  refine awp_seq ?_
  refine awp_region ?_
  refine arun_do rfl rfl rfl (ex_move (eV (v := (S t1)) rfl)) ?_
  obtain ⟨x1, hx1, h⟩ := bindS h
  refine arun_do rfl rfl rfl (ex_call0 (vs := [(S t1)]) (v := (Value.tuple #[(SL 1 cS x1.1), (Bo x1.2)])) rfl en_35 (cargs (evs rfl evs_nil)) rfl (ok_ref11_Parts t1 x1 hx1) rfl) ?_
  refine arun_do rfl rfl rfl (ex_move (eV (v := (Value.tuple #[(SL 1 cS x1.1), (Bo x1.2)])) rfl)) ?_
  refine arun_do rfl rfl rfl (ex_extract (vx := (Value.tuple #[(SL 1 cS x1.1), (Bo x1.2)])) (v := (SL 1 cS x1.1)) rfl rfl) ?_
  refine arun_do rfl rfl rfl (ex_extract (vx := (Value.tuple #[(SL 1 cS x1.1), (Bo x1.2)])) (v := (Bo x1.2)) rfl rfl) ?_
  refine arun_do rfl rfl rfl (ex_assign (eV (v := (SL 1 cS x1.1)) rfl)) ?_
  refine arun_do rfl rfl rfl (ex_assign (eV (v := (Bo x1.2)) rfl)) ?_
  refine arun_keepE [0, 6, 7] 0 0 (st' := ⟨20, 0, [(0, (SL 5 c_api_Node t0)), (6, (SL 1 cS x1.1)), (7, (Bo x1.2))], [], ⟨0, []⟩⟩) (by kernel_rfl) (by kernel_rfl) ?_
  show AWp _ _ _ _
  refine awp_seq ?_
  refine awp_seq ?_
  refine awp_region ?_
  refine arun_do rfl rfl rfl (ex_move (eV (v := (Bo x1.2)) rfl)) ?_
  refine arun_do rfl rfl rfl (ex_un (vx := (Bo x1.2)) rfl notB_ok) ?_
  refine arun_keepE [0, 6, 14] 0 0 (st' := ⟨20, 0, [(0, (SL 5 c_api_Node t0)), (6, (SL 1 cS x1.1)), (14, (Bo (!x1.2)))], [], ⟨0, []⟩⟩) (by kernel_rfl) (by kernel_rfl) ?_
  show AWp _ _ _ _
  rcases Bool.eq_false_or_eq_true (!x1.2) with hb2 | hb2
  · rw [condT hb2] at h
    refine awp_condT (boT hb2) ?_
    refine awp_seq ?_
    refine awp_region ?_
    refine arun_do rfl rfl rfl (ex_assign (eV (v := (I 0)) rfl)) ?_
    refine arun_do rfl rfl rfl (ex_assign (eV (v := (I 1)) rfl)) ?_
    refine arun_keepE [4, 5] 0 0 (st' := ⟨20, 0, [(4, (I 0)), (5, (I 1))], [], ⟨0, []⟩⟩) (by kernel_rfl) (by kernel_rfl) ?_
    show AWp _ _ _ _
    refine awp_ret ?_
    cases h
    exact aresN rfl (L2.cons (rtmp rfl (eV rfl)) (L2.cons (rtmp rfl (eV rfl)) L2.nil)) rfl
  · rw [condF hb2] at h
    refine awp_condF (boF hb2) ?_
    refine awp_skip ?_
    show AWp _ _ _ _
    refine awp_seq ?_
    refine awp_region ?_
    refine arun_do rfl rfl rfl (ex_move (eV (v := (SL 5 c_api_Node t0)) rfl)) ?_
    refine arun_do rfl rfl rfl (ex_move (eV (v := (SL 1 cS x1.1)) rfl)) ?_
    obtain ⟨x3, hx3, h⟩ := bindS h
    refine arun_do rfl rfl rfl (ex_call0 (vs := [(SL 5 c_api_Node t0), (SL 1 cS x1.1)]) (v := (Value.tuple #[(I x3.1), (I x3.2)])) rfl en_36 (cargs (evs rfl (evs rfl evs_nil))) rfl (ok_ref11_down t0 x1.1 x3 hx3) rfl) ?_
    refine arun_do rfl rfl rfl (ex_extract (vx := (Value.tuple #[(I x3.1), (I x3.2)])) (v := (I x3.1)) rfl rfl) ?_
    refine arun_do rfl rfl rfl (ex_extract (vx := (Value.tuple #[(I x3.1), (I x3.2)])) (v := (I x3.2)) rfl rfl) ?_
    refine arun_do rfl rfl rfl (ex_assign (eV (v := (I x3.1)) rfl)) ?_
    refine arun_do rfl rfl rfl (ex_assign (eV (v := (I x3.2)) rfl)) ?_
    refine arun_keepE [4, 5] 0 0 (st' := ⟨20, 0, [(4, (I x3.1)), (5, (I x3.2))], [], ⟨0, []⟩⟩) (by kernel_rfl) (by kernel_rfl) ?_
    show AWp _ _ _ _
    refine awp_ret ?_
    cases h
    exact aresN rfl (L2.cons (rtmp rfl (eV rfl)) (L2.cons (rtmp rfl (eV rfl)) L2.nil)) rfl

noncomputable def M_ref11_file (t0 : (List G_api_Node)) (t1 : Str) : Option (Int × Int) :=
  Option.bind (M_ref11_Find t0 t1) fun (x1 : (Int × Int)) => Option.bind (gd ((x1.2 == 0) == true) (getI t0 x1.1)) fun (x2 : G_api_Node) => cond ((x1.2 == 0) && (x2.Kind == 2)) (some (0, 4)) (some (x1.1, x1.2))
theorem ok_ref11_file (t0 : (List G_api_Node)) (t1 : Str) (r : (Int × Int)) (h : M_ref11_file t0 t1 = some r) : FFn Tryd.prog 30 [(SL 5 c_api_Node t0), (S t1)] (Value.tuple #[(I r.1), (I r.2)]) := by
  refine FFn.of_body (n := 26) Tryd.func30 rfl Tryd.ntmps30 rfl rfl rfl rfl ?_
  show AWp _ _ _ ⟨26, 0, [(0, (SL 5 c_api_Node t0)), (1, (S t1))], [], ⟨0, []⟩⟩
  unfold M_ref11_file at h
  refine awp_seq ?_
  refine awp_region ?_
  refine arun_do rfl rfl rfl (ex_assign (eV (v := (I 0)) rfl)) ?_
  refine arun_do rfl rfl rfl (ex_assign (eV (v := (I 0)) rfl)) ?_
  refine arun_keepE [0, 1] 0 0 (st' := ⟨26, 0, [(0, (SL 5 c_api_Node t0)), (1, (S t1))], [], ⟨0, []⟩⟩) (by kernel_rfl) (by kernel_rfl) ?_
  show AWp _ _ _ _
  refine awp_seq ?_
  refine awp_region ?_
  refine arun_do rfl rfl rfl (ex_move (eV (v := (SL 5 c_api_Node t0)) rfl)) ?_
  refine arun_do rfl rfl rfl (ex_move (eV (v := (S t1)) rfl)) ?_
  obtain ⟨x1, hx1, h⟩ := bindS h
  refine arun_do rfl rfl rfl (ex_call0 (vs := [(SL 5 c_api_Node t0), (S t1)]) (v := (Value.tuple #[(I x1.1), (I x1.2)])) rfl en_40 (cargs (evs rfl (evs rfl evs_nil))) rfl (ok_ref11_Find t0 t1 x1 hx1) rfl) ?_
  refine arun_do rfl rfl rfl (ex_move (eV (v := (Value.tuple #[(I x1.1), (I x1.2)])) rfl)) ?_
  refine arun_do rfl rfl rfl (ex_extract (vx := (Value.tuple #[(I x1.1), (I x1.2)])) (v := (I x1.1)) rfl rfl) ?_
  refine arun_do rfl rfl rfl (ex_extract (vx := (Value.tuple #[(I x1.1), (I x1.2)])) (v := (I x1.2)) rfl rfl) ?_
  refine arun_do rfl rfl rfl (ex_assign (eV (v := (I x1.1)) rfl)) ?_
  refine arun_do rfl rfl rfl (ex_assign (eV (v := (I x1.2)) rfl)) ?_
  refine arun_keepE [0, 6, 7] 0 0 (st' := ⟨26, 0, [(0, (SL 5 c_api_Node t0)), (6, (I x1.1)), (7, (I x1.2))], [], ⟨0, []⟩⟩) (by kernel_rfl) (by kernel_rfl) ?_
  show AWp _ _ _ _
  refine awp_seq ?_
  refine awp_seq ?_
  refine awp_region ?_
  refine arun_do rfl rfl rfl (ex_move (eV (v := (I x1.2)) rfl)) ?_
  refine arun_do rfl rfl rfl (ex_bin (vx := (I x1.2)) (vy := (I 0)) rfl rfl eqlI_ok) ?_
  refine arun_do rfl rfl rfl (ex_move (eV (v := (Bo (x1.2 == 0))) rfl)) ?_
  refine arun_guard (v := (SL 5 c_api_Node t0)) ((x1.2 == 0) == true) rfl rfl rfl (fun hc => ex_move (eV (v := (SL 5 c_api_Node t0)) rfl)) ?_
  refine arun_guard (v := (I x1.1)) ((x1.2 == 0) == true) rfl rfl rfl (fun hc => ex_move (eV (v := (I x1.1)) rfl)) ?_
  obtain ⟨x2, hx2, h⟩ := bindS h
  refine arun_guard (v := (DP (c_api_Node x2))) ((x1.2 == 0) == true) rfl rfl rfl (fun hc => tx_idxD (c := c_api_Node) (xs := t0) (i := x1.1) ce_api_Node Tryd.underlying24 s_39 (cond_of hc) (cond_of hc) (gd_of hc hx2)) ?_
  refine arun_guard (v := (DP (List.drop 0 (c_api_Node x2)))) ((x1.2 == 0) == true) rfl rfl rfl (fun hc => ex_fieldAddrD (vs := (List.drop 0 (c_api_Node x2))) Tryd.underlying39 rfl s_3 (by decide) (cond_of hc) rfl) ?_
  refine arun_guard (v := (I x2.Kind)) ((x1.2 == 0) == true) rfl rfl rfl (fun hc => tx_ldD1 (v := (I x2.Kind)) Tryd.underlying3 rfl (cond_of hc) rfl) ?_
  refine arun_guard (v := (Bo (x2.Kind == 2))) ((x1.2 == 0) == true) rfl rfl rfl (fun hc => ex_bin (vx := (I x2.Kind)) (vy := (I 2)) (cond_of hc) rfl eqlI_ok) ?_
  refine arun_do rfl rfl rfl (ex_pick rfl pkAnd) ?_
  refine arun_keepE [6, 7, 23] 0 0 (st' := ⟨26, 0, [(6, (I x1.1)), (7, (I x1.2)), (23, (Bo ((x1.2 == 0) && (x2.Kind == 2))))], [], ⟨0, []⟩⟩) (by kernel_rfl) (by kernel_rfl) ?_
  show AWp _ _ _ _
  rcases Bool.eq_false_or_eq_true ((x1.2 == 0) && (x2.Kind == 2)) with hb3 | hb3
  · rw [condT hb3] at h
    refine awp_condT (boT hb3) ?_
    refine awp_seq ?_
    refine awp_region ?_
    refine arun_do rfl rfl rfl (ex_assign (eV (v := (I 0)) rfl)) ?_
    refine arun_do rfl rfl rfl (ex_assign (eV (v := (I 4)) rfl)) ?_
    refine arun_keepE [4, 5] 0 0 (st' := ⟨26, 0, [(4, (I 0)), (5, (I 4))], [], ⟨0, []⟩⟩) (by kernel_rfl) (by kernel_rfl) ?_
    show AWp _ _ _ _
    refine awp_ret ?_
    cases h
    exact aresN rfl (L2.cons (rtmp rfl (eV rfl)) (L2.cons (rtmp rfl (eV rfl)) L2.nil)) rfl
  · rw [condF hb3] at h
    refine awp_condF (boF hb3) ?_
    refine awp_skip ?_
    show AWp _ _ _ _
    refine awp_seq ?_
    refine awp_region ?_
    refine arun_do rfl rfl rfl (ex_move (eV (v := (I x1.1)) rfl)) ?_
    refine arun_do rfl rfl rfl (ex_move (eV (v := (I x1.2)) rfl)) ?_
    refine arun_do rfl rfl rfl (ex_assign (eV (v := (I x1.1)) rfl)) ?_
    refine arun_do rfl rfl rfl (ex_assign (eV (v := (I x1.2)) rfl)) ?_
    refine arun_keepE [4, 5] 0 0 (st' := ⟨26, 0, [(4, (I x1.1)), (5, (I x1.2))], [], ⟨0, []⟩⟩) (by kernel_rfl) (by kernel_rfl) ?_
    show AWp _ _ _ _
    refine awp_ret ?_
    cases h
    exact aresN rfl (L2.cons (rtmp rfl (eV rfl)) (L2.cons (rtmp rfl (eV rfl)) L2.nil)) rfl

noncomputable def M_ref11_long (t0 : Str) (t1 : Int) : Option Str :=
  Option.bind (makeL 1 t1 0) fun (x1 : List UInt8) => some (copyL x1 0 t0)
theorem ok_ref11_long (t0 : Str) (t1 : Int) (r : Str) (h : M_ref11_long t0 t1 = some r) : FFn Tryd.prog 31 [(S t0), (I t1)] (S r) := by
  refine FFn.of_body (n := 13) Tryd.func31 rfl Tryd.ntmps31 rfl rfl rfl rfl ?_
  show AWp _ _ _ ⟨13, 0, [(0, (S t0)), (1, (I t1))], [], ⟨0, []⟩⟩
  unfold M_ref11_long at h
  refine awp_seq ?_
  refine awp_region ?_
  refine arun_do rfl rfl rfl (ex_assign (eV (v := (S [])) rfl)) ?_
  refine arun_keepE [0, 1] 0 0 (st' := ⟨13, 0, [(0, (S t0)), (1, (I t1))], [], ⟨0, []⟩⟩) (by kernel_rfl) (by kernel_rfl) ?_
  show AWp _ _ _ _
  refine awp_seq ?_
  refine awp_region ?_
  refine arun_do rfl rfl rfl (ex_move (eV (v := (I t1)) rfl)) ?_
  obtain ⟨x1, hx1, h⟩ := bindS h
  refine arun_do rfl rfl rfl (tx_make (c := c8) (e := 0) (k := 0) (H' := ⟨1, [(0, ⟨1, ((x1).flatMap c8), false⟩)]⟩) ce8 Tryd.underlying31 s_5 b_5 z_5 rfl rfl (by decide) rfl rfl hx1 rfl rfl) ?_
  refine arun_do rfl rfl rfl (ex_assign (eV (v := (FV 0 x1.length)) rfl)) ?_
  refine arun_keepE [0, 5] 0 1 (st' := ⟨13, 0, [(0, (S t0)), (5, (FV 0 x1.length))], [], ⟨1, [(0, ⟨1, ((x1).flatMap c8), false⟩)]⟩⟩) (by kernel_rfl) (by kernel_rfl) ?_
  show AWp _ _ _ _
  refine awp_seq ?_
  refine awp_region ?_
  refine arun_do rfl rfl rfl (ex_move (eV (v := (FV 0 x1.length)) rfl)) ?_
  refine arun_do rfl rfl rfl (ex_move (eV (v := (S t0)) rfl)) ?_
  refine arun_do rfl rfl rfl (tx_copyF (xs := x1) (H' := ⟨1, [(0, ⟨1, (((copyL x1 0 t0)).flatMap c8), false⟩)]⟩) Tryd.underlying31 s_5 rfl rfl rfl rfl rfl) ?_
  refine arun_keepE [5] 0 1 (st' := ⟨13, 0, [(5, (FV 0 x1.length))], [], ⟨1, [(0, ⟨1, (((copyL x1 0 t0)).flatMap c8), false⟩)]⟩⟩) (by kernel_rfl) (by kernel_rfl) ?_
  show AWp _ _ _ _
  refine awp_seq ?_
  refine awp_region ?_
  refine arun_do rfl rfl rfl (ex_move (eV (v := (FV 0 x1.length)) rfl)) ?_
  refine arun_do rfl rfl rfl (tx_bsF (bs := (copyL x1 0 t0)) Tryd.underlying31 Tryd.underlying9 Tryd.underlying5 rfl rfl (copyL_length x1 0 t0 (Nat.zero_le _)).symm) ?_
  refine arun_do rfl rfl rfl (ex_assign (eV (v := (S (copyL x1 0 t0))) rfl)) ?_
  refine arun_keepE [4] 0 0 (st' := ⟨13, 0, [(4, (S (copyL x1 0 t0)))], [], ⟨0, []⟩⟩) (by kernel_rfl) (by kernel_rfl) ?_
  show AWp _ _ _ _
  refine awp_ret ?_
  cases h
  exact ares1 (rtmp rfl (eV rfl))

noncomputable def M_ref11_Write (t0 : (List G_api_Node)) (t1 : Str) (t2 : Int) (t3 : Str) : Option ((List G_api_Node) × Int) :=
  Option.bind (M_ref11_file t0 t1) fun (x1 : (Int × Int)) => cond (x1.2 != 0) (some (t0, x1.2)) (cond (decide (t2 < 0)) (some (t0, 1)) (cond ((decide (t2 > 128)) || (decide ((t3.length : Int) > (w64 (128 - t2))))) (some (t0, 8)) (cond (t3 == []) (some (t0, 0)) (Option.bind (getI t0 x1.1) fun (x6 : G_api_Node) => Option.bind (M_ref11_long x6.Body (max (x6.Body.length : Int) (w64 (t2 + (t3.length : Int))))) fun (x7 : Str) => Option.bind (inS x7.length t2) fun (x8 : Unit) => Option.bind (M_ref11_with t0 x1.1 (G_api_Node.mk x6.Kind x6.Up x6.Name (copyL x7 ((t2 : Int).toNat) t3) x6.Bad)) fun (x9 : (List G_api_Node)) => some (x9, 0)))))
theorem ok_ref11_Write (t0 : (List G_api_Node)) (t1 : Str) (t2 : Int) (t3 : Str) (r : ((List G_api_Node) × Int)) (h : M_ref11_Write t0 t1 t2 t3 = some r) : FFn Tryd.prog 18 [(SL 5 c_api_Node t0), (S t1), (I t2), (S t3)] (Value.tuple #[(SL 5 c_api_Node r.1), (I r.2)]) := by
  refine FFn.of_body (n := 68) Tryd.func18 rfl Tryd.ntmps18 rfl rfl rfl rfl ?_
  show AWp _ _ _ ⟨68, 0, [(0, (SL 5 c_api_Node t0)), (1, (S t1)), (2, (I t2)), (3, (S t3))], [], ⟨0, []⟩⟩
  unfold M_ref11_Write at h
  refine awp_seq ?_
  refine awp_region ?_
  refine arun_do rfl rfl rfl (ex_assign (eV (v := (Value.slice none 0 0)) rfl)) ?_
  refine arun_do rfl rfl rfl (ex_assign (eV (v := (I 0)) rfl)) ?_
  refine arun_keepE [0, 1, 2, 3] 0 0 (st' := ⟨68, 0, [(0, (SL 5 c_api_Node t0)), (1, (S t1)), (2, (I t2)), (3, (S t3))], [], ⟨0, []⟩⟩) (by kernel_rfl) (by kernel_rfl) ?_
  show AWp _ _ _ _
  refine awp_seq ?_
  refine awp_region ?_
  refine arun_do rfl rfl rfl (ex_move (eV (v := (SL 5 c_api_Node t0)) rfl)) ?_
  refine arun_do rfl rfl rfl (ex_move (eV (v := (S t1)) rfl)) ?_
  obtain ⟨x1, hx1, h⟩ := bindS h
  refine arun_do rfl rfl rfl (ex_call0 (vs := [(SL 5 c_api_Node t0), (S t1)]) (v := (Value.tuple #[(I x1.1), (I x1.2)])) rfl en_30 (cargs (evs rfl (evs rfl evs_nil))) rfl (ok_ref11_file t0 t1 x1 hx1) rfl) ?_
  refine arun_do rfl rfl rfl (ex_move (eV (v := (Value.tuple #[(I x1.1), (I x1.2)])) rfl)) ?_
  refine arun_do rfl rfl rfl (ex_extract (vx := (Value.tuple #[(I x1.1), (I x1.2)])) (v := (I x1.1)) rfl rfl) ?_
  refine arun_do rfl rfl rfl (ex_extract (vx := (Value.tuple #[(I x1.1), (I x1.2)])) (v := (I x1.2)) rfl rfl) ?_
  refine arun_do rfl rfl rfl (ex_assign (eV (v := (I x1.1)) rfl)) ?_
  refine arun_do rfl rfl rfl (ex_assign (eV (v := (I x1.2)) rfl)) ?_
  refine arun_keepE [0, 2, 3, 10, 11] 0 0 (st' := ⟨68, 0, [(0, (SL 5 c_api_Node t0)), (2, (I t2)), (3, (S t3)), (10, (I x1.1)), (11, (I x1.2))], [], ⟨0, []⟩⟩) (by kernel_rfl) (by kernel_rfl) ?_
  show AWp _ _ _ _
  refine awp_seq ?_
  refine awp_seq ?_
  refine awp_region ?_
  refine arun_do rfl rfl rfl (ex_move (eV (v := (I x1.2)) rfl)) ?_
  refine arun_do rfl rfl rfl (ex_bin (vx := (I x1.2)) (vy := (I 0)) rfl rfl neqI_ok) ?_
  refine arun_keepE [0, 2, 3, 10, 11, 21] 0 0 (st' := ⟨68, 0, [(0, (SL 5 c_api_Node t0)), (2, (I t2)), (3, (S t3)), (10, (I x1.1)), (11, (I x1.2)), (21, (Bo (x1.2 != 0)))], [], ⟨0, []⟩⟩) (by kernel_rfl) (by kernel_rfl) ?_
  show AWp _ _ _ _
  rcases Bool.eq_false_or_eq_true (x1.2 != 0) with hb2 | hb2
  · rw [condT hb2] at h
    refine awp_condT (boT hb2) ?_
    refine awp_seq ?_
    refine awp_region ?_
    refine arun_do rfl rfl rfl (ex_move (eV (v := (SL 5 c_api_Node t0)) rfl)) ?_
    refine arun_do rfl rfl rfl (ex_move (eV (v := (I x1.2)) rfl)) ?_
    refine arun_do rfl rfl rfl (ex_assign (eV (v := (SL 5 c_api_Node t0)) rfl)) ?_
    refine arun_do rfl rfl rfl (ex_assign (eV (v := (I x1.2)) rfl)) ?_
    refine arun_keepE [8, 9] 0 0 (st' := ⟨68, 0, [(8, (SL 5 c_api_Node t0)), (9, (I x1.2))], [], ⟨0, []⟩⟩) (by kernel_rfl) (by kernel_rfl) ?_
    show AWp _ _ _ _
    refine awp_ret ?_
    cases h
    exact aresN rfl (L2.cons (rtmp rfl (eV rfl)) (L2.cons (rtmp rfl (eV rfl)) L2.nil)) rfl
  · rw [condF hb2] at h
    refine awp_condF (boF hb2) ?_
    refine awp_skip ?_
    show AWp _ _ _ _
    refine awp_seq ?_
    refine awp_seq ?_
    refine awp_region ?_
    refine arun_do rfl rfl rfl (ex_move (eV (v := (I t2)) rfl)) ?_
    refine arun_do rfl rfl rfl (ex_bin (vx := (I t2)) (vy := (I 0)) rfl rfl lssI_ok) ?_
    refine arun_keepE [0, 2, 3, 10, 25] 0 0 (st' := ⟨68, 0, [(0, (SL 5 c_api_Node t0)), (2, (I t2)), (3, (S t3)), (10, (I x1.1)), (25, (Bo (decide (t2 < 0))))], [], ⟨0, []⟩⟩) (by kernel_rfl) (by kernel_rfl) ?_
    show AWp _ _ _ _
    rcases Bool.eq_false_or_eq_true (decide (t2 < 0)) with hb3 | hb3
    · rw [condT hb3] at h
      refine awp_condT (boT hb3) ?_
      refine awp_seq ?_
      refine awp_region ?_
      refine arun_do rfl rfl rfl (ex_move (eV (v := (SL 5 c_api_Node t0)) rfl)) ?_
      refine arun_do rfl rfl rfl (ex_assign (eV (v := (SL 5 c_api_Node t0)) rfl)) ?_
      refine arun_do rfl rfl rfl (ex_assign (eV (v := (I 1)) rfl)) ?_
      refine arun_keepE [8, 9] 0 0 (st' := ⟨68, 0, [(8, (SL 5 c_api_Node t0)), (9, (I 1))], [], ⟨0, []⟩⟩) (by kernel_rfl) (by kernel_rfl) ?_
      show AWp _ _ _ _
      refine awp_ret ?_
      cases h
      exact aresN rfl (L2.cons (rtmp rfl (eV rfl)) (L2.cons (rtmp rfl (eV rfl)) L2.nil)) rfl
    · rw [condF hb3] at h
      refine awp_condF (boF hb3) ?_
      refine awp_skip ?_
      show AWp _ _ _ _
      refine awp_seq ?_
      refine awp_seq ?_
      refine awp_region ?_
      refine arun_do rfl rfl rfl (ex_move (eV (v := (I t2)) rfl)) ?_
      refine arun_do rfl rfl rfl (ex_bin (vx := (I t2)) (vy := (I 128)) rfl rfl gtrI_ok) ?_
      refine arun_do rfl rfl rfl (ex_move (eV (v := (Bo (decide (t2 > 128)))) rfl)) ?_
      refine arun_guard (v := (S t3)) ((decide (t2 > 128)) == false) rfl rfl rfl (fun hc => ex_move (eV (v := (S t3)) rfl)) ?_
      refine arun_guard (v := (I (t3.length : Int))) ((decide (t2 > 128)) == false) rfl rfl rfl (fun hc => tx_lenS Tryd.underlying9 (cond_of hc)) ?_
      refine arun_guard (v := (I t2)) ((decide (t2 > 128)) == false) rfl rfl rfl (fun hc => ex_move (eV (v := (I t2)) rfl)) ?_
      refine arun_guard (v := (I (w64 (128 - t2)))) ((decide (t2 > 128)) == false) rfl rfl rfl (fun hc => ex_bin (vx := (I 128)) (vy := (I t2)) rfl (cond_of hc) subI_ok) ?_
      refine arun_guard (v := (Bo (decide ((t3.length : Int) > (w64 (128 - t2)))))) ((decide (t2 > 128)) == false) rfl rfl rfl (fun hc => ex_bin (vx := (I (t3.length : Int))) (vy := (I (w64 (128 - t2)))) (cond_of hc) (cond_of hc) gtrI_ok) ?_
      refine arun_do rfl rfl rfl (ex_pick rfl pkOr) ?_
      refine arun_keepE [0, 2, 3, 10, 35] 0 0 (st' := ⟨68, 0, [(0, (SL 5 c_api_Node t0)), (2, (I t2)), (3, (S t3)), (10, (I x1.1)), (35, (Bo ((decide (t2 > 128)) || (decide ((t3.length : Int) > (w64 (128 - t2)))))))], [], ⟨0, []⟩⟩) (by kernel_rfl) (by kernel_rfl) ?_
      show AWp _ _ _ _
      rcases Bool.eq_false_or_eq_true ((decide (t2 > 128)) || (decide ((t3.length : Int) > (w64 (128 - t2))))) with hb4 | hb4
      · rw [condT hb4] at h
        refine awp_condT (boT hb4) ?_
        refine awp_seq ?_
        refine awp_region ?_
        refine arun_do rfl rfl rfl (ex_move (eV (v := (SL 5 c_api_Node t0)) rfl)) ?_
        refine arun_do rfl rfl rfl (ex_assign (eV (v := (SL 5 c_api_Node t0)) rfl)) ?_
        refine arun_do rfl rfl rfl (ex_assign (eV (v := (I 8)) rfl)) ?_
        refine arun_keepE [8, 9] 0 0 (st' := ⟨68, 0, [(8, (SL 5 c_api_Node t0)), (9, (I 8))], [], ⟨0, []⟩⟩) (by kernel_rfl) (by kernel_rfl) ?_
        show AWp _ _ _ _
        refine awp_ret ?_
        cases h
        exact aresN rfl (L2.cons (rtmp rfl (eV rfl)) (L2.cons (rtmp rfl (eV rfl)) L2.nil)) rfl
      · rw [condF hb4] at h
        refine awp_condF (boF hb4) ?_
        refine awp_skip ?_
        show AWp _ _ _ _
        refine awp_seq ?_
        refine awp_seq ?_
        refine awp_region ?_
        refine arun_do rfl rfl rfl (ex_move (eV (v := (S t3)) rfl)) ?_
        refine arun_do rfl rfl rfl (ex_bin (vx := (S t3)) (vy := (S [])) rfl rfl eqlS_ok) ?_
        refine arun_keepE [0, 2, 3, 10, 38] 0 0 (st' := ⟨68, 0, [(0, (SL 5 c_api_Node t0)), (2, (I t2)), (3, (S t3)), (10, (I x1.1)), (38, (Bo (t3 == [])))], [], ⟨0, []⟩⟩) (by kernel_rfl) (by kernel_rfl) ?_
        show AWp _ _ _ _
        rcases Bool.eq_false_or_eq_true (t3 == []) with hb5 | hb5
        · rw [condT hb5] at h
          refine awp_condT (boT hb5) ?_
          refine awp_seq ?_
          refine awp_region ?_
          refine arun_do rfl rfl rfl (ex_move (eV (v := (SL 5 c_api_Node t0)) rfl)) ?_
          refine arun_do rfl rfl rfl (ex_assign (eV (v := (SL 5 c_api_Node t0)) rfl)) ?_
          refine arun_do rfl rfl rfl (ex_assign (eV (v := (I 0)) rfl)) ?_
          refine arun_keepE [8, 9] 0 0 (st' := ⟨68, 0, [(8, (SL 5 c_api_Node t0)), (9, (I 0))], [], ⟨0, []⟩⟩) (by kernel_rfl) (by kernel_rfl) ?_
          show AWp _ _ _ _
          refine awp_ret ?_
          cases h
          exact aresN rfl (L2.cons (rtmp rfl (eV rfl)) (L2.cons (rtmp rfl (eV rfl)) L2.nil)) rfl
        · rw [condF hb5] at h
          refine awp_condF (boF hb5) ?_
          refine awp_skip ?_
          show AWp _ _ _ _
          refine awp_seq ?_
          refine awp_region ?_
          refine arun_do rfl rfl rfl (ex_move (eV (v := (SL 5 c_api_Node t0)) rfl)) ?_
          refine arun_do rfl rfl rfl (ex_move (eV (v := (I x1.1)) rfl)) ?_
          obtain ⟨x6, hx6, h⟩ := bindS h
          refine arun_do rfl rfl rfl (tx_idxD (c := c_api_Node) (xs := t0) (i := x1.1) ce_api_Node Tryd.underlying24 s_39 rfl rfl hx6) ?_
          refine arun_do rfl rfl rfl (tx_ldDA (vs := (c_api_Node x6)) Tryd.underlying39 rfl s_39 (by decide) rfl (Nat.le_of_ble_eq_true rfl) rfl) ?_
          refine arun_do rfl rfl rfl (ex_alloc (k := 0) (zs := (c_api_Node (G_api_Node.mk 0 0 [] [] 0))) (L' := [(c_api_Node (G_api_Node.mk 0 0 [] [] 0))]) z_39 rfl rfl rfl rfl) ?_
          refine arun_do0 rfl rfl (ex_storeL (vy := (Value.agg (c_api_Node x6).toArray)) (cs := (c_api_Node (G_api_Node.mk 0 0 [] [] 0))) (vs := (c_api_Node x6)) (L' := [(c_api_Node x6)]) rfl (eV (v := (Value.agg (c_api_Node x6).toArray)) rfl) rfl s_39 rfl (Nat.le_of_ble_eq_true rfl) (by kernel_rfl)) ?_
          refine arun_keepE [0, 2, 3, 10, 12] 1 0 (st' := ⟨68, 0, [(0, (SL 5 c_api_Node t0)), (2, (I t2)), (3, (S t3)), (10, (I x1.1)), (12, (LP 0 0))], [(c_api_Node x6)], ⟨0, []⟩⟩) (by kernel_rfl) (by kernel_rfl) ?_
          show AWp _ _ _ _
          refine awp_seq ?_
          refine awp_region ?_
          refine arun_do rfl rfl rfl (ex_fieldAddr (v := (LP 0 3)) Tryd.underlying39 rfl s_9 (by decide) rfl rfl) ?_
          refine arun_do rfl rfl rfl (tx_ldL1 (v := (S x6.Body)) Tryd.underlying9 rfl rfl rfl rfl) ?_
          refine arun_do rfl rfl rfl (ex_fieldAddr (v := (LP 0 3)) Tryd.underlying39 rfl s_9 (by decide) rfl rfl) ?_
          refine arun_do rfl rfl rfl (tx_ldL1 (v := (S x6.Body)) Tryd.underlying9 rfl rfl rfl rfl) ?_
          refine arun_do rfl rfl rfl (tx_lenS Tryd.underlying9 rfl) ?_
          refine arun_do rfl rfl rfl (ex_move (eV (v := (I t2)) rfl)) ?_
          refine arun_do rfl rfl rfl (ex_move (eV (v := (S t3)) rfl)) ?_
          refine arun_do rfl rfl rfl (tx_lenS Tryd.underlying9 rfl) ?_
          refine arun_do rfl rfl rfl (ex_bin (vx := (I t2)) (vy := (I (t3.length : Int))) rfl rfl addI_ok) ?_
          refine arun_do rfl rfl rfl (ex_max (m := (x6.Body.length : Int)) (n := (w64 (t2 + (t3.length : Int)))) rfl rfl) ?_
          obtain ⟨x7, hx7, h⟩ := bindS h
          refine arun_do rfl rfl rfl (ex_call0 (vs := [(S x6.Body), (I (max (x6.Body.length : Int) (w64 (t2 + (t3.length : Int)))))]) (v := (S x7)) rfl en_31 (cargs (evs rfl (evs rfl evs_nil))) rfl (ok_ref11_long x6.Body (max (x6.Body.length : Int) (w64 (t2 + (t3.length : Int)))) x7 hx7) rfl) ?_
          refine arun_do rfl rfl rfl (tx_sbG (k := 0) (H' := ⟨1, [(0, ⟨1, ((x7).flatMap c8), true⟩)]⟩) Tryd.underlying9 Tryd.underlying31 Tryd.underlying5 rfl rfl rfl) ?_
          refine arun_do rfl rfl rfl (ex_assign (eV (v := (GV 0 x7.length)) rfl)) ?_
          refine arun_keepE [0, 2, 3, 10, 12, 13] 1 1 (st' := ⟨68, 0, [(0, (SL 5 c_api_Node t0)), (2, (I t2)), (3, (S t3)), (10, (I x1.1)), (12, (LP 0 0)), (13, (GV 0 x7.length))], [(c_api_Node x6)], ⟨1, [(0, ⟨1, ((x7).flatMap c8), true⟩)]⟩⟩) (by kernel_rfl) (by kernel_rfl) ?_
          show AWp _ _ _ _
          refine awp_seq ?_
          refine awp_region ?_
          refine arun_do rfl rfl rfl (ex_move (eV (v := (GV 0 x7.length)) rfl)) ?_
          refine arun_do rfl rfl rfl (ex_move (eV (v := (I t2)) rfl)) ?_
          obtain ⟨x8, hx8, h⟩ := bindS h
          refine arun_do rfl rfl rfl (tx_subG (xs := x7) Tryd.underlying31 s_5 rfl rfl rfl (loX (l := t2) rfl) (inS_ok hx8)) ?_
          refine arun_do rfl rfl rfl (ex_move (eV (v := (S t3)) rfl)) ?_
          refine arun_do rfl rfl rfl (tx_copyS (xs := x7) (off := (t2 : Int).toNat) (H' := ⟨1, [(0, ⟨1, (((copyL x7 ((t2 : Int).toNat) t3)).flatMap c8), true⟩)]⟩) Tryd.underlying31 s_5 rfl rfl rfl (by have := (inS_ok hx8); omega) rfl rfl) ?_
          refine arun_keepE [0, 10, 12, 13] 1 1 (st' := ⟨68, 0, [(0, (SL 5 c_api_Node t0)), (10, (I x1.1)), (12, (LP 0 0)), (13, (GV 0 x7.length))], [(c_api_Node x6)], ⟨1, [(0, ⟨1, (((copyL x7 ((t2 : Int).toNat) t3)).flatMap c8), true⟩)]⟩⟩) (by kernel_rfl) (by kernel_rfl) ?_
          show AWp _ _ _ _
          refine awp_seq ?_
          refine awp_region ?_
          refine arun_do rfl rfl rfl (ex_move (eV (v := (GV 0 x7.length)) rfl)) ?_
          refine arun_do rfl rfl rfl (tx_bsG (bs := (copyL x7 ((t2 : Int).toNat) t3)) Tryd.underlying31 Tryd.underlying9 Tryd.underlying5 rfl rfl (copyL_length x7 ((t2 : Int).toNat) t3 (by have := (inS_ok hx8); omega)).symm) ?_
          refine arun_do rfl rfl rfl (ex_fieldAddr (v := (LP 0 3)) Tryd.underlying39 rfl s_9 (by decide) rfl rfl) ?_
          refine arun_do0 rfl rfl (ex_storeL (vy := (S (copyL x7 ((t2 : Int).toNat) t3))) (cs := (c_api_Node x6)) (vs := [(S (copyL x7 ((t2 : Int).toNat) t3))]) (L' := [(c_api_Node (G_api_Node.mk x6.Kind x6.Up x6.Name (copyL x7 ((t2 : Int).toNat) t3) x6.Bad))]) rfl (eV (v := (S (copyL x7 ((t2 : Int).toNat) t3))) rfl) rfl s_9 rfl (Nat.le_of_ble_eq_true rfl) (by kernel_rfl)) ?_
          refine arun_keepE [0, 10, 12] 1 0 (st' := ⟨68, 0, [(0, (SL 5 c_api_Node t0)), (10, (I x1.1)), (12, (LP 0 0))], [(c_api_Node (G_api_Node.mk x6.Kind x6.Up x6.Name (copyL x7 ((t2 : Int).toNat) t3) x6.Bad))], ⟨0, []⟩⟩) (by kernel_rfl) (by kernel_rfl) ?_
          show AWp _ _ _ _
          refine awp_seq ?_
          refine awp_region ?_
          refine arun_do rfl rfl rfl (ex_move (eV (v := (SL 5 c_api_Node t0)) rfl)) ?_
          refine arun_do rfl rfl rfl (ex_move (eV (v := (I x1.1)) rfl)) ?_
          refine arun_do rfl rfl rfl (tx_ldLA (vs := (c_api_Node (G_api_Node.mk x6.Kind x6.Up x6.Name (copyL x7 ((t2 : Int).toNat) t3) x6.Bad))) Tryd.underlying39 rfl s_39 (by decide) rfl rfl rfl rfl) ?_
          obtain ⟨x9, hx9, h⟩ := bindS h
          refine arun_do rfl rfl rfl (ex_call0 (vs := [(SL 5 c_api_Node t0), (I x1.1), (Value.agg (c_api_Node (G_api_Node.mk x6.Kind x6.Up x6.Name (copyL x7 ((t2 : Int).toNat) t3) x6.Bad)).toArray)]) (v := (SL 5 c_api_Node x9)) rfl en_24 (cargs (evs rfl (evs rfl (evs rfl evs_nil)))) rfl (ok_ref11_with t0 x1.1 (G_api_Node.mk x6.Kind x6.Up x6.Name (copyL x7 ((t2 : Int).toNat) t3) x6.Bad) x9 hx9) rfl) ?_
          refine arun_do rfl rfl rfl (ex_assign (eV (v := (SL 5 c_api_Node x9)) rfl)) ?_
          refine arun_do rfl rfl rfl (ex_assign (eV (v := (I 0)) rfl)) ?_
          refine arun_keepE [8, 9] 0 0 (st' := ⟨68, 0, [(8, (SL 5 c_api_Node x9)), (9, (I 0))], [], ⟨0, []⟩⟩) (by kernel_rfl) (by kernel_rfl) ?_
          show AWp _ _ _ _
          refine awp_ret ?_
          cases h
          exact aresN rfl (L2.cons (rtmp rfl (eV rfl)) (L2.cons (rtmp rfl (eV rfl)) L2.nil)) rfl

end Go.Proofs
