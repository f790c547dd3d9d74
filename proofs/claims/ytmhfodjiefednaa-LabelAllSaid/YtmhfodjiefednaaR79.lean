/- Pure models of functions of the program, and that its code does what they say: label Roots$2, label Roots$1 at a closure, api Uber] at a closure, api Uber] at a closure, api Uber] at a closure. Written by a program. -/
import Derived.Test.YtmhfodjiefednaaR7B
set_option maxRecDepth 20000
set_option maxHeartbeats 4000000
namespace Go.Proofs
open Go Go.Fhl
set_option linter.unusedVariables false
set_option linter.unusedSimpArgs false
noncomputable def M_label_Roots_2 (t0 : GUb) (t1 : GUb) : Option Int :=
  some (w64 (t1.Txg - t0.Txg))
theorem ok_label_Roots_2 (t0 : GUb) (t1 : GUb) (r : Int) (h : M_label_Roots_2 t0 t1 = some r) : FFn Try.prog 48 [(Value.agg (cUb t0).toArray), (Value.agg (cUb t1).toArray)] (I r) := by
  refine FFn.of_body (n := 10) Try.func48 rfl Try.ntmps48 rfl rfl rfl rfl ?_
  show AWp _ _ _ ⟨10, 0, [(0, (Value.agg (cUb t0).toArray)), (1, (Value.agg (cUb t1).toArray))], [], ⟨0, []⟩⟩
  unfold M_label_Roots_2 at h
  refine aws ?_
  refine awr ?_
  refine ado rfl rfl rfl (ex_box (vx := (Value.agg (cUb t0).toArray)) (cs := (cUb t0)) (k := 0) (L' := [(cUb t0)]) (eV (v := (Value.agg (cUb t0).toArray)) rfl) rfl rfl rfl) ?_
  refine ado rfl rfl rfl (ex_box (vx := (Value.agg (cUb t1).toArray)) (cs := (cUb t1)) (k := 1) (L' := [(cUb t0), (cUb t1)]) (eV (v := (Value.agg (cUb t1).toArray)) rfl) rfl rfl rfl) ?_
  refine ado rfl rfl rfl (eas (eV (v := (I 0)) rfl)) ?_
  refine ake [2, 3] 2 0 (st' := ⟨10, 0, [(2, (LP 0 0)), (3, (LP 1 0))], [(cUb t0), (cUb t1)], ⟨0, []⟩⟩) (by kernel_rfl) (by kernel_rfl) ?_
  show AWp _ _ _ _
  refine aws ?_
  refine awr ?_
  refine ado rfl rfl rfl (efa (v := (LP 1 0)) Try.underlying37 rfl s_3 (by decide) rfl rfl) ?_
  refine ado rfl rfl rfl (tx_ldL1 (v := (I t1.Txg)) Try.underlying3 rfl rfl rfl rfl) ?_
  refine ado rfl rfl rfl (efa (v := (LP 0 0)) Try.underlying37 rfl s_3 (by decide) rfl rfl) ?_
  refine ado rfl rfl rfl (tx_ldL1 (v := (I t0.Txg)) Try.underlying3 rfl rfl rfl rfl) ?_
  refine ado rfl rfl rfl (ex_bin (vx := (I t1.Txg)) (vy := (I t0.Txg)) rfl rfl subI_ok) ?_
  refine ado rfl rfl rfl (eas (eV (v := (I (w64 (t1.Txg - t0.Txg)))) rfl)) ?_
  refine ake [4] 0 0 (st' := ⟨10, 0, [(4, (I (w64 (t1.Txg - t0.Txg))))], [], ⟨0, []⟩⟩) (by kernel_rfl) (by kernel_rfl) ?_
  show AWp _ _ _ _
  refine awp_ret ?_
  cases h
  exact ares1 (rtmp rfl (eV rfl))

noncomputable def M_label_Roots_1 (t0 : GUb) (u0 : GUb) : Option Bool :=
  some (t0.Txg == u0.Txg)
theorem ok_label_Roots_1 (t0 : GUb) (u0 : GUb) (r : Bool) (h : M_label_Roots_1 t0 u0 = some r) : FFn Try.prog 45 [(Value.agg (cUb t0).toArray), (DP (cUb u0))] (Bo r) := by
  refine FFn.of_body (n := 9) Try.func45 rfl Try.ntmps45 rfl rfl rfl rfl ?_
  show AWp _ _ _ ⟨9, 0, [(0, (Value.agg (cUb t0).toArray)), (1, (DP (cUb u0)))], [], ⟨0, []⟩⟩
  unfold M_label_Roots_1 at h
  refine aws ?_
  refine awr ?_
  refine ado rfl rfl rfl (ex_box (vx := (Value.agg (cUb t0).toArray)) (cs := (cUb t0)) (k := 0) (L' := [(cUb t0)]) (eV (v := (Value.agg (cUb t0).toArray)) rfl) rfl rfl rfl) ?_
  refine ado rfl rfl rfl (eas (eV (v := (Bo false)) rfl)) ?_
  refine ake [1, 2] 1 0 (st' := ⟨9, 0, [(1, (DP (cUb u0))), (2, (LP 0 0))], [(cUb t0)], ⟨0, []⟩⟩) (by kernel_rfl) (by kernel_rfl) ?_
  show AWp _ _ _ _
  refine aws ?_
  refine awr ?_
  refine ado rfl rfl rfl (efa (v := (LP 0 0)) Try.underlying37 rfl s_3 (by decide) rfl rfl) ?_
  refine ado rfl rfl rfl (tx_ldL1 (v := (I t0.Txg)) Try.underlying3 rfl rfl rfl rfl) ?_
  refine ado rfl rfl rfl (ex_fieldAddrD (vs := (List.drop 0 (cUb u0))) Try.underlying37 rfl s_3 (by decide) rfl rfl) ?_
  refine ado rfl rfl rfl (tx_ldD1 (v := (I u0.Txg)) Try.underlying3 rfl rfl rfl) ?_
  refine ado rfl rfl rfl (ex_bin (vx := (I t0.Txg)) (vy := (I u0.Txg)) rfl rfl eqlI_ok) ?_
  refine ado rfl rfl rfl (eas (eV (v := (Bo (t0.Txg == u0.Txg))) rfl)) ?_
  refine ake [3] 0 0 (st' := ⟨9, 0, [(3, (Bo (t0.Txg == u0.Txg)))], [], ⟨0, []⟩⟩) (by kernel_rfl) (by kernel_rfl) ?_
  show AWp _ _ _ _
  refine awp_ret ?_
  cases h
  exact ares1 (rtmp rfl (eV rfl))

noncomputable def M_slices_IndexFunc_api_Uber_api_Uber_c45_l1 (t0 : (List GUb)) (t1_0 : GUb) : Nat → Int → Option Int
  | 0, _ => none
  | n1 + 1, v1 =>
  cond (decide (v1 < (t0.length : Int))) (Option.bind (getI t0 v1) fun (x3 : GUb) => Option.bind (M_label_Roots_1 x3 t1_0) fun (x4 : Bool) => cond x4 (some v1) ((M_slices_IndexFunc_api_Uber_api_Uber_c45_l1 t0 t1_0 n1) (w64 (v1 + 1)))) (some (-1))
noncomputable def M_slices_IndexFunc_api_Uber_api_Uber_c45 (t0 : (List GUb)) (t1_0 : GUb) : Option Int :=
  M_slices_IndexFunc_api_Uber_api_Uber_c45_l1 t0 t1_0 fuel 0
theorem ok_slices_IndexFunc_api_Uber_api_Uber_c45 (t0 : (List GUb)) (t1_0 : GUb) (r : Int) (h : M_slices_IndexFunc_api_Uber_api_Uber_c45 t0 t1_0 = some r) : FFn Try.prog 61 [(SL 9 cUb t0), (Value.func (Fn.func 45) #[] #[(DP (cUb t1_0))])] (I r) := by
  refine FFn.of_body (n := 19) Try.func61 rfl Try.ntmps61 rfl rfl rfl rfl ?_
  show AWp _ _ _ ⟨19, 0, [(0, (SL 9 cUb t0)), (1, (Value.func (Fn.func 45) #[] #[(DP (cUb t1_0))]))], [], ⟨0, []⟩⟩
  unfold M_slices_IndexFunc_api_Uber_api_Uber_c45 at h
  refine aws ?_
  refine awr ?_
  refine ado rfl rfl rfl (eas (eV (v := (I 0)) rfl)) ?_
  refine ake [0, 1] 0 0 (st' := ⟨19, 0, [(0, (SL 9 cUb t0)), (1, (Value.func (Fn.func 45) #[] #[(DP (cUb t1_0))]))], [], ⟨0, []⟩⟩) (by kernel_rfl) (by kernel_rfl) ?_
  show AWp _ _ _ _
  refine aws ?_
  refine aws ?_
  refine awr ?_
  refine ado rfl rfl rfl (emv (eV (v := (SL 9 cUb t0)) rfl)) ?_
  refine ado rfl rfl rfl (tx_lenD (xs := t0) ce_api_Uber Try.underlying54 rfl) ?_
  refine ado rfl rfl rfl (emv (eV (v := (I 0)) rfl)) ?_
  refine ake [0, 1, 7, 8] 0 0 (st' := ⟨19, 0, [(0, (SL 9 cUb t0)), (1, (Value.func (Fn.func 45) #[] #[(DP (cUb t1_0))])), (7, (I (t0.length : Int))), (8, (I 0))], [], ⟨0, []⟩⟩) (by kernel_rfl) (by kernel_rfl) ?_
  show AWp _ _ _ _
  refine awp_block ?_
  refine awp_loop (fun n s => ∃ (v1 : Int), s = ⟨19, 0, [(0, (SL 9 cUb t0)), (1, (Value.func (Fn.func 45) #[] #[(DP (cUb t1_0))])), (7, (I (t0.length : Int))), (8, (I v1))], [], ⟨0, []⟩⟩ ∧ M_slices_IndexFunc_api_Uber_api_Uber_c45_l1 t0 t1_0 n v1 = some r) fuel (Exists.intro 0 (And.intro rfl h)) ?_
  rintro n s ⟨v1, rfl, h⟩ -
  cases n with
  | zero => cases h
  | succ n1 =>
    unfold M_slices_IndexFunc_api_Uber_api_Uber_c45_l1 at h
    refine aws ?_
    refine awr ?_
    refine ado rfl rfl rfl (ex_bin (vx := (I v1)) (vy := (I (t0.length : Int))) rfl rfl lssI_ok) ?_
    refine ake [0, 1, 7, 8, 9] 0 0 (st' := ⟨19, 0, [(0, (SL 9 cUb t0)), (1, (Value.func (Fn.func 45) #[] #[(DP (cUb t1_0))])), (7, (I (t0.length : Int))), (8, (I v1)), (9, (Bo (decide (v1 < (t0.length : Int)))))], [], ⟨0, []⟩⟩) (by kernel_rfl) (by kernel_rfl) ?_
    show AWp _ _ _ _
    refine aws ?_
    rcases Bool.eq_false_or_eq_true (decide (v1 < (t0.length : Int))) with hb2 | hb2
    · rw [condT hb2] at h
      refine awp_condT (boT hb2) ?_
      refine awp_skip ?_
      show AWp _ _ _ _
      refine aws ?_
      refine awp_block ?_
      refine aws ?_
      refine awr ?_
      refine ado rfl rfl rfl (emv (eV (v := (I v1)) rfl)) ?_
      refine ado rfl rfl rfl (eas (eV (v := (I v1)) rfl)) ?_
      refine ake [0, 1, 5, 7, 8] 0 0 (st' := ⟨19, 0, [(0, (SL 9 cUb t0)), (1, (Value.func (Fn.func 45) #[] #[(DP (cUb t1_0))])), (5, (I v1)), (7, (I (t0.length : Int))), (8, (I v1))], [], ⟨0, []⟩⟩) (by kernel_rfl) (by kernel_rfl) ?_
      show AWp _ _ _ _
      refine aws ?_
      refine awr ?_
      refine ado rfl rfl rfl (emv (eV (v := (Value.func (Fn.func 45) #[] #[(DP (cUb t1_0))])) rfl)) ?_
      refine ado rfl rfl rfl (emv (eV (v := (SL 9 cUb t0)) rfl)) ?_
      refine ado rfl rfl rfl (emv (eV (v := (I v1)) rfl)) ?_
      obtain ⟨x3, hx3, h⟩ := bindS h
      refine ado rfl rfl rfl (tx_idxD (c := cUb) (xs := t0) (i := v1) ce_api_Uber Try.underlying54 s_37 rfl rfl hx3) ?_
      refine ado rfl rfl rfl (tx_ldDA (vs := (cUb x3)) Try.underlying37 rfl s_37 (by decide) rfl (Nat.le_of_ble_eq_true rfl) rfl) ?_
      obtain ⟨x4, hx4, h⟩ := bindS h
      refine ado rfl rfl rfl (ex_callA (vs := [(Value.agg (cUb x3).toArray), (DP (cUb t1_0))]) (v := (Bo x4)) rfl en_45 (cargsC (us := [(Value.agg (cUb x3).toArray)]) (evs rfl evs_nil) rfl) rfl (ok_label_Roots_1 x3 t1_0 x4 hx4) rfl) ?_
      refine ake [0, 1, 5, 7, 8, 16] 0 0 (st' := ⟨19, 0, [(0, (SL 9 cUb t0)), (1, (Value.func (Fn.func 45) #[] #[(DP (cUb t1_0))])), (5, (I v1)), (7, (I (t0.length : Int))), (8, (I v1)), (16, (Bo x4))], [], ⟨0, []⟩⟩) (by kernel_rfl) (by kernel_rfl) ?_
      show AWp _ _ _ _
      rcases Bool.eq_false_or_eq_true x4 with hb5 | hb5
      · rw [condT hb5] at h
        refine awp_condT (boT hb5) ?_
        refine aws ?_
        refine awr ?_
        refine ado rfl rfl rfl (emv (eV (v := (I v1)) rfl)) ?_
        refine ado rfl rfl rfl (eas (eV (v := (I v1)) rfl)) ?_
        refine ake [4] 0 0 (st' := ⟨19, 0, [(4, (I v1))], [], ⟨0, []⟩⟩) (by kernel_rfl) (by kernel_rfl) ?_
        show AWp _ _ _ _
        refine awp_ret ?_
        cases h
        exact ares1 (rtmp rfl (eV rfl))
      · rw [condF hb5] at h
        refine awp_condF (boF hb5) ?_
        refine awp_skip ?_
        show AWp _ _ _ _
        refine awr ?_
        refine ado rfl rfl rfl (ex_bin (vx := (I v1)) (vy := (I 1)) rfl rfl addI_ok) ?_
        refine ado rfl rfl rfl (emv (eV (v := (I (w64 (v1 + 1)))) rfl)) ?_
        refine ake [0, 1, 7, 8] 0 0 (st' := ⟨19, 0, [(0, (SL 9 cUb t0)), (1, (Value.func (Fn.func 45) #[] #[(DP (cUb t1_0))])), (7, (I (t0.length : Int))), (8, (I (w64 (v1 + 1))))], [], ⟨0, []⟩⟩) (by kernel_rfl) (by kernel_rfl) ?_
        exact Exists.intro n1 (And.intro (Nat.lt_succ_self _) (Exists.intro (w64 (v1 + 1)) (And.intro rfl h)))
    · rw [condF hb2] at h
      refine awp_condF (boF hb2) ?_
      refine awp_exit ?_
      show AWp _ _ _ _
      refine aws ?_
      refine awr ?_
      refine ado rfl rfl rfl (eas (eV (v := (I (-1))) rfl)) ?_
      refine ake [4] 0 0 (st' := ⟨19, 0, [(4, (I (-1)))], [], ⟨0, []⟩⟩) (by kernel_rfl) (by kernel_rfl) ?_
      show AWp _ _ _ _
      refine awp_ret ?_
      cases h
      exact ares1 (rtmp rfl (eV rfl))

noncomputable def M_slices_ContainsFunc_api_Uber_api_Uber_c45 (t0 : (List GUb)) (t1_0 : GUb) : Option Bool :=
  Option.bind (M_slices_IndexFunc_api_Uber_api_Uber_c45 t0 t1_0) fun (x1 : Int) => some (decide (x1 ≥ 0))
theorem ok_slices_ContainsFunc_api_Uber_api_Uber_c45 (t0 : (List GUb)) (t1_0 : GUb) (r : Bool) (h : M_slices_ContainsFunc_api_Uber_api_Uber_c45 t0 t1_0 = some r) : FFn Try.prog 46 [(SL 9 cUb t0), (Value.func (Fn.func 45) #[] #[(DP (cUb t1_0))])] (Bo r) := by
  refine FFn.of_body (n := 9) Try.func46 rfl Try.ntmps46 rfl rfl rfl rfl ?_
  show AWp _ _ _ ⟨9, 0, [(0, (SL 9 cUb t0)), (1, (Value.func (Fn.func 45) #[] #[(DP (cUb t1_0))]))], [], ⟨0, []⟩⟩
  unfold M_slices_ContainsFunc_api_Uber_api_Uber_c45 at h
  refine aws ?_
  refine awr ?_
  refine ado rfl rfl rfl (eas (eV (v := (Bo false)) rfl)) ?_
  refine ake [0, 1] 0 0 (st' := ⟨9, 0, [(0, (SL 9 cUb t0)), (1, (Value.func (Fn.func 45) #[] #[(DP (cUb t1_0))]))], [], ⟨0, []⟩⟩) (by kernel_rfl) (by kernel_rfl) ?_
  show AWp _ _ _ _
  refine aws ?_
  refine awr ?_
  refine ado rfl rfl rfl (emv (eV (v := (SL 9 cUb t0)) rfl)) ?_
  refine ado rfl rfl rfl (emv (eV (v := (Value.func (Fn.func 45) #[] #[(DP (cUb t1_0))])) rfl)) ?_
  obtain ⟨x1, hx1, h⟩ := bindS h
  refine ado rfl rfl rfl (ex_callA (vs := [(SL 9 cUb t0), (Value.func (Fn.func 45) #[] #[(DP (cUb t1_0))])]) (v := (I x1)) rfl en_61 (cargs (evs rfl (evs rfl evs_nil))) rfl (ok_slices_IndexFunc_api_Uber_api_Uber_c45 t0 t1_0 x1 hx1) rfl) ?_
  refine ado rfl rfl rfl (ex_bin (vx := (I x1)) (vy := (I 0)) rfl rfl geqI_ok) ?_
  refine ado rfl rfl rfl (eas (eV (v := (Bo (decide (x1 ≥ 0)))) rfl)) ?_
  refine ake [4] 0 0 (st' := ⟨9, 0, [(4, (Bo (decide (x1 ≥ 0))))], [], ⟨0, []⟩⟩) (by kernel_rfl) (by kernel_rfl) ?_
  show AWp _ _ _ _
  refine awp_ret ?_
  cases h
  exact ares1 (rtmp rfl (eV rfl))

noncomputable def M_slices_insertionSortCmpFunc_api_Uber_c48_l2 (c_1 : (Int → List GUb → Option (Unit × List GUb))) (t1 : Int) (t2 : Int) (v1 : Int) : Nat → Int → List GUb → Option (Unit × List GUb)
  | 0, _, _ => none
  | n2 + 1, v4, v5 =>
  Option.bind (gd ((decide (v4 > t1)) == true) (getI v5 v4)) fun (x6 : GUb) => Option.bind (gd ((decide (v4 > t1)) == true) (getI v5 (w64 (v4 - 1)))) fun (x7 : GUb) => Option.bind (gd ((decide (v4 > t1)) == true) (M_label_Roots_2 x6 x7)) fun (x8 : Int) => cond ((decide (v4 > t1)) && (decide (x8 < 0))) (Option.bind (getI v5 (w64 (v4 - 1))) fun (x10 : GUb) => Option.bind (getI v5 v4) fun (x11 : GUb) => Option.bind (getI v5 v4) fun (x12 : GUb) => Option.bind (setI v5 v4 x10) fun (x13 : List GUb) => Option.bind (getI x13 (w64 (v4 - 1))) fun (x14 : GUb) => Option.bind (setI x13 (w64 (v4 - 1)) x11) fun (x15 : List GUb) => (M_slices_insertionSortCmpFunc_api_Uber_c48_l2 c_1 t1 t2 v1 n2) (w64 (v4 - 1)) x15) (c_1 (w64 (v1 + 1)) v5)
noncomputable def M_slices_insertionSortCmpFunc_api_Uber_c48_l1 (t1 : Int) (t2 : Int) : Nat → Int → List GUb → Option (Unit × List GUb)
  | 0, _, _ => none
  | n1 + 1, v1, v2 =>
  cond (decide (v1 < t2)) (M_slices_insertionSortCmpFunc_api_Uber_c48_l2 (M_slices_insertionSortCmpFunc_api_Uber_c48_l1 t1 t2 n1) t1 t2 v1 fuel v1 v2) (some ((), v2))
noncomputable def M_slices_insertionSortCmpFunc_api_Uber_c48 (t0 : List GUb) (t1 : Int) (t2 : Int) : Option (Unit × List GUb) :=
  M_slices_insertionSortCmpFunc_api_Uber_c48_l1 t1 t2 fuel (w64 (t1 + 1)) t0
theorem ok_slices_insertionSortCmpFunc_api_Uber_c48 (t0 : List GUb) (t1 : Int) (t2 : Int) (r : (Unit × List GUb)) (h : M_slices_insertionSortCmpFunc_api_Uber_c48 t0 t1 t2 = some r) : F1n Try.prog 73 [(GV 0 t0.length), (I t1), (I t2), (Value.func (Fn.func 48) #[] #[])] ⟨9, (t0).flatMap cUb, true⟩ (Value.tuple #[]) ⟨9, (r.2).flatMap cUb, true⟩ := by
  refine F1n.of_body (n := 53) Try.func73 rfl Try.ntmps73 rfl rfl rfl rfl ?_
  show AWp _ _ _ ⟨53, 1, [(0, (GV 0 t0.length)), (1, (I t1)), (2, (I t2)), (3, (Value.func (Fn.func 48) #[] #[]))], [], ⟨1, [(0, ⟨9, ((t0).flatMap cUb), true⟩)]⟩⟩
  unfold M_slices_insertionSortCmpFunc_api_Uber_c48 at h
  refine aws ?_
  refine awr ?_
  refine ado rfl rfl rfl (emv (eV (v := (I t1)) rfl)) ?_
  refine ado rfl rfl rfl (ex_bin (vx := (I t1)) (vy := (I 1)) rfl rfl addI_ok) ?_
  refine ado rfl rfl rfl (eas (eV (v := (I (w64 (t1 + 1)))) rfl)) ?_
  refine ake [0, 1, 2, 3, 8] 0 1 (st' := ⟨53, 1, [(0, (GV 0 t0.length)), (1, (I t1)), (2, (I t2)), (3, (Value.func (Fn.func 48) #[] #[])), (8, (I (w64 (t1 + 1))))], [], ⟨1, [(0, ⟨9, ((t0).flatMap cUb), true⟩)]⟩⟩) (by kernel_rfl) (by kernel_rfl) ?_
  show AWp _ _ _ _
  refine awp_block ?_
  refine awp_loop (fun n s => ∃ (v1 : Int) (v2 : List GUb), s = ⟨53, 1, [(0, (GV 0 v2.length)), (1, (I t1)), (2, (I t2)), (3, (Value.func (Fn.func 48) #[] #[])), (8, (I v1))], [], ⟨1, [(0, ⟨9, ((v2).flatMap cUb), true⟩)]⟩⟩ ∧ M_slices_insertionSortCmpFunc_api_Uber_c48_l1 t1 t2 n v1 v2 = some r) fuel (Exists.intro (w64 (t1 + 1)) (Exists.intro t0 (And.intro rfl h))) ?_
  rintro n s ⟨v1, v2, rfl, h⟩ -
  cases n with
  | zero => cases h
  | succ n1 =>
    unfold M_slices_insertionSortCmpFunc_api_Uber_c48_l1 at h
    refine aws ?_
    refine aws ?_
    refine awr ?_
    refine ado rfl rfl rfl (emv (eV (v := (I v1)) rfl)) ?_
    refine ado rfl rfl rfl (emv (eV (v := (I t2)) rfl)) ?_
    refine ado rfl rfl rfl (ex_bin (vx := (I v1)) (vy := (I t2)) rfl rfl lssI_ok) ?_
    refine ake [0, 1, 2, 3, 8, 14] 0 1 (st' := ⟨53, 1, [(0, (GV 0 v2.length)), (1, (I t1)), (2, (I t2)), (3, (Value.func (Fn.func 48) #[] #[])), (8, (I v1)), (14, (Bo (decide (v1 < t2))))], [], ⟨1, [(0, ⟨9, ((v2).flatMap cUb), true⟩)]⟩⟩) (by kernel_rfl) (by kernel_rfl) ?_
    show AWp _ _ _ _
    rcases Bool.eq_false_or_eq_true (decide (v1 < t2)) with hb3 | hb3
    · rw [condT hb3] at h
      refine awp_condT (boT hb3) ?_
      refine awp_skip ?_
      show AWp _ _ _ _
      refine aws ?_
      refine awp_block ?_
      refine aws ?_
      refine awr ?_
      refine ado rfl rfl rfl (emv (eV (v := (I v1)) rfl)) ?_
      refine ado rfl rfl rfl (eas (eV (v := (I v1)) rfl)) ?_
      refine ake [0, 1, 2, 3, 8, 9] 0 1 (st' := ⟨53, 1, [(0, (GV 0 v2.length)), (1, (I t1)), (2, (I t2)), (3, (Value.func (Fn.func 48) #[] #[])), (8, (I v1)), (9, (I v1))], [], ⟨1, [(0, ⟨9, ((v2).flatMap cUb), true⟩)]⟩⟩) (by kernel_rfl) (by kernel_rfl) ?_
      show AWp _ _ _ _
      refine awp_block ?_
      refine awp_loop (fun n s => ∃ (v4 : Int) (v5 : List GUb), s = ⟨53, 1, [(0, (GV 0 v5.length)), (1, (I t1)), (2, (I t2)), (3, (Value.func (Fn.func 48) #[] #[])), (8, (I v1)), (9, (I v4))], [], ⟨1, [(0, ⟨9, ((v5).flatMap cUb), true⟩)]⟩⟩ ∧ M_slices_insertionSortCmpFunc_api_Uber_c48_l2 (M_slices_insertionSortCmpFunc_api_Uber_c48_l1 t1 t2 n1) t1 t2 v1 n v4 v5 = some r) fuel (Exists.intro v1 (Exists.intro v2 (And.intro rfl h))) ?_
      rintro n s ⟨v4, v5, rfl, h⟩ -
      cases n with
      | zero => cases h
      | succ n2 =>
        unfold M_slices_insertionSortCmpFunc_api_Uber_c48_l2 at h
        refine aws ?_
        refine aws ?_
        obtain ⟨x6, hx6, h⟩ := bindS h
        obtain ⟨x7, hx7, h⟩ := bindS h
        obtain ⟨x8, hx8, h⟩ := bindS h
        refine awp_kn [0, 1, 2, 3, 8, 9, 34] 0 1 (st' := ⟨53, 1, [(0, (GV 0 v5.length)), (1, (I t1)), (2, (I t2)), (3, (Value.func (Fn.func 48) #[] #[])), (8, (I v1)), (9, (I v4)), (34, (Bo ((decide (v4 > t1)) && (decide (x8 < 0)))))], [], ⟨1, [(0, ⟨9, ((v5).flatMap cUb), true⟩)]⟩⟩) (awp_draw (T := [(I v4), (I t1), (Bo (decide (v4 > t1))), (Bo (decide (v4 > t1))), (cond ((decide (v4 > t1)) == true) (Value.func (Fn.func 48) #[] #[]) skipV), (cond ((decide (v4 > t1)) == true) (GV 0 v5.length) skipV), (cond ((decide (v4 > t1)) == true) (I v4) skipV), (cond ((decide (v4 > t1)) == true) (GP 0 (v4.toNat * 9) (List.flatMap cUb v5).length) skipV), (cond ((decide (v4 > t1)) == true) (Value.agg (cUb x6).toArray) skipV), (cond ((decide (v4 > t1)) == true) (GV 0 v5.length) skipV), (cond ((decide (v4 > t1)) == true) (I v4) skipV), (cond ((decide (v4 > t1)) == true) (I (w64 (v4 - 1))) skipV), (cond ((decide (v4 > t1)) == true) (GP 0 ((w64 (v4 - 1)).toNat * 9) (List.flatMap cUb v5).length) skipV), (cond ((decide (v4 > t1)) == true) (Value.agg (cUb x7).toArray) skipV), (cond ((decide (v4 > t1)) == true) (I x8) skipV), (cond ((decide (v4 > t1)) == true) (Bo (decide (x8 < 0))) skipV), (Bo ((decide (v4 > t1)) && (decide (x8 < 0))))]) (LH := [([], ⟨1, [(0, ⟨9, ((v5).flatMap cUb), true⟩)]⟩)]) (D := [⟨[(9, none)], [], [0], false⟩, ⟨[(1, none)], [], [0], false⟩, ⟨[(18, some 0), (19, some 1)], [0, 1], [0], false⟩, ⟨[(20, some 2)], [0, 1, 2], [0], false⟩, ⟨[(3, none), (21, some 3)], [0, 1, 2, 3], [0], false⟩, ⟨[(0, none), (21, some 3)], [0, 1, 2, 3], [0], false⟩, ⟨[(9, none), (21, some 3)], [0, 1, 2, 3], [0], false⟩, ⟨[(23, some 5), (24, some 6), (21, some 3)], [0, 1, 2, 3, 5, 6], [0], false⟩, ⟨[(25, some 7), (21, some 3)], [0, 1, 2, 3, 5, 6, 7], [0], false⟩, ⟨[(0, none), (21, some 3)], [0, 1, 2, 3], [0], false⟩, ⟨[(9, none), (21, some 3)], [0, 1, 2, 3], [0], false⟩, ⟨[(28, some 10), (21, some 3)], [0, 1, 2, 3, 10], [0], false⟩, ⟨[(27, some 9), (29, some 11), (21, some 3)], [0, 1, 2, 3, 9, 10, 11], [0], false⟩, ⟨[(30, some 12), (21, some 3)], [0, 1, 2, 3, 9, 10, 11, 12], [0], false⟩, ⟨[(22, some 4), (26, some 8), (31, some 13), (21, some 3)], [0, 1, 2, 3, 4, 5, 6, 7, 8, 9, 10, 11, 12, 13], [0], false⟩, ⟨[(32, some 14), (21, some 3)], [0, 1, 2, 3, 4, 5, 6, 7, 8, 9, 10, 11, 12, 13, 14], [0], false⟩, ⟨[(21, some 3), (33, some 15)], [0, 1, 2, 3, 4, 5, 6, 7, 8, 9, 10, 11, 12, 13, 14, 15], [0], false⟩]) (S := []) (plan := [0, 1, 2, 3, 4, 5, 6, 7, 8, 9, 10, 11, 12, 13, 14, 15, 16]) mo (by kernel_rfl) rfl rfl rfl (dcons (dst1 (Tm := [(9, (I v4))]) (L := []) (H := ⟨1, [(0, ⟨9, ((v5).flatMap cUb), true⟩)]⟩) rfl rfl rfl rfl rfl (asd rfl (emv (eV (v := (I v4)) rfl)))) (dcons (dst1 (Tm := [(1, (I t1))]) (L := []) (H := ⟨1, [(0, ⟨9, ((v5).flatMap cUb), true⟩)]⟩) rfl rfl rfl rfl rfl (asd rfl (emv (eV (v := (I t1)) rfl)))) (dcons (dst1 (Tm := [(18, (I v4)), (19, (I t1))]) (L := []) (H := ⟨1, [(0, ⟨9, ((v5).flatMap cUb), true⟩)]⟩) rfl rfl rfl rfl rfl (asd rfl (ex_bin (vx := (I v4)) (vy := (I t1)) rfl rfl gtrI_ok))) (dcons (dst1 (Tm := [(20, (Bo (decide (v4 > t1))))]) (L := []) (H := ⟨1, [(0, ⟨9, ((v5).flatMap cUb), true⟩)]⟩) rfl rfl rfl rfl rfl (asd rfl (emv (eV (v := (Bo (decide (v4 > t1)))) rfl)))) (dcons (dst1 (Tm := [(3, (Value.func (Fn.func 48) #[] #[])), (21, (Bo (decide (v4 > t1))))]) (L := []) (H := ⟨1, [(0, ⟨9, ((v5).flatMap cUb), true⟩)]⟩) rfl rfl rfl rfl rfl (astep_guard (v := (Value.func (Fn.func 48) #[] #[])) ((decide (v4 > t1)) == true) rfl (fun hc => emv (eV (v := (Value.func (Fn.func 48) #[] #[])) rfl)))) (dcons (dst1 (Tm := [(0, (GV 0 v5.length)), (21, (Bo (decide (v4 > t1))))]) (L := []) (H := ⟨1, [(0, ⟨9, ((v5).flatMap cUb), true⟩)]⟩) rfl rfl rfl rfl rfl (astep_guard (v := (GV 0 v5.length)) ((decide (v4 > t1)) == true) rfl (fun hc => emv (eV (v := (GV 0 v5.length)) rfl)))) (dcons (dst1 (Tm := [(9, (I v4)), (21, (Bo (decide (v4 > t1))))]) (L := []) (H := ⟨1, [(0, ⟨9, ((v5).flatMap cUb), true⟩)]⟩) rfl rfl rfl rfl rfl (astep_guard (v := (I v4)) ((decide (v4 > t1)) == true) rfl (fun hc => emv (eV (v := (I v4)) rfl)))) (dcons (dst1 (Tm := [(23, (cond ((decide (v4 > t1)) == true) (GV 0 v5.length) skipV)), (24, (cond ((decide (v4 > t1)) == true) (I v4) skipV)), (21, (Bo (decide (v4 > t1))))]) (L := []) (H := ⟨1, [(0, ⟨9, ((v5).flatMap cUb), true⟩)]⟩) rfl rfl rfl rfl rfl (astep_guard (v := (GP 0 (v4.toNat * 9) (List.flatMap cUb v5).length)) ((decide (v4 > t1)) == true) rfl (fun hc => tx_idxG (c := cUb) (xs := v5) (i := v4) ce_api_Uber Try.underlying54 s_37 (cdo hc) (cdo hc) rfl rfl (gd_of hc hx6)))) (dcons (dst1 (Tm := [(25, (cond ((decide (v4 > t1)) == true) (GP 0 (v4.toNat * 9) (List.flatMap cUb v5).length) skipV)), (21, (Bo (decide (v4 > t1))))]) (L := []) (H := ⟨1, [(0, ⟨9, ((v5).flatMap cUb), true⟩)]⟩) rfl rfl rfl rfl rfl (astep_guard (v := (Value.agg (cUb x6).toArray)) ((decide (v4 > t1)) == true) rfl (fun hc => tx_ldG (v := (Value.agg (cUb x6).toArray)) (s := 9) (cdo hc) rfl (part_elemA (off := 0) (vs := (cUb x6)) ce_api_Uber (gd_of hc hx6) Try.underlying37 rfl s_37 (by decide) (by decide) rfl)))) (dcons (dst1 (Tm := [(0, (GV 0 v5.length)), (21, (Bo (decide (v4 > t1))))]) (L := []) (H := ⟨1, [(0, ⟨9, ((v5).flatMap cUb), true⟩)]⟩) rfl rfl rfl rfl rfl (astep_guard (v := (GV 0 v5.length)) ((decide (v4 > t1)) == true) rfl (fun hc => emv (eV (v := (GV 0 v5.length)) rfl)))) (dcons (dst1 (Tm := [(9, (I v4)), (21, (Bo (decide (v4 > t1))))]) (L := []) (H := ⟨1, [(0, ⟨9, ((v5).flatMap cUb), true⟩)]⟩) rfl rfl rfl rfl rfl (astep_guard (v := (I v4)) ((decide (v4 > t1)) == true) rfl (fun hc => emv (eV (v := (I v4)) rfl)))) (dcons (dst1 (Tm := [(28, (cond ((decide (v4 > t1)) == true) (I v4) skipV)), (21, (Bo (decide (v4 > t1))))]) (L := []) (H := ⟨1, [(0, ⟨9, ((v5).flatMap cUb), true⟩)]⟩) rfl rfl rfl rfl rfl (astep_guard (v := (I (w64 (v4 - 1)))) ((decide (v4 > t1)) == true) rfl (fun hc => ex_bin (vx := (I v4)) (vy := (I 1)) (cdo hc) rfl subI_ok))) (dcons (dst1 (Tm := [(27, (cond ((decide (v4 > t1)) == true) (GV 0 v5.length) skipV)), (29, (cond ((decide (v4 > t1)) == true) (I (w64 (v4 - 1))) skipV)), (21, (Bo (decide (v4 > t1))))]) (L := []) (H := ⟨1, [(0, ⟨9, ((v5).flatMap cUb), true⟩)]⟩) rfl rfl rfl rfl rfl (astep_guard (v := (GP 0 ((w64 (v4 - 1)).toNat * 9) (List.flatMap cUb v5).length)) ((decide (v4 > t1)) == true) rfl (fun hc => tx_idxG (c := cUb) (xs := v5) (i := (w64 (v4 - 1))) ce_api_Uber Try.underlying54 s_37 (cdo hc) (cdo hc) rfl rfl (gd_of hc hx7)))) (dcons (dst1 (Tm := [(30, (cond ((decide (v4 > t1)) == true) (GP 0 ((w64 (v4 - 1)).toNat * 9) (List.flatMap cUb v5).length) skipV)), (21, (Bo (decide (v4 > t1))))]) (L := []) (H := ⟨1, [(0, ⟨9, ((v5).flatMap cUb), true⟩)]⟩) rfl rfl rfl rfl rfl (astep_guard (v := (Value.agg (cUb x7).toArray)) ((decide (v4 > t1)) == true) rfl (fun hc => tx_ldG (v := (Value.agg (cUb x7).toArray)) (s := 9) (cdo hc) rfl (part_elemA (off := 0) (vs := (cUb x7)) ce_api_Uber (gd_of hc hx7) Try.underlying37 rfl s_37 (by decide) (by decide) rfl)))) (dcons (dst1 (Tm := [(22, (cond ((decide (v4 > t1)) == true) (Value.func (Fn.func 48) #[] #[]) skipV)), (26, (cond ((decide (v4 > t1)) == true) (Value.agg (cUb x6).toArray) skipV)), (31, (cond ((decide (v4 > t1)) == true) (Value.agg (cUb x7).toArray) skipV)), (21, (Bo (decide (v4 > t1))))]) (L := []) (H := ⟨1, [(0, ⟨9, ((v5).flatMap cUb), true⟩)]⟩) rfl rfl rfl rfl rfl (astep_guard (v := (I x8)) ((decide (v4 > t1)) == true) rfl (fun hc => ex_call0 (vs := [(Value.agg (cUb x6).toArray), (Value.agg (cUb x7).toArray)]) (v := (I x8)) (cdo hc) en_48 (cargs (evs (cdo hc) (evs (cdo hc) evs_nil))) rfl (ok_label_Roots_2 x6 x7 x8 (gd_of hc hx8)) rfl))) (dcons (dst1 (Tm := [(32, (cond ((decide (v4 > t1)) == true) (I x8) skipV)), (21, (Bo (decide (v4 > t1))))]) (L := []) (H := ⟨1, [(0, ⟨9, ((v5).flatMap cUb), true⟩)]⟩) rfl rfl rfl rfl rfl (astep_guard (v := (Bo (decide (x8 < 0)))) ((decide (v4 > t1)) == true) rfl (fun hc => ex_bin (vx := (I x8)) (vy := (I 0)) (cdo hc) rfl lssI_ok))) (dcons (dst1 (Tm := [(21, (Bo (decide (v4 > t1)))), (33, (cond ((decide (v4 > t1)) == true) (Bo (decide (x8 < 0))) skipV))]) (L := []) (H := ⟨1, [(0, ⟨9, ((v5).flatMap cUb), true⟩)]⟩) rfl rfl rfl rfl rfl (asd rfl (ex_pick rfl pkAnd))) dnil))))))))))))))))) ⟨rfl, rfl⟩) (by kernel_rfl) (by kernel_rfl) ?_
        show AWp _ _ _ _
        rcases Bool.eq_false_or_eq_true ((decide (v4 > t1)) && (decide (x8 < 0))) with hb9 | hb9
        · rw [condT hb9] at h
          refine awp_condT (boT hb9) ?_
          refine awp_skip ?_
          show AWp _ _ _ _
          refine aws ?_
          refine awp_block ?_
          obtain ⟨x10, hx10, h⟩ := bindS h
          obtain ⟨x11, hx11, h⟩ := bindS h
          obtain ⟨x12, hx12, h⟩ := bindS h
          obtain ⟨x13, hx13, h⟩ := bindS h
          obtain ⟨x14, hx14, h⟩ := bindS h
          obtain ⟨x15, hx15, h⟩ := bindS h
          refine awp_knR [0, 1, 2, 3, 8, 9] 0 1 [(0, (GV 0 x15.length)), (1, (I t1)), (2, (I t2)), (3, (Value.func (Fn.func 48) #[] #[])), (8, (I v1)), (9, (I v4))] (st' := ⟨53, 1, [(0, (GV 0 v5.length)), (1, (I t1)), (2, (I t2)), (3, (Value.func (Fn.func 48) #[] #[])), (8, (I v1)), (9, (I v4))], [], ⟨1, [(0, ⟨9, ((x15).flatMap cUb), true⟩)]⟩⟩) (awp_draw (T := [(GV 0 v5.length), (I v4), (GV 0 v5.length), (I v4), (I (w64 (v4 - 1))), (GV 0 v5.length), (I v4), (I (w64 (v4 - 1))), (GP 0 ((w64 (v4 - 1)).toNat * 9) (List.flatMap cUb v5).length), (Value.agg (cUb x10).toArray), (GV 0 v5.length), (I v4), (GP 0 (v4.toNat * 9) (List.flatMap cUb v5).length), (Value.agg (cUb x11).toArray), (GP 0 (v4.toNat * 9) (List.flatMap cUb v5).length), undef, (GP 0 ((w64 (v4 - 1)).toNat * 9) (List.flatMap cUb x13).length), undef]) (LH := [([], ⟨1, [(0, ⟨9, ((v5).flatMap cUb), true⟩)]⟩), ([], ⟨1, [(0, ⟨9, ((x13).flatMap cUb), true⟩)]⟩), ([], ⟨1, [(0, ⟨9, ((x15).flatMap cUb), true⟩)]⟩)]) (D := [⟨[(0, none)], [], [0], false⟩, ⟨[(9, none)], [], [0], false⟩, ⟨[(0, none)], [], [0, 1], false⟩, ⟨[(9, none)], [], [0, 1], false⟩, ⟨[(40, some 3)], [3], [0, 1], false⟩, ⟨[(0, none)], [], [0], false⟩, ⟨[(9, none)], [], [0], false⟩, ⟨[(43, some 6)], [6], [0], false⟩, ⟨[(42, some 5), (44, some 7)], [5, 6, 7], [0], false⟩, ⟨[(45, some 8)], [5, 6, 7, 8], [0], false⟩, ⟨[(0, none)], [], [0], false⟩, ⟨[(9, none)], [], [0], false⟩, ⟨[(47, some 10), (48, some 11)], [10, 11], [0], false⟩, ⟨[(49, some 12)], [10, 11, 12], [0], false⟩, ⟨[(37, some 0), (38, some 1)], [0, 1, 5, 6, 7, 8, 9, 10, 11, 12, 13], [0], false⟩, ⟨[(51, some 14), (46, some 9)], [0, 1, 5, 6, 7, 8, 9, 10, 11, 12, 13, 14], [0], true⟩, ⟨[(39, some 2), (41, some 4)], [0, 1, 2, 3, 4, 5, 6, 7, 8, 9, 10, 11, 12, 13, 14, 15], [1], false⟩, ⟨[(52, some 16), (50, some 13)], [0, 1, 2, 3, 4, 5, 6, 7, 8, 9, 10, 11, 12, 13, 14, 15, 16], [1], true⟩]) (S := [15, 17]) (plan := [0, 1, 2, 3, 4, 5, 6, 7, 8, 9, 10, 11, 12, 13, 14, 15, 16, 17]) mo (by kernel_rfl) rfl rfl rfl (dcons (dst1 (Tm := [(0, (GV 0 v5.length))]) (L := []) (H := ⟨1, [(0, ⟨9, ((v5).flatMap cUb), true⟩)]⟩) rfl rfl rfl rfl rfl (asd rfl (emv (eV (v := (GV 0 v5.length)) rfl)))) (dcons (dst1 (Tm := [(9, (I v4))]) (L := []) (H := ⟨1, [(0, ⟨9, ((v5).flatMap cUb), true⟩)]⟩) rfl rfl rfl rfl rfl (asd rfl (emv (eV (v := (I v4)) rfl)))) (dcons (dstepN (by intro k hk; simp only [List.mem_cons, List.not_mem_nil, or_false] at hk; rcases hk with rfl | rfl <;> exact ⟨[(0, (GV 0 v5.length))], _, _, _, _, _, rfl, rfl, rfl, rfl, asd rfl (emv (eV (v := (GV 0 v5.length)) rfl))⟩)) (dcons (dstepN (by intro k hk; simp only [List.mem_cons, List.not_mem_nil, or_false] at hk; rcases hk with rfl | rfl <;> exact ⟨[(9, (I v4))], _, _, _, _, _, rfl, rfl, rfl, rfl, asd rfl (emv (eV (v := (I v4)) rfl))⟩)) (dcons (dstepN (by intro k hk; simp only [List.mem_cons, List.not_mem_nil, or_false] at hk; rcases hk with rfl | rfl <;> exact ⟨[(40, (I v4))], _, _, _, _, _, rfl, rfl, rfl, rfl, asd rfl (ex_bin (vx := (I v4)) (vy := (I 1)) rfl rfl subI_ok)⟩)) (dcons (dst1 (Tm := [(0, (GV 0 v5.length))]) (L := []) (H := ⟨1, [(0, ⟨9, ((v5).flatMap cUb), true⟩)]⟩) rfl rfl rfl rfl rfl (asd rfl (emv (eV (v := (GV 0 v5.length)) rfl)))) (dcons (dst1 (Tm := [(9, (I v4))]) (L := []) (H := ⟨1, [(0, ⟨9, ((v5).flatMap cUb), true⟩)]⟩) rfl rfl rfl rfl rfl (asd rfl (emv (eV (v := (I v4)) rfl)))) (dcons (dst1 (Tm := [(43, (I v4))]) (L := []) (H := ⟨1, [(0, ⟨9, ((v5).flatMap cUb), true⟩)]⟩) rfl rfl rfl rfl rfl (asd rfl (ex_bin (vx := (I v4)) (vy := (I 1)) rfl rfl subI_ok))) (dcons (dst1 (Tm := [(42, (GV 0 v5.length)), (44, (I (w64 (v4 - 1))))]) (L := []) (H := ⟨1, [(0, ⟨9, ((v5).flatMap cUb), true⟩)]⟩) rfl rfl rfl rfl rfl (asd rfl (tx_idxG (c := cUb) (xs := v5) (i := (w64 (v4 - 1))) ce_api_Uber Try.underlying54 s_37 rfl rfl rfl rfl hx10))) (dcons (dst1 (Tm := [(45, (GP 0 ((w64 (v4 - 1)).toNat * 9) (List.flatMap cUb v5).length))]) (L := []) (H := ⟨1, [(0, ⟨9, ((v5).flatMap cUb), true⟩)]⟩) rfl rfl rfl rfl rfl (asd rfl (tx_ldG (v := (Value.agg (cUb x10).toArray)) (s := 9) rfl rfl (part_elemA (off := 0) (vs := (cUb x10)) ce_api_Uber hx10 Try.underlying37 rfl s_37 (by decide) (by decide) rfl)))) (dcons (dst1 (Tm := [(0, (GV 0 v5.length))]) (L := []) (H := ⟨1, [(0, ⟨9, ((v5).flatMap cUb), true⟩)]⟩) rfl rfl rfl rfl rfl (asd rfl (emv (eV (v := (GV 0 v5.length)) rfl)))) (dcons (dst1 (Tm := [(9, (I v4))]) (L := []) (H := ⟨1, [(0, ⟨9, ((v5).flatMap cUb), true⟩)]⟩) rfl rfl rfl rfl rfl (asd rfl (emv (eV (v := (I v4)) rfl)))) (dcons (dst1 (Tm := [(47, (GV 0 v5.length)), (48, (I v4))]) (L := []) (H := ⟨1, [(0, ⟨9, ((v5).flatMap cUb), true⟩)]⟩) rfl rfl rfl rfl rfl (asd rfl (tx_idxG (c := cUb) (xs := v5) (i := v4) ce_api_Uber Try.underlying54 s_37 rfl rfl rfl rfl hx11))) (dcons (dst1 (Tm := [(49, (GP 0 (v4.toNat * 9) (List.flatMap cUb v5).length))]) (L := []) (H := ⟨1, [(0, ⟨9, ((v5).flatMap cUb), true⟩)]⟩) rfl rfl rfl rfl rfl (asd rfl (tx_ldG (v := (Value.agg (cUb x11).toArray)) (s := 9) rfl rfl (part_elemA (off := 0) (vs := (cUb x11)) ce_api_Uber hx11 Try.underlying37 rfl s_37 (by decide) (by decide) rfl)))) (dcons (dst1 (Tm := [(37, (GV 0 v5.length)), (38, (I v4))]) (L := []) (H := ⟨1, [(0, ⟨9, ((v5).flatMap cUb), true⟩)]⟩) rfl rfl rfl rfl rfl (asd rfl (tx_idxG (c := cUb) (xs := v5) (i := v4) ce_api_Uber Try.underlying54 s_37 rfl rfl rfl rfl hx12))) (dcons (dst1 (Tm := [(51, (GP 0 (v4.toNat * 9) (List.flatMap cUb v5).length)), (46, (Value.agg (cUb x10).toArray))]) (L := []) (H := ⟨1, [(0, ⟨9, ((v5).flatMap cUb), true⟩)]⟩) rfl rfl rfl rfl rfl (asd rfl (tx_stG (c := cUb) (xs := v5) (e := x10) (H' := ⟨1, [(0, ⟨9, ((x13).flatMap cUb), true⟩)]⟩) ce_api_Uber s_37 rfl (eV (v := (Value.agg (cUb x10).toArray)) rfl) rfl rfl hx13 rfl))) (dcons (dst1 (Tm := [(39, (GV 0 v5.length)), (41, (I (w64 (v4 - 1))))]) (L := []) (H := ⟨1, [(0, ⟨9, ((x13).flatMap cUb), true⟩)]⟩) rfl rfl rfl rfl rfl (asd rfl (tx_idxG (c := cUb) (xs := x13) (i := (w64 (v4 - 1))) ce_api_Uber Try.underlying54 s_37 rfl rfl rfl (setI_len hx13) hx14))) (dcons (dst1 (Tm := [(52, (GP 0 ((w64 (v4 - 1)).toNat * 9) (List.flatMap cUb x13).length)), (50, (Value.agg (cUb x11).toArray))]) (L := []) (H := ⟨1, [(0, ⟨9, ((x13).flatMap cUb), true⟩)]⟩) rfl rfl rfl rfl rfl (asd rfl (tx_stG (c := cUb) (xs := x13) (e := x11) (H' := ⟨1, [(0, ⟨9, ((x15).flatMap cUb), true⟩)]⟩) ce_api_Uber s_37 rfl (eV (v := (Value.agg (cUb x11).toArray)) rfl) rfl rfl hx15 rfl))) dnil)))))))))))))))))) ⟨rfl, rfl⟩) (by kernel_rfl) (by kernel_rfl) (ReT.gv rfl (Eq.trans (setI_len hx13) (setI_len hx15)) (ReT.keep (v := (I t1)) rfl (ReT.keep (v := (I t2)) rfl (ReT.keep (v := (Value.func (Fn.func 48) #[] #[])) rfl (ReT.keep (v := (I v1)) rfl (ReT.keep (v := (I v4)) rfl ReT.nil)))))) ?_
          show AWp _ _ _ _
          refine awr ?_
          refine ado rfl rfl rfl (emv (eV (v := (I v4)) rfl)) ?_
          refine ado rfl rfl rfl (ex_bin (vx := (I v4)) (vy := (I 1)) rfl rfl subI_ok) ?_
          refine ado rfl rfl rfl (eas (eV (v := (I (w64 (v4 - 1)))) rfl)) ?_
          refine ake [0, 1, 2, 3, 8, 9] 0 1 (st' := ⟨53, 1, [(0, (GV 0 x15.length)), (1, (I t1)), (2, (I t2)), (3, (Value.func (Fn.func 48) #[] #[])), (8, (I v1)), (9, (I (w64 (v4 - 1))))], [], ⟨1, [(0, ⟨9, ((x15).flatMap cUb), true⟩)]⟩⟩) (by kernel_rfl) (by kernel_rfl) ?_
          exact Exists.intro n2 (And.intro (Nat.lt_succ_self _) (Exists.intro (w64 (v4 - 1)) (Exists.intro x15 (And.intro rfl h))))
        · rw [condF hb9] at h
          refine awp_condF (boF hb9) ?_
          refine awp_exit ?_
          show AWp _ _ _ _
          refine awr ?_
          refine ado rfl rfl rfl (emv (eV (v := (I v1)) rfl)) ?_
          refine ado rfl rfl rfl (ex_bin (vx := (I v1)) (vy := (I 1)) rfl rfl addI_ok) ?_
          refine ado rfl rfl rfl (eas (eV (v := (I (w64 (v1 + 1)))) rfl)) ?_
          refine ake [0, 1, 2, 3, 8] 0 1 (st' := ⟨53, 1, [(0, (GV 0 v5.length)), (1, (I t1)), (2, (I t2)), (3, (Value.func (Fn.func 48) #[] #[])), (8, (I (w64 (v1 + 1))))], [], ⟨1, [(0, ⟨9, ((v5).flatMap cUb), true⟩)]⟩⟩) (by kernel_rfl) (by kernel_rfl) ?_
          exact Exists.intro n1 (And.intro (Nat.lt_succ_self _) (Exists.intro (w64 (v1 + 1)) (Exists.intro v5 (And.intro rfl h))))
    · rw [condF hb3] at h
      refine awp_condF (boF hb3) ?_
      refine awp_exit ?_
      cases h
      exact And.intro (aresN rfl L2.nil rfl) rfl

end Go.Proofs
