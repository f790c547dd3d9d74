/- Pure models of functions of the program, and that its code does what they say: palimpref1 Of, palimplaw2 SumAll, palimplaw2 SumNoughts, palimplaw2 SumForms. Written by a program. -/
import Derived.Test.YthndajeemdfebaaR10
import Derived.Test.YthndajeemdfebaaR1B
set_option maxRecDepth 20000
set_option maxHeartbeats 4000000
namespace Go.Proofs
open Go Go.Fhl
set_option linter.unusedVariables false
set_option linter.unusedSimpArgs false
noncomputable def M_ref1_Of (t0 : Str) : Option (A4 UInt32) :=
  Option.bind (M_ref1_Sum ([t0] : List Str)) fun (x1 : (A4 UInt32)) => some x1
theorem ok_ref1_Of (t0 : Str) (r : (A4 UInt32)) (h : M_ref1_Of t0 = some r) : FFn Try.prog 12 [(S t0)] (Value.agg ((cA4 c32) r).toArray) := by
  refine FFn.of_body (n := 6) Try.func12 rfl Try.ntmps12 rfl rfl rfl rfl ?_
  show AWp _ _ _ ⟨6, 0, [(0, (S t0))], [], ⟨0, []⟩⟩
  unfold M_ref1_Of at h
  refine awp_seq ?_
  refine awp_region ?_
  refine arun_do rfl rfl rfl (ex_alloc (k := 0) (zs := ((cA4 c32) (A4.mk 0 0 0 0))) (L' := [((cA4 c32) (A4.mk 0 0 0 0))]) z_25 rfl rfl rfl rfl) ?_
  refine arun_keepE [0, 2] 1 0 (st' := ⟨6, 0, [(0, (S t0)), (2, (LP 0 0))], [((cA4 c32) (A4.mk 0 0 0 0))], ⟨0, []⟩⟩) (by kernel_rfl) (by kernel_rfl) ?_
  show AWp _ _ _ _
  refine awp_seq ?_
  refine awp_region ?_
  refine arun_do rfl rfl rfl (ex_move (eV (v := (S t0)) rfl)) ?_
  refine arun_do rfl rfl rfl (ex_buildSliceD (qs := [(0, (S t0))]) (cells := (([t0] : List Str).flatMap cS)) Try.underlying28 s_9 (by decide) (evp rfl evp_nil) rfl (by kernel_rfl) (by kernel_rfl) (by kernel_rfl)) ?_
  obtain ⟨x1, hx1, h⟩ := bindS h
  refine arun_do rfl rfl rfl (ex_call0 (vs := [(SL 1 cS ([t0] : List Str))]) (v := (Value.agg ((cA4 c32) x1).toArray)) rfl en_11 (cargs (evs rfl evs_nil)) rfl (ok_ref1_Sum ([t0] : List Str) x1 hx1) rfl) ?_
  refine arun_do0 rfl rfl (ex_storeL (vy := (Value.agg ((cA4 c32) x1).toArray)) (cs := ((cA4 c32) (A4.mk 0 0 0 0))) (vs := ((cA4 c32) x1)) (L' := [((cA4 c32) x1)]) rfl (eV (v := (Value.agg ((cA4 c32) x1).toArray)) rfl) rfl s_25 rfl (Nat.le_of_ble_eq_true rfl) (by kernel_rfl)) ?_
  refine arun_keepE [2] 1 0 (st' := ⟨6, 0, [(2, (LP 0 0))], [((cA4 c32) x1)], ⟨0, []⟩⟩) (by kernel_rfl) (by kernel_rfl) ?_
  show AWp _ _ _ _
  refine awp_ret ?_
  cases h
  exact ares1 (rcellL rfl rfl rfl (partA Try.underlying25 rfl s_25 (by decide) (Nat.le_of_ble_eq_true rfl) rfl))

noncomputable def M_law2_SumAll (t0 : Str) (t1 : Str) (t2 : Str) : Option Bool :=
  Option.bind (M_law2_begun) fun (x1 : Bool) => cond (!x1) (some false) (cond (((decide ((t0.length : Int) > 100)) || (decide ((t1.length : Int) > 100))) || (decide ((t2.length : Int) > 100))) (some true) (Option.bind (M_sum_Of ([t0, t1, t2] : List Str)) fun (x4 : (A4 UInt32)) => Option.bind (M_ref1_Sum ([t0, t1, t2] : List Str)) fun (x5 : (A4 UInt32)) => Option.bind (gd ((decide (x4 = x5)) == true) (M_sum_Of ([t0] : List Str))) fun (x6 : (A4 UInt32)) => Option.bind (gd ((decide (x4 = x5)) == true) (M_ref1_Of t0)) fun (x7 : (A4 UInt32)) => Option.bind (gd (((decide (x4 = x5)) && (decide (x6 = x7))) == true) (M_sum_Of ([t0, [], t1] : List Str))) fun (x8 : (A4 UInt32)) => Option.bind (gd (((decide (x4 = x5)) && (decide (x6 = x7))) == true) (addS t0 t1)) fun (x9 : Str) => Option.bind (gd (((decide (x4 = x5)) && (decide (x6 = x7))) == true) (M_sum_Of ([x9] : List Str))) fun (x10 : (A4 UInt32)) => some (((decide (x4 = x5)) && (decide (x6 = x7))) && (decide (x8 = x10)))))
theorem ok_law2_SumAll (t0 : Str) (t1 : Str) (t2 : Str) (r : Bool) (h : M_law2_SumAll t0 t1 t2 = some r) : FFn Try.prog 3 [(S t0), (S t1), (S t2)] (Bo r) := by
  refine FFn.of_body (n := 53) Try.func3 rfl Try.ntmps3 rfl rfl rfl rfl ?_
  show AWp _ _ _ ⟨53, 0, [(0, (S t0)), (1, (S t1)), (2, (S t2))], [], ⟨0, []⟩⟩
  unfold M_law2_SumAll at h
  refine awp_seq ?_
  refine awp_region ?_
  refine arun_do rfl rfl rfl (ex_assign (eV (v := (Bo false)) rfl)) ?_
  refine arun_keepE [0, 1, 2] 0 0 (st' := ⟨53, 0, [(0, (S t0)), (1, (S t1)), (2, (S t2))], [], ⟨0, []⟩⟩) (by kernel_rfl) (by kernel_rfl) ?_
  show AWp _ _ _ _
  refine awp_seq ?_
  refine awp_seq ?_
  refine awp_region ?_
  obtain ⟨x1, hx1, h⟩ := bindS h
  refine arun_do rfl rfl rfl (ex_call0 (vs := []) (v := (Bo x1)) rfl en_9 (cargs evs_nil) rfl (ok_law2_begun  x1 hx1) rfl) ?_
  refine arun_do rfl rfl rfl (ex_un (vx := (Bo x1)) rfl notB_ok) ?_
  refine arun_keepE [0, 1, 2, 8] 0 0 (st' := ⟨53, 0, [(0, (S t0)), (1, (S t1)), (2, (S t2)), (8, (Bo (!x1)))], [], ⟨0, []⟩⟩) (by kernel_rfl) (by kernel_rfl) ?_
  show AWp _ _ _ _
  rcases Bool.eq_false_or_eq_true (!x1) with hb2 | hb2
  · rw [condT hb2] at h
    refine awp_condT (boT hb2) ?_
    refine awp_seq ?_
    refine awp_region ?_
    refine arun_do rfl rfl rfl (ex_assign (eV (v := (Bo false)) rfl)) ?_
    refine arun_keepE [6] 0 0 (st' := ⟨53, 0, [(6, (Bo false))], [], ⟨0, []⟩⟩) (by kernel_rfl) (by kernel_rfl) ?_
    show AWp _ _ _ _
    refine awp_ret ?_
    cases h
    exact ares1 (rtmp rfl (eV rfl))
  · rw [condF hb2] at h
    refine awp_condF (boF hb2) ?_
    refine awp_skip ?_
    show AWp _ _ _ _
    refine awp_seq ?_
    refine awp_seq ?_
    refine awp_region ?_
    refine arun_do rfl rfl rfl (ex_move (eV (v := (S t0)) rfl)) ?_
    refine arun_do rfl rfl rfl (tx_lenS Try.underlying9 rfl) ?_
    refine arun_do rfl rfl rfl (ex_bin (vx := (I (t0.length : Int))) (vy := (I 100)) rfl rfl gtrI_ok) ?_
    refine arun_do rfl rfl rfl (ex_move (eV (v := (Bo (decide ((t0.length : Int) > 100)))) rfl)) ?_
    refine arun_guard (v := (S t1)) ((decide ((t0.length : Int) > 100)) == false) rfl rfl rfl (fun hc => ex_move (eV (v := (S t1)) rfl)) ?_
    refine arun_guard (v := (I (t1.length : Int))) ((decide ((t0.length : Int) > 100)) == false) rfl rfl rfl (fun hc => tx_lenS Try.underlying9 (cond_of hc)) ?_
    refine arun_guard (v := (Bo (decide ((t1.length : Int) > 100)))) ((decide ((t0.length : Int) > 100)) == false) rfl rfl rfl (fun hc => ex_bin (vx := (I (t1.length : Int))) (vy := (I 100)) (cond_of hc) rfl gtrI_ok) ?_
    refine arun_do rfl rfl rfl (ex_pick rfl pkOr) ?_
    refine arun_do rfl rfl rfl (ex_move (eV (v := (Bo ((decide ((t0.length : Int) > 100)) || (decide ((t1.length : Int) > 100))))) rfl)) ?_
    refine arun_guard (v := (S t2)) (((decide ((t0.length : Int) > 100)) || (decide ((t1.length : Int) > 100))) == false) rfl rfl rfl (fun hc => ex_move (eV (v := (S t2)) rfl)) ?_
    refine arun_guard (v := (I (t2.length : Int))) (((decide ((t0.length : Int) > 100)) || (decide ((t1.length : Int) > 100))) == false) rfl rfl rfl (fun hc => tx_lenS Try.underlying9 (cond_of hc)) ?_
    refine arun_guard (v := (Bo (decide ((t2.length : Int) > 100)))) (((decide ((t0.length : Int) > 100)) || (decide ((t1.length : Int) > 100))) == false) rfl rfl rfl (fun hc => ex_bin (vx := (I (t2.length : Int))) (vy := (I 100)) (cond_of hc) rfl gtrI_ok) ?_
    refine arun_do rfl rfl rfl (ex_pick rfl pkOr) ?_
    refine arun_keepE [0, 1, 2, 21] 0 0 (st' := ⟨53, 0, [(0, (S t0)), (1, (S t1)), (2, (S t2)), (21, (Bo (((decide ((t0.length : Int) > 100)) || (decide ((t1.length : Int) > 100))) || (decide ((t2.length : Int) > 100)))))], [], ⟨0, []⟩⟩) (by kernel_rfl) (by kernel_rfl) ?_
    show AWp _ _ _ _
    rcases Bool.eq_false_or_eq_true (((decide ((t0.length : Int) > 100)) || (decide ((t1.length : Int) > 100))) || (decide ((t2.length : Int) > 100))) with hb3 | hb3
    · rw [condT hb3] at h
      refine awp_condT (boT hb3) ?_
      refine awp_seq ?_
      refine awp_region ?_
      refine arun_do rfl rfl rfl (ex_assign (eV (v := (Bo true)) rfl)) ?_
      refine arun_keepE [6] 0 0 (st' := ⟨53, 0, [(6, (Bo true))], [], ⟨0, []⟩⟩) (by kernel_rfl) (by kernel_rfl) ?_
      show AWp _ _ _ _
      refine awp_ret ?_
      cases h
      exact ares1 (rtmp rfl (eV rfl))
    · rw [condF hb3] at h
      refine awp_condF (boF hb3) ?_
      refine awp_skip ?_
      show AWp _ _ _ _
      refine awp_seq ?_
      refine awp_region ?_
      refine arun_do rfl rfl rfl (ex_move (eV (v := (S t0)) rfl)) ?_
      refine arun_do rfl rfl rfl (ex_move (eV (v := (S t1)) rfl)) ?_
      refine arun_do rfl rfl rfl (ex_move (eV (v := (S t2)) rfl)) ?_
      refine arun_do rfl rfl rfl (ex_buildSliceD (qs := [(0, (S t0)), (1, (S t1)), (2, (S t2))]) (cells := (([t0, t1, t2] : List Str).flatMap cS)) Try.underlying28 s_9 (by decide) (evp rfl (evp rfl (evp rfl evp_nil))) rfl (by kernel_rfl) (by kernel_rfl) (by kernel_rfl)) ?_
      obtain ⟨x4, hx4, h⟩ := bindS h
      refine arun_do rfl rfl rfl (ex_call0 (vs := [(SL 1 cS ([t0, t1, t2] : List Str))]) (v := (Value.agg ((cA4 c32) x4).toArray)) rfl en_10 (cargs (evs rfl evs_nil)) rfl (ok_sum_Of ([t0, t1, t2] : List Str) x4 hx4) rfl) ?_
      refine arun_do rfl rfl rfl (ex_move (eV (v := (S t0)) rfl)) ?_
      refine arun_do rfl rfl rfl (ex_move (eV (v := (S t1)) rfl)) ?_
      refine arun_do rfl rfl rfl (ex_move (eV (v := (S t2)) rfl)) ?_
      refine arun_do rfl rfl rfl (ex_buildSliceD (qs := [(0, (S t0)), (1, (S t1)), (2, (S t2))]) (cells := (([t0, t1, t2] : List Str).flatMap cS)) Try.underlying28 s_9 (by decide) (evp rfl (evp rfl (evp rfl evp_nil))) rfl (by kernel_rfl) (by kernel_rfl) (by kernel_rfl)) ?_
      obtain ⟨x5, hx5, h⟩ := bindS h
      refine arun_do rfl rfl rfl (ex_call0 (vs := [(SL 1 cS ([t0, t1, t2] : List Str))]) (v := (Value.agg ((cA4 c32) x5).toArray)) rfl en_11 (cargs (evs rfl evs_nil)) rfl (ok_ref1_Sum ([t0, t1, t2] : List Str) x5 hx5) rfl) ?_
      refine arun_do rfl rfl rfl (ex_bin (vx := (Value.agg ((cA4 c32) x4).toArray)) (vy := (Value.agg ((cA4 c32) x5).toArray)) rfl rfl eql_25) ?_
      refine arun_do rfl rfl rfl (ex_move (eV (v := (Bo (decide (x4 = x5)))) rfl)) ?_
      refine arun_guard (v := (S t0)) ((decide (x4 = x5)) == true) rfl rfl rfl (fun hc => ex_move (eV (v := (S t0)) rfl)) ?_
      refine arun_guard (v := (SL 1 cS ([t0] : List Str))) ((decide (x4 = x5)) == true) rfl rfl rfl (fun hc => ex_buildSliceD (qs := [(0, (S t0))]) (cells := (([t0] : List Str).flatMap cS)) Try.underlying28 s_9 (by decide) (evp (cond_of hc) evp_nil) rfl (by kernel_rfl) (by kernel_rfl) (by kernel_rfl)) ?_
      obtain ⟨x6, hx6, h⟩ := bindS h
      refine arun_guard (v := (Value.agg ((cA4 c32) x6).toArray)) ((decide (x4 = x5)) == true) rfl rfl rfl (fun hc => ex_call0 (vs := [(SL 1 cS ([t0] : List Str))]) (v := (Value.agg ((cA4 c32) x6).toArray)) rfl en_10 (cargs (evs (cond_of hc) evs_nil)) rfl (ok_sum_Of ([t0] : List Str) x6 (gd_of hc hx6)) rfl) ?_
      refine arun_guard (v := (S t0)) ((decide (x4 = x5)) == true) rfl rfl rfl (fun hc => ex_move (eV (v := (S t0)) rfl)) ?_
      obtain ⟨x7, hx7, h⟩ := bindS h
      refine arun_guard (v := (Value.agg ((cA4 c32) x7).toArray)) ((decide (x4 = x5)) == true) rfl rfl rfl (fun hc => ex_call0 (vs := [(S t0)]) (v := (Value.agg ((cA4 c32) x7).toArray)) rfl en_12 (cargs (evs (cond_of hc) evs_nil)) rfl (ok_ref1_Of t0 x7 (gd_of hc hx7)) rfl) ?_
      refine arun_guard (v := (Bo (decide (x6 = x7)))) ((decide (x4 = x5)) == true) rfl rfl rfl (fun hc => ex_bin (vx := (Value.agg ((cA4 c32) x6).toArray)) (vy := (Value.agg ((cA4 c32) x7).toArray)) (cond_of hc) (cond_of hc) eql_25) ?_
      refine arun_do rfl rfl rfl (ex_pick rfl pkAnd) ?_
      refine arun_do rfl rfl rfl (ex_move (eV (v := (Bo ((decide (x4 = x5)) && (decide (x6 = x7))))) rfl)) ?_
      refine arun_guard (v := (S t0)) (((decide (x4 = x5)) && (decide (x6 = x7))) == true) rfl rfl rfl (fun hc => ex_move (eV (v := (S t0)) rfl)) ?_
      refine arun_guard (v := (S t1)) (((decide (x4 = x5)) && (decide (x6 = x7))) == true) rfl rfl rfl (fun hc => ex_move (eV (v := (S t1)) rfl)) ?_
      refine arun_guard (v := (SL 1 cS ([t0, [], t1] : List Str))) (((decide (x4 = x5)) && (decide (x6 = x7))) == true) rfl rfl rfl (fun hc => ex_buildSliceD (qs := [(0, (S t0)), (1, (S [])), (2, (S t1))]) (cells := (([t0, [], t1] : List Str).flatMap cS)) Try.underlying28 s_9 (by decide) (evp (cond_of hc) (evp rfl (evp (cond_of hc) evp_nil))) rfl (by kernel_rfl) (by kernel_rfl) (by kernel_rfl)) ?_
      obtain ⟨x8, hx8, h⟩ := bindS h
      refine arun_guard (v := (Value.agg ((cA4 c32) x8).toArray)) (((decide (x4 = x5)) && (decide (x6 = x7))) == true) rfl rfl rfl (fun hc => ex_call0 (vs := [(SL 1 cS ([t0, [], t1] : List Str))]) (v := (Value.agg ((cA4 c32) x8).toArray)) rfl en_10 (cargs (evs (cond_of hc) evs_nil)) rfl (ok_sum_Of ([t0, [], t1] : List Str) x8 (gd_of hc hx8)) rfl) ?_
      refine arun_guard (v := (S t0)) (((decide (x4 = x5)) && (decide (x6 = x7))) == true) rfl rfl rfl (fun hc => ex_move (eV (v := (S t0)) rfl)) ?_
      refine arun_guard (v := (S t1)) (((decide (x4 = x5)) && (decide (x6 = x7))) == true) rfl rfl rfl (fun hc => ex_move (eV (v := (S t1)) rfl)) ?_
      obtain ⟨x9, hx9, h⟩ := bindS h
      refine arun_guard (v := (S x9)) (((decide (x4 = x5)) && (decide (x6 = x7))) == true) rfl rfl rfl (fun hc => ex_bin (vx := (S t0)) (vy := (S t1)) (cond_of hc) (cond_of hc) (addS_ok (gd_of hc hx9))) ?_
      refine arun_guard (v := (SL 1 cS ([x9] : List Str))) (((decide (x4 = x5)) && (decide (x6 = x7))) == true) rfl rfl rfl (fun hc => ex_buildSliceD (qs := [(0, (S x9))]) (cells := (([x9] : List Str).flatMap cS)) Try.underlying28 s_9 (by decide) (evp (cond_of hc) evp_nil) rfl (by kernel_rfl) (by kernel_rfl) (by kernel_rfl)) ?_
      obtain ⟨x10, hx10, h⟩ := bindS h
      refine arun_guard (v := (Value.agg ((cA4 c32) x10).toArray)) (((decide (x4 = x5)) && (decide (x6 = x7))) == true) rfl rfl rfl (fun hc => ex_call0 (vs := [(SL 1 cS ([x9] : List Str))]) (v := (Value.agg ((cA4 c32) x10).toArray)) rfl en_10 (cargs (evs (cond_of hc) evs_nil)) rfl (ok_sum_Of ([x9] : List Str) x10 (gd_of hc hx10)) rfl) ?_
      refine arun_guard (v := (Bo (decide (x8 = x10)))) (((decide (x4 = x5)) && (decide (x6 = x7))) == true) rfl rfl rfl (fun hc => ex_bin (vx := (Value.agg ((cA4 c32) x8).toArray)) (vy := (Value.agg ((cA4 c32) x10).toArray)) (cond_of hc) (cond_of hc) eql_25) ?_
      refine arun_do rfl rfl rfl (ex_pick rfl pkAnd) ?_
      refine arun_do rfl rfl rfl (ex_assign (eV (v := (Bo (((decide (x4 = x5)) && (decide (x6 = x7))) && (decide (x8 = x10))))) rfl)) ?_
      refine arun_keepE [6] 0 0 (st' := ⟨53, 0, [(6, (Bo (((decide (x4 = x5)) && (decide (x6 = x7))) && (decide (x8 = x10)))))], [], ⟨0, []⟩⟩) (by kernel_rfl) (by kernel_rfl) ?_
      show AWp _ _ _ _
      refine awp_ret ?_
      cases h
      exact ares1 (rtmp rfl (eV rfl))

noncomputable def M_law2_SumNoughts (t0 : Str) (t1 : UInt8) : Option Bool :=
  Option.bind (M_law2_begun) fun (x1 : Bool) => cond (!x1) (some false) (cond (decide ((t0.length : Int) > 60)) (some true) (Option.bind (rem8 t1 9) fun (x4 : UInt8) => Option.bind (makeL 1 (w64 (4 * (x4.toNat : Int))) 0) fun (x5 : List UInt8) => Option.bind (remI (t0.length : Int) 4) fun (x6 : Int) => Option.bind (remI (w64 (4 - x6)) 4) fun (x7 : Int) => Option.bind (makeL 1 x7 0) fun (x8 : List UInt8) => Option.bind (M_sum_Of ([x5, t0] : List Str)) fun (x9 : (A4 UInt32)) => Option.bind (M_sum_Of ([t0] : List Str)) fun (x10 : (A4 UInt32)) => Option.bind (gd ((decide (x9 = x10)) == true) (M_sum_Of ([t0, x8] : List Str))) fun (x11 : (A4 UInt32)) => Option.bind (gd ((decide (x9 = x10)) == true) (M_sum_Of ([t0] : List Str))) fun (x12 : (A4 UInt32)) => some ((decide (x9 = x10)) && (decide (x11 = x12)))))
theorem ok_law2_SumNoughts (t0 : Str) (t1 : UInt8) (r : Bool) (h : M_law2_SumNoughts t0 t1 = some r) : FFn Try.prog 5 [(S t0), (U8 t1)] (Bo r) := by
  refine FFn.of_body (n := 43) Try.func5 rfl Try.ntmps5 rfl rfl rfl rfl ?_
  show AWp _ _ _ ⟨43, 0, [(0, (S t0)), (1, (U8 t1))], [], ⟨0, []⟩⟩
  unfold M_law2_SumNoughts at h
  refine awp_seq ?_
  refine awp_region ?_
  refine arun_do rfl rfl rfl (ex_assign (eV (v := (Bo false)) rfl)) ?_
  refine arun_keepE [0, 1] 0 0 (st' := ⟨43, 0, [(0, (S t0)), (1, (U8 t1))], [], ⟨0, []⟩⟩) (by kernel_rfl) (by kernel_rfl) ?_
  show AWp _ _ _ _
  refine awp_seq ?_
  refine awp_seq ?_
  refine awp_region ?_
  obtain ⟨x1, hx1, h⟩ := bindS h
  refine arun_do rfl rfl rfl (ex_call0 (vs := []) (v := (Bo x1)) rfl en_9 (cargs evs_nil) rfl (ok_law2_begun  x1 hx1) rfl) ?_
  refine arun_do rfl rfl rfl (ex_un (vx := (Bo x1)) rfl notB_ok) ?_
  refine arun_keepE [0, 1, 8] 0 0 (st' := ⟨43, 0, [(0, (S t0)), (1, (U8 t1)), (8, (Bo (!x1)))], [], ⟨0, []⟩⟩) (by kernel_rfl) (by kernel_rfl) ?_
  show AWp _ _ _ _
  rcases Bool.eq_false_or_eq_true (!x1) with hb2 | hb2
  · rw [condT hb2] at h
    refine awp_condT (boT hb2) ?_
    refine awp_seq ?_
    refine awp_region ?_
    refine arun_do rfl rfl rfl (ex_assign (eV (v := (Bo false)) rfl)) ?_
    refine arun_keepE [4] 0 0 (st' := ⟨43, 0, [(4, (Bo false))], [], ⟨0, []⟩⟩) (by kernel_rfl) (by kernel_rfl) ?_
    show AWp _ _ _ _
    refine awp_ret ?_
    cases h
    exact ares1 (rtmp rfl (eV rfl))
  · rw [condF hb2] at h
    refine awp_condF (boF hb2) ?_
    refine awp_skip ?_
    show AWp _ _ _ _
    refine awp_seq ?_
    refine awp_seq ?_
    refine awp_region ?_
    refine arun_do rfl rfl rfl (ex_move (eV (v := (S t0)) rfl)) ?_
    refine arun_do rfl rfl rfl (tx_lenS Try.underlying9 rfl) ?_
    refine arun_do rfl rfl rfl (ex_bin (vx := (I (t0.length : Int))) (vy := (I 60)) rfl rfl gtrI_ok) ?_
    refine arun_keepE [0, 1, 11] 0 0 (st' := ⟨43, 0, [(0, (S t0)), (1, (U8 t1)), (11, (Bo (decide ((t0.length : Int) > 60))))], [], ⟨0, []⟩⟩) (by kernel_rfl) (by kernel_rfl) ?_
    show AWp _ _ _ _
    rcases Bool.eq_false_or_eq_true (decide ((t0.length : Int) > 60)) with hb3 | hb3
    · rw [condT hb3] at h
      refine awp_condT (boT hb3) ?_
      refine awp_seq ?_
      refine awp_region ?_
      refine arun_do rfl rfl rfl (ex_assign (eV (v := (Bo true)) rfl)) ?_
      refine arun_keepE [4] 0 0 (st' := ⟨43, 0, [(4, (Bo true))], [], ⟨0, []⟩⟩) (by kernel_rfl) (by kernel_rfl) ?_
      show AWp _ _ _ _
      refine awp_ret ?_
      cases h
      exact ares1 (rtmp rfl (eV rfl))
    · rw [condF hb3] at h
      refine awp_condF (boF hb3) ?_
      refine awp_skip ?_
      show AWp _ _ _ _
      refine awp_seq ?_
      refine awp_region ?_
      refine arun_do rfl rfl rfl (ex_move (eV (v := (U8 t1)) rfl)) ?_
      obtain ⟨x4, hx4, h⟩ := bindS h
      refine arun_do rfl rfl rfl (ex_bin (vx := (U8 t1)) (vy := (U8 9)) rfl rfl (rem8_ok hx4)) ?_
      refine arun_do rfl rfl rfl (tx_8_64 Try.underlying5 Try.underlying3 rfl) ?_
      refine arun_do rfl rfl rfl (ex_bin (vx := (I 4)) (vy := (I (x4.toNat : Int))) rfl rfl mulI_ok) ?_
      obtain ⟨x5, hx5, h⟩ := bindS h
      refine arun_do rfl rfl rfl (tx_makeD (c := c8) (e := 0) ce8 Try.underlying31 s_5 b_5 z_5 rfl rfl rfl rfl hx5) ?_
      refine arun_do rfl rfl rfl (tx_bsD (bs := x5) Try.underlying31 Try.underlying9 Try.underlying5 rfl) ?_
      refine arun_do rfl rfl rfl (ex_assign (eV (v := (S x5)) rfl)) ?_
      refine arun_keepE [0, 5] 0 0 (st' := ⟨43, 0, [(0, (S t0)), (5, (S x5))], [], ⟨0, []⟩⟩) (by kernel_rfl) (by kernel_rfl) ?_
      show AWp _ _ _ _
      refine awp_seq ?_
      refine awp_region ?_
      refine arun_do rfl rfl rfl (ex_move (eV (v := (S t0)) rfl)) ?_
      refine arun_do rfl rfl rfl (tx_lenS Try.underlying9 rfl) ?_
      obtain ⟨x6, hx6, h⟩ := bindS h
      refine arun_do rfl rfl rfl (ex_bin (vx := (I (t0.length : Int))) (vy := (I 4)) rfl rfl (remI_ok hx6)) ?_
      refine arun_do rfl rfl rfl (ex_bin (vx := (I 4)) (vy := (I x6)) rfl rfl subI_ok) ?_
      obtain ⟨x7, hx7, h⟩ := bindS h
      refine arun_do rfl rfl rfl (ex_bin (vx := (I (w64 (4 - x6)))) (vy := (I 4)) rfl rfl (remI_ok hx7)) ?_
      obtain ⟨x8, hx8, h⟩ := bindS h
      refine arun_do rfl rfl rfl (tx_makeD (c := c8) (e := 0) ce8 Try.underlying31 s_5 b_5 z_5 rfl rfl rfl rfl hx8) ?_
      refine arun_do rfl rfl rfl (tx_bsD (bs := x8) Try.underlying31 Try.underlying9 Try.underlying5 rfl) ?_
      refine arun_do rfl rfl rfl (ex_assign (eV (v := (S x8)) rfl)) ?_
      refine arun_keepE [0, 5, 6] 0 0 (st' := ⟨43, 0, [(0, (S t0)), (5, (S x5)), (6, (S x8))], [], ⟨0, []⟩⟩) (by kernel_rfl) (by kernel_rfl) ?_
      show AWp _ _ _ _
      refine awp_seq ?_
      refine awp_region ?_
      refine arun_do rfl rfl rfl (ex_move (eV (v := (S x5)) rfl)) ?_
      refine arun_do rfl rfl rfl (ex_move (eV (v := (S t0)) rfl)) ?_
      refine arun_do rfl rfl rfl (ex_buildSliceD (qs := [(0, (S x5)), (1, (S t0))]) (cells := (([x5, t0] : List Str).flatMap cS)) Try.underlying28 s_9 (by decide) (evp rfl (evp rfl evp_nil)) rfl (by kernel_rfl) (by kernel_rfl) (by kernel_rfl)) ?_
      obtain ⟨x9, hx9, h⟩ := bindS h
      refine arun_do rfl rfl rfl (ex_call0 (vs := [(SL 1 cS ([x5, t0] : List Str))]) (v := (Value.agg ((cA4 c32) x9).toArray)) rfl en_10 (cargs (evs rfl evs_nil)) rfl (ok_sum_Of ([x5, t0] : List Str) x9 hx9) rfl) ?_
      refine arun_do rfl rfl rfl (ex_move (eV (v := (S t0)) rfl)) ?_
      refine arun_do rfl rfl rfl (ex_buildSliceD (qs := [(0, (S t0))]) (cells := (([t0] : List Str).flatMap cS)) Try.underlying28 s_9 (by decide) (evp rfl evp_nil) rfl (by kernel_rfl) (by kernel_rfl) (by kernel_rfl)) ?_
      obtain ⟨x10, hx10, h⟩ := bindS h
      refine arun_do rfl rfl rfl (ex_call0 (vs := [(SL 1 cS ([t0] : List Str))]) (v := (Value.agg ((cA4 c32) x10).toArray)) rfl en_10 (cargs (evs rfl evs_nil)) rfl (ok_sum_Of ([t0] : List Str) x10 hx10) rfl) ?_
      refine arun_do rfl rfl rfl (ex_bin (vx := (Value.agg ((cA4 c32) x9).toArray)) (vy := (Value.agg ((cA4 c32) x10).toArray)) rfl rfl eql_25) ?_
      refine arun_do rfl rfl rfl (ex_move (eV (v := (Bo (decide (x9 = x10)))) rfl)) ?_
      refine arun_guard (v := (S t0)) ((decide (x9 = x10)) == true) rfl rfl rfl (fun hc => ex_move (eV (v := (S t0)) rfl)) ?_
      refine arun_guard (v := (S x8)) ((decide (x9 = x10)) == true) rfl rfl rfl (fun hc => ex_move (eV (v := (S x8)) rfl)) ?_
      refine arun_guard (v := (SL 1 cS ([t0, x8] : List Str))) ((decide (x9 = x10)) == true) rfl rfl rfl (fun hc => ex_buildSliceD (qs := [(0, (S t0)), (1, (S x8))]) (cells := (([t0, x8] : List Str).flatMap cS)) Try.underlying28 s_9 (by decide) (evp (cond_of hc) (evp (cond_of hc) evp_nil)) rfl (by kernel_rfl) (by kernel_rfl) (by kernel_rfl)) ?_
      obtain ⟨x11, hx11, h⟩ := bindS h
      refine arun_guard (v := (Value.agg ((cA4 c32) x11).toArray)) ((decide (x9 = x10)) == true) rfl rfl rfl (fun hc => ex_call0 (vs := [(SL 1 cS ([t0, x8] : List Str))]) (v := (Value.agg ((cA4 c32) x11).toArray)) rfl en_10 (cargs (evs (cond_of hc) evs_nil)) rfl (ok_sum_Of ([t0, x8] : List Str) x11 (gd_of hc hx11)) rfl) ?_
      refine arun_guard (v := (S t0)) ((decide (x9 = x10)) == true) rfl rfl rfl (fun hc => ex_move (eV (v := (S t0)) rfl)) ?_
      refine arun_guard (v := (SL 1 cS ([t0] : List Str))) ((decide (x9 = x10)) == true) rfl rfl rfl (fun hc => ex_buildSliceD (qs := [(0, (S t0))]) (cells := (([t0] : List Str).flatMap cS)) Try.underlying28 s_9 (by decide) (evp (cond_of hc) evp_nil) rfl (by kernel_rfl) (by kernel_rfl) (by kernel_rfl)) ?_
      obtain ⟨x12, hx12, h⟩ := bindS h
      refine arun_guard (v := (Value.agg ((cA4 c32) x12).toArray)) ((decide (x9 = x10)) == true) rfl rfl rfl (fun hc => ex_call0 (vs := [(SL 1 cS ([t0] : List Str))]) (v := (Value.agg ((cA4 c32) x12).toArray)) rfl en_10 (cargs (evs (cond_of hc) evs_nil)) rfl (ok_sum_Of ([t0] : List Str) x12 (gd_of hc hx12)) rfl) ?_
      refine arun_guard (v := (Bo (decide (x11 = x12)))) ((decide (x9 = x10)) == true) rfl rfl rfl (fun hc => ex_bin (vx := (Value.agg ((cA4 c32) x11).toArray)) (vy := (Value.agg ((cA4 c32) x12).toArray)) (cond_of hc) (cond_of hc) eql_25) ?_
      refine arun_do rfl rfl rfl (ex_pick rfl pkAnd) ?_
      refine arun_do rfl rfl rfl (ex_assign (eV (v := (Bo ((decide (x9 = x10)) && (decide (x11 = x12))))) rfl)) ?_
      refine arun_keepE [4] 0 0 (st' := ⟨43, 0, [(4, (Bo ((decide (x9 = x10)) && (decide (x11 = x12)))))], [], ⟨0, []⟩⟩) (by kernel_rfl) (by kernel_rfl) ?_
      show AWp _ _ _ _
      refine awp_ret ?_
      cases h
      exact ares1 (rtmp rfl (eV rfl))

noncomputable def M_law2_SumForms : Option Bool :=
  Option.bind (M_law2_begun) fun (x1 : Bool) => cond (!x1) (some false) (Option.bind (M_sum_Of ([([255, 255, 255, 255] : Str)] : List Str)) fun (x3 : (A4 UInt32)) => Option.bind (gd ((decide (x3 = (A4.mk 4294967295 4294967295 4294967295 4294967295))) == true) (M_sum_Of ([([255, 255, 255, 255, 1] : Str)] : List Str))) fun (x4 : (A4 UInt32)) => Option.bind (gd (((decide (x3 = (A4.mk 4294967295 4294967295 4294967295 4294967295))) && (decide (x4 = (A4.mk 0 4294967295 4294967294 4294967293)))) == true) (M_sum_Of ([([97, 98, 99, 100] : Str)] : List Str))) fun (x5 : (A4 UInt32)) => Option.bind (gd ((((decide (x3 = (A4.mk 4294967295 4294967295 4294967295 4294967295))) && (decide (x4 = (A4.mk 0 4294967295 4294967294 4294967293)))) && (decide (x5 = (A4.mk 1684234849 1684234849 1684234849 1684234849)))) == true) (M_sum_Of ([([97, 98, 99, 100, 101] : Str)] : List Str))) fun (x6 : (A4 UInt32)) => Option.bind (gd (((((decide (x3 = (A4.mk 4294967295 4294967295 4294967295 4294967295))) && (decide (x4 = (A4.mk 0 4294967295 4294967294 4294967293)))) && (decide (x5 = (A4.mk 1684234849 1684234849 1684234849 1684234849)))) && (decide (x6 = (A4.mk 1684234950 3368469799 757737352 2441972201)))) == true) (M_sum_Of ([[], []] : List Str))) fun (x7 : (A4 UInt32)) => some (((((decide (x3 = (A4.mk 4294967295 4294967295 4294967295 4294967295))) && (decide (x4 = (A4.mk 0 4294967295 4294967294 4294967293)))) && (decide (x5 = (A4.mk 1684234849 1684234849 1684234849 1684234849)))) && (decide (x6 = (A4.mk 1684234950 3368469799 757737352 2441972201)))) && (decide (x7 = (A4.mk 0 0 0 0)))))
theorem ok_law2_SumForms (r : Bool) (h : M_law2_SumForms = some r) : FFn Try.prog 6 [] (Bo r) := by
  refine FFn.of_body (n := 31) Try.func6 rfl Try.ntmps6 rfl rfl rfl rfl ?_
  show AWp _ _ _ ⟨31, 0, [], [], ⟨0, []⟩⟩
  unfold M_law2_SumForms at h
  refine awp_seq ?_
  refine awp_region ?_
  refine arun_do rfl rfl rfl (ex_assign (eV (v := (Bo false)) rfl)) ?_
  refine arun_keepE [] 0 0 (st' := ⟨31, 0, [], [], ⟨0, []⟩⟩) (by kernel_rfl) (by kernel_rfl) ?_
  show AWp _ _ _ _
  refine awp_seq ?_
  refine awp_seq ?_
  refine awp_region ?_
  obtain ⟨x1, hx1, h⟩ := bindS h
  refine arun_do rfl rfl rfl (ex_call0 (vs := []) (v := (Bo x1)) rfl en_9 (cargs evs_nil) rfl (ok_law2_begun  x1 hx1) rfl) ?_
  refine arun_do rfl rfl rfl (ex_un (vx := (Bo x1)) rfl notB_ok) ?_
  refine arun_keepE [2] 0 0 (st' := ⟨31, 0, [(2, (Bo (!x1)))], [], ⟨0, []⟩⟩) (by kernel_rfl) (by kernel_rfl) ?_
  show AWp _ _ _ _
  rcases Bool.eq_false_or_eq_true (!x1) with hb2 | hb2
  · rw [condT hb2] at h
    refine awp_condT (boT hb2) ?_
    refine awp_seq ?_
    refine awp_region ?_
    refine arun_do rfl rfl rfl (ex_assign (eV (v := (Bo false)) rfl)) ?_
    refine arun_keepE [0] 0 0 (st' := ⟨31, 0, [(0, (Bo false))], [], ⟨0, []⟩⟩) (by kernel_rfl) (by kernel_rfl) ?_
    show AWp _ _ _ _
    refine awp_ret ?_
    cases h
    exact ares1 (rtmp rfl (eV rfl))
  · rw [condF hb2] at h
    refine awp_condF (boF hb2) ?_
    refine awp_skip ?_
    show AWp _ _ _ _
    refine awp_seq ?_
    refine awp_region ?_
    refine arun_do rfl rfl rfl (ex_buildSliceD (qs := [(0, (S ([255, 255, 255, 255] : Str)))]) (cells := (([([255, 255, 255, 255] : Str)] : List Str).flatMap cS)) Try.underlying28 s_9 (by decide) (evp rfl evp_nil) rfl (by kernel_rfl) (by kernel_rfl) (by kernel_rfl)) ?_
    obtain ⟨x3, hx3, h⟩ := bindS h
    refine arun_do rfl rfl rfl (ex_call0 (vs := [(SL 1 cS ([([255, 255, 255, 255] : Str)] : List Str))]) (v := (Value.agg ((cA4 c32) x3).toArray)) rfl en_10 (cargs (evs rfl evs_nil)) rfl (ok_sum_Of ([([255, 255, 255, 255] : Str)] : List Str) x3 hx3) rfl) ?_
    refine arun_do rfl rfl rfl (ex_build (qs := [(0, (U32 4294967295)), (1, (U32 4294967295)), (2, (U32 4294967295)), (3, (U32 4294967295))]) (v := (Value.agg ((cA4 c32) (A4.mk 4294967295 4294967295 4294967295 4294967295)).toArray)) (evp rfl (evp rfl (evp rfl (evp rfl evp_nil)))) (by kernel_rfl)) ?_
    refine arun_do rfl rfl rfl (ex_bin (vx := (Value.agg ((cA4 c32) x3).toArray)) (vy := (Value.agg ((cA4 c32) (A4.mk 4294967295 4294967295 4294967295 4294967295)).toArray)) rfl rfl eql_25) ?_
    refine arun_do rfl rfl rfl (ex_move (eV (v := (Bo (decide (x3 = (A4.mk 4294967295 4294967295 4294967295 4294967295))))) rfl)) ?_
    refine arun_guard (v := (SL 1 cS ([([255, 255, 255, 255, 1] : Str)] : List Str))) ((decide (x3 = (A4.mk 4294967295 4294967295 4294967295 4294967295))) == true) rfl rfl rfl (fun hc => ex_buildSliceD (qs := [(0, (S ([255, 255, 255, 255, 1] : Str)))]) (cells := (([([255, 255, 255, 255, 1] : Str)] : List Str).flatMap cS)) Try.underlying28 s_9 (by decide) (evp rfl evp_nil) rfl (by kernel_rfl) (by kernel_rfl) (by kernel_rfl)) ?_
    obtain ⟨x4, hx4, h⟩ := bindS h
    refine arun_guard (v := (Value.agg ((cA4 c32) x4).toArray)) ((decide (x3 = (A4.mk 4294967295 4294967295 4294967295 4294967295))) == true) rfl rfl rfl (fun hc => ex_call0 (vs := [(SL 1 cS ([([255, 255, 255, 255, 1] : Str)] : List Str))]) (v := (Value.agg ((cA4 c32) x4).toArray)) rfl en_10 (cargs (evs (cond_of hc) evs_nil)) rfl (ok_sum_Of ([([255, 255, 255, 255, 1] : Str)] : List Str) x4 (gd_of hc hx4)) rfl) ?_
    refine arun_guard (v := (Value.agg ((cA4 c32) (A4.mk 0 4294967295 4294967294 4294967293)).toArray)) ((decide (x3 = (A4.mk 4294967295 4294967295 4294967295 4294967295))) == true) rfl rfl rfl (fun hc => ex_build (qs := [(0, (U32 0)), (1, (U32 4294967295)), (2, (U32 4294967294)), (3, (U32 4294967293))]) (v := (Value.agg ((cA4 c32) (A4.mk 0 4294967295 4294967294 4294967293)).toArray)) (evp rfl (evp rfl (evp rfl (evp rfl evp_nil)))) (by kernel_rfl)) ?_
    refine arun_guard (v := (Bo (decide (x4 = (A4.mk 0 4294967295 4294967294 4294967293))))) ((decide (x3 = (A4.mk 4294967295 4294967295 4294967295 4294967295))) == true) rfl rfl rfl (fun hc => ex_bin (vx := (Value.agg ((cA4 c32) x4).toArray)) (vy := (Value.agg ((cA4 c32) (A4.mk 0 4294967295 4294967294 4294967293)).toArray)) (cond_of hc) (cond_of hc) eql_25) ?_
    refine arun_do rfl rfl rfl (ex_pick rfl pkAnd) ?_
    refine arun_do rfl rfl rfl (ex_move (eV (v := (Bo ((decide (x3 = (A4.mk 4294967295 4294967295 4294967295 4294967295))) && (decide (x4 = (A4.mk 0 4294967295 4294967294 4294967293)))))) rfl)) ?_
    refine arun_guard (v := (SL 1 cS ([([97, 98, 99, 100] : Str)] : List Str))) (((decide (x3 = (A4.mk 4294967295 4294967295 4294967295 4294967295))) && (decide (x4 = (A4.mk 0 4294967295 4294967294 4294967293)))) == true) rfl rfl rfl (fun hc => ex_buildSliceD (qs := [(0, (S ([97, 98, 99, 100] : Str)))]) (cells := (([([97, 98, 99, 100] : Str)] : List Str).flatMap cS)) Try.underlying28 s_9 (by decide) (evp rfl evp_nil) rfl (by kernel_rfl) (by kernel_rfl) (by kernel_rfl)) ?_
    obtain ⟨x5, hx5, h⟩ := bindS h
    refine arun_guard (v := (Value.agg ((cA4 c32) x5).toArray)) (((decide (x3 = (A4.mk 4294967295 4294967295 4294967295 4294967295))) && (decide (x4 = (A4.mk 0 4294967295 4294967294 4294967293)))) == true) rfl rfl rfl (fun hc => ex_call0 (vs := [(SL 1 cS ([([97, 98, 99, 100] : Str)] : List Str))]) (v := (Value.agg ((cA4 c32) x5).toArray)) rfl en_10 (cargs (evs (cond_of hc) evs_nil)) rfl (ok_sum_Of ([([97, 98, 99, 100] : Str)] : List Str) x5 (gd_of hc hx5)) rfl) ?_
    refine arun_guard (v := (Value.agg ((cA4 c32) (A4.mk 1684234849 1684234849 1684234849 1684234849)).toArray)) (((decide (x3 = (A4.mk 4294967295 4294967295 4294967295 4294967295))) && (decide (x4 = (A4.mk 0 4294967295 4294967294 4294967293)))) == true) rfl rfl rfl (fun hc => ex_build (qs := [(0, (U32 1684234849)), (1, (U32 1684234849)), (2, (U32 1684234849)), (3, (U32 1684234849))]) (v := (Value.agg ((cA4 c32) (A4.mk 1684234849 1684234849 1684234849 1684234849)).toArray)) (evp rfl (evp rfl (evp rfl (evp rfl evp_nil)))) (by kernel_rfl)) ?_
    refine arun_guard (v := (Bo (decide (x5 = (A4.mk 1684234849 1684234849 1684234849 1684234849))))) (((decide (x3 = (A4.mk 4294967295 4294967295 4294967295 4294967295))) && (decide (x4 = (A4.mk 0 4294967295 4294967294 4294967293)))) == true) rfl rfl rfl (fun hc => ex_bin (vx := (Value.agg ((cA4 c32) x5).toArray)) (vy := (Value.agg ((cA4 c32) (A4.mk 1684234849 1684234849 1684234849 1684234849)).toArray)) (cond_of hc) (cond_of hc) eql_25) ?_
    refine arun_do rfl rfl rfl (ex_pick rfl pkAnd) ?_
    refine arun_do rfl rfl rfl (ex_move (eV (v := (Bo (((decide (x3 = (A4.mk 4294967295 4294967295 4294967295 4294967295))) && (decide (x4 = (A4.mk 0 4294967295 4294967294 4294967293)))) && (decide (x5 = (A4.mk 1684234849 1684234849 1684234849 1684234849)))))) rfl)) ?_
    refine arun_guard (v := (SL 1 cS ([([97, 98, 99, 100, 101] : Str)] : List Str))) ((((decide (x3 = (A4.mk 4294967295 4294967295 4294967295 4294967295))) && (decide (x4 = (A4.mk 0 4294967295 4294967294 4294967293)))) && (decide (x5 = (A4.mk 1684234849 1684234849 1684234849 1684234849)))) == true) rfl rfl rfl (fun hc => ex_buildSliceD (qs := [(0, (S ([97, 98, 99, 100, 101] : Str)))]) (cells := (([([97, 98, 99, 100, 101] : Str)] : List Str).flatMap cS)) Try.underlying28 s_9 (by decide) (evp rfl evp_nil) rfl (by kernel_rfl) (by kernel_rfl) (by kernel_rfl)) ?_
    obtain ⟨x6, hx6, h⟩ := bindS h
    refine arun_guard (v := (Value.agg ((cA4 c32) x6).toArray)) ((((decide (x3 = (A4.mk 4294967295 4294967295 4294967295 4294967295))) && (decide (x4 = (A4.mk 0 4294967295 4294967294 4294967293)))) && (decide (x5 = (A4.mk 1684234849 1684234849 1684234849 1684234849)))) == true) rfl rfl rfl (fun hc => ex_call0 (vs := [(SL 1 cS ([([97, 98, 99, 100, 101] : Str)] : List Str))]) (v := (Value.agg ((cA4 c32) x6).toArray)) rfl en_10 (cargs (evs (cond_of hc) evs_nil)) rfl (ok_sum_Of ([([97, 98, 99, 100, 101] : Str)] : List Str) x6 (gd_of hc hx6)) rfl) ?_
    refine arun_guard (v := (Value.agg ((cA4 c32) (A4.mk 1684234950 3368469799 757737352 2441972201)).toArray)) ((((decide (x3 = (A4.mk 4294967295 4294967295 4294967295 4294967295))) && (decide (x4 = (A4.mk 0 4294967295 4294967294 4294967293)))) && (decide (x5 = (A4.mk 1684234849 1684234849 1684234849 1684234849)))) == true) rfl rfl rfl (fun hc => ex_build (qs := [(0, (U32 1684234950)), (1, (U32 3368469799)), (2, (U32 757737352)), (3, (U32 2441972201))]) (v := (Value.agg ((cA4 c32) (A4.mk 1684234950 3368469799 757737352 2441972201)).toArray)) (evp rfl (evp rfl (evp rfl (evp rfl evp_nil)))) (by kernel_rfl)) ?_
    refine arun_guard (v := (Bo (decide (x6 = (A4.mk 1684234950 3368469799 757737352 2441972201))))) ((((decide (x3 = (A4.mk 4294967295 4294967295 4294967295 4294967295))) && (decide (x4 = (A4.mk 0 4294967295 4294967294 4294967293)))) && (decide (x5 = (A4.mk 1684234849 1684234849 1684234849 1684234849)))) == true) rfl rfl rfl (fun hc => ex_bin (vx := (Value.agg ((cA4 c32) x6).toArray)) (vy := (Value.agg ((cA4 c32) (A4.mk 1684234950 3368469799 757737352 2441972201)).toArray)) (cond_of hc) (cond_of hc) eql_25) ?_
    refine arun_do rfl rfl rfl (ex_pick rfl pkAnd) ?_
    refine arun_do rfl rfl rfl (ex_move (eV (v := (Bo ((((decide (x3 = (A4.mk 4294967295 4294967295 4294967295 4294967295))) && (decide (x4 = (A4.mk 0 4294967295 4294967294 4294967293)))) && (decide (x5 = (A4.mk 1684234849 1684234849 1684234849 1684234849)))) && (decide (x6 = (A4.mk 1684234950 3368469799 757737352 2441972201)))))) rfl)) ?_
    refine arun_guard (v := (SL 1 cS ([[], []] : List Str))) (((((decide (x3 = (A4.mk 4294967295 4294967295 4294967295 4294967295))) && (decide (x4 = (A4.mk 0 4294967295 4294967294 4294967293)))) && (decide (x5 = (A4.mk 1684234849 1684234849 1684234849 1684234849)))) && (decide (x6 = (A4.mk 1684234950 3368469799 757737352 2441972201)))) == true) rfl rfl rfl (fun hc => ex_buildSliceD (qs := [(0, (S [])), (1, (S []))]) (cells := (([[], []] : List Str).flatMap cS)) Try.underlying28 s_9 (by decide) (evp rfl (evp rfl evp_nil)) rfl (by kernel_rfl) (by kernel_rfl) (by kernel_rfl)) ?_
    obtain ⟨x7, hx7, h⟩ := bindS h
    refine arun_guard (v := (Value.agg ((cA4 c32) x7).toArray)) (((((decide (x3 = (A4.mk 4294967295 4294967295 4294967295 4294967295))) && (decide (x4 = (A4.mk 0 4294967295 4294967294 4294967293)))) && (decide (x5 = (A4.mk 1684234849 1684234849 1684234849 1684234849)))) && (decide (x6 = (A4.mk 1684234950 3368469799 757737352 2441972201)))) == true) rfl rfl rfl (fun hc => ex_call0 (vs := [(SL 1 cS ([[], []] : List Str))]) (v := (Value.agg ((cA4 c32) x7).toArray)) rfl en_10 (cargs (evs (cond_of hc) evs_nil)) rfl (ok_sum_Of ([[], []] : List Str) x7 (gd_of hc hx7)) rfl) ?_
    refine arun_guard (v := (Value.agg ((cA4 c32) (A4.mk 0 0 0 0)).toArray)) (((((decide (x3 = (A4.mk 4294967295 4294967295 4294967295 4294967295))) && (decide (x4 = (A4.mk 0 4294967295 4294967294 4294967293)))) && (decide (x5 = (A4.mk 1684234849 1684234849 1684234849 1684234849)))) && (decide (x6 = (A4.mk 1684234950 3368469799 757737352 2441972201)))) == true) rfl rfl rfl (fun hc => ex_build (qs := []) (v := (Value.agg ((cA4 c32) (A4.mk 0 0 0 0)).toArray)) evp_nil (by kernel_rfl)) ?_
    refine arun_guard (v := (Bo (decide (x7 = (A4.mk 0 0 0 0))))) (((((decide (x3 = (A4.mk 4294967295 4294967295 4294967295 4294967295))) && (decide (x4 = (A4.mk 0 4294967295 4294967294 4294967293)))) && (decide (x5 = (A4.mk 1684234849 1684234849 1684234849 1684234849)))) && (decide (x6 = (A4.mk 1684234950 3368469799 757737352 2441972201)))) == true) rfl rfl rfl (fun hc => ex_bin (vx := (Value.agg ((cA4 c32) x7).toArray)) (vy := (Value.agg ((cA4 c32) (A4.mk 0 0 0 0)).toArray)) (cond_of hc) (cond_of hc) eql_25) ?_
    refine arun_do rfl rfl rfl (ex_pick rfl pkAnd) ?_
    refine arun_do rfl rfl rfl (ex_assign (eV (v := (Bo (((((decide (x3 = (A4.mk 4294967295 4294967295 4294967295 4294967295))) && (decide (x4 = (A4.mk 0 4294967295 4294967294 4294967293)))) && (decide (x5 = (A4.mk 1684234849 1684234849 1684234849 1684234849)))) && (decide (x6 = (A4.mk 1684234950 3368469799 757737352 2441972201)))) && (decide (x7 = (A4.mk 0 0 0 0)))))) rfl)) ?_
    refine arun_keepE [0] 0 0 (st' := ⟨31, 0, [(0, (Bo (((((decide (x3 = (A4.mk 4294967295 4294967295 4294967295 4294967295))) && (decide (x4 = (A4.mk 0 4294967295 4294967294 4294967293)))) && (decide (x5 = (A4.mk 1684234849 1684234849 1684234849 1684234849)))) && (decide (x6 = (A4.mk 1684234950 3368469799 757737352 2441972201)))) && (decide (x7 = (A4.mk 0 0 0 0))))))], [], ⟨0, []⟩⟩) (by kernel_rfl) (by kernel_rfl) ?_
    show AWp _ _ _ _
    refine awp_ret ?_
    cases h
    exact ares1 (rtmp rfl (eV rfl))

end Go.Proofs
