/- Pure models of functions of the program, and that its code does what they say: palimpref1 Of, palimpref1 To, palimplaw4 PtrAll. Written by a program. -/
import Derived.Test.YtjdfekampbbkaaaR40
import Derived.Test.YtjdfekampbbkaaaR41
import Derived.Test.YtjdfekampbbkaaaR42
import Derived.Test.YtjdfekampbbkaaaR43
import Derived.Test.YtjdfekampbbkaaaR44
import Derived.Test.YtjdfekampbbkaaaR45
import Derived.Test.YtjdfekampbbkaaaR46
import Derived.Test.YtjdfekampbbkaaaR47
import Derived.Test.YtjdfekampbbkaaaR4B
set_option maxRecDepth 20000
set_option maxHeartbeats 4000000
namespace Go.Proofs
open Go Go.Fhl
set_option linter.unusedVariables false
set_option linter.unusedSimpArgs false
noncomputable def M_ref1_Of (t0 : Str) : Option (A4 UInt32) :=
  Option.bind (M_ref1_Sum ([t0] : List Str)) fun (x1 : (A4 UInt32)) => some x1
theorem ok_ref1_Of (t0 : Str) (r : (A4 UInt32)) (h : M_ref1_Of t0 = some r) : FFn Try.prog 21 [(S t0)] (Value.agg ((cA4 c32) r).toArray) := by
  refine FFn.of_body (n := 6) Try.func21 rfl Try.ntmps21 rfl rfl rfl rfl ?_
  show AWp _ _ _ ⟨6, 0, [(0, (S t0))], [], ⟨0, []⟩⟩
  unfold M_ref1_Of at h
  refine awp_seq ?_
  refine awp_region ?_
  refine arun_do rfl rfl rfl (ex_alloc (k := 0) (zs := ((cA4 c32) (A4.mk 0 0 0 0))) (L' := [((cA4 c32) (A4.mk 0 0 0 0))]) z_24 rfl rfl rfl rfl) ?_
  refine arun_keepE [0, 2] 1 0 (st' := ⟨6, 0, [(0, (S t0)), (2, (LP 0 0))], [((cA4 c32) (A4.mk 0 0 0 0))], ⟨0, []⟩⟩) (by kernel_rfl) (by kernel_rfl) ?_
  show AWp _ _ _ _
  refine awp_seq ?_
  refine awp_region ?_
  refine arun_do rfl rfl rfl (ex_move (eV (v := (S t0)) rfl)) ?_
  refine arun_do rfl rfl rfl (ex_buildSliceD (qs := [(0, (S t0))]) (cells := (([t0] : List Str).flatMap cS)) Try.underlying36 s_9 (by decide) (evp rfl evp_nil) rfl (by kernel_rfl) (by kernel_rfl) (by kernel_rfl)) ?_
  obtain ⟨x1, hx1, h⟩ := bindS h
  refine arun_do rfl rfl rfl (ex_call0 (vs := [(SL 1 cS ([t0] : List Str))]) (v := (Value.agg ((cA4 c32) x1).toArray)) rfl en_31 (cargs (evs rfl evs_nil)) rfl (ok_ref1_Sum ([t0] : List Str) x1 hx1) rfl) ?_
  refine arun_do0 rfl rfl (ex_storeL (vy := (Value.agg ((cA4 c32) x1).toArray)) (cs := ((cA4 c32) (A4.mk 0 0 0 0))) (vs := ((cA4 c32) x1)) (L' := [((cA4 c32) x1)]) rfl (eV (v := (Value.agg ((cA4 c32) x1).toArray)) rfl) rfl s_24 rfl (Nat.le_of_ble_eq_true rfl) (by kernel_rfl)) ?_
  refine arun_keepE [2] 1 0 (st' := ⟨6, 0, [(2, (LP 0 0))], [((cA4 c32) x1)], ⟨0, []⟩⟩) (by kernel_rfl) (by kernel_rfl) ?_
  show AWp _ _ _ _
  refine awp_ret ?_
  cases h
  exact ares1 (rcellL rfl rfl rfl (partA Try.underlying24 rfl s_24 (by decide) (Nat.le_of_ble_eq_true rfl) rfl))

noncomputable def M_ref1_To (t0 : Int) (t1 : Str) (t2 : Int) : Option G_api_Ptr :=
  Option.bind (M_ref1_Of t1) fun (x1 : (A4 UInt32)) => some (G_api_Ptr.mk t0 t2 x1)
theorem ok_ref1_To (t0 : Int) (t1 : Str) (t2 : Int) (r : G_api_Ptr) (h : M_ref1_To t0 t1 t2 = some r) : FFn Try.prog 19 [(I t0), (S t1), (I t2)] (Value.agg (c_api_Ptr r).toArray) := by
  refine FFn.of_body (n := 12) Try.func19 rfl Try.ntmps19 rfl rfl rfl rfl ?_
  show AWp _ _ _ ⟨12, 0, [(0, (I t0)), (1, (S t1)), (2, (I t2))], [], ⟨0, []⟩⟩
  unfold M_ref1_To at h
  refine awp_seq ?_
  refine awp_region ?_
  refine arun_do rfl rfl rfl (ex_alloc (k := 0) (zs := (c_api_Ptr (G_api_Ptr.mk 0 0 (A4.mk 0 0 0 0)))) (L' := [(c_api_Ptr (G_api_Ptr.mk 0 0 (A4.mk 0 0 0 0)))]) z_26 rfl rfl rfl rfl) ?_
  refine arun_keepE [0, 1, 2, 6] 1 0 (st' := ⟨12, 0, [(0, (I t0)), (1, (S t1)), (2, (I t2)), (6, (LP 0 0))], [(c_api_Ptr (G_api_Ptr.mk 0 0 (A4.mk 0 0 0 0)))], ⟨0, []⟩⟩) (by kernel_rfl) (by kernel_rfl) ?_
  show AWp _ _ _ _
  refine awp_seq ?_
  refine awp_region ?_
  refine arun_do rfl rfl rfl (ex_move (eV (v := (I t0)) rfl)) ?_
  refine arun_do rfl rfl rfl (ex_move (eV (v := (I t2)) rfl)) ?_
  refine arun_do rfl rfl rfl (ex_move (eV (v := (S t1)) rfl)) ?_
  obtain ⟨x1, hx1, h⟩ := bindS h
  refine arun_do rfl rfl rfl (ex_call0 (vs := [(S t1)]) (v := (Value.agg ((cA4 c32) x1).toArray)) rfl en_21 (cargs (evs rfl evs_nil)) rfl (ok_ref1_Of t1 x1 hx1) rfl) ?_
  refine arun_do rfl rfl rfl (ex_build (qs := [(0, (I t0)), (1, (I t2)), (2, (Value.agg ((cA4 c32) x1).toArray))]) (v := (Value.agg (c_api_Ptr (G_api_Ptr.mk t0 t2 x1)).toArray)) (evp rfl (evp rfl (evp rfl evp_nil))) (by kernel_rfl)) ?_
  refine arun_do0 rfl rfl (ex_storeL (vy := (Value.agg (c_api_Ptr (G_api_Ptr.mk t0 t2 x1)).toArray)) (cs := (c_api_Ptr (G_api_Ptr.mk 0 0 (A4.mk 0 0 0 0)))) (vs := (c_api_Ptr (G_api_Ptr.mk t0 t2 x1))) (L' := [(c_api_Ptr (G_api_Ptr.mk t0 t2 x1))]) rfl (eV (v := (Value.agg (c_api_Ptr (G_api_Ptr.mk t0 t2 x1)).toArray)) rfl) rfl s_26 rfl (Nat.le_of_ble_eq_true rfl) (by kernel_rfl)) ?_
  refine arun_keepE [6] 1 0 (st' := ⟨12, 0, [(6, (LP 0 0))], [(c_api_Ptr (G_api_Ptr.mk t0 t2 x1))], ⟨0, []⟩⟩) (by kernel_rfl) (by kernel_rfl) ?_
  show AWp _ _ _ _
  refine awp_ret ?_
  cases h
  exact ares1 (rcellL rfl rfl rfl (partA Try.underlying26 rfl s_26 (by decide) (Nat.le_of_ble_eq_true rfl) rfl))

noncomputable def M_law4_PtrAll_k1 (c_1 : (Int → Option Bool)) (c_2 : (Int → Option Bool)) (c_3 : (Int → Option Bool)) (t0 : G_api_Ptr) (t2 : Str) (t3 : Int) (t4 : Str) (t5 : Int) (t6 : Int) (x15 : Str) (x17 : Str) (v18 : Int) (v20 : Int) : Option Bool :=
  c_3 (w64 (v20 + 1))
noncomputable def M_law4_PtrAll_l3 (c_1 : (Int → Option Bool)) (c_2 : (Int → Option Bool)) (t0 : G_api_Ptr) (t2 : Str) (t3 : Int) (t4 : Str) (t5 : Int) (t6 : Int) (x15 : Str) (x17 : Str) (v18 : Int) : Nat → Int → Option Bool
  | 0, _ => none
  | n3 + 1, v20 =>
  cond (decide (v20 < 4)) (Option.bind (getI ([t3, 3, 2, 0] : List Int) v20) fun (x22 : Int) => cond (decide (x22 > 100)) (M_law4_PtrAll_k1 c_1 c_2 (M_law4_PtrAll_l3 c_1 c_2 t0 t2 t3 t4 t5 t6 x15 x17 v18 n3) t0 t2 t3 t4 t5 t6 x15 x17 v18 v20) (Option.bind (getI ([t2, x15, x17] : List Str) v18) fun (x24 : Str) => Option.bind (getI ([t3, 3, 2, 0] : List Int) v20) fun (x25 : Int) => Option.bind (M_ptr_Take x24 x25) fun (x26 : ((List G_api_Ptr) × Str × Bool)) => Option.bind (getI ([t2, x15, x17] : List Str) v18) fun (x27 : Str) => Option.bind (getI ([t3, 3, 2, 0] : List Int) v20) fun (x28 : Int) => Option.bind (M_ref1_TakePtrs x27 x28) fun (x29 : ((List G_api_Ptr) × Str × Bool)) => Option.bind (gd (((x26.2.2 != x29.2.2) || (x26.2.1 != x29.2.1)) == false) (M_ref1_SamePtrs x26.1 x29.1)) fun (x30 : Bool) => cond (((x26.2.2 != x29.2.2) || (x26.2.1 != x29.2.1)) || (!x30)) (some false) (M_law4_PtrAll_k1 c_1 c_2 (M_law4_PtrAll_l3 c_1 c_2 t0 t2 t3 t4 t5 t6 x15 x17 v18 n3) t0 t2 t3 t4 t5 t6 x15 x17 v18 v20))) (c_2 (w64 (v18 + 1)))
noncomputable def M_law4_PtrAll_l2 (c_1 : (Int → Option Bool)) (t0 : G_api_Ptr) (t2 : Str) (t3 : Int) (t4 : Str) (t5 : Int) (t6 : Int) (x15 : Str) (x17 : Str) : Nat → Int → Option Bool
  | 0, _ => none
  | n2 + 1, v18 =>
  cond (decide (v18 < 3)) (M_law4_PtrAll_l3 c_1 (M_law4_PtrAll_l2 c_1 t0 t2 t3 t4 t5 t6 x15 x17 n2) t0 t2 t3 t4 t5 t6 x15 x17 v18 fuel 0) (Option.bind (M_ptr_To t5 t4 t6) fun (x32 : G_api_Ptr) => Option.bind (M_ptr_May t0) fun (x33 : Bool) => Option.bind (M_ref1_MayPtr t0) fun (x34 : Bool) => Option.bind (gd ((x33 == x34) == true) (M_ref1_To t5 t4 t6)) fun (x35 : G_api_Ptr) => Option.bind (gd (((x33 == x34) && (decide (x32 = x35))) == true) (M_ptr_Fits x32 t4)) fun (x36 : Bool) => Option.bind (gd ((((x33 == x34) && (decide (x32 = x35))) && x36) == true) (M_ptr_Fits t0 t4)) fun (x37 : Bool) => Option.bind (gd ((((x33 == x34) && (decide (x32 = x35))) && x36) == true) (M_ref1_Of t4)) fun (x38 : (A4 UInt32)) => some ((((x33 == x34) && (decide (x32 = x35))) && x36) && (x37 == (decide (t0.Sum = x38)))))
noncomputable def M_law4_PtrAll_l1 (t0 : G_api_Ptr) (t2 : Str) (t3 : Int) (t4 : Str) (t5 : Int) (t6 : Int) (x5 : ((List G_api_Ptr) × G_palimpmade_Picks)) (x7 : List G_api_Ptr) : Nat → Int → Option Bool
  | 0, _ => none
  | n1 + 1, v8 =>
  cond (decide (v8 < (([x5.1, ([t0] : List G_api_Ptr), x7, []] : List (List G_api_Ptr)).length : Int))) (Option.bind (getI ([x5.1, ([t0] : List G_api_Ptr), x7, []] : List (List G_api_Ptr)) v8) fun (x10 : (List G_api_Ptr)) => Option.bind (M_ptr_Put x10) fun (x11 : Str) => Option.bind (getI ([x5.1, ([t0] : List G_api_Ptr), x7, []] : List (List G_api_Ptr)) v8) fun (x12 : (List G_api_Ptr)) => Option.bind (M_ref1_PutPtrs x12) fun (x13 : Str) => cond (x11 != x13) (some false) ((M_law4_PtrAll_l1 t0 t2 t3 t4 t5 t6 x5 x7 n1) (w64 (v8 + 1)))) (Option.bind (M_ref1_PutPtrs x5.1) fun (x15 : Str) => Option.bind (M_ref1_PutPtrs x5.1) fun (x16 : Str) => Option.bind (addS x16 t2) fun (x17 : Str) => M_law4_PtrAll_l2 (M_law4_PtrAll_l1 t0 t2 t3 t4 t5 t6 x5 x7 n1) t0 t2 t3 t4 t5 t6 x15 x17 fuel 0)
noncomputable def M_law4_PtrAll (t0 : G_api_Ptr) (t1 : (List UInt8)) (t2 : Str) (t3 : Int) (t4 : Str) (t5 : Int) (t6 : Int) : Option Bool :=
  Option.bind (M_law4_begun) fun (x1 : Bool) => cond (!x1) (some false) (cond (((decide ((t1.length : Int) > 20)) || (decide ((t2.length : Int) > 70))) || (decide ((t4.length : Int) > 60))) (some true) (Option.bind (M_made_Made t1) fun (x4 : G_palimpmade_Picks) => Option.bind (M_made_Picks_Ptrs x4 3) fun (x5 : ((List G_api_Ptr) × G_palimpmade_Picks)) => Option.bind (appL 32 ([] : List G_api_Ptr) x5.1) fun (x6 : List G_api_Ptr) => Option.bind (appL 32 x6 ([t0] : List G_api_Ptr)) fun (x7 : List G_api_Ptr) => M_law4_PtrAll_l1 t0 t2 t3 t4 t5 t6 x5 x7 fuel 0))
theorem ok_law4_PtrAll (t0 : G_api_Ptr) (t1 : (List UInt8)) (t2 : Str) (t3 : Int) (t4 : Str) (t5 : Int) (t6 : Int) (r : Bool) (h : M_law4_PtrAll t0 t1 t2 t3 t4 t5 t6 = some r) : FFn Try.prog 3 [(Value.agg (c_api_Ptr t0).toArray), (SL 1 c8 t1), (S t2), (I t3), (S t4), (I t5), (I t6)] (Bo r) := by
  refine FFn.of_body (n := 170) Try.func3 rfl Try.ntmps3 rfl rfl rfl rfl ?_
  show AWp _ _ _ ⟨170, 0, [(0, (Value.agg (c_api_Ptr t0).toArray)), (1, (SL 1 c8 t1)), (2, (S t2)), (3, (I t3)), (4, (S t4)), (5, (I t5)), (6, (I t6))], [], ⟨0, []⟩⟩
  unfold M_law4_PtrAll at h
  refine awp_seq ?_
  refine awp_region ?_
  refine arun_do rfl rfl rfl (ex_box (vx := (Value.agg (c_api_Ptr t0).toArray)) (cs := (c_api_Ptr t0)) (k := 0) (L' := [(c_api_Ptr t0)]) (eV (v := (Value.agg (c_api_Ptr t0).toArray)) rfl) rfl rfl rfl) ?_
  refine arun_do rfl rfl rfl (ex_assign (eV (v := (Bo false)) rfl)) ?_
  refine arun_keepE [1, 2, 3, 4, 5, 6, 7] 1 0 (st' := ⟨170, 0, [(1, (SL 1 c8 t1)), (2, (S t2)), (3, (I t3)), (4, (S t4)), (5, (I t5)), (6, (I t6)), (7, (LP 0 0))], [(c_api_Ptr t0)], ⟨0, []⟩⟩) (by kernel_rfl) (by kernel_rfl) ?_
  show AWp _ _ _ _
  refine awp_seq ?_
  refine awp_seq ?_
  refine awp_region ?_
  obtain ⟨x1, hx1, h⟩ := bindS h
  refine arun_do rfl rfl rfl (ex_call0 (vs := []) (v := (Bo x1)) rfl en_8 (cargs evs_nil) rfl (ok_law4_begun  x1 hx1) rfl) ?_
  refine arun_do rfl rfl rfl (ex_un (vx := (Bo x1)) rfl notB_ok) ?_
  refine arun_keepE [1, 2, 3, 4, 5, 6, 7, 30] 1 0 (st' := ⟨170, 0, [(1, (SL 1 c8 t1)), (2, (S t2)), (3, (I t3)), (4, (S t4)), (5, (I t5)), (6, (I t6)), (7, (LP 0 0)), (30, (Bo (!x1)))], [(c_api_Ptr t0)], ⟨0, []⟩⟩) (by kernel_rfl) (by kernel_rfl) ?_
  show AWp _ _ _ _
  rcases Bool.eq_false_or_eq_true (!x1) with hb2 | hb2
  · rw [condT hb2] at h
    refine awp_condT (boT hb2) ?_
    refine awp_seq ?_
    refine awp_region ?_
    refine arun_do rfl rfl rfl (ex_assign (eV (v := (Bo false)) rfl)) ?_
    refine arun_keepE [14] 0 0 (st' := ⟨170, 0, [(14, (Bo false))], [], ⟨0, []⟩⟩) (by kernel_rfl) (by kernel_rfl) ?_
    show AWp _ _ _ _
    refine awp_ret ?_
    cases h
    exact ares1 (rtmp rfl (eV rfl))
  · rw [condF hb2] at h
    refine awp_condF (boF hb2) ?_
    refine awp_skip ?_
    show AWp _ _ _ _
    refine awp_seq ?_
    refine awp_seq ?_
    refine awp_region ?_
    refine arun_do rfl rfl rfl (ex_move (eV (v := (SL 1 c8 t1)) rfl)) ?_
    refine arun_do rfl rfl rfl (tx_lenD (xs := t1) ce8 Try.underlying27 rfl) ?_
    refine arun_do rfl rfl rfl (ex_bin (vx := (I (t1.length : Int))) (vy := (I 20)) rfl rfl gtrI_ok) ?_
    refine arun_do rfl rfl rfl (ex_move (eV (v := (Bo (decide ((t1.length : Int) > 20)))) rfl)) ?_
    refine arun_guard (v := (S t2)) ((decide ((t1.length : Int) > 20)) == false) rfl rfl rfl (fun hc => ex_move (eV (v := (S t2)) rfl)) ?_
    refine arun_guard (v := (I (t2.length : Int))) ((decide ((t1.length : Int) > 20)) == false) rfl rfl rfl (fun hc => tx_lenS Try.underlying9 (cond_of hc)) ?_
    refine arun_guard (v := (Bo (decide ((t2.length : Int) > 70)))) ((decide ((t1.length : Int) > 20)) == false) rfl rfl rfl (fun hc => ex_bin (vx := (I (t2.length : Int))) (vy := (I 70)) (cond_of hc) rfl gtrI_ok) ?_
    refine arun_do rfl rfl rfl (ex_pick rfl pkOr) ?_
    refine arun_do rfl rfl rfl (ex_move (eV (v := (Bo ((decide ((t1.length : Int) > 20)) || (decide ((t2.length : Int) > 70))))) rfl)) ?_
    refine arun_guard (v := (S t4)) (((decide ((t1.length : Int) > 20)) || (decide ((t2.length : Int) > 70))) == false) rfl rfl rfl (fun hc => ex_move (eV (v := (S t4)) rfl)) ?_
    refine arun_guard (v := (I (t4.length : Int))) (((decide ((t1.length : Int) > 20)) || (decide ((t2.length : Int) > 70))) == false) rfl rfl rfl (fun hc => tx_lenS Try.underlying9 (cond_of hc)) ?_
    refine arun_guard (v := (Bo (decide ((t4.length : Int) > 60)))) (((decide ((t1.length : Int) > 20)) || (decide ((t2.length : Int) > 70))) == false) rfl rfl rfl (fun hc => ex_bin (vx := (I (t4.length : Int))) (vy := (I 60)) (cond_of hc) rfl gtrI_ok) ?_
    refine arun_do rfl rfl rfl (ex_pick rfl pkOr) ?_
    refine arun_keepE [1, 2, 3, 4, 5, 6, 7, 43] 1 0 (st' := ⟨170, 0, [(1, (SL 1 c8 t1)), (2, (S t2)), (3, (I t3)), (4, (S t4)), (5, (I t5)), (6, (I t6)), (7, (LP 0 0)), (43, (Bo (((decide ((t1.length : Int) > 20)) || (decide ((t2.length : Int) > 70))) || (decide ((t4.length : Int) > 60)))))], [(c_api_Ptr t0)], ⟨0, []⟩⟩) (by kernel_rfl) (by kernel_rfl) ?_
    show AWp _ _ _ _
    rcases Bool.eq_false_or_eq_true (((decide ((t1.length : Int) > 20)) || (decide ((t2.length : Int) > 70))) || (decide ((t4.length : Int) > 60))) with hb3 | hb3
    · rw [condT hb3] at h
      refine awp_condT (boT hb3) ?_
      refine awp_seq ?_
      refine awp_region ?_
      refine arun_do rfl rfl rfl (ex_assign (eV (v := (Bo true)) rfl)) ?_
      refine arun_keepE [14] 0 0 (st' := ⟨170, 0, [(14, (Bo true))], [], ⟨0, []⟩⟩) (by kernel_rfl) (by kernel_rfl) ?_
      show AWp _ _ _ _
      refine awp_ret ?_
      cases h
      exact ares1 (rtmp rfl (eV rfl))
    · rw [condF hb3] at h
      refine awp_condF (boF hb3) ?_
      refine awp_skip ?_
      show AWp _ _ _ _
      refine awp_seq ?_
      refine awp_region ?_
      refine arun_do rfl rfl rfl (ex_move (eV (v := (SL 1 c8 t1)) rfl)) ?_
      obtain ⟨x4, hx4, h⟩ := bindS h
      refine arun_do rfl rfl rfl (ex_callNew (vs := [(SL 1 c8 t1)]) (k := 0) (b := ⟨1, (c_palimpmade_Picks x4), false⟩) (H' := ⟨1, [(0, ⟨1, (c_palimpmade_Picks x4), false⟩)]⟩) rfl en_9 (cargs (evs rfl evs_nil)) rfl (ok_made_Made t1 x4 hx4) rfl rfl rfl) ?_
      obtain ⟨x5, hx5, h⟩ := bindS h
      refine arun_do rfl rfl rfl (ex_call1 (vs := [(NP 0 0), (I 3)]) (vs' := [(NP 0 0), (I 3)]) (v := (SL 6 c_api_Ptr x5.1)) (n := 0) (b := ⟨1, (c_palimpmade_Picks x4), false⟩) (b' := ⟨1, (c_palimpmade_Picks x5.2), false⟩) (H' := ⟨1, [(0, ⟨1, (c_palimpmade_Picks x5.2), false⟩)]⟩) rfl en_10 (cargs (evs rfl (evs rfl evs_nil))) rfl rfl (.cons (.inr ⟨_, rfl, rfl⟩) (.cons (.inl ⟨rfl, rfl⟩) .nil)) (ok_made_Picks_Ptrs x4 3 x5 hx5) rfl rfl) ?_
      refine arun_do rfl rfl rfl (ex_assign (eV (v := (SL 6 c_api_Ptr x5.1)) rfl)) ?_
      refine arun_keepE [2, 3, 4, 5, 6, 7, 15] 1 0 (st' := ⟨170, 0, [(2, (S t2)), (3, (I t3)), (4, (S t4)), (5, (I t5)), (6, (I t6)), (7, (LP 0 0)), (15, (SL 6 c_api_Ptr x5.1))], [(c_api_Ptr t0)], ⟨0, []⟩⟩) (by kernel_rfl) (by kernel_rfl) ?_
      show AWp _ _ _ _
      refine awp_seq ?_
      obtain ⟨x6, hx6, h⟩ := bindS h
      obtain ⟨x7, hx7, h⟩ := bindS h
      refine awp_kn [2, 3, 4, 5, 6, 7, 15, 16] 1 0 (st' := ⟨170, 0, [(2, (S t2)), (3, (I t3)), (4, (S t4)), (5, (I t5)), (6, (I t6)), (7, (LP 0 0)), (15, (SL 6 c_api_Ptr x5.1)), (16, (SL 1 (cL 6 c_api_Ptr) ([x5.1, ([t0] : List G_api_Ptr), x7, []] : List (List G_api_Ptr))))], [(c_api_Ptr t0)], ⟨0, []⟩⟩) (awp_draw (T := [(SL 6 c_api_Ptr x5.1), (Value.agg (c_api_Ptr t0).toArray), (SL 6 c_api_Ptr ([t0] : List G_api_Ptr)), (GV 0 0), (SL 6 c_api_Ptr x5.1), (GV 0 x6.length), (Value.agg (c_api_Ptr t0).toArray), (SL 6 c_api_Ptr ([t0] : List G_api_Ptr)), (GV 0 x7.length), (SL 1 (cL 6 c_api_Ptr) ([x5.1, ([t0] : List G_api_Ptr), x7, []] : List (List G_api_Ptr))), (SL 1 (cL 6 c_api_Ptr) ([x5.1, ([t0] : List G_api_Ptr), x7, []] : List (List G_api_Ptr)))]) (LH := [([(c_api_Ptr t0)], ⟨0, []⟩), ([(c_api_Ptr t0)], ⟨1, [(0, ⟨6, (([] : List G_api_Ptr).flatMap c_api_Ptr), true⟩)]⟩), ([(c_api_Ptr t0)], ⟨1, [(0, ⟨6, ((x6).flatMap c_api_Ptr), true⟩)]⟩), ([(c_api_Ptr t0)], ⟨1, [(0, ⟨6, ((x7).flatMap c_api_Ptr), true⟩)]⟩), ([(c_api_Ptr t0)], ⟨1, []⟩)]) (D := [⟨[(15, none)], [], [0, 1, 2, 3], false⟩, ⟨[(7, none)], [], [0, 1, 2, 3], false⟩, ⟨[(48, some 1)], [1], [0, 1, 2, 3], false⟩, ⟨[], [], [0], true⟩, ⟨[(15, none)], [], [0, 1], false⟩, ⟨[(50, some 3), (51, some 4)], [3, 4], [1], true⟩, ⟨[(7, none)], [], [0, 1, 2], false⟩, ⟨[(53, some 6)], [6], [0, 1, 2], false⟩, ⟨[(52, some 5), (54, some 7)], [3, 4, 5, 6, 7], [2], true⟩, ⟨[(47, some 0), (49, some 2), (55, some 8)], [0, 1, 2, 3, 4, 5, 6, 7, 8], [3], true⟩, ⟨[(56, some 9)], [0, 1, 2, 3, 4, 5, 6, 7, 8, 9], [4], false⟩]) (S := [3, 5, 8, 9]) (plan := [0, 1, 2, 3, 4, 5, 6, 7, 8, 9, 10]) mo (by kernel_rfl) rfl rfl rfl (dcons (dstepN (by intro k hk; simp only [List.mem_cons, List.not_mem_nil, or_false] at hk; rcases hk with rfl | rfl | rfl | rfl <;> exact ⟨[(15, (SL 6 c_api_Ptr x5.1))], _, _, _, _, _, rfl, rfl, rfl, rfl, astep_do rfl (ex_move (eV (v := (SL 6 c_api_Ptr x5.1)) rfl))⟩)) (dcons (dstepN (by intro k hk; simp only [List.mem_cons, List.not_mem_nil, or_false] at hk; rcases hk with rfl | rfl | rfl | rfl <;> exact ⟨[(7, (LP 0 0))], _, _, _, _, _, rfl, rfl, rfl, rfl, astep_do rfl (tx_ldLA (vs := (c_api_Ptr t0)) Try.underlying26 rfl s_26 (by decide) rfl rfl rfl rfl)⟩)) (dcons (dstepN (by intro k hk; simp only [List.mem_cons, List.not_mem_nil, or_false] at hk; rcases hk with rfl | rfl | rfl | rfl <;> exact ⟨[(48, (Value.agg (c_api_Ptr t0).toArray))], _, _, _, _, _, rfl, rfl, rfl, rfl, astep_do rfl (ex_buildSliceD (qs := [(0, (Value.agg (c_api_Ptr t0).toArray))]) (cells := (([t0] : List G_api_Ptr).flatMap c_api_Ptr)) Try.underlying29 s_26 (by decide) (evp rfl evp_nil) rfl (by kernel_rfl) (by kernel_rfl) (by kernel_rfl))⟩)) (dcons (dstep1 (Tm := []) (L := [(c_api_Ptr t0)]) (H := ⟨0, []⟩) rfl rfl rfl rfl rfl (astep_do rfl (ex_buildSliceG (k := 0) (qs := []) (cells := (([] : List G_api_Ptr).flatMap c_api_Ptr)) (H' := ⟨1, [(0, ⟨6, (([] : List G_api_Ptr).flatMap c_api_Ptr), true⟩)]⟩) Try.underlying29 s_26 (by decide) (by decide) evp_nil rfl (by kernel_rfl) (by kernel_rfl) (by kernel_rfl) rfl rfl))) (dcons (dstepN (by intro k hk; simp only [List.mem_cons, List.not_mem_nil, or_false] at hk; rcases hk with rfl | rfl <;> exact ⟨[(15, (SL 6 c_api_Ptr x5.1))], _, _, _, _, _, rfl, rfl, rfl, rfl, astep_do rfl (ex_move (eV (v := (SL 6 c_api_Ptr x5.1)) rfl))⟩)) (dcons (dstep1 (Tm := [(50, (GV 0 0)), (51, (SL 6 c_api_Ptr x5.1))]) (L := [(c_api_Ptr t0)]) (H := ⟨1, [(0, ⟨6, (([] : List G_api_Ptr).flatMap c_api_Ptr), true⟩)]⟩) rfl rfl rfl rfl rfl (astep_do rfl (tx_appG (c := c_api_Ptr) (xs := []) (H' := ⟨1, [(0, ⟨6, ((x6).flatMap c_api_Ptr), true⟩)]⟩) ce_api_Ptr e_26 rfl rfl rfl (tsrcD (ys := x5.1) ce_api_Ptr Try.underlying29 s_26 Try.underlying29 rfl) hx6 rfl))) (dcons (dstepN (by intro k hk; simp only [List.mem_cons, List.not_mem_nil, or_false] at hk; rcases hk with rfl | rfl | rfl <;> exact ⟨[(7, (LP 0 0))], _, _, _, _, _, rfl, rfl, rfl, rfl, astep_do rfl (tx_ldLA (vs := (c_api_Ptr t0)) Try.underlying26 rfl s_26 (by decide) rfl rfl rfl rfl)⟩)) (dcons (dstepN (by intro k hk; simp only [List.mem_cons, List.not_mem_nil, or_false] at hk; rcases hk with rfl | rfl | rfl <;> exact ⟨[(53, (Value.agg (c_api_Ptr t0).toArray))], _, _, _, _, _, rfl, rfl, rfl, rfl, astep_do rfl (ex_buildSliceD (qs := [(0, (Value.agg (c_api_Ptr t0).toArray))]) (cells := (([t0] : List G_api_Ptr).flatMap c_api_Ptr)) Try.underlying29 s_26 (by decide) (evp rfl evp_nil) rfl (by kernel_rfl) (by kernel_rfl) (by kernel_rfl))⟩)) (dcons (dstep1 (Tm := [(52, (GV 0 x6.length)), (54, (SL 6 c_api_Ptr ([t0] : List G_api_Ptr)))]) (L := [(c_api_Ptr t0)]) (H := ⟨1, [(0, ⟨6, ((x6).flatMap c_api_Ptr), true⟩)]⟩) rfl rfl rfl rfl rfl (astep_do rfl (tx_appG (c := c_api_Ptr) (xs := x6) (H' := ⟨1, [(0, ⟨6, ((x7).flatMap c_api_Ptr), true⟩)]⟩) ce_api_Ptr e_26 rfl rfl rfl (tsrcD (ys := ([t0] : List G_api_Ptr)) ce_api_Ptr Try.underlying29 s_26 Try.underlying29 rfl) hx7 rfl))) (dcons (dstep1 (Tm := [(47, (SL 6 c_api_Ptr x5.1)), (49, (SL 6 c_api_Ptr ([t0] : List G_api_Ptr))), (55, (GV 0 x7.length))]) (L := [(c_api_Ptr t0)]) (H := ⟨1, [(0, ⟨6, ((x7).flatMap c_api_Ptr), true⟩)]⟩) rfl rfl rfl rfl rfl (astep_do rfl (ex_fz (Tm' := [(47, (SL 6 c_api_Ptr x5.1)), (49, (SL 6 c_api_Ptr ([t0] : List G_api_Ptr))), (55, (SL 6 c_api_Ptr x7))]) 0 rfl (FzT.keep (v := (SL 6 c_api_Ptr x5.1)) rfl (FzT.keep (v := (SL 6 c_api_Ptr ([t0] : List G_api_Ptr))) rfl (fzG ce_api_Ptr rfl rfl FzT.nil))) (ex_buildSliceD (qs := [(0, (SL 6 c_api_Ptr x5.1)), (1, (SL 6 c_api_Ptr ([t0] : List G_api_Ptr))), (2, (SL 6 c_api_Ptr x7)), (3, (SL 6 c_api_Ptr []))]) (cells := (([x5.1, ([t0] : List G_api_Ptr), x7, []] : List (List G_api_Ptr)).flatMap (cL 6 c_api_Ptr))) Try.underlying33 s_29 (by decide) (evp rfl (evp rfl (evp rfl (evpN (s := 5) rfl evp_nil)))) rfl (by kernel_rfl) (by kernel_rfl) (by kernel_rfl))))) (dcons (dstep1 (Tm := [(56, (SL 1 (cL 6 c_api_Ptr) ([x5.1, ([t0] : List G_api_Ptr), x7, []] : List (List G_api_Ptr))))]) (L := [(c_api_Ptr t0)]) (H := ⟨1, []⟩) rfl rfl rfl rfl rfl (astep_do rfl (ex_assign (eV (v := (SL 1 (cL 6 c_api_Ptr) ([x5.1, ([t0] : List G_api_Ptr), x7, []] : List (List G_api_Ptr)))) rfl)))) dnil))))))))))) ⟨rfl, rfl⟩) (by kernel_rfl) (by kernel_rfl) ?_
      show AWp _ _ _ _
      refine awp_seq ?_
      refine awp_seq ?_
      refine awp_region ?_
      refine arun_do rfl rfl rfl (ex_assign (eV (v := (I 0)) rfl)) ?_
      refine arun_keepE [2, 3, 4, 5, 6, 7, 15, 16, 17] 1 0 (st' := ⟨170, 0, [(2, (S t2)), (3, (I t3)), (4, (S t4)), (5, (I t5)), (6, (I t6)), (7, (LP 0 0)), (15, (SL 6 c_api_Ptr x5.1)), (16, (SL 1 (cL 6 c_api_Ptr) ([x5.1, ([t0] : List G_api_Ptr), x7, []] : List (List G_api_Ptr)))), (17, (I 0))], [(c_api_Ptr t0)], ⟨0, []⟩⟩) (by kernel_rfl) (by kernel_rfl) ?_
      show AWp _ _ _ _
      refine awp_block ?_
      refine awp_loop (fun n s => ∃ (v8 : Int), s = ⟨170, 0, [(2, (S t2)), (3, (I t3)), (4, (S t4)), (5, (I t5)), (6, (I t6)), (7, (LP 0 0)), (15, (SL 6 c_api_Ptr x5.1)), (16, (SL 1 (cL 6 c_api_Ptr) ([x5.1, ([t0] : List G_api_Ptr), x7, []] : List (List G_api_Ptr)))), (17, (I v8))], [(c_api_Ptr t0)], ⟨0, []⟩⟩ ∧ M_law4_PtrAll_l1 t0 t2 t3 t4 t5 t6 x5 x7 n v8 = some r) fuel (Exists.intro 0 (And.intro rfl h)) ?_
      rintro n s ⟨v8, rfl, h⟩ -
      cases n with
      | zero => cases h
      | succ n1 =>
        unfold M_law4_PtrAll_l1 at h
        refine awp_seq ?_
        refine awp_seq ?_
        refine awp_region ?_
        refine arun_do rfl rfl rfl (ex_move (eV (v := (I v8)) rfl)) ?_
        refine arun_do rfl rfl rfl (ex_move (eV (v := (SL 1 (cL 6 c_api_Ptr) ([x5.1, ([t0] : List G_api_Ptr), x7, []] : List (List G_api_Ptr)))) rfl)) ?_
        refine arun_do rfl rfl rfl (tx_lenD (xs := ([x5.1, ([t0] : List G_api_Ptr), x7, []] : List (List G_api_Ptr))) ceL Try.underlying33 rfl) ?_
        refine arun_do rfl rfl rfl (ex_bin (vx := (I v8)) (vy := (I (([x5.1, ([t0] : List G_api_Ptr), x7, []] : List (List G_api_Ptr)).length : Int))) rfl rfl lssI_ok) ?_
        refine arun_keepE [2, 3, 4, 5, 6, 7, 15, 16, 17, 60] 1 0 (st' := ⟨170, 0, [(2, (S t2)), (3, (I t3)), (4, (S t4)), (5, (I t5)), (6, (I t6)), (7, (LP 0 0)), (15, (SL 6 c_api_Ptr x5.1)), (16, (SL 1 (cL 6 c_api_Ptr) ([x5.1, ([t0] : List G_api_Ptr), x7, []] : List (List G_api_Ptr)))), (17, (I v8)), (60, (Bo (decide (v8 < (([x5.1, ([t0] : List G_api_Ptr), x7, []] : List (List G_api_Ptr)).length : Int)))))], [(c_api_Ptr t0)], ⟨0, []⟩⟩) (by kernel_rfl) (by kernel_rfl) ?_
        show AWp _ _ _ _
        rcases Bool.eq_false_or_eq_true (decide (v8 < (([x5.1, ([t0] : List G_api_Ptr), x7, []] : List (List G_api_Ptr)).length : Int))) with hb9 | hb9
        · rw [condT hb9] at h
          refine awp_condT (boT hb9) ?_
          refine awp_skip ?_
          show AWp _ _ _ _
          refine awp_seq ?_
          refine awp_block ?_
          refine awp_seq ?_
          obtain ⟨x10, hx10, h⟩ := bindS h
          obtain ⟨x11, hx11, h⟩ := bindS h
          obtain ⟨x12, hx12, h⟩ := bindS h
          obtain ⟨x13, hx13, h⟩ := bindS h
          refine awp_kn [2, 3, 4, 5, 6, 7, 15, 16, 17, 73] 1 0 (st' := ⟨170, 0, [(2, (S t2)), (3, (I t3)), (4, (S t4)), (5, (I t5)), (6, (I t6)), (7, (LP 0 0)), (15, (SL 6 c_api_Ptr x5.1)), (16, (SL 1 (cL 6 c_api_Ptr) ([x5.1, ([t0] : List G_api_Ptr), x7, []] : List (List G_api_Ptr)))), (17, (I v8)), (73, (Bo (x11 != x13)))], [(c_api_Ptr t0)], ⟨0, []⟩⟩) (awp_draw (T := [(SL 1 (cL 6 c_api_Ptr) ([x5.1, ([t0] : List G_api_Ptr), x7, []] : List (List G_api_Ptr))), (I v8), (DP ((cL 6 c_api_Ptr) x10)), (SL 6 c_api_Ptr x10), (S x11), (SL 1 (cL 6 c_api_Ptr) ([x5.1, ([t0] : List G_api_Ptr), x7, []] : List (List G_api_Ptr))), (I v8), (DP ((cL 6 c_api_Ptr) x12)), (SL 6 c_api_Ptr x12), (S x13), (Bo (x11 != x13))]) (LH := [([(c_api_Ptr t0)], ⟨0, []⟩)]) (D := [⟨[(16, none)], [], [0], false⟩, ⟨[(17, none)], [], [0], false⟩, ⟨[(63, some 0), (64, some 1)], [0, 1], [0], false⟩, ⟨[(65, some 2)], [0, 1, 2], [0], false⟩, ⟨[(66, some 3)], [0, 1, 2, 3], [0], false⟩, ⟨[(16, none)], [], [0], false⟩, ⟨[(17, none)], [], [0], false⟩, ⟨[(68, some 5), (69, some 6)], [5, 6], [0], false⟩, ⟨[(70, some 7)], [5, 6, 7], [0], false⟩, ⟨[(71, some 8)], [0, 1, 2, 3, 4, 5, 6, 7, 8], [0], false⟩, ⟨[(67, some 4), (72, some 9)], [0, 1, 2, 3, 4, 5, 6, 7, 8, 9], [0], false⟩]) (S := []) (plan := [0, 1, 2, 3, 4, 5, 6, 7, 8, 9, 10]) mo (by kernel_rfl) rfl rfl rfl (dcons (dstep1 (Tm := [(16, (SL 1 (cL 6 c_api_Ptr) ([x5.1, ([t0] : List G_api_Ptr), x7, []] : List (List G_api_Ptr))))]) (L := [(c_api_Ptr t0)]) (H := ⟨0, []⟩) rfl rfl rfl rfl rfl (astep_do rfl (ex_move (eV (v := (SL 1 (cL 6 c_api_Ptr) ([x5.1, ([t0] : List G_api_Ptr), x7, []] : List (List G_api_Ptr)))) rfl)))) (dcons (dstep1 (Tm := [(17, (I v8))]) (L := [(c_api_Ptr t0)]) (H := ⟨0, []⟩) rfl rfl rfl rfl rfl (astep_do rfl (ex_move (eV (v := (I v8)) rfl)))) (dcons (dstep1 (Tm := [(63, (SL 1 (cL 6 c_api_Ptr) ([x5.1, ([t0] : List G_api_Ptr), x7, []] : List (List G_api_Ptr)))), (64, (I v8))]) (L := [(c_api_Ptr t0)]) (H := ⟨0, []⟩) rfl rfl rfl rfl rfl (astep_do rfl (tx_idxD (c := (cL 6 c_api_Ptr)) (xs := ([x5.1, ([t0] : List G_api_Ptr), x7, []] : List (List G_api_Ptr))) (i := v8) ceL Try.underlying33 s_29 rfl rfl hx10))) (dcons (dstep1 (Tm := [(65, (DP ((cL 6 c_api_Ptr) x10)))]) (L := [(c_api_Ptr t0)]) (H := ⟨0, []⟩) rfl rfl rfl rfl rfl (astep_do rfl (tx_ldD1 (v := (SL 6 c_api_Ptr x10)) Try.underlying29 rfl rfl rfl))) (dcons (dstep1 (Tm := [(66, (SL 6 c_api_Ptr x10))]) (L := [(c_api_Ptr t0)]) (H := ⟨0, []⟩) rfl rfl rfl rfl rfl (astep_do rfl (ex_call0 (vs := [(SL 6 c_api_Ptr x10)]) (v := (S x11)) rfl en_11 (cargs (evs rfl evs_nil)) rfl (ok_ptr_Put x10 x11 hx11) rfl))) (dcons (dstep1 (Tm := [(16, (SL 1 (cL 6 c_api_Ptr) ([x5.1, ([t0] : List G_api_Ptr), x7, []] : List (List G_api_Ptr))))]) (L := [(c_api_Ptr t0)]) (H := ⟨0, []⟩) rfl rfl rfl rfl rfl (astep_do rfl (ex_move (eV (v := (SL 1 (cL 6 c_api_Ptr) ([x5.1, ([t0] : List G_api_Ptr), x7, []] : List (List G_api_Ptr)))) rfl)))) (dcons (dstep1 (Tm := [(17, (I v8))]) (L := [(c_api_Ptr t0)]) (H := ⟨0, []⟩) rfl rfl rfl rfl rfl (astep_do rfl (ex_move (eV (v := (I v8)) rfl)))) (dcons (dstep1 (Tm := [(68, (SL 1 (cL 6 c_api_Ptr) ([x5.1, ([t0] : List G_api_Ptr), x7, []] : List (List G_api_Ptr)))), (69, (I v8))]) (L := [(c_api_Ptr t0)]) (H := ⟨0, []⟩) rfl rfl rfl rfl rfl (astep_do rfl (tx_idxD (c := (cL 6 c_api_Ptr)) (xs := ([x5.1, ([t0] : List G_api_Ptr), x7, []] : List (List G_api_Ptr))) (i := v8) ceL Try.underlying33 s_29 rfl rfl hx12))) (dcons (dstep1 (Tm := [(70, (DP ((cL 6 c_api_Ptr) x12)))]) (L := [(c_api_Ptr t0)]) (H := ⟨0, []⟩) rfl rfl rfl rfl rfl (astep_do rfl (tx_ldD1 (v := (SL 6 c_api_Ptr x12)) Try.underlying29 rfl rfl rfl))) (dcons (dstep1 (Tm := [(71, (SL 6 c_api_Ptr x12))]) (L := [(c_api_Ptr t0)]) (H := ⟨0, []⟩) rfl rfl rfl rfl rfl (astep_do rfl (ex_call0 (vs := [(SL 6 c_api_Ptr x12)]) (v := (S x13)) rfl en_12 (cargs (evs rfl evs_nil)) rfl (ok_ref1_PutPtrs x12 x13 hx13) rfl))) (dcons (dstep1 (Tm := [(67, (S x11)), (72, (S x13))]) (L := [(c_api_Ptr t0)]) (H := ⟨0, []⟩) rfl rfl rfl rfl rfl (astep_do rfl (ex_bin (vx := (S x11)) (vy := (S x13)) rfl rfl neqS_ok))) dnil))))))))))) ⟨rfl, rfl⟩) (by kernel_rfl) (by kernel_rfl) ?_
          show AWp _ _ _ _
          rcases Bool.eq_false_or_eq_true (x11 != x13) with hb14 | hb14
          · rw [condT hb14] at h
            refine awp_condT (boT hb14) ?_
            refine awp_seq ?_
            refine awp_region ?_
            refine arun_do rfl rfl rfl (ex_assign (eV (v := (Bo false)) rfl)) ?_
            refine arun_keepE [14] 0 0 (st' := ⟨170, 0, [(14, (Bo false))], [], ⟨0, []⟩⟩) (by kernel_rfl) (by kernel_rfl) ?_
            show AWp _ _ _ _
            refine awp_ret ?_
            cases h
            exact ares1 (rtmp rfl (eV rfl))
          · rw [condF hb14] at h
            refine awp_condF (boF hb14) ?_
            refine awp_skip ?_
            show AWp _ _ _ _
            refine awp_region ?_
            refine arun_do rfl rfl rfl (ex_move (eV (v := (I v8)) rfl)) ?_
            refine arun_do rfl rfl rfl (ex_bin (vx := (I v8)) (vy := (I 1)) rfl rfl addI_ok) ?_
            refine arun_do rfl rfl rfl (ex_assign (eV (v := (I (w64 (v8 + 1)))) rfl)) ?_
            refine arun_keepE [2, 3, 4, 5, 6, 7, 15, 16, 17] 1 0 (st' := ⟨170, 0, [(2, (S t2)), (3, (I t3)), (4, (S t4)), (5, (I t5)), (6, (I t6)), (7, (LP 0 0)), (15, (SL 6 c_api_Ptr x5.1)), (16, (SL 1 (cL 6 c_api_Ptr) ([x5.1, ([t0] : List G_api_Ptr), x7, []] : List (List G_api_Ptr)))), (17, (I (w64 (v8 + 1))))], [(c_api_Ptr t0)], ⟨0, []⟩⟩) (by kernel_rfl) (by kernel_rfl) ?_
            exact Exists.intro n1 (And.intro (Nat.lt_succ_self _) (Exists.intro (w64 (v8 + 1)) (And.intro rfl h)))
        · rw [condF hb9] at h
          refine awp_condF (boF hb9) ?_
          refine awp_exit ?_
          show AWp _ _ _ _
          refine awp_seq ?_
          refine awp_region ?_
          refine arun_do rfl rfl rfl (ex_move (eV (v := (S t2)) rfl)) ?_
          refine arun_do rfl rfl rfl (ex_move (eV (v := (SL 6 c_api_Ptr x5.1)) rfl)) ?_
          obtain ⟨x15, hx15, h⟩ := bindS h
          refine arun_do rfl rfl rfl (ex_call0 (vs := [(SL 6 c_api_Ptr x5.1)]) (v := (S x15)) rfl en_12 (cargs (evs rfl evs_nil)) rfl (ok_ref1_PutPtrs x5.1 x15 hx15) rfl) ?_
          refine arun_do rfl rfl rfl (ex_move (eV (v := (SL 6 c_api_Ptr x5.1)) rfl)) ?_
          obtain ⟨x16, hx16, h⟩ := bindS h
          refine arun_do rfl rfl rfl (ex_call0 (vs := [(SL 6 c_api_Ptr x5.1)]) (v := (S x16)) rfl en_12 (cargs (evs rfl evs_nil)) rfl (ok_ref1_PutPtrs x5.1 x16 hx16) rfl) ?_
          refine arun_do rfl rfl rfl (ex_move (eV (v := (S t2)) rfl)) ?_
          obtain ⟨x17, hx17, h⟩ := bindS h
          refine arun_do rfl rfl rfl (ex_bin (vx := (S x16)) (vy := (S t2)) rfl rfl (addS_ok hx17)) ?_
          refine arun_do rfl rfl rfl (ex_buildSliceD (qs := [(0, (S t2)), (1, (S x15)), (2, (S x17))]) (cells := (([t2, x15, x17] : List Str).flatMap cS)) Try.underlying36 s_9 (by decide) (evp rfl (evp rfl (evp rfl evp_nil))) rfl (by kernel_rfl) (by kernel_rfl) (by kernel_rfl)) ?_
          refine arun_do rfl rfl rfl (ex_assign (eV (v := (SL 1 cS ([t2, x15, x17] : List Str))) rfl)) ?_
          refine arun_keepE [3, 4, 5, 6, 7, 18] 1 0 (st' := ⟨170, 0, [(3, (I t3)), (4, (S t4)), (5, (I t5)), (6, (I t6)), (7, (LP 0 0)), (18, (SL 1 cS ([t2, x15, x17] : List Str)))], [(c_api_Ptr t0)], ⟨0, []⟩⟩) (by kernel_rfl) (by kernel_rfl) ?_
          show AWp _ _ _ _
          refine awp_seq ?_
          refine awp_region ?_
          refine arun_do rfl rfl rfl (ex_move (eV (v := (I t3)) rfl)) ?_
          refine arun_do rfl rfl rfl (ex_buildSliceD (qs := [(0, (I t3)), (1, (I 3)), (2, (I 2)), (3, (I 0))]) (cells := (([t3, 3, 2, 0] : List Int).flatMap cI)) Try.underlying37 s_3 (by decide) (evp rfl (evp rfl (evp rfl (evp rfl evp_nil)))) rfl (by kernel_rfl) (by kernel_rfl) (by kernel_rfl)) ?_
          refine arun_do rfl rfl rfl (ex_assign (eV (v := (SL 1 cI ([t3, 3, 2, 0] : List Int))) rfl)) ?_
          refine arun_keepE [4, 5, 6, 7, 18, 19] 1 0 (st' := ⟨170, 0, [(4, (S t4)), (5, (I t5)), (6, (I t6)), (7, (LP 0 0)), (18, (SL 1 cS ([t2, x15, x17] : List Str))), (19, (SL 1 cI ([t3, 3, 2, 0] : List Int)))], [(c_api_Ptr t0)], ⟨0, []⟩⟩) (by kernel_rfl) (by kernel_rfl) ?_
          show AWp _ _ _ _
          refine awp_seq ?_
          refine awp_seq ?_
          refine awp_region ?_
          refine arun_do rfl rfl rfl (ex_assign (eV (v := (I 0)) rfl)) ?_
          refine arun_keepE [4, 5, 6, 7, 18, 19, 20] 1 0 (st' := ⟨170, 0, [(4, (S t4)), (5, (I t5)), (6, (I t6)), (7, (LP 0 0)), (18, (SL 1 cS ([t2, x15, x17] : List Str))), (19, (SL 1 cI ([t3, 3, 2, 0] : List Int))), (20, (I 0))], [(c_api_Ptr t0)], ⟨0, []⟩⟩) (by kernel_rfl) (by kernel_rfl) ?_
          show AWp _ _ _ _
          refine awp_block ?_
          refine awp_loop (fun n s => ∃ (v18 : Int), s = ⟨170, 0, [(4, (S t4)), (5, (I t5)), (6, (I t6)), (7, (LP 0 0)), (18, (SL 1 cS ([t2, x15, x17] : List Str))), (19, (SL 1 cI ([t3, 3, 2, 0] : List Int))), (20, (I v18))], [(c_api_Ptr t0)], ⟨0, []⟩⟩ ∧ M_law4_PtrAll_l2 (M_law4_PtrAll_l1 t0 t2 t3 t4 t5 t6 x5 x7 n1) t0 t2 t3 t4 t5 t6 x15 x17 n v18 = some r) fuel (Exists.intro 0 (And.intro rfl h)) ?_
          rintro n s ⟨v18, rfl, h⟩ -
          cases n with
          | zero => cases h
          | succ n2 =>
            unfold M_law4_PtrAll_l2 at h
            refine awp_seq ?_
            refine awp_seq ?_
            refine awp_region ?_
            refine arun_do rfl rfl rfl (ex_move (eV (v := (I v18)) rfl)) ?_
            refine arun_do rfl rfl rfl (ex_bin (vx := (I v18)) (vy := (I 3)) rfl rfl lssI_ok) ?_
            refine arun_keepE [4, 5, 6, 7, 18, 19, 20, 85] 1 0 (st' := ⟨170, 0, [(4, (S t4)), (5, (I t5)), (6, (I t6)), (7, (LP 0 0)), (18, (SL 1 cS ([t2, x15, x17] : List Str))), (19, (SL 1 cI ([t3, 3, 2, 0] : List Int))), (20, (I v18)), (85, (Bo (decide (v18 < 3))))], [(c_api_Ptr t0)], ⟨0, []⟩⟩) (by kernel_rfl) (by kernel_rfl) ?_
            show AWp _ _ _ _
            rcases Bool.eq_false_or_eq_true (decide (v18 < 3)) with hb19 | hb19
            · rw [condT hb19] at h
              refine awp_condT (boT hb19) ?_
              refine awp_skip ?_
              show AWp _ _ _ _
              refine awp_seq ?_
              refine awp_block ?_
              refine awp_seq ?_
              refine awp_region ?_
              refine arun_do rfl rfl rfl (ex_assign (eV (v := (I 0)) rfl)) ?_
              refine arun_keepE [4, 5, 6, 7, 18, 19, 20, 21] 1 0 (st' := ⟨170, 0, [(4, (S t4)), (5, (I t5)), (6, (I t6)), (7, (LP 0 0)), (18, (SL 1 cS ([t2, x15, x17] : List Str))), (19, (SL 1 cI ([t3, 3, 2, 0] : List Int))), (20, (I v18)), (21, (I 0))], [(c_api_Ptr t0)], ⟨0, []⟩⟩) (by kernel_rfl) (by kernel_rfl) ?_
              show AWp _ _ _ _
              refine awp_block ?_
              refine awp_loop (fun n s => ∃ (v20 : Int), s = ⟨170, 0, [(4, (S t4)), (5, (I t5)), (6, (I t6)), (7, (LP 0 0)), (18, (SL 1 cS ([t2, x15, x17] : List Str))), (19, (SL 1 cI ([t3, 3, 2, 0] : List Int))), (20, (I v18)), (21, (I v20))], [(c_api_Ptr t0)], ⟨0, []⟩⟩ ∧ M_law4_PtrAll_l3 (M_law4_PtrAll_l1 t0 t2 t3 t4 t5 t6 x5 x7 n1) (M_law4_PtrAll_l2 (M_law4_PtrAll_l1 t0 t2 t3 t4 t5 t6 x5 x7 n1) t0 t2 t3 t4 t5 t6 x15 x17 n2) t0 t2 t3 t4 t5 t6 x15 x17 v18 n v20 = some r) fuel (Exists.intro 0 (And.intro rfl h)) ?_
              rintro n s ⟨v20, rfl, h⟩ -
              cases n with
              | zero => cases h
              | succ n3 =>
                unfold M_law4_PtrAll_l3 at h
                refine awp_seq ?_
                refine awp_seq ?_
                refine awp_region ?_
                refine arun_do rfl rfl rfl (ex_move (eV (v := (I v20)) rfl)) ?_
                refine arun_do rfl rfl rfl (ex_bin (vx := (I v20)) (vy := (I 4)) rfl rfl lssI_ok) ?_
                refine arun_keepE [4, 5, 6, 7, 18, 19, 20, 21, 89] 1 0 (st' := ⟨170, 0, [(4, (S t4)), (5, (I t5)), (6, (I t6)), (7, (LP 0 0)), (18, (SL 1 cS ([t2, x15, x17] : List Str))), (19, (SL 1 cI ([t3, 3, 2, 0] : List Int))), (20, (I v18)), (21, (I v20)), (89, (Bo (decide (v20 < 4))))], [(c_api_Ptr t0)], ⟨0, []⟩⟩) (by kernel_rfl) (by kernel_rfl) ?_
                show AWp _ _ _ _
                rcases Bool.eq_false_or_eq_true (decide (v20 < 4)) with hb21 | hb21
                · rw [condT hb21] at h
                  refine awp_condT (boT hb21) ?_
                  refine awp_skip ?_
                  show AWp _ _ _ _
                  refine awp_seqJ (fun s => s = ⟨170, 0, [(4, (S t4)), (5, (I t5)), (6, (I t6)), (7, (LP 0 0)), (18, (SL 1 cS ([t2, x15, x17] : List Str))), (19, (SL 1 cI ([t3, 3, 2, 0] : List Int))), (20, (I v18)), (21, (I v20))], [(c_api_Ptr t0)], ⟨0, []⟩⟩ ∧ M_law4_PtrAll_k1 (M_law4_PtrAll_l1 t0 t2 t3 t4 t5 t6 x5 x7 n1) (M_law4_PtrAll_l2 (M_law4_PtrAll_l1 t0 t2 t3 t4 t5 t6 x5 x7 n1) t0 t2 t3 t4 t5 t6 x15 x17 n2) (M_law4_PtrAll_l3 (M_law4_PtrAll_l1 t0 t2 t3 t4 t5 t6 x5 x7 n1) (M_law4_PtrAll_l2 (M_law4_PtrAll_l1 t0 t2 t3 t4 t5 t6 x5 x7 n1) t0 t2 t3 t4 t5 t6 x15 x17 n2) t0 t2 t3 t4 t5 t6 x15 x17 v18 n3) t0 t2 t3 t4 t5 t6 x15 x17 v18 v20 = some r) ?_ ?_
                  · refine awp_block ?_
                    refine awp_seq ?_
                    refine awp_seq ?_
                    refine awp_region ?_
                    refine arun_do rfl rfl rfl (ex_move (eV (v := (SL 1 cI ([t3, 3, 2, 0] : List Int))) rfl)) ?_
                    refine arun_do rfl rfl rfl (ex_move (eV (v := (I v20)) rfl)) ?_
                    obtain ⟨x22, hx22, h⟩ := bindS h
                    refine arun_do rfl rfl rfl (tx_idxD (c := cI) (xs := ([t3, 3, 2, 0] : List Int)) (i := v20) ceI Try.underlying37 s_3 rfl rfl hx22) ?_
                    refine arun_do rfl rfl rfl (tx_ldD1 (v := (I x22)) Try.underlying3 rfl rfl rfl) ?_
                    refine arun_do rfl rfl rfl (ex_bin (vx := (I x22)) (vy := (I 100)) rfl rfl gtrI_ok) ?_
                    refine arun_keepE [4, 5, 6, 7, 18, 19, 20, 21, 96] 1 0 (st' := ⟨170, 0, [(4, (S t4)), (5, (I t5)), (6, (I t6)), (7, (LP 0 0)), (18, (SL 1 cS ([t2, x15, x17] : List Str))), (19, (SL 1 cI ([t3, 3, 2, 0] : List Int))), (20, (I v18)), (21, (I v20)), (96, (Bo (decide (x22 > 100))))], [(c_api_Ptr t0)], ⟨0, []⟩⟩) (by kernel_rfl) (by kernel_rfl) ?_
                    show AWp _ _ _ _
                    rcases Bool.eq_false_or_eq_true (decide (x22 > 100)) with hb23 | hb23
                    · rw [condT hb23] at h
                      refine awp_condT (boT hb23) ?_
                      refine awp_keepE [4, 5, 6, 7, 18, 19, 20, 21] 1 0 (st' := ⟨170, 0, [(4, (S t4)), (5, (I t5)), (6, (I t6)), (7, (LP 0 0)), (18, (SL 1 cS ([t2, x15, x17] : List Str))), (19, (SL 1 cI ([t3, 3, 2, 0] : List Int))), (20, (I v18)), (21, (I v20))], [(c_api_Ptr t0)], ⟨0, []⟩⟩) (by kernel_rfl) (by kernel_rfl) ?_
                      refine awp_exit ?_
                      exact (And.intro rfl h)
                    · rw [condF hb23] at h
                      refine awp_condF (boF hb23) ?_
                      refine awp_skip ?_
                      show AWp _ _ _ _
                      refine awp_seq ?_
                      obtain ⟨x24, hx24, h⟩ := bindS h
                      obtain ⟨x25, hx25, h⟩ := bindS h
                      obtain ⟨x26, hx26, h⟩ := bindS h
                      refine awp_kn [4, 5, 6, 7, 18, 19, 20, 21, 22, 23, 24] 1 0 (st' := ⟨170, 0, [(4, (S t4)), (5, (I t5)), (6, (I t6)), (7, (LP 0 0)), (18, (SL 1 cS ([t2, x15, x17] : List Str))), (19, (SL 1 cI ([t3, 3, 2, 0] : List Int))), (20, (I v18)), (21, (I v20)), (22, (SL 6 c_api_Ptr x26.1)), (23, (S x26.2.1)), (24, (Bo x26.2.2))], [(c_api_Ptr t0)], ⟨0, []⟩⟩) (awp_draw (T := [(SL 1 cS ([t2, x15, x17] : List Str)), (I v18), (DP (cS x24)), (S x24), (SL 1 cI ([t3, 3, 2, 0] : List Int)), (I v20), (DP (cI x25)), (I x25), (Value.tuple #[(SL 6 c_api_Ptr x26.1), (S x26.2.1), (Bo x26.2.2)]), (Value.tuple #[(SL 6 c_api_Ptr x26.1), (S x26.2.1), (Bo x26.2.2)]), (SL 6 c_api_Ptr x26.1), (S x26.2.1), (Bo x26.2.2), (SL 6 c_api_Ptr x26.1), (S x26.2.1), (Bo x26.2.2)]) (LH := [([(c_api_Ptr t0)], ⟨0, []⟩)]) (D := [⟨[(18, none)], [], [0], false⟩, ⟨[(20, none)], [], [0], false⟩, ⟨[(98, some 0), (99, some 1)], [0, 1], [0], false⟩, ⟨[(100, some 2)], [0, 1, 2], [0], false⟩, ⟨[(19, none)], [], [0], false⟩, ⟨[(21, none)], [], [0], false⟩, ⟨[(102, some 4), (103, some 5)], [4, 5], [0], false⟩, ⟨[(104, some 6)], [4, 5, 6], [0], false⟩, ⟨[(101, some 3), (105, some 7)], [0, 1, 2, 3, 4, 5, 6, 7], [0], false⟩, ⟨[(106, some 8)], [0, 1, 2, 3, 4, 5, 6, 7, 8], [0], false⟩, ⟨[(97, some 9)], [0, 1, 2, 3, 4, 5, 6, 7, 8, 9], [0], false⟩, ⟨[(97, some 9)], [0, 1, 2, 3, 4, 5, 6, 7, 8, 9], [0], false⟩, ⟨[(97, some 9)], [0, 1, 2, 3, 4, 5, 6, 7, 8, 9], [0], false⟩, ⟨[(107, some 10)], [0, 1, 2, 3, 4, 5, 6, 7, 8, 9, 10], [0], false⟩, ⟨[(108, some 11)], [0, 1, 2, 3, 4, 5, 6, 7, 8, 9, 10, 11, 13], [0], false⟩, ⟨[(109, some 12)], [0, 1, 2, 3, 4, 5, 6, 7, 8, 9, 10, 11, 12, 13, 14], [0], false⟩]) (S := []) (plan := [0, 1, 2, 3, 4, 5, 6, 7, 8, 9, 10, 11, 12, 13, 14, 15]) mo (by kernel_rfl) rfl rfl rfl (dcons (dstep1 (Tm := [(18, (SL 1 cS ([t2, x15, x17] : List Str)))]) (L := [(c_api_Ptr t0)]) (H := ⟨0, []⟩) rfl rfl rfl rfl rfl (astep_do rfl (ex_move (eV (v := (SL 1 cS ([t2, x15, x17] : List Str))) rfl)))) (dcons (dstep1 (Tm := [(20, (I v18))]) (L := [(c_api_Ptr t0)]) (H := ⟨0, []⟩) rfl rfl rfl rfl rfl (astep_do rfl (ex_move (eV (v := (I v18)) rfl)))) (dcons (dstep1 (Tm := [(98, (SL 1 cS ([t2, x15, x17] : List Str))), (99, (I v18))]) (L := [(c_api_Ptr t0)]) (H := ⟨0, []⟩) rfl rfl rfl rfl rfl (astep_do rfl (tx_idxD (c := cS) (xs := ([t2, x15, x17] : List Str)) (i := v18) ceS Try.underlying36 s_9 rfl rfl hx24))) (dcons (dstep1 (Tm := [(100, (DP (cS x24)))]) (L := [(c_api_Ptr t0)]) (H := ⟨0, []⟩) rfl rfl rfl rfl rfl (astep_do rfl (tx_ldD1 (v := (S x24)) Try.underlying9 rfl rfl rfl))) (dcons (dstep1 (Tm := [(19, (SL 1 cI ([t3, 3, 2, 0] : List Int)))]) (L := [(c_api_Ptr t0)]) (H := ⟨0, []⟩) rfl rfl rfl rfl rfl (astep_do rfl (ex_move (eV (v := (SL 1 cI ([t3, 3, 2, 0] : List Int))) rfl)))) (dcons (dstep1 (Tm := [(21, (I v20))]) (L := [(c_api_Ptr t0)]) (H := ⟨0, []⟩) rfl rfl rfl rfl rfl (astep_do rfl (ex_move (eV (v := (I v20)) rfl)))) (dcons (dstep1 (Tm := [(102, (SL 1 cI ([t3, 3, 2, 0] : List Int))), (103, (I v20))]) (L := [(c_api_Ptr t0)]) (H := ⟨0, []⟩) rfl rfl rfl rfl rfl (astep_do rfl (tx_idxD (c := cI) (xs := ([t3, 3, 2, 0] : List Int)) (i := v20) ceI Try.underlying37 s_3 rfl rfl hx25))) (dcons (dstep1 (Tm := [(104, (DP (cI x25)))]) (L := [(c_api_Ptr t0)]) (H := ⟨0, []⟩) rfl rfl rfl rfl rfl (astep_do rfl (tx_ldD1 (v := (I x25)) Try.underlying3 rfl rfl rfl))) (dcons (dstep1 (Tm := [(101, (S x24)), (105, (I x25))]) (L := [(c_api_Ptr t0)]) (H := ⟨0, []⟩) rfl rfl rfl rfl rfl (astep_do rfl (ex_call0 (vs := [(S x24), (I x25)]) (v := (Value.tuple #[(SL 6 c_api_Ptr x26.1), (S x26.2.1), (Bo x26.2.2)])) rfl en_13 (cargs (evs rfl (evs rfl evs_nil))) rfl (ok_ptr_Take x24 x25 x26 hx26) rfl))) (dcons (dstep1 (Tm := [(106, (Value.tuple #[(SL 6 c_api_Ptr x26.1), (S x26.2.1), (Bo x26.2.2)]))]) (L := [(c_api_Ptr t0)]) (H := ⟨0, []⟩) rfl rfl rfl rfl rfl (astep_do rfl (ex_move (eV (v := (Value.tuple #[(SL 6 c_api_Ptr x26.1), (S x26.2.1), (Bo x26.2.2)])) rfl)))) (dcons (dstep1 (Tm := [(97, (Value.tuple #[(SL 6 c_api_Ptr x26.1), (S x26.2.1), (Bo x26.2.2)]))]) (L := [(c_api_Ptr t0)]) (H := ⟨0, []⟩) rfl rfl rfl rfl rfl (astep_do rfl (ex_extract (vx := (Value.tuple #[(SL 6 c_api_Ptr x26.1), (S x26.2.1), (Bo x26.2.2)])) (v := (SL 6 c_api_Ptr x26.1)) rfl rfl))) (dcons (dstep1 (Tm := [(97, (Value.tuple #[(SL 6 c_api_Ptr x26.1), (S x26.2.1), (Bo x26.2.2)]))]) (L := [(c_api_Ptr t0)]) (H := ⟨0, []⟩) rfl rfl rfl rfl rfl (astep_do rfl (ex_extract (vx := (Value.tuple #[(SL 6 c_api_Ptr x26.1), (S x26.2.1), (Bo x26.2.2)])) (v := (S x26.2.1)) rfl rfl))) (dcons (dstep1 (Tm := [(97, (Value.tuple #[(SL 6 c_api_Ptr x26.1), (S x26.2.1), (Bo x26.2.2)]))]) (L := [(c_api_Ptr t0)]) (H := ⟨0, []⟩) rfl rfl rfl rfl rfl (astep_do rfl (ex_extract (vx := (Value.tuple #[(SL 6 c_api_Ptr x26.1), (S x26.2.1), (Bo x26.2.2)])) (v := (Bo x26.2.2)) rfl rfl))) (dcons (dstep1 (Tm := [(107, (SL 6 c_api_Ptr x26.1))]) (L := [(c_api_Ptr t0)]) (H := ⟨0, []⟩) rfl rfl rfl rfl rfl (astep_do rfl (ex_assign (eV (v := (SL 6 c_api_Ptr x26.1)) rfl)))) (dcons (dstep1 (Tm := [(108, (S x26.2.1))]) (L := [(c_api_Ptr t0)]) (H := ⟨0, []⟩) rfl rfl rfl rfl rfl (astep_do rfl (ex_assign (eV (v := (S x26.2.1)) rfl)))) (dcons (dstep1 (Tm := [(109, (Bo x26.2.2))]) (L := [(c_api_Ptr t0)]) (H := ⟨0, []⟩) rfl rfl rfl rfl rfl (astep_do rfl (ex_assign (eV (v := (Bo x26.2.2)) rfl)))) dnil)))))))))))))))) ⟨rfl, rfl⟩) (by kernel_rfl) (by kernel_rfl) ?_
                      show AWp _ _ _ _
                      refine awp_seq ?_
                      obtain ⟨x27, hx27, h⟩ := bindS h
                      obtain ⟨x28, hx28, h⟩ := bindS h
                      obtain ⟨x29, hx29, h⟩ := bindS h
                      refine awp_kn [4, 5, 6, 7, 18, 19, 20, 21, 22, 23, 24, 25, 26, 27] 1 0 (st' := ⟨170, 0, [(4, (S t4)), (5, (I t5)), (6, (I t6)), (7, (LP 0 0)), (18, (SL 1 cS ([t2, x15, x17] : List Str))), (19, (SL 1 cI ([t3, 3, 2, 0] : List Int))), (20, (I v18)), (21, (I v20)), (22, (SL 6 c_api_Ptr x26.1)), (23, (S x26.2.1)), (24, (Bo x26.2.2)), (25, (SL 6 c_api_Ptr x29.1)), (26, (S x29.2.1)), (27, (Bo x29.2.2))], [(c_api_Ptr t0)], ⟨0, []⟩⟩) (awp_draw (T := [(SL 1 cS ([t2, x15, x17] : List Str)), (I v18), (DP (cS x27)), (S x27), (SL 1 cI ([t3, 3, 2, 0] : List Int)), (I v20), (DP (cI x28)), (I x28), (Value.tuple #[(SL 6 c_api_Ptr x29.1), (S x29.2.1), (Bo x29.2.2)]), (Value.tuple #[(SL 6 c_api_Ptr x29.1), (S x29.2.1), (Bo x29.2.2)]), (SL 6 c_api_Ptr x29.1), (S x29.2.1), (Bo x29.2.2), (SL 6 c_api_Ptr x29.1), (S x29.2.1), (Bo x29.2.2)]) (LH := [([(c_api_Ptr t0)], ⟨0, []⟩)]) (D := [⟨[(18, none)], [], [0], false⟩, ⟨[(20, none)], [], [0], false⟩, ⟨[(111, some 0), (112, some 1)], [0, 1], [0], false⟩, ⟨[(113, some 2)], [0, 1, 2], [0], false⟩, ⟨[(19, none)], [], [0], false⟩, ⟨[(21, none)], [], [0], false⟩, ⟨[(115, some 4), (116, some 5)], [4, 5], [0], false⟩, ⟨[(117, some 6)], [4, 5, 6], [0], false⟩, ⟨[(114, some 3), (118, some 7)], [0, 1, 2, 3, 4, 5, 6, 7], [0], false⟩, ⟨[(119, some 8)], [0, 1, 2, 3, 4, 5, 6, 7, 8], [0], false⟩, ⟨[(110, some 9)], [0, 1, 2, 3, 4, 5, 6, 7, 8, 9], [0], false⟩, ⟨[(110, some 9)], [0, 1, 2, 3, 4, 5, 6, 7, 8, 9], [0], false⟩, ⟨[(110, some 9)], [0, 1, 2, 3, 4, 5, 6, 7, 8, 9], [0], false⟩, ⟨[(120, some 10)], [0, 1, 2, 3, 4, 5, 6, 7, 8, 9, 10], [0], false⟩, ⟨[(121, some 11)], [0, 1, 2, 3, 4, 5, 6, 7, 8, 9, 10, 11, 13], [0], false⟩, ⟨[(122, some 12)], [0, 1, 2, 3, 4, 5, 6, 7, 8, 9, 10, 11, 12, 13, 14], [0], false⟩]) (S := []) (plan := [0, 1, 2, 3, 4, 5, 6, 7, 8, 9, 10, 11, 12, 13, 14, 15]) mo (by kernel_rfl) rfl rfl rfl (dcons (dstep1 (Tm := [(18, (SL 1 cS ([t2, x15, x17] : List Str)))]) (L := [(c_api_Ptr t0)]) (H := ⟨0, []⟩) rfl rfl rfl rfl rfl (astep_do rfl (ex_move (eV (v := (SL 1 cS ([t2, x15, x17] : List Str))) rfl)))) (dcons (dstep1 (Tm := [(20, (I v18))]) (L := [(c_api_Ptr t0)]) (H := ⟨0, []⟩) rfl rfl rfl rfl rfl (astep_do rfl (ex_move (eV (v := (I v18)) rfl)))) (dcons (dstep1 (Tm := [(111, (SL 1 cS ([t2, x15, x17] : List Str))), (112, (I v18))]) (L := [(c_api_Ptr t0)]) (H := ⟨0, []⟩) rfl rfl rfl rfl rfl (astep_do rfl (tx_idxD (c := cS) (xs := ([t2, x15, x17] : List Str)) (i := v18) ceS Try.underlying36 s_9 rfl rfl hx27))) (dcons (dstep1 (Tm := [(113, (DP (cS x27)))]) (L := [(c_api_Ptr t0)]) (H := ⟨0, []⟩) rfl rfl rfl rfl rfl (astep_do rfl (tx_ldD1 (v := (S x27)) Try.underlying9 rfl rfl rfl))) (dcons (dstep1 (Tm := [(19, (SL 1 cI ([t3, 3, 2, 0] : List Int)))]) (L := [(c_api_Ptr t0)]) (H := ⟨0, []⟩) rfl rfl rfl rfl rfl (astep_do rfl (ex_move (eV (v := (SL 1 cI ([t3, 3, 2, 0] : List Int))) rfl)))) (dcons (dstep1 (Tm := [(21, (I v20))]) (L := [(c_api_Ptr t0)]) (H := ⟨0, []⟩) rfl rfl rfl rfl rfl (astep_do rfl (ex_move (eV (v := (I v20)) rfl)))) (dcons (dstep1 (Tm := [(115, (SL 1 cI ([t3, 3, 2, 0] : List Int))), (116, (I v20))]) (L := [(c_api_Ptr t0)]) (H := ⟨0, []⟩) rfl rfl rfl rfl rfl (astep_do rfl (tx_idxD (c := cI) (xs := ([t3, 3, 2, 0] : List Int)) (i := v20) ceI Try.underlying37 s_3 rfl rfl hx28))) (dcons (dstep1 (Tm := [(117, (DP (cI x28)))]) (L := [(c_api_Ptr t0)]) (H := ⟨0, []⟩) rfl rfl rfl rfl rfl (astep_do rfl (tx_ldD1 (v := (I x28)) Try.underlying3 rfl rfl rfl))) (dcons (dstep1 (Tm := [(114, (S x27)), (118, (I x28))]) (L := [(c_api_Ptr t0)]) (H := ⟨0, []⟩) rfl rfl rfl rfl rfl (astep_do rfl (ex_call0 (vs := [(S x27), (I x28)]) (v := (Value.tuple #[(SL 6 c_api_Ptr x29.1), (S x29.2.1), (Bo x29.2.2)])) rfl en_14 (cargs (evs rfl (evs rfl evs_nil))) rfl (ok_ref1_TakePtrs x27 x28 x29 hx29) rfl))) (dcons (dstep1 (Tm := [(119, (Value.tuple #[(SL 6 c_api_Ptr x29.1), (S x29.2.1), (Bo x29.2.2)]))]) (L := [(c_api_Ptr t0)]) (H := ⟨0, []⟩) rfl rfl rfl rfl rfl (astep_do rfl (ex_move (eV (v := (Value.tuple #[(SL 6 c_api_Ptr x29.1), (S x29.2.1), (Bo x29.2.2)])) rfl)))) (dcons (dstep1 (Tm := [(110, (Value.tuple #[(SL 6 c_api_Ptr x29.1), (S x29.2.1), (Bo x29.2.2)]))]) (L := [(c_api_Ptr t0)]) (H := ⟨0, []⟩) rfl rfl rfl rfl rfl (astep_do rfl (ex_extract (vx := (Value.tuple #[(SL 6 c_api_Ptr x29.1), (S x29.2.1), (Bo x29.2.2)])) (v := (SL 6 c_api_Ptr x29.1)) rfl rfl))) (dcons (dstep1 (Tm := [(110, (Value.tuple #[(SL 6 c_api_Ptr x29.1), (S x29.2.1), (Bo x29.2.2)]))]) (L := [(c_api_Ptr t0)]) (H := ⟨0, []⟩) rfl rfl rfl rfl rfl (astep_do rfl (ex_extract (vx := (Value.tuple #[(SL 6 c_api_Ptr x29.1), (S x29.2.1), (Bo x29.2.2)])) (v := (S x29.2.1)) rfl rfl))) (dcons (dstep1 (Tm := [(110, (Value.tuple #[(SL 6 c_api_Ptr x29.1), (S x29.2.1), (Bo x29.2.2)]))]) (L := [(c_api_Ptr t0)]) (H := ⟨0, []⟩) rfl rfl rfl rfl rfl (astep_do rfl (ex_extract (vx := (Value.tuple #[(SL 6 c_api_Ptr x29.1), (S x29.2.1), (Bo x29.2.2)])) (v := (Bo x29.2.2)) rfl rfl))) (dcons (dstep1 (Tm := [(120, (SL 6 c_api_Ptr x29.1))]) (L := [(c_api_Ptr t0)]) (H := ⟨0, []⟩) rfl rfl rfl rfl rfl (astep_do rfl (ex_assign (eV (v := (SL 6 c_api_Ptr x29.1)) rfl)))) (dcons (dstep1 (Tm := [(121, (S x29.2.1))]) (L := [(c_api_Ptr t0)]) (H := ⟨0, []⟩) rfl rfl rfl rfl rfl (astep_do rfl (ex_assign (eV (v := (S x29.2.1)) rfl)))) (dcons (dstep1 (Tm := [(122, (Bo x29.2.2))]) (L := [(c_api_Ptr t0)]) (H := ⟨0, []⟩) rfl rfl rfl rfl rfl (astep_do rfl (ex_assign (eV (v := (Bo x29.2.2)) rfl)))) dnil)))))))))))))))) ⟨rfl, rfl⟩) (by kernel_rfl) (by kernel_rfl) ?_
                      show AWp _ _ _ _
                      refine awp_seq ?_
                      refine awp_region ?_
                      refine arun_do rfl rfl rfl (ex_move (eV (v := (Bo x26.2.2)) rfl)) ?_
                      refine arun_do rfl rfl rfl (ex_move (eV (v := (Bo x29.2.2)) rfl)) ?_
                      refine arun_do rfl rfl rfl (ex_bin (vx := (Bo x26.2.2)) (vy := (Bo x29.2.2)) rfl rfl (neqB_ok Try.underlying4)) ?_
                      refine arun_do rfl rfl rfl (ex_move (eV (v := (Bo (x26.2.2 != x29.2.2))) rfl)) ?_
                      refine arun_guard (v := (S x26.2.1)) ((x26.2.2 != x29.2.2) == false) rfl rfl rfl (fun hc => ex_move (eV (v := (S x26.2.1)) rfl)) ?_
                      refine arun_guard (v := (S x29.2.1)) ((x26.2.2 != x29.2.2) == false) rfl rfl rfl (fun hc => ex_move (eV (v := (S x29.2.1)) rfl)) ?_
                      refine arun_guard (v := (Bo (x26.2.1 != x29.2.1))) ((x26.2.2 != x29.2.2) == false) rfl rfl rfl (fun hc => ex_bin (vx := (S x26.2.1)) (vy := (S x29.2.1)) (cond_of hc) (cond_of hc) neqS_ok) ?_
                      refine arun_do rfl rfl rfl (ex_pick rfl pkOr) ?_
                      refine arun_do rfl rfl rfl (ex_move (eV (v := (Bo ((x26.2.2 != x29.2.2) || (x26.2.1 != x29.2.1)))) rfl)) ?_
                      refine arun_guard (v := (SL 6 c_api_Ptr x26.1)) (((x26.2.2 != x29.2.2) || (x26.2.1 != x29.2.1)) == false) rfl rfl rfl (fun hc => ex_move (eV (v := (SL 6 c_api_Ptr x26.1)) rfl)) ?_
                      refine arun_guard (v := (SL 6 c_api_Ptr x29.1)) (((x26.2.2 != x29.2.2) || (x26.2.1 != x29.2.1)) == false) rfl rfl rfl (fun hc => ex_move (eV (v := (SL 6 c_api_Ptr x29.1)) rfl)) ?_
                      obtain ⟨x30, hx30, h⟩ := bindS h
                      refine arun_guard (v := (Bo x30)) (((x26.2.2 != x29.2.2) || (x26.2.1 != x29.2.1)) == false) rfl rfl rfl (fun hc => ex_call0 (vs := [(SL 6 c_api_Ptr x26.1), (SL 6 c_api_Ptr x29.1)]) (v := (Bo x30)) rfl en_15 (cargs (evs (cond_of hc) (evs (cond_of hc) evs_nil))) rfl (ok_ref1_SamePtrs x26.1 x29.1 x30 (gd_of hc hx30)) rfl) ?_
                      refine arun_guard (v := (Bo (!x30))) (((x26.2.2 != x29.2.2) || (x26.2.1 != x29.2.1)) == false) rfl rfl rfl (fun hc => ex_un (vx := (Bo x30)) (cond_of hc) notB_ok) ?_
                      refine arun_do rfl rfl rfl (ex_pick rfl pkOr) ?_
                      refine arun_keepE [4, 5, 6, 7, 18, 19, 20, 21, 136] 1 0 (st' := ⟨170, 0, [(4, (S t4)), (5, (I t5)), (6, (I t6)), (7, (LP 0 0)), (18, (SL 1 cS ([t2, x15, x17] : List Str))), (19, (SL 1 cI ([t3, 3, 2, 0] : List Int))), (20, (I v18)), (21, (I v20)), (136, (Bo (((x26.2.2 != x29.2.2) || (x26.2.1 != x29.2.1)) || (!x30))))], [(c_api_Ptr t0)], ⟨0, []⟩⟩) (by kernel_rfl) (by kernel_rfl) ?_
                      show AWp _ _ _ _
                      rcases Bool.eq_false_or_eq_true (((x26.2.2 != x29.2.2) || (x26.2.1 != x29.2.1)) || (!x30)) with hb31 | hb31
                      · rw [condT hb31] at h
                        refine awp_condT (boT hb31) ?_
                        refine awp_seq ?_
                        refine awp_region ?_
                        refine arun_do rfl rfl rfl (ex_assign (eV (v := (Bo false)) rfl)) ?_
                        refine arun_keepE [14] 0 0 (st' := ⟨170, 0, [(14, (Bo false))], [], ⟨0, []⟩⟩) (by kernel_rfl) (by kernel_rfl) ?_
                        show AWp _ _ _ _
                        refine awp_ret ?_
                        cases h
                        exact ares1 (rtmp rfl (eV rfl))
                      · rw [condF hb31] at h
                        refine awp_condF (boF hb31) ?_
                        refine awp_keepE [4, 5, 6, 7, 18, 19, 20, 21] 1 0 (st' := ⟨170, 0, [(4, (S t4)), (5, (I t5)), (6, (I t6)), (7, (LP 0 0)), (18, (SL 1 cS ([t2, x15, x17] : List Str))), (19, (SL 1 cI ([t3, 3, 2, 0] : List Int))), (20, (I v18)), (21, (I v20))], [(c_api_Ptr t0)], ⟨0, []⟩⟩) (by kernel_rfl) (by kernel_rfl) ?_
                        refine awp_skip ?_
                        exact (And.intro rfl h)
                  · rintro s ⟨rfl, h⟩
                    unfold M_law4_PtrAll_k1 at h
                    refine awp_region ?_
                    refine arun_do rfl rfl rfl (ex_move (eV (v := (I v20)) rfl)) ?_
                    refine arun_do rfl rfl rfl (ex_bin (vx := (I v20)) (vy := (I 1)) rfl rfl addI_ok) ?_
                    refine arun_do rfl rfl rfl (ex_assign (eV (v := (I (w64 (v20 + 1)))) rfl)) ?_
                    refine arun_keepE [4, 5, 6, 7, 18, 19, 20, 21] 1 0 (st' := ⟨170, 0, [(4, (S t4)), (5, (I t5)), (6, (I t6)), (7, (LP 0 0)), (18, (SL 1 cS ([t2, x15, x17] : List Str))), (19, (SL 1 cI ([t3, 3, 2, 0] : List Int))), (20, (I v18)), (21, (I (w64 (v20 + 1))))], [(c_api_Ptr t0)], ⟨0, []⟩⟩) (by kernel_rfl) (by kernel_rfl) ?_
                    exact Exists.intro n3 (And.intro (Nat.lt_succ_self _) (Exists.intro (w64 (v20 + 1)) (And.intro rfl h)))
                · rw [condF hb21] at h
                  refine awp_condF (boF hb21) ?_
                  refine awp_exit ?_
                  show AWp _ _ _ _
                  refine awp_region ?_
                  refine arun_do rfl rfl rfl (ex_move (eV (v := (I v18)) rfl)) ?_
                  refine arun_do rfl rfl rfl (ex_bin (vx := (I v18)) (vy := (I 1)) rfl rfl addI_ok) ?_
                  refine arun_do rfl rfl rfl (ex_assign (eV (v := (I (w64 (v18 + 1)))) rfl)) ?_
                  refine arun_keepE [4, 5, 6, 7, 18, 19, 20] 1 0 (st' := ⟨170, 0, [(4, (S t4)), (5, (I t5)), (6, (I t6)), (7, (LP 0 0)), (18, (SL 1 cS ([t2, x15, x17] : List Str))), (19, (SL 1 cI ([t3, 3, 2, 0] : List Int))), (20, (I (w64 (v18 + 1))))], [(c_api_Ptr t0)], ⟨0, []⟩⟩) (by kernel_rfl) (by kernel_rfl) ?_
                  exact Exists.intro n2 (And.intro (Nat.lt_succ_self _) (Exists.intro (w64 (v18 + 1)) (And.intro rfl h)))
            · rw [condF hb19] at h
              refine awp_condF (boF hb19) ?_
              refine awp_exit ?_
              show AWp _ _ _ _
              refine awp_seq ?_
              refine awp_region ?_
              refine arun_do rfl rfl rfl (ex_move (eV (v := (I t5)) rfl)) ?_
              refine arun_do rfl rfl rfl (ex_move (eV (v := (S t4)) rfl)) ?_
              refine arun_do rfl rfl rfl (ex_move (eV (v := (I t6)) rfl)) ?_
              obtain ⟨x32, hx32, h⟩ := bindS h
              refine arun_do rfl rfl rfl (ex_call0 (vs := [(I t5), (S t4), (I t6)]) (v := (Value.agg (c_api_Ptr x32).toArray)) rfl en_16 (cargs (evs rfl (evs rfl (evs rfl evs_nil)))) rfl (ok_ptr_To t5 t4 t6 x32 hx32) rfl) ?_
              refine arun_do rfl rfl rfl (ex_alloc (k := 1) (zs := (c_api_Ptr (G_api_Ptr.mk 0 0 (A4.mk 0 0 0 0)))) (L' := [(c_api_Ptr t0), (c_api_Ptr (G_api_Ptr.mk 0 0 (A4.mk 0 0 0 0)))]) z_26 rfl rfl rfl rfl) ?_
              refine arun_do0 rfl rfl (ex_storeL (vy := (Value.agg (c_api_Ptr x32).toArray)) (cs := (c_api_Ptr (G_api_Ptr.mk 0 0 (A4.mk 0 0 0 0)))) (vs := (c_api_Ptr x32)) (L' := [(c_api_Ptr t0), (c_api_Ptr x32)]) rfl (eV (v := (Value.agg (c_api_Ptr x32).toArray)) rfl) rfl s_26 rfl (Nat.le_of_ble_eq_true rfl) (by kernel_rfl)) ?_
              refine arun_keepE [4, 5, 6, 7, 28] 2 0 (st' := ⟨170, 0, [(4, (S t4)), (5, (I t5)), (6, (I t6)), (7, (LP 0 0)), (28, (LP 1 0))], [(c_api_Ptr t0), (c_api_Ptr x32)], ⟨0, []⟩⟩) (by kernel_rfl) (by kernel_rfl) ?_
              show AWp _ _ _ _
              refine awp_seq ?_
              obtain ⟨x33, hx33, h⟩ := bindS h
              obtain ⟨x34, hx34, h⟩ := bindS h
              obtain ⟨x35, hx35, h⟩ := bindS h
              obtain ⟨x36, hx36, h⟩ := bindS h
              obtain ⟨x37, hx37, h⟩ := bindS h
              obtain ⟨x38, hx38, h⟩ := bindS h
              refine awp_kn [14] 0 0 (st' := ⟨170, 0, [(14, (Bo ((((x33 == x34) && (decide (x32 = x35))) && x36) && (x37 == (decide (t0.Sum = x38))))))], [], ⟨0, []⟩⟩) (awp_draw (T := [(Value.agg (c_api_Ptr t0).toArray), (Bo x33), (Value.agg (c_api_Ptr t0).toArray), (Bo x34), (Bo (x33 == x34)), (Bo (x33 == x34)), (cond ((x33 == x34) == true) (Value.agg (c_api_Ptr x32).toArray) skipV), (cond ((x33 == x34) == true) (I t5) skipV), (cond ((x33 == x34) == true) (S t4) skipV), (cond ((x33 == x34) == true) (I t6) skipV), (cond ((x33 == x34) == true) (Value.agg (c_api_Ptr x35).toArray) skipV), (cond ((x33 == x34) == true) (Bo (decide (x32 = x35))) skipV), (Bo ((x33 == x34) && (decide (x32 = x35)))), (Bo ((x33 == x34) && (decide (x32 = x35)))), (cond (((x33 == x34) && (decide (x32 = x35))) == true) (Value.agg (c_api_Ptr x32).toArray) skipV), (cond (((x33 == x34) && (decide (x32 = x35))) == true) (S t4) skipV), (cond (((x33 == x34) && (decide (x32 = x35))) == true) (Bo x36) skipV), (Bo (((x33 == x34) && (decide (x32 = x35))) && x36)), (Bo (((x33 == x34) && (decide (x32 = x35))) && x36)), (cond ((((x33 == x34) && (decide (x32 = x35))) && x36) == true) (Value.agg (c_api_Ptr t0).toArray) skipV), (cond ((((x33 == x34) && (decide (x32 = x35))) && x36) == true) (S t4) skipV), (cond ((((x33 == x34) && (decide (x32 = x35))) && x36) == true) (Bo x37) skipV), (cond ((((x33 == x34) && (decide (x32 = x35))) && x36) == true) (LP 0 2) skipV), (cond ((((x33 == x34) && (decide (x32 = x35))) && x36) == true) (Value.agg ((cA4 c32) t0.Sum).toArray) skipV), (cond ((((x33 == x34) && (decide (x32 = x35))) && x36) == true) (S t4) skipV), (cond ((((x33 == x34) && (decide (x32 = x35))) && x36) == true) (Value.agg ((cA4 c32) x38).toArray) skipV), (cond ((((x33 == x34) && (decide (x32 = x35))) && x36) == true) (Bo (decide (t0.Sum = x38))) skipV), (cond ((((x33 == x34) && (decide (x32 = x35))) && x36) == true) (Bo (x37 == (decide (t0.Sum = x38)))) skipV), (Bo ((((x33 == x34) && (decide (x32 = x35))) && x36) && (x37 == (decide (t0.Sum = x38))))), (Bo ((((x33 == x34) && (decide (x32 = x35))) && x36) && (x37 == (decide (t0.Sum = x38)))))]) (LH := [([(c_api_Ptr t0), (c_api_Ptr x32)], ⟨0, []⟩)]) (D := [⟨[(7, none)], [], [0], false⟩, ⟨[(141, some 0)], [0], [0], false⟩, ⟨[(7, none)], [], [0], false⟩, ⟨[(143, some 2)], [0, 1, 2], [0], false⟩, ⟨[(142, some 1), (144, some 3)], [0, 1, 2, 3], [0], false⟩, ⟨[(145, some 4)], [0, 1, 2, 3, 4], [0], false⟩, ⟨[(28, none), (146, some 5)], [0, 1, 2, 3, 4, 5], [0], false⟩, ⟨[(5, none), (146, some 5)], [0, 1, 2, 3, 4, 5], [0], false⟩, ⟨[(4, none), (146, some 5)], [0, 1, 2, 3, 4, 5], [0], false⟩, ⟨[(6, none), (146, some 5)], [0, 1, 2, 3, 4, 5], [0], false⟩, ⟨[(148, some 7), (149, some 8), (150, some 9), (146, some 5)], [0, 1, 2, 3, 4, 5, 7, 8, 9], [0], false⟩, ⟨[(147, some 6), (151, some 10), (146, some 5)], [0, 1, 2, 3, 4, 5, 6, 7, 8, 9, 10], [0], false⟩, ⟨[(146, some 5), (152, some 11)], [0, 1, 2, 3, 4, 5, 6, 7, 8, 9, 10, 11], [0], false⟩, ⟨[(153, some 12)], [0, 1, 2, 3, 4, 5, 6, 7, 8, 9, 10, 11, 12], [0], false⟩, ⟨[(28, none), (154, some 13)], [0, 1, 2, 3, 4, 5, 6, 7, 8, 9, 10, 11, 12, 13], [0], false⟩, ⟨[(4, none), (154, some 13)], [0, 1, 2, 3, 4, 5, 6, 7, 8, 9, 10, 11, 12, 13], [0], false⟩, ⟨[(155, some 14), (156, some 15), (154, some 13)], [0, 1, 2, 3, 4, 5, 6, 7, 8, 9, 10, 11, 12, 13, 14, 15], [0], false⟩, ⟨[(154, some 13), (157, some 16)], [0, 1, 2, 3, 4, 5, 6, 7, 8, 9, 10, 11, 12, 13, 14, 15, 16], [0], false⟩, ⟨[(158, some 17)], [0, 1, 2, 3, 4, 5, 6, 7, 8, 9, 10, 11, 12, 13, 14, 15, 16, 17], [0], false⟩, ⟨[(7, none), (159, some 18)], [0, 1, 2, 3, 4, 5, 6, 7, 8, 9, 10, 11, 12, 13, 14, 15, 16, 17, 18], [0], false⟩, ⟨[(4, none), (159, some 18)], [0, 1, 2, 3, 4, 5, 6, 7, 8, 9, 10, 11, 12, 13, 14, 15, 16, 17, 18], [0], false⟩, ⟨[(160, some 19), (161, some 20), (159, some 18)], [0, 1, 2, 3, 4, 5, 6, 7, 8, 9, 10, 11, 12, 13, 14, 15, 16, 17, 18, 19, 20], [0], false⟩, ⟨[(7, none), (159, some 18)], [0, 1, 2, 3, 4, 5, 6, 7, 8, 9, 10, 11, 12, 13, 14, 15, 16, 17, 18], [0], false⟩, ⟨[(163, some 22), (159, some 18)], [0, 1, 2, 3, 4, 5, 6, 7, 8, 9, 10, 11, 12, 13, 14, 15, 16, 17, 18, 22], [0], false⟩, ⟨[(4, none), (159, some 18)], [0, 1, 2, 3, 4, 5, 6, 7, 8, 9, 10, 11, 12, 13, 14, 15, 16, 17, 18], [0], false⟩, ⟨[(165, some 24), (159, some 18)], [0, 1, 2, 3, 4, 5, 6, 7, 8, 9, 10, 11, 12, 13, 14, 15, 16, 17, 18, 19, 20, 21, 24], [0], false⟩, ⟨[(164, some 23), (166, some 25), (159, some 18)], [0, 1, 2, 3, 4, 5, 6, 7, 8, 9, 10, 11, 12, 13, 14, 15, 16, 17, 18, 19, 20, 21, 22, 23, 24, 25], [0], false⟩, ⟨[(162, some 21), (167, some 26), (159, some 18)], [0, 1, 2, 3, 4, 5, 6, 7, 8, 9, 10, 11, 12, 13, 14, 15, 16, 17, 18, 19, 20, 21, 22, 23, 24, 25, 26], [0], false⟩, ⟨[(159, some 18), (168, some 27)], [0, 1, 2, 3, 4, 5, 6, 7, 8, 9, 10, 11, 12, 13, 14, 15, 16, 17, 18, 19, 20, 21, 22, 23, 24, 25, 26, 27], [0], false⟩, ⟨[(169, some 28)], [0, 1, 2, 3, 4, 5, 6, 7, 8, 9, 10, 11, 12, 13, 14, 15, 16, 17, 18, 19, 20, 21, 22, 23, 24, 25, 26, 27, 28], [0], false⟩]) (S := []) (plan := [0, 1, 2, 3, 4, 5, 6, 7, 8, 9, 10, 11, 12, 13, 14, 15, 16, 17, 18, 19, 20, 21, 22, 23, 24, 25, 26, 27, 28, 29]) mo (by kernel_rfl) rfl rfl rfl (dcons (dstep1 (Tm := [(7, (LP 0 0))]) (L := [(c_api_Ptr t0), (c_api_Ptr x32)]) (H := ⟨0, []⟩) rfl rfl rfl rfl rfl (astep_do rfl (tx_ldLA (vs := (c_api_Ptr t0)) Try.underlying26 rfl s_26 (by decide) rfl rfl rfl rfl))) (dcons (dstep1 (Tm := [(141, (Value.agg (c_api_Ptr t0).toArray))]) (L := [(c_api_Ptr t0), (c_api_Ptr x32)]) (H := ⟨0, []⟩) rfl rfl rfl rfl rfl (astep_do rfl (ex_call0 (vs := [(Value.agg (c_api_Ptr t0).toArray)]) (v := (Bo x33)) rfl en_17 (cargs (evs rfl evs_nil)) rfl (ok_ptr_May t0 x33 hx33) rfl))) (dcons (dstep1 (Tm := [(7, (LP 0 0))]) (L := [(c_api_Ptr t0), (c_api_Ptr x32)]) (H := ⟨0, []⟩) rfl rfl rfl rfl rfl (astep_do rfl (tx_ldLA (vs := (c_api_Ptr t0)) Try.underlying26 rfl s_26 (by decide) rfl rfl rfl rfl))) (dcons (dstep1 (Tm := [(143, (Value.agg (c_api_Ptr t0).toArray))]) (L := [(c_api_Ptr t0), (c_api_Ptr x32)]) (H := ⟨0, []⟩) rfl rfl rfl rfl rfl (astep_do rfl (ex_call0 (vs := [(Value.agg (c_api_Ptr t0).toArray)]) (v := (Bo x34)) rfl en_18 (cargs (evs rfl evs_nil)) rfl (ok_ref1_MayPtr t0 x34 hx34) rfl))) (dcons (dstep1 (Tm := [(142, (Bo x33)), (144, (Bo x34))]) (L := [(c_api_Ptr t0), (c_api_Ptr x32)]) (H := ⟨0, []⟩) rfl rfl rfl rfl rfl (astep_do rfl (ex_bin (vx := (Bo x33)) (vy := (Bo x34)) rfl rfl (eqlB_ok Try.underlying4)))) (dcons (dstep1 (Tm := [(145, (Bo (x33 == x34)))]) (L := [(c_api_Ptr t0), (c_api_Ptr x32)]) (H := ⟨0, []⟩) rfl rfl rfl rfl rfl (astep_do rfl (ex_move (eV (v := (Bo (x33 == x34))) rfl)))) (dcons (dstep1 (Tm := [(28, (LP 1 0)), (146, (Bo (x33 == x34)))]) (L := [(c_api_Ptr t0), (c_api_Ptr x32)]) (H := ⟨0, []⟩) rfl rfl rfl rfl rfl (astep_guard (v := (Value.agg (c_api_Ptr x32).toArray)) ((x33 == x34) == true) rfl (fun hc => tx_ldLA (vs := (c_api_Ptr x32)) Try.underlying26 rfl s_26 (by decide) rfl rfl rfl rfl))) (dcons (dstep1 (Tm := [(5, (I t5)), (146, (Bo (x33 == x34)))]) (L := [(c_api_Ptr t0), (c_api_Ptr x32)]) (H := ⟨0, []⟩) rfl rfl rfl rfl rfl (astep_guard (v := (I t5)) ((x33 == x34) == true) rfl (fun hc => ex_move (eV (v := (I t5)) rfl)))) (dcons (dstep1 (Tm := [(4, (S t4)), (146, (Bo (x33 == x34)))]) (L := [(c_api_Ptr t0), (c_api_Ptr x32)]) (H := ⟨0, []⟩) rfl rfl rfl rfl rfl (astep_guard (v := (S t4)) ((x33 == x34) == true) rfl (fun hc => ex_move (eV (v := (S t4)) rfl)))) (dcons (dstep1 (Tm := [(6, (I t6)), (146, (Bo (x33 == x34)))]) (L := [(c_api_Ptr t0), (c_api_Ptr x32)]) (H := ⟨0, []⟩) rfl rfl rfl rfl rfl (astep_guard (v := (I t6)) ((x33 == x34) == true) rfl (fun hc => ex_move (eV (v := (I t6)) rfl)))) (dcons (dstep1 (Tm := [(148, (cond ((x33 == x34) == true) (I t5) skipV)), (149, (cond ((x33 == x34) == true) (S t4) skipV)), (150, (cond ((x33 == x34) == true) (I t6) skipV)), (146, (Bo (x33 == x34)))]) (L := [(c_api_Ptr t0), (c_api_Ptr x32)]) (H := ⟨0, []⟩) rfl rfl rfl rfl rfl (astep_guard (v := (Value.agg (c_api_Ptr x35).toArray)) ((x33 == x34) == true) rfl (fun hc => ex_call0 (vs := [(I t5), (S t4), (I t6)]) (v := (Value.agg (c_api_Ptr x35).toArray)) rfl en_19 (cargs (evs (cond_of hc) (evs (cond_of hc) (evs (cond_of hc) evs_nil)))) rfl (ok_ref1_To t5 t4 t6 x35 (gd_of hc hx35)) rfl))) (dcons (dstep1 (Tm := [(147, (cond ((x33 == x34) == true) (Value.agg (c_api_Ptr x32).toArray) skipV)), (151, (cond ((x33 == x34) == true) (Value.agg (c_api_Ptr x35).toArray) skipV)), (146, (Bo (x33 == x34)))]) (L := [(c_api_Ptr t0), (c_api_Ptr x32)]) (H := ⟨0, []⟩) rfl rfl rfl rfl rfl (astep_guard (v := (Bo (decide (x32 = x35)))) ((x33 == x34) == true) rfl (fun hc => ex_bin (vx := (Value.agg (c_api_Ptr x32).toArray)) (vy := (Value.agg (c_api_Ptr x35).toArray)) (cond_of hc) (cond_of hc) eql_26))) (dcons (dstep1 (Tm := [(146, (Bo (x33 == x34))), (152, (cond ((x33 == x34) == true) (Bo (decide (x32 = x35))) skipV))]) (L := [(c_api_Ptr t0), (c_api_Ptr x32)]) (H := ⟨0, []⟩) rfl rfl rfl rfl rfl (astep_do rfl (ex_pick rfl pkAnd))) (dcons (dstep1 (Tm := [(153, (Bo ((x33 == x34) && (decide (x32 = x35)))))]) (L := [(c_api_Ptr t0), (c_api_Ptr x32)]) (H := ⟨0, []⟩) rfl rfl rfl rfl rfl (astep_do rfl (ex_move (eV (v := (Bo ((x33 == x34) && (decide (x32 = x35))))) rfl)))) (dcons (dstep1 (Tm := [(28, (LP 1 0)), (154, (Bo ((x33 == x34) && (decide (x32 = x35)))))]) (L := [(c_api_Ptr t0), (c_api_Ptr x32)]) (H := ⟨0, []⟩) rfl rfl rfl rfl rfl (astep_guard (v := (Value.agg (c_api_Ptr x32).toArray)) (((x33 == x34) && (decide (x32 = x35))) == true) rfl (fun hc => tx_ldLA (vs := (c_api_Ptr x32)) Try.underlying26 rfl s_26 (by decide) rfl rfl rfl rfl))) (dcons (dstep1 (Tm := [(4, (S t4)), (154, (Bo ((x33 == x34) && (decide (x32 = x35)))))]) (L := [(c_api_Ptr t0), (c_api_Ptr x32)]) (H := ⟨0, []⟩) rfl rfl rfl rfl rfl (astep_guard (v := (S t4)) (((x33 == x34) && (decide (x32 = x35))) == true) rfl (fun hc => ex_move (eV (v := (S t4)) rfl)))) (dcons (dstep1 (Tm := [(155, (cond (((x33 == x34) && (decide (x32 = x35))) == true) (Value.agg (c_api_Ptr x32).toArray) skipV)), (156, (cond (((x33 == x34) && (decide (x32 = x35))) == true) (S t4) skipV)), (154, (Bo ((x33 == x34) && (decide (x32 = x35)))))]) (L := [(c_api_Ptr t0), (c_api_Ptr x32)]) (H := ⟨0, []⟩) rfl rfl rfl rfl rfl (astep_guard (v := (Bo x36)) (((x33 == x34) && (decide (x32 = x35))) == true) rfl (fun hc => ex_call0 (vs := [(Value.agg (c_api_Ptr x32).toArray), (S t4)]) (v := (Bo x36)) rfl en_20 (cargs (evs (cond_of hc) (evs (cond_of hc) evs_nil))) rfl (ok_ptr_Fits x32 t4 x36 (gd_of hc hx36)) rfl))) (dcons (dstep1 (Tm := [(154, (Bo ((x33 == x34) && (decide (x32 = x35))))), (157, (cond (((x33 == x34) && (decide (x32 = x35))) == true) (Bo x36) skipV))]) (L := [(c_api_Ptr t0), (c_api_Ptr x32)]) (H := ⟨0, []⟩) rfl rfl rfl rfl rfl (astep_do rfl (ex_pick rfl pkAnd))) (dcons (dstep1 (Tm := [(158, (Bo (((x33 == x34) && (decide (x32 = x35))) && x36)))]) (L := [(c_api_Ptr t0), (c_api_Ptr x32)]) (H := ⟨0, []⟩) rfl rfl rfl rfl rfl (astep_do rfl (ex_move (eV (v := (Bo (((x33 == x34) && (decide (x32 = x35))) && x36))) rfl)))) (dcons (dstep1 (Tm := [(7, (LP 0 0)), (159, (Bo (((x33 == x34) && (decide (x32 = x35))) && x36)))]) (L := [(c_api_Ptr t0), (c_api_Ptr x32)]) (H := ⟨0, []⟩) rfl rfl rfl rfl rfl (astep_guard (v := (Value.agg (c_api_Ptr t0).toArray)) ((((x33 == x34) && (decide (x32 = x35))) && x36) == true) rfl (fun hc => tx_ldLA (vs := (c_api_Ptr t0)) Try.underlying26 rfl s_26 (by decide) rfl rfl rfl rfl))) (dcons (dstep1 (Tm := [(4, (S t4)), (159, (Bo (((x33 == x34) && (decide (x32 = x35))) && x36)))]) (L := [(c_api_Ptr t0), (c_api_Ptr x32)]) (H := ⟨0, []⟩) rfl rfl rfl rfl rfl (astep_guard (v := (S t4)) ((((x33 == x34) && (decide (x32 = x35))) && x36) == true) rfl (fun hc => ex_move (eV (v := (S t4)) rfl)))) (dcons (dstep1 (Tm := [(160, (cond ((((x33 == x34) && (decide (x32 = x35))) && x36) == true) (Value.agg (c_api_Ptr t0).toArray) skipV)), (161, (cond ((((x33 == x34) && (decide (x32 = x35))) && x36) == true) (S t4) skipV)), (159, (Bo (((x33 == x34) && (decide (x32 = x35))) && x36)))]) (L := [(c_api_Ptr t0), (c_api_Ptr x32)]) (H := ⟨0, []⟩) rfl rfl rfl rfl rfl (astep_guard (v := (Bo x37)) ((((x33 == x34) && (decide (x32 = x35))) && x36) == true) rfl (fun hc => ex_call0 (vs := [(Value.agg (c_api_Ptr t0).toArray), (S t4)]) (v := (Bo x37)) rfl en_20 (cargs (evs (cond_of hc) (evs (cond_of hc) evs_nil))) rfl (ok_ptr_Fits t0 t4 x37 (gd_of hc hx37)) rfl))) (dcons (dstep1 (Tm := [(7, (LP 0 0)), (159, (Bo (((x33 == x34) && (decide (x32 = x35))) && x36)))]) (L := [(c_api_Ptr t0), (c_api_Ptr x32)]) (H := ⟨0, []⟩) rfl rfl rfl rfl rfl (astep_guard (v := (LP 0 2)) ((((x33 == x34) && (decide (x32 = x35))) && x36) == true) rfl (fun hc => ex_fieldAddr (v := (LP 0 2)) Try.underlying26 rfl s_24 (by decide) rfl rfl))) (dcons (dstep1 (Tm := [(163, (cond ((((x33 == x34) && (decide (x32 = x35))) && x36) == true) (LP 0 2) skipV)), (159, (Bo (((x33 == x34) && (decide (x32 = x35))) && x36)))]) (L := [(c_api_Ptr t0), (c_api_Ptr x32)]) (H := ⟨0, []⟩) rfl rfl rfl rfl rfl (astep_guard (v := (Value.agg ((cA4 c32) t0.Sum).toArray)) ((((x33 == x34) && (decide (x32 = x35))) && x36) == true) rfl (fun hc => tx_ldLA (vs := ((cA4 c32) t0.Sum)) Try.underlying24 rfl s_24 (by decide) (cond_of hc) rfl rfl rfl))) (dcons (dstep1 (Tm := [(4, (S t4)), (159, (Bo (((x33 == x34) && (decide (x32 = x35))) && x36)))]) (L := [(c_api_Ptr t0), (c_api_Ptr x32)]) (H := ⟨0, []⟩) rfl rfl rfl rfl rfl (astep_guard (v := (S t4)) ((((x33 == x34) && (decide (x32 = x35))) && x36) == true) rfl (fun hc => ex_move (eV (v := (S t4)) rfl)))) (dcons (dstep1 (Tm := [(165, (cond ((((x33 == x34) && (decide (x32 = x35))) && x36) == true) (S t4) skipV)), (159, (Bo (((x33 == x34) && (decide (x32 = x35))) && x36)))]) (L := [(c_api_Ptr t0), (c_api_Ptr x32)]) (H := ⟨0, []⟩) rfl rfl rfl rfl rfl (astep_guard (v := (Value.agg ((cA4 c32) x38).toArray)) ((((x33 == x34) && (decide (x32 = x35))) && x36) == true) rfl (fun hc => ex_call0 (vs := [(S t4)]) (v := (Value.agg ((cA4 c32) x38).toArray)) rfl en_21 (cargs (evs (cond_of hc) evs_nil)) rfl (ok_ref1_Of t4 x38 (gd_of hc hx38)) rfl))) (dcons (dstep1 (Tm := [(164, (cond ((((x33 == x34) && (decide (x32 = x35))) && x36) == true) (Value.agg ((cA4 c32) t0.Sum).toArray) skipV)), (166, (cond ((((x33 == x34) && (decide (x32 = x35))) && x36) == true) (Value.agg ((cA4 c32) x38).toArray) skipV)), (159, (Bo (((x33 == x34) && (decide (x32 = x35))) && x36)))]) (L := [(c_api_Ptr t0), (c_api_Ptr x32)]) (H := ⟨0, []⟩) rfl rfl rfl rfl rfl (astep_guard (v := (Bo (decide (t0.Sum = x38)))) ((((x33 == x34) && (decide (x32 = x35))) && x36) == true) rfl (fun hc => ex_bin (vx := (Value.agg ((cA4 c32) t0.Sum).toArray)) (vy := (Value.agg ((cA4 c32) x38).toArray)) (cond_of hc) (cond_of hc) eql_24))) (dcons (dstep1 (Tm := [(162, (cond ((((x33 == x34) && (decide (x32 = x35))) && x36) == true) (Bo x37) skipV)), (167, (cond ((((x33 == x34) && (decide (x32 = x35))) && x36) == true) (Bo (decide (t0.Sum = x38))) skipV)), (159, (Bo (((x33 == x34) && (decide (x32 = x35))) && x36)))]) (L := [(c_api_Ptr t0), (c_api_Ptr x32)]) (H := ⟨0, []⟩) rfl rfl rfl rfl rfl (astep_guard (v := (Bo (x37 == (decide (t0.Sum = x38))))) ((((x33 == x34) && (decide (x32 = x35))) && x36) == true) rfl (fun hc => ex_bin (vx := (Bo x37)) (vy := (Bo (decide (t0.Sum = x38)))) (cond_of hc) (cond_of hc) (eqlB_ok Try.underlying4)))) (dcons (dstep1 (Tm := [(159, (Bo (((x33 == x34) && (decide (x32 = x35))) && x36))), (168, (cond ((((x33 == x34) && (decide (x32 = x35))) && x36) == true) (Bo (x37 == (decide (t0.Sum = x38)))) skipV))]) (L := [(c_api_Ptr t0), (c_api_Ptr x32)]) (H := ⟨0, []⟩) rfl rfl rfl rfl rfl (astep_do rfl (ex_pick rfl pkAnd))) (dcons (dstep1 (Tm := [(169, (Bo ((((x33 == x34) && (decide (x32 = x35))) && x36) && (x37 == (decide (t0.Sum = x38))))))]) (L := [(c_api_Ptr t0), (c_api_Ptr x32)]) (H := ⟨0, []⟩) rfl rfl rfl rfl rfl (astep_do rfl (ex_assign (eV (v := (Bo ((((x33 == x34) && (decide (x32 = x35))) && x36) && (x37 == (decide (t0.Sum = x38)))))) rfl)))) dnil)))))))))))))))))))))))))))))) ⟨rfl, rfl⟩) (by kernel_rfl) (by kernel_rfl) ?_
              show AWp _ _ _ _
              refine awp_ret ?_
              cases h
              exact ares1 (rtmp rfl (eV rfl))

end Go.Proofs
