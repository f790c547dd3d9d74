/- Pure models of functions of the program, and that its code does what they say: palimpref1 At, palimpref1 Slot, palimplaw7 uberOf, palimpref1 MayPtr, palimpref1 MayUber, palimpref1 PutPtrs. Written by a program. -/
import Derived.Test.YtmhfodjiefednaaR75
import Derived.Test.YtmhfodjiefednaaR76
import Derived.Test.YtmhfodjiefednaaR7B
set_option maxRecDepth 20000
set_option maxHeartbeats 4000000
namespace Go.Proofs
open Go Go.Fhl
set_option linter.unusedVariables false
set_option linter.unusedSimpArgs false
noncomputable def M_ref1_At (t0 : Int) (t1 : Int) : Option Int :=
  Option.bind (M_ref1_mayData t0) fun (x1 : Bool) => cond (((!x1) || (decide (t1 < 0))) || (decide (t1 > 3))) (some (-1)) (cond (decide (t1 < 2)) (some (w64 (t1 * 7))) (some (w64 ((w64 (14 + t0)) + (w64 ((w64 (t1 - 2)) * 7))))))
theorem ok_ref1_At (t0 : Int) (t1 : Int) (r : Int) (h : M_ref1_At t0 t1 = some r) : FFn Try.prog 11 [(I t0), (I t1)] (I r) := by
  refine FFn.of_body (n := 26) Try.func11 rfl Try.ntmps11 rfl rfl rfl rfl ?_
  show AWp _ _ _ ⟨26, 0, [(0, (I t0)), (1, (I t1))], [], ⟨0, []⟩⟩
  unfold M_ref1_At at h
  refine aws ?_
  refine awr ?_
  refine ado rfl rfl rfl (eas (eV (v := (I 0)) rfl)) ?_
  refine ake [0, 1] 0 0 (st' := ⟨26, 0, [(0, (I t0)), (1, (I t1))], [], ⟨0, []⟩⟩) (by kernel_rfl) (by kernel_rfl) ?_
  show AWp _ _ _ _
  refine aws ?_
  refine aws ?_
  refine awr ?_
  refine ado rfl rfl rfl (emv (eV (v := (I t0)) rfl)) ?_
  obtain ⟨x1, hx1, h⟩ := bindS h
  refine ado rfl rfl rfl (ex_call0 (vs := [(I t0)]) (v := (Bo x1)) rfl en_30 (cargs (evs rfl evs_nil)) rfl (ok_ref1_mayData t0 x1 hx1) rfl) ?_
  refine ado rfl rfl rfl (ex_un (vx := (Bo x1)) rfl notB_ok) ?_
  refine ado rfl rfl rfl (emv (eV (v := (Bo (!x1))) rfl)) ?_
  refine agu (v := (I t1)) ((!x1) == false) rfl rfl rfl (fun hc => emv (eV (v := (I t1)) rfl)) ?_
  refine agu (v := (Bo (decide (t1 < 0)))) ((!x1) == false) rfl rfl rfl (fun hc => ex_bin (vx := (I t1)) (vy := (I 0)) (cdo hc) rfl lssI_ok) ?_
  refine ado rfl rfl rfl (ex_pick rfl pkOr) ?_
  refine ado rfl rfl rfl (emv (eV (v := (Bo ((!x1) || (decide (t1 < 0))))) rfl)) ?_
  refine agu (v := (I t1)) (((!x1) || (decide (t1 < 0))) == false) rfl rfl rfl (fun hc => emv (eV (v := (I t1)) rfl)) ?_
  refine agu (v := (Bo (decide (t1 > 3)))) (((!x1) || (decide (t1 < 0))) == false) rfl rfl rfl (fun hc => ex_bin (vx := (I t1)) (vy := (I 3)) (cdo hc) rfl gtrI_ok) ?_
  refine ado rfl rfl rfl (ex_pick rfl pkOr) ?_
  refine ake [0, 1, 15] 0 0 (st' := ⟨26, 0, [(0, (I t0)), (1, (I t1)), (15, (Bo (((!x1) || (decide (t1 < 0))) || (decide (t1 > 3)))))], [], ⟨0, []⟩⟩) (by kernel_rfl) (by kernel_rfl) ?_
  show AWp _ _ _ _
  rcases Bool.eq_false_or_eq_true (((!x1) || (decide (t1 < 0))) || (decide (t1 > 3))) with hb2 | hb2
  · rw [condT hb2] at h
    refine awp_condT (boT hb2) ?_
    refine aws ?_
    refine awr ?_
    refine ado rfl rfl rfl (eas (eV (v := (I (-1))) rfl)) ?_
    refine ake [4] 0 0 (st' := ⟨26, 0, [(4, (I (-1)))], [], ⟨0, []⟩⟩) (by kernel_rfl) (by kernel_rfl) ?_
    show AWp _ _ _ _
    refine awp_ret ?_
    cases h
    exact ares1 (rtmp rfl (eV rfl))
  · rw [condF hb2] at h
    refine awp_condF (boF hb2) ?_
    refine awp_skip ?_
    show AWp _ _ _ _
    refine aws ?_
    refine aws ?_
    refine awr ?_
    refine ado rfl rfl rfl (emv (eV (v := (I t1)) rfl)) ?_
    refine ado rfl rfl rfl (ex_bin (vx := (I t1)) (vy := (I 2)) rfl rfl lssI_ok) ?_
    refine ake [0, 1, 17] 0 0 (st' := ⟨26, 0, [(0, (I t0)), (1, (I t1)), (17, (Bo (decide (t1 < 2))))], [], ⟨0, []⟩⟩) (by kernel_rfl) (by kernel_rfl) ?_
    show AWp _ _ _ _
    rcases Bool.eq_false_or_eq_true (decide (t1 < 2)) with hb3 | hb3
    · rw [condT hb3] at h
      refine awp_condT (boT hb3) ?_
      refine aws ?_
      refine awr ?_
      refine ado rfl rfl rfl (emv (eV (v := (I t1)) rfl)) ?_
      refine ado rfl rfl rfl (ex_bin (vx := (I t1)) (vy := (I 7)) rfl rfl mulI_ok) ?_
      refine ado rfl rfl rfl (eas (eV (v := (I (w64 (t1 * 7)))) rfl)) ?_
      refine ake [4] 0 0 (st' := ⟨26, 0, [(4, (I (w64 (t1 * 7))))], [], ⟨0, []⟩⟩) (by kernel_rfl) (by kernel_rfl) ?_
      show AWp _ _ _ _
      refine awp_ret ?_
      cases h
      exact ares1 (rtmp rfl (eV rfl))
    · rw [condF hb3] at h
      refine awp_condF (boF hb3) ?_
      refine awp_skip ?_
      show AWp _ _ _ _
      refine aws ?_
      refine awr ?_
      refine ado rfl rfl rfl (emv (eV (v := (I t0)) rfl)) ?_
      refine ado rfl rfl rfl (ex_bin (vx := (I 14)) (vy := (I t0)) rfl rfl addI_ok) ?_
      refine ado rfl rfl rfl (emv (eV (v := (I t1)) rfl)) ?_
      refine ado rfl rfl rfl (ex_bin (vx := (I t1)) (vy := (I 2)) rfl rfl subI_ok) ?_
      refine ado rfl rfl rfl (ex_bin (vx := (I (w64 (t1 - 2)))) (vy := (I 7)) rfl rfl mulI_ok) ?_
      refine ado rfl rfl rfl (ex_bin (vx := (I (w64 (14 + t0)))) (vy := (I (w64 ((w64 (t1 - 2)) * 7)))) rfl rfl addI_ok) ?_
      refine ado rfl rfl rfl (eas (eV (v := (I (w64 ((w64 (14 + t0)) + (w64 ((w64 (t1 - 2)) * 7)))))) rfl)) ?_
      refine ake [4] 0 0 (st' := ⟨26, 0, [(4, (I (w64 ((w64 (14 + t0)) + (w64 ((w64 (t1 - 2)) * 7))))))], [], ⟨0, []⟩⟩) (by kernel_rfl) (by kernel_rfl) ?_
      show AWp _ _ _ _
      refine awp_ret ?_
      cases h
      exact ares1 (rtmp rfl (eV rfl))

noncomputable def M_ref1_Slot (t0 : Int) (t1 : Int) (t2 : Int) : Option Int :=
  Option.bind (M_ref1_At t0 t1) fun (x1 : Int) => cond (((decide (x1 < 0)) || (decide (t2 < 0))) || (decide (t2 ≥ 6))) (some (-1)) (some (w64 ((w64 (x1 + 1)) + t2)))
theorem ok_ref1_Slot (t0 : Int) (t1 : Int) (t2 : Int) (r : Int) (h : M_ref1_Slot t0 t1 t2 = some r) : FFn Try.prog 13 [(I t0), (I t1), (I t2)] (I r) := by
  refine FFn.of_body (n := 25) Try.func13 rfl Try.ntmps13 rfl rfl rfl rfl ?_
  show AWp _ _ _ ⟨25, 0, [(0, (I t0)), (1, (I t1)), (2, (I t2))], [], ⟨0, []⟩⟩
  unfold M_ref1_Slot at h
  refine aws ?_
  refine awr ?_
  refine ado rfl rfl rfl (eas (eV (v := (I 0)) rfl)) ?_
  refine ake [0, 1, 2] 0 0 (st' := ⟨25, 0, [(0, (I t0)), (1, (I t1)), (2, (I t2))], [], ⟨0, []⟩⟩) (by kernel_rfl) (by kernel_rfl) ?_
  show AWp _ _ _ _
  refine aws ?_
  refine awr ?_
  refine ado rfl rfl rfl (emv (eV (v := (I t0)) rfl)) ?_
  refine ado rfl rfl rfl (emv (eV (v := (I t1)) rfl)) ?_
  obtain ⟨x1, hx1, h⟩ := bindS h
  refine ado rfl rfl rfl (ex_call0 (vs := [(I t0), (I t1)]) (v := (I x1)) rfl en_11 (cargs (evs rfl (evs rfl evs_nil))) rfl (ok_ref1_At t0 t1 x1 hx1) rfl) ?_
  refine ado rfl rfl rfl (eas (eV (v := (I x1)) rfl)) ?_
  refine ake [2, 7] 0 0 (st' := ⟨25, 0, [(2, (I t2)), (7, (I x1))], [], ⟨0, []⟩⟩) (by kernel_rfl) (by kernel_rfl) ?_
  show AWp _ _ _ _
  refine aws ?_
  refine aws ?_
  refine awr ?_
  refine ado rfl rfl rfl (emv (eV (v := (I x1)) rfl)) ?_
  refine ado rfl rfl rfl (ex_bin (vx := (I x1)) (vy := (I 0)) rfl rfl lssI_ok) ?_
  refine ado rfl rfl rfl (emv (eV (v := (Bo (decide (x1 < 0)))) rfl)) ?_
  refine agu (v := (I t2)) ((decide (x1 < 0)) == false) rfl rfl rfl (fun hc => emv (eV (v := (I t2)) rfl)) ?_
  refine agu (v := (Bo (decide (t2 < 0)))) ((decide (x1 < 0)) == false) rfl rfl rfl (fun hc => ex_bin (vx := (I t2)) (vy := (I 0)) (cdo hc) rfl lssI_ok) ?_
  refine ado rfl rfl rfl (ex_pick rfl pkOr) ?_
  refine ado rfl rfl rfl (emv (eV (v := (Bo ((decide (x1 < 0)) || (decide (t2 < 0))))) rfl)) ?_
  refine agu (v := (I t2)) (((decide (x1 < 0)) || (decide (t2 < 0))) == false) rfl rfl rfl (fun hc => emv (eV (v := (I t2)) rfl)) ?_
  refine agu (v := (Bo (decide (t2 ≥ 6)))) (((decide (x1 < 0)) || (decide (t2 < 0))) == false) rfl rfl rfl (fun hc => ex_bin (vx := (I t2)) (vy := (I 6)) (cdo hc) rfl geqI_ok) ?_
  refine ado rfl rfl rfl (ex_pick rfl pkOr) ?_
  refine ake [2, 7, 20] 0 0 (st' := ⟨25, 0, [(2, (I t2)), (7, (I x1)), (20, (Bo (((decide (x1 < 0)) || (decide (t2 < 0))) || (decide (t2 ≥ 6)))))], [], ⟨0, []⟩⟩) (by kernel_rfl) (by kernel_rfl) ?_
  show AWp _ _ _ _
  rcases Bool.eq_false_or_eq_true (((decide (x1 < 0)) || (decide (t2 < 0))) || (decide (t2 ≥ 6))) with hb2 | hb2
  · rw [condT hb2] at h
    refine awp_condT (boT hb2) ?_
    refine aws ?_
    refine awr ?_
    refine ado rfl rfl rfl (eas (eV (v := (I (-1))) rfl)) ?_
    refine ake [6] 0 0 (st' := ⟨25, 0, [(6, (I (-1)))], [], ⟨0, []⟩⟩) (by kernel_rfl) (by kernel_rfl) ?_
    show AWp _ _ _ _
    refine awp_ret ?_
    cases h
    exact ares1 (rtmp rfl (eV rfl))
  · rw [condF hb2] at h
    refine awp_condF (boF hb2) ?_
    refine awp_skip ?_
    show AWp _ _ _ _
    refine aws ?_
    refine awr ?_
    refine ado rfl rfl rfl (emv (eV (v := (I x1)) rfl)) ?_
    refine ado rfl rfl rfl (ex_bin (vx := (I x1)) (vy := (I 1)) rfl rfl addI_ok) ?_
    refine ado rfl rfl rfl (emv (eV (v := (I t2)) rfl)) ?_
    refine ado rfl rfl rfl (ex_bin (vx := (I (w64 (x1 + 1)))) (vy := (I t2)) rfl rfl addI_ok) ?_
    refine ado rfl rfl rfl (eas (eV (v := (I (w64 ((w64 (x1 + 1)) + t2)))) rfl)) ?_
    refine ake [6] 0 0 (st' := ⟨25, 0, [(6, (I (w64 ((w64 (x1 + 1)) + t2))))], [], ⟨0, []⟩⟩) (by kernel_rfl) (by kernel_rfl) ?_
    show AWp _ _ _ _
    refine awp_ret ?_
    cases h
    exact ares1 (rtmp rfl (eV rfl))

noncomputable def M_law7_uberOf (t0 : (A4 UInt8)) : Option GUb :=
  Option.bind (rem8 t0.x0 12) fun (x1 : UInt8) => Option.bind (quo8 t0.x1 200) fun (x2 : UInt8) => Option.bind (rem8 t0.x1 6) fun (x3 : UInt8) => some (GUb.mk (w64 (1 + (x1.toNat : Int))) (w64 (7 + (x2.toNat : Int))) (x3.toNat : Int) (GPt.mk (w64 (1 + (t0.x2.toNat : Int))) (t0.x3.toNat : Int) (A4.mk 0 0 0 0)))
theorem ok_law7_uberOf (t0 : (A4 UInt8)) (r : GUb) (h : M_law7_uberOf t0 = some r) : FFn Try.prog 15 [(Value.agg ((cA4 c8) t0).toArray)] (Value.agg (cUb r).toArray) := by
  refine FFn.of_body (n := 26) Try.func15 rfl Try.ntmps15 rfl rfl rfl rfl ?_
  show AWp _ _ _ ⟨26, 0, [(0, (Value.agg ((cA4 c8) t0).toArray))], [], ⟨0, []⟩⟩
  unfold M_law7_uberOf at h
  refine aws ?_
  refine awr ?_
  refine ado rfl rfl rfl (ex_box (vx := (Value.agg ((cA4 c8) t0).toArray)) (cs := ((cA4 c8) t0)) (k := 0) (L' := [((cA4 c8) t0)]) (eV (v := (Value.agg ((cA4 c8) t0).toArray)) rfl) rfl rfl rfl) ?_
  refine ado rfl rfl rfl (ex_alloc (k := 1) (zs := (cUb (GUb.mk 0 0 0 (GPt.mk 0 0 (A4.mk 0 0 0 0))))) (L' := [((cA4 c8) t0), (cUb (GUb.mk 0 0 0 (GPt.mk 0 0 (A4.mk 0 0 0 0))))]) z_37 rfl rfl rfl rfl) ?_
  refine ake [1, 2] 2 0 (st' := ⟨26, 0, [(1, (LP 0 0)), (2, (LP 1 0))], [((cA4 c8) t0), (cUb (GUb.mk 0 0 0 (GPt.mk 0 0 (A4.mk 0 0 0 0))))], ⟨0, []⟩⟩) (by kernel_rfl) (by kernel_rfl) ?_
  show AWp _ _ _ _
  refine aws ?_
  refine awr ?_
  refine ado rfl rfl rfl (ex_indexAddrA (i := 0) (v := (LP 0 0)) Try.underlying39 s_5 rfl rfl (by decide) rfl) ?_
  refine ado rfl rfl rfl (tx_ldL1 (v := (U8 t0.x0)) Try.underlying5 rfl rfl rfl rfl) ?_
  obtain ⟨x1, hx1, h⟩ := bindS h
  refine ado rfl rfl rfl (ex_bin (vx := (U8 t0.x0)) (vy := (U8 12)) rfl rfl (rem8_ok hx1)) ?_
  refine ado rfl rfl rfl (tx_8_64 Try.underlying5 Try.underlying3 rfl) ?_
  refine ado rfl rfl rfl (ex_bin (vx := (I 1)) (vy := (I (x1.toNat : Int))) rfl rfl addI_ok) ?_
  refine ado rfl rfl rfl (ex_indexAddrA (i := 1) (v := (LP 0 1)) Try.underlying39 s_5 rfl rfl (by decide) rfl) ?_
  refine ado rfl rfl rfl (tx_ldL1 (v := (U8 t0.x1)) Try.underlying5 rfl rfl rfl rfl) ?_
  obtain ⟨x2, hx2, h⟩ := bindS h
  refine ado rfl rfl rfl (ex_bin (vx := (U8 t0.x1)) (vy := (U8 200)) rfl rfl (quo8_ok hx2)) ?_
  refine ado rfl rfl rfl (tx_8_64 Try.underlying5 Try.underlying3 rfl) ?_
  refine ado rfl rfl rfl (ex_bin (vx := (I 7)) (vy := (I (x2.toNat : Int))) rfl rfl addI_ok) ?_
  refine ado rfl rfl rfl (ex_indexAddrA (i := 1) (v := (LP 0 1)) Try.underlying39 s_5 rfl rfl (by decide) rfl) ?_
  refine ado rfl rfl rfl (tx_ldL1 (v := (U8 t0.x1)) Try.underlying5 rfl rfl rfl rfl) ?_
  obtain ⟨x3, hx3, h⟩ := bindS h
  refine ado rfl rfl rfl (ex_bin (vx := (U8 t0.x1)) (vy := (U8 6)) rfl rfl (rem8_ok hx3)) ?_
  refine ado rfl rfl rfl (tx_8_64 Try.underlying5 Try.underlying3 rfl) ?_
  refine ado rfl rfl rfl (ex_indexAddrA (i := 2) (v := (LP 0 2)) Try.underlying39 s_5 rfl rfl (by decide) rfl) ?_
  refine ado rfl rfl rfl (tx_ldL1 (v := (U8 t0.x2)) Try.underlying5 rfl rfl rfl rfl) ?_
  refine ado rfl rfl rfl (tx_8_64 Try.underlying5 Try.underlying3 rfl) ?_
  refine ado rfl rfl rfl (ex_bin (vx := (I 1)) (vy := (I (t0.x2.toNat : Int))) rfl rfl addI_ok) ?_
  refine ado rfl rfl rfl (ex_indexAddrA (i := 3) (v := (LP 0 3)) Try.underlying39 s_5 rfl rfl (by decide) rfl) ?_
  refine ado rfl rfl rfl (tx_ldL1 (v := (U8 t0.x3)) Try.underlying5 rfl rfl rfl rfl) ?_
  refine ado rfl rfl rfl (tx_8_64 Try.underlying5 Try.underlying3 rfl) ?_
  refine ado rfl rfl rfl (ex_build (qs := [(0, (I (w64 (1 + (t0.x2.toNat : Int))))), (1, (I (t0.x3.toNat : Int)))]) (v := (Value.agg (cPt (GPt.mk (w64 (1 + (t0.x2.toNat : Int))) (t0.x3.toNat : Int) (A4.mk 0 0 0 0))).toArray)) (evp rfl (evp rfl evp_nil)) (by kernel_rfl)) ?_
  refine ado rfl rfl rfl (ex_build (qs := [(0, (I (w64 (1 + (x1.toNat : Int))))), (1, (I (w64 (7 + (x2.toNat : Int))))), (2, (I (x3.toNat : Int))), (3, (Value.agg (cPt (GPt.mk (w64 (1 + (t0.x2.toNat : Int))) (t0.x3.toNat : Int) (A4.mk 0 0 0 0))).toArray))]) (v := (Value.agg (cUb (GUb.mk (w64 (1 + (x1.toNat : Int))) (w64 (7 + (x2.toNat : Int))) (x3.toNat : Int) (GPt.mk (w64 (1 + (t0.x2.toNat : Int))) (t0.x3.toNat : Int) (A4.mk 0 0 0 0)))).toArray)) (evp rfl (evp rfl (evp rfl (evp rfl evp_nil)))) (by kernel_rfl)) ?_
  refine arun_do0 rfl rfl (ex_storeL (vy := (Value.agg (cUb (GUb.mk (w64 (1 + (x1.toNat : Int))) (w64 (7 + (x2.toNat : Int))) (x3.toNat : Int) (GPt.mk (w64 (1 + (t0.x2.toNat : Int))) (t0.x3.toNat : Int) (A4.mk 0 0 0 0)))).toArray)) (cs := (cUb (GUb.mk 0 0 0 (GPt.mk 0 0 (A4.mk 0 0 0 0))))) (vs := (cUb (GUb.mk (w64 (1 + (x1.toNat : Int))) (w64 (7 + (x2.toNat : Int))) (x3.toNat : Int) (GPt.mk (w64 (1 + (t0.x2.toNat : Int))) (t0.x3.toNat : Int) (A4.mk 0 0 0 0))))) (L' := [((cA4 c8) t0), (cUb (GUb.mk (w64 (1 + (x1.toNat : Int))) (w64 (7 + (x2.toNat : Int))) (x3.toNat : Int) (GPt.mk (w64 (1 + (t0.x2.toNat : Int))) (t0.x3.toNat : Int) (A4.mk 0 0 0 0))))]) rfl (eV (v := (Value.agg (cUb (GUb.mk (w64 (1 + (x1.toNat : Int))) (w64 (7 + (x2.toNat : Int))) (x3.toNat : Int) (GPt.mk (w64 (1 + (t0.x2.toNat : Int))) (t0.x3.toNat : Int) (A4.mk 0 0 0 0)))).toArray)) rfl) rfl s_37 rfl (Nat.le_of_ble_eq_true rfl) (by kernel_rfl)) ?_
  refine ake [2] 2 0 (st' := ⟨26, 0, [(2, (LP 1 0))], [((cA4 c8) t0), (cUb (GUb.mk (w64 (1 + (x1.toNat : Int))) (w64 (7 + (x2.toNat : Int))) (x3.toNat : Int) (GPt.mk (w64 (1 + (t0.x2.toNat : Int))) (t0.x3.toNat : Int) (A4.mk 0 0 0 0))))], ⟨0, []⟩⟩) (by kernel_rfl) (by kernel_rfl) ?_
  show AWp _ _ _ _
  refine awp_ret ?_
  cases h
  exact ares1 (rcellL rfl rfl rfl (partA Try.underlying37 rfl s_37 (by decide) (Nat.le_of_ble_eq_true rfl) rfl))

noncomputable def M_ref1_MayPtr (t0 : GPt) : Option Bool :=
  Option.bind (gd (((decide (t0.Addr ≥ 0)) && (decide (t0.Addr ≤ 65535))) == true) (M_ref1_num t0.Birth)) fun (x1 : Bool) => some ((((decide (t0.Addr ≥ 0)) && (decide (t0.Addr ≤ 65535))) && x1) && ((decide (t0.Addr > 0)) || (decide (t0 = (GPt.mk 0 0 (A4.mk 0 0 0 0))))))
theorem ok_ref1_MayPtr (t0 : GPt) (r : Bool) (h : M_ref1_MayPtr t0 = some r) : FFn Try.prog 53 [(Value.agg (cPt t0).toArray)] (Bo r) := by
  refine FFn.of_body (n := 26) Try.func53 rfl Try.ntmps53 rfl rfl rfl rfl ?_
  show AWp _ _ _ ⟨26, 0, [(0, (Value.agg (cPt t0).toArray))], [], ⟨0, []⟩⟩
  unfold M_ref1_MayPtr at h
  refine aws ?_
  refine awr ?_
  refine ado rfl rfl rfl (ex_box (vx := (Value.agg (cPt t0).toArray)) (cs := (cPt t0)) (k := 0) (L' := [(cPt t0)]) (eV (v := (Value.agg (cPt t0).toArray)) rfl) rfl rfl rfl) ?_
  refine ado rfl rfl rfl (eas (eV (v := (Bo false)) rfl)) ?_
  refine ake [1] 1 0 (st' := ⟨26, 0, [(1, (LP 0 0))], [(cPt t0)], ⟨0, []⟩⟩) (by kernel_rfl) (by kernel_rfl) ?_
  show AWp _ _ _ _
  refine aws ?_
  refine awr ?_
  refine ado rfl rfl rfl (efa (v := (LP 0 0)) Try.underlying35 rfl s_3 (by decide) rfl rfl) ?_
  refine ado rfl rfl rfl (tx_ldL1 (v := (I t0.Addr)) Try.underlying3 rfl rfl rfl rfl) ?_
  refine ado rfl rfl rfl (ex_bin (vx := (I t0.Addr)) (vy := (I 0)) rfl rfl geqI_ok) ?_
  refine ado rfl rfl rfl (emv (eV (v := (Bo (decide (t0.Addr ≥ 0)))) rfl)) ?_
  refine agu (v := (LP 0 0)) ((decide (t0.Addr ≥ 0)) == true) rfl rfl rfl (fun hc => efa (v := (LP 0 0)) Try.underlying35 rfl s_3 (by decide) rfl rfl) ?_
  refine agu (v := (I t0.Addr)) ((decide (t0.Addr ≥ 0)) == true) rfl rfl rfl (fun hc => tx_ldL1 (v := (I t0.Addr)) Try.underlying3 rfl (cdo hc) rfl rfl) ?_
  refine agu (v := (Bo (decide (t0.Addr ≤ 65535)))) ((decide (t0.Addr ≥ 0)) == true) rfl rfl rfl (fun hc => ex_bin (vx := (I t0.Addr)) (vy := (I 65535)) (cdo hc) rfl leqI_ok) ?_
  refine ado rfl rfl rfl (ex_pick rfl pkAnd) ?_
  refine ado rfl rfl rfl (emv (eV (v := (Bo ((decide (t0.Addr ≥ 0)) && (decide (t0.Addr ≤ 65535))))) rfl)) ?_
  refine agu (v := (LP 0 1)) (((decide (t0.Addr ≥ 0)) && (decide (t0.Addr ≤ 65535))) == true) rfl rfl rfl (fun hc => efa (v := (LP 0 1)) Try.underlying35 rfl s_3 (by decide) rfl rfl) ?_
  refine agu (v := (I t0.Birth)) (((decide (t0.Addr ≥ 0)) && (decide (t0.Addr ≤ 65535))) == true) rfl rfl rfl (fun hc => tx_ldL1 (v := (I t0.Birth)) Try.underlying3 rfl (cdo hc) rfl rfl) ?_
  obtain ⟨x1, hx1, h⟩ := bindS h
  refine agu (v := (Bo x1)) (((decide (t0.Addr ≥ 0)) && (decide (t0.Addr ≤ 65535))) == true) rfl rfl rfl (fun hc => ex_call0 (vs := [(I t0.Birth)]) (v := (Bo x1)) rfl en_35 (cargs (evs (cdo hc) evs_nil)) rfl (ok_ref1_num t0.Birth x1 (gd_of hc hx1)) rfl) ?_
  refine ado rfl rfl rfl (ex_pick rfl pkAnd) ?_
  refine ado rfl rfl rfl (emv (eV (v := (Bo (((decide (t0.Addr ≥ 0)) && (decide (t0.Addr ≤ 65535))) && x1))) rfl)) ?_
  refine agu (v := (LP 0 0)) ((((decide (t0.Addr ≥ 0)) && (decide (t0.Addr ≤ 65535))) && x1) == true) rfl rfl rfl (fun hc => efa (v := (LP 0 0)) Try.underlying35 rfl s_3 (by decide) rfl rfl) ?_
  refine agu (v := (I t0.Addr)) ((((decide (t0.Addr ≥ 0)) && (decide (t0.Addr ≤ 65535))) && x1) == true) rfl rfl rfl (fun hc => tx_ldL1 (v := (I t0.Addr)) Try.underlying3 rfl (cdo hc) rfl rfl) ?_
  refine agu (v := (Bo (decide (t0.Addr > 0)))) ((((decide (t0.Addr ≥ 0)) && (decide (t0.Addr ≤ 65535))) && x1) == true) rfl rfl rfl (fun hc => ex_bin (vx := (I t0.Addr)) (vy := (I 0)) (cdo hc) rfl gtrI_ok) ?_
  refine agu (v := (Bo (decide (t0.Addr > 0)))) ((((decide (t0.Addr ≥ 0)) && (decide (t0.Addr ≤ 65535))) && x1) == true) rfl rfl rfl (fun hc => emv (eV (v := (Bo (decide (t0.Addr > 0)))) (cdo hc))) ?_
  refine agu (v := (Value.agg (cPt t0).toArray)) (((((decide (t0.Addr ≥ 0)) && (decide (t0.Addr ≤ 65535))) && x1) == true) && ((decide (t0.Addr > 0)) == false)) rfl rfl gv_nest (fun hc => tx_ldLA (vs := (cPt t0)) Try.underlying35 rfl s_35 (by decide) rfl rfl rfl rfl) ?_
  refine agu (v := (Value.agg (cPt (GPt.mk 0 0 (A4.mk 0 0 0 0))).toArray)) (((((decide (t0.Addr ≥ 0)) && (decide (t0.Addr ≤ 65535))) && x1) == true) && ((decide (t0.Addr > 0)) == false)) rfl rfl gv_nest (fun hc => ex_build (qs := []) (v := (Value.agg (cPt (GPt.mk 0 0 (A4.mk 0 0 0 0))).toArray)) evp_nil (by kernel_rfl)) ?_
  refine agu (v := (Bo (decide (t0 = (GPt.mk 0 0 (A4.mk 0 0 0 0)))))) (((((decide (t0.Addr ≥ 0)) && (decide (t0.Addr ≤ 65535))) && x1) == true) && ((decide (t0.Addr > 0)) == false)) rfl rfl gv_nest (fun hc => ex_bin (vx := (Value.agg (cPt t0).toArray)) (vy := (Value.agg (cPt (GPt.mk 0 0 (A4.mk 0 0 0 0))).toArray)) (cdo hc) (cdo hc) eql_35) ?_
  refine agu (v := (Bo ((decide (t0.Addr > 0)) || (decide (t0 = (GPt.mk 0 0 (A4.mk 0 0 0 0))))))) ((((decide (t0.Addr ≥ 0)) && (decide (t0.Addr ≤ 65535))) && x1) == true) rfl rfl rfl (fun hc => ex_pick (cdo hc) (pkOrN hc)) ?_
  refine ado rfl rfl rfl (ex_pick rfl pkAnd) ?_
  refine ado rfl rfl rfl (eas (eV (v := (Bo ((((decide (t0.Addr ≥ 0)) && (decide (t0.Addr ≤ 65535))) && x1) && ((decide (t0.Addr > 0)) || (decide (t0 = (GPt.mk 0 0 (A4.mk 0 0 0 0)))))))) rfl)) ?_
  refine ake [2] 0 0 (st' := ⟨26, 0, [(2, (Bo ((((decide (t0.Addr ≥ 0)) && (decide (t0.Addr ≤ 65535))) && x1) && ((decide (t0.Addr > 0)) || (decide (t0 = (GPt.mk 0 0 (A4.mk 0 0 0 0))))))))], [], ⟨0, []⟩⟩) (by kernel_rfl) (by kernel_rfl) ?_
  show AWp _ _ _ _
  refine awp_ret ?_
  cases h
  exact ares1 (rtmp rfl (eV rfl))

noncomputable def M_ref1_MayUber (t0 : GUb) : Option Bool :=
  Option.bind (gd ((decide (t0.Txg ≥ 1)) == true) (M_ref1_num t0.Txg)) fun (x1 : Bool) => Option.bind (gd (((decide (t0.Txg ≥ 1)) && x1) == true) (M_ref1_num t0.Guid)) fun (x2 : Bool) => Option.bind (gd ((((((decide (t0.Txg ≥ 1)) && x1) && x2) && (decide (t0.Seat ≥ 0))) && (decide (t0.Seat < 6))) == true) (M_ref1_MayPtr t0.Root)) fun (x3 : Bool) => some (((((((decide (t0.Txg ≥ 1)) && x1) && x2) && (decide (t0.Seat ≥ 0))) && (decide (t0.Seat < 6))) && x3) && (decide (t0.Root.Addr > 0)))
theorem ok_ref1_MayUber (t0 : GUb) (r : Bool) (h : M_ref1_MayUber t0 = some r) : FFn Try.prog 34 [(Value.agg (cUb t0).toArray)] (Bo r) := by
  refine FFn.of_body (n := 37) Try.func34 rfl Try.ntmps34 rfl rfl rfl rfl ?_
  show AWp _ _ _ ⟨37, 0, [(0, (Value.agg (cUb t0).toArray))], [], ⟨0, []⟩⟩
  unfold M_ref1_MayUber at h
  refine aws ?_
  refine awr ?_
  refine ado rfl rfl rfl (ex_box (vx := (Value.agg (cUb t0).toArray)) (cs := (cUb t0)) (k := 0) (L' := [(cUb t0)]) (eV (v := (Value.agg (cUb t0).toArray)) rfl) rfl rfl rfl) ?_
  refine ado rfl rfl rfl (eas (eV (v := (Bo false)) rfl)) ?_
  refine ake [1] 1 0 (st' := ⟨37, 0, [(1, (LP 0 0))], [(cUb t0)], ⟨0, []⟩⟩) (by kernel_rfl) (by kernel_rfl) ?_
  show AWp _ _ _ _
  refine aws ?_
  refine awr ?_
  refine ado rfl rfl rfl (efa (v := (LP 0 0)) Try.underlying37 rfl s_3 (by decide) rfl rfl) ?_
  refine ado rfl rfl rfl (tx_ldL1 (v := (I t0.Txg)) Try.underlying3 rfl rfl rfl rfl) ?_
  refine ado rfl rfl rfl (ex_bin (vx := (I t0.Txg)) (vy := (I 1)) rfl rfl geqI_ok) ?_
  refine ado rfl rfl rfl (emv (eV (v := (Bo (decide (t0.Txg ≥ 1)))) rfl)) ?_
  refine agu (v := (LP 0 0)) ((decide (t0.Txg ≥ 1)) == true) rfl rfl rfl (fun hc => efa (v := (LP 0 0)) Try.underlying37 rfl s_3 (by decide) rfl rfl) ?_
  refine agu (v := (I t0.Txg)) ((decide (t0.Txg ≥ 1)) == true) rfl rfl rfl (fun hc => tx_ldL1 (v := (I t0.Txg)) Try.underlying3 rfl (cdo hc) rfl rfl) ?_
  obtain ⟨x1, hx1, h⟩ := bindS h
  refine agu (v := (Bo x1)) ((decide (t0.Txg ≥ 1)) == true) rfl rfl rfl (fun hc => ex_call0 (vs := [(I t0.Txg)]) (v := (Bo x1)) rfl en_35 (cargs (evs (cdo hc) evs_nil)) rfl (ok_ref1_num t0.Txg x1 (gd_of hc hx1)) rfl) ?_
  refine ado rfl rfl rfl (ex_pick rfl pkAnd) ?_
  refine ado rfl rfl rfl (emv (eV (v := (Bo ((decide (t0.Txg ≥ 1)) && x1))) rfl)) ?_
  refine agu (v := (LP 0 1)) (((decide (t0.Txg ≥ 1)) && x1) == true) rfl rfl rfl (fun hc => efa (v := (LP 0 1)) Try.underlying37 rfl s_3 (by decide) rfl rfl) ?_
  refine agu (v := (I t0.Guid)) (((decide (t0.Txg ≥ 1)) && x1) == true) rfl rfl rfl (fun hc => tx_ldL1 (v := (I t0.Guid)) Try.underlying3 rfl (cdo hc) rfl rfl) ?_
  obtain ⟨x2, hx2, h⟩ := bindS h
  refine agu (v := (Bo x2)) (((decide (t0.Txg ≥ 1)) && x1) == true) rfl rfl rfl (fun hc => ex_call0 (vs := [(I t0.Guid)]) (v := (Bo x2)) rfl en_35 (cargs (evs (cdo hc) evs_nil)) rfl (ok_ref1_num t0.Guid x2 (gd_of hc hx2)) rfl) ?_
  refine ado rfl rfl rfl (ex_pick rfl pkAnd) ?_
  refine ado rfl rfl rfl (emv (eV (v := (Bo (((decide (t0.Txg ≥ 1)) && x1) && x2))) rfl)) ?_
  refine agu (v := (LP 0 2)) ((((decide (t0.Txg ≥ 1)) && x1) && x2) == true) rfl rfl rfl (fun hc => efa (v := (LP 0 2)) Try.underlying37 rfl s_3 (by decide) rfl rfl) ?_
  refine agu (v := (I t0.Seat)) ((((decide (t0.Txg ≥ 1)) && x1) && x2) == true) rfl rfl rfl (fun hc => tx_ldL1 (v := (I t0.Seat)) Try.underlying3 rfl (cdo hc) rfl rfl) ?_
  refine agu (v := (Bo (decide (t0.Seat ≥ 0)))) ((((decide (t0.Txg ≥ 1)) && x1) && x2) == true) rfl rfl rfl (fun hc => ex_bin (vx := (I t0.Seat)) (vy := (I 0)) (cdo hc) rfl geqI_ok) ?_
  refine ado rfl rfl rfl (ex_pick rfl pkAnd) ?_
  refine ado rfl rfl rfl (emv (eV (v := (Bo ((((decide (t0.Txg ≥ 1)) && x1) && x2) && (decide (t0.Seat ≥ 0))))) rfl)) ?_
  refine agu (v := (LP 0 2)) (((((decide (t0.Txg ≥ 1)) && x1) && x2) && (decide (t0.Seat ≥ 0))) == true) rfl rfl rfl (fun hc => efa (v := (LP 0 2)) Try.underlying37 rfl s_3 (by decide) rfl rfl) ?_
  refine agu (v := (I t0.Seat)) (((((decide (t0.Txg ≥ 1)) && x1) && x2) && (decide (t0.Seat ≥ 0))) == true) rfl rfl rfl (fun hc => tx_ldL1 (v := (I t0.Seat)) Try.underlying3 rfl (cdo hc) rfl rfl) ?_
  refine agu (v := (Bo (decide (t0.Seat < 6)))) (((((decide (t0.Txg ≥ 1)) && x1) && x2) && (decide (t0.Seat ≥ 0))) == true) rfl rfl rfl (fun hc => ex_bin (vx := (I t0.Seat)) (vy := (I 6)) (cdo hc) rfl lssI_ok) ?_
  refine ado rfl rfl rfl (ex_pick rfl pkAnd) ?_
  refine ado rfl rfl rfl (emv (eV (v := (Bo (((((decide (t0.Txg ≥ 1)) && x1) && x2) && (decide (t0.Seat ≥ 0))) && (decide (t0.Seat < 6))))) rfl)) ?_
  refine agu (v := (LP 0 3)) ((((((decide (t0.Txg ≥ 1)) && x1) && x2) && (decide (t0.Seat ≥ 0))) && (decide (t0.Seat < 6))) == true) rfl rfl rfl (fun hc => efa (v := (LP 0 3)) Try.underlying37 rfl s_35 (by decide) rfl rfl) ?_
  refine agu (v := (Value.agg (cPt t0.Root).toArray)) ((((((decide (t0.Txg ≥ 1)) && x1) && x2) && (decide (t0.Seat ≥ 0))) && (decide (t0.Seat < 6))) == true) rfl rfl rfl (fun hc => tx_ldLA (vs := (cPt t0.Root)) Try.underlying35 rfl s_35 (by decide) (cdo hc) rfl rfl rfl) ?_
  obtain ⟨x3, hx3, h⟩ := bindS h
  refine agu (v := (Bo x3)) ((((((decide (t0.Txg ≥ 1)) && x1) && x2) && (decide (t0.Seat ≥ 0))) && (decide (t0.Seat < 6))) == true) rfl rfl rfl (fun hc => ex_call0 (vs := [(Value.agg (cPt t0.Root).toArray)]) (v := (Bo x3)) rfl en_53 (cargs (evs (cdo hc) evs_nil)) rfl (ok_ref1_MayPtr t0.Root x3 (gd_of hc hx3)) rfl) ?_
  refine ado rfl rfl rfl (ex_pick rfl pkAnd) ?_
  refine ado rfl rfl rfl (emv (eV (v := (Bo ((((((decide (t0.Txg ≥ 1)) && x1) && x2) && (decide (t0.Seat ≥ 0))) && (decide (t0.Seat < 6))) && x3))) rfl)) ?_
  refine agu (v := (LP 0 3)) (((((((decide (t0.Txg ≥ 1)) && x1) && x2) && (decide (t0.Seat ≥ 0))) && (decide (t0.Seat < 6))) && x3) == true) rfl rfl rfl (fun hc => efa (v := (LP 0 3)) Try.underlying37 rfl s_35 (by decide) rfl rfl) ?_
  refine agu (v := (LP 0 3)) (((((((decide (t0.Txg ≥ 1)) && x1) && x2) && (decide (t0.Seat ≥ 0))) && (decide (t0.Seat < 6))) && x3) == true) rfl rfl rfl (fun hc => efa (v := (LP 0 3)) Try.underlying35 rfl s_3 (by decide) (cdo hc) rfl) ?_
  refine agu (v := (I t0.Root.Addr)) (((((((decide (t0.Txg ≥ 1)) && x1) && x2) && (decide (t0.Seat ≥ 0))) && (decide (t0.Seat < 6))) && x3) == true) rfl rfl rfl (fun hc => tx_ldL1 (v := (I t0.Root.Addr)) Try.underlying3 rfl (cdo hc) rfl rfl) ?_
  refine agu (v := (Bo (decide (t0.Root.Addr > 0)))) (((((((decide (t0.Txg ≥ 1)) && x1) && x2) && (decide (t0.Seat ≥ 0))) && (decide (t0.Seat < 6))) && x3) == true) rfl rfl rfl (fun hc => ex_bin (vx := (I t0.Root.Addr)) (vy := (I 0)) (cdo hc) rfl gtrI_ok) ?_
  refine ado rfl rfl rfl (ex_pick rfl pkAnd) ?_
  refine ado rfl rfl rfl (eas (eV (v := (Bo (((((((decide (t0.Txg ≥ 1)) && x1) && x2) && (decide (t0.Seat ≥ 0))) && (decide (t0.Seat < 6))) && x3) && (decide (t0.Root.Addr > 0))))) rfl)) ?_
  refine ake [2] 0 0 (st' := ⟨37, 0, [(2, (Bo (((((((decide (t0.Txg ≥ 1)) && x1) && x2) && (decide (t0.Seat ≥ 0))) && (decide (t0.Seat < 6))) && x3) && (decide (t0.Root.Addr > 0)))))], [], ⟨0, []⟩⟩) (by kernel_rfl) (by kernel_rfl) ?_
  show AWp _ _ _ _
  refine awp_ret ?_
  cases h
  exact ares1 (rtmp rfl (eV rfl))

noncomputable def M_ref1_PutPtrs_l1 (t0 : (List GPt)) : Nat → Str → Int → Option Str
  | 0, _, _ => none
  | n1 + 1, v1, v2 =>
  cond (decide (v2 < (t0.length : Int))) (Option.bind (getI t0 v2) fun (x4 : GPt) => Option.bind (M_ref1_MayPtr x4) fun (x5 : Bool) => cond (!x5) (some []) (Option.bind (getI t0 v2) fun (x7 : GPt) => Option.bind (M_ref1_Put ([50, 52, 52, 52, 52, 52] : Str) ([x7.Addr, x7.Birth, (x7.Sum.x0.toNat : Int), (x7.Sum.x1.toNat : Int), (x7.Sum.x2.toNat : Int), (x7.Sum.x3.toNat : Int)] : List Int)) fun (x8 : Str) => Option.bind (addS v1 x8) fun (x9 : Str) => (M_ref1_PutPtrs_l1 t0 n1) x9 (w64 (v2 + 1)))) (some v1)
noncomputable def M_ref1_PutPtrs (t0 : (List GPt)) : Option Str :=
  M_ref1_PutPtrs_l1 t0 fuel ([] : Str) 0
theorem ok_ref1_PutPtrs (t0 : (List GPt)) (r : Str) (h : M_ref1_PutPtrs t0 = some r) : FFn Try.prog 38 [(SL 6 cPt t0)] (S r) := by
  refine FFn.of_body (n := 47) Try.func38 rfl Try.ntmps38 rfl rfl rfl rfl ?_
  show AWp _ _ _ ⟨47, 0, [(0, (SL 6 cPt t0))], [], ⟨0, []⟩⟩
  unfold M_ref1_PutPtrs at h
  refine aws ?_
  refine awr ?_
  refine ado rfl rfl rfl (eas (eV (v := (S [])) rfl)) ?_
  refine ake [0] 0 0 (st' := ⟨47, 0, [(0, (SL 6 cPt t0))], [], ⟨0, []⟩⟩) (by kernel_rfl) (by kernel_rfl) ?_
  show AWp _ _ _ _
  refine aws ?_
  refine awr ?_
  refine ado rfl rfl rfl (eas (eV (v := (S [])) rfl)) ?_
  refine ake [0, 3] 0 0 (st' := ⟨47, 0, [(0, (SL 6 cPt t0)), (3, (S []))], [], ⟨0, []⟩⟩) (by kernel_rfl) (by kernel_rfl) ?_
  show AWp _ _ _ _
  refine aws ?_
  refine aws ?_
  refine awr ?_
  refine ado rfl rfl rfl (eas (eV (v := (I 0)) rfl)) ?_
  refine ake [0, 3, 4] 0 0 (st' := ⟨47, 0, [(0, (SL 6 cPt t0)), (3, (S [])), (4, (I 0))], [], ⟨0, []⟩⟩) (by kernel_rfl) (by kernel_rfl) ?_
  show AWp _ _ _ _
  refine awp_block ?_
  refine awp_loop (fun n s => ∃ (v1 : Str) (v2 : Int), s = ⟨47, 0, [(0, (SL 6 cPt t0)), (3, (S v1)), (4, (I v2))], [], ⟨0, []⟩⟩ ∧ M_ref1_PutPtrs_l1 t0 n v1 v2 = some r) fuel (Exists.intro ([] : Str) (Exists.intro 0 (And.intro rfl h))) ?_
  rintro n s ⟨v1, v2, rfl, h⟩ -
  cases n with
  | zero => cases h
  | succ n1 =>
    unfold M_ref1_PutPtrs_l1 at h
    refine aws ?_
    refine aws ?_
    refine awr ?_
    refine ado rfl rfl rfl (emv (eV (v := (I v2)) rfl)) ?_
    refine ado rfl rfl rfl (emv (eV (v := (SL 6 cPt t0)) rfl)) ?_
    refine ado rfl rfl rfl (tx_lenD (xs := t0) ce_api_Ptr Try.underlying70 rfl) ?_
    refine ado rfl rfl rfl (ex_bin (vx := (I v2)) (vy := (I (t0.length : Int))) rfl rfl lssI_ok) ?_
    refine ake [0, 3, 4, 9] 0 0 (st' := ⟨47, 0, [(0, (SL 6 cPt t0)), (3, (S v1)), (4, (I v2)), (9, (Bo (decide (v2 < (t0.length : Int)))))], [], ⟨0, []⟩⟩) (by kernel_rfl) (by kernel_rfl) ?_
    show AWp _ _ _ _
    rcases Bool.eq_false_or_eq_true (decide (v2 < (t0.length : Int))) with hb3 | hb3
    · rw [condT hb3] at h
      refine awp_condT (boT hb3) ?_
      refine awp_skip ?_
      show AWp _ _ _ _
      refine aws ?_
      refine awp_block ?_
      refine aws ?_
      refine aws ?_
      refine awr ?_
      refine ado rfl rfl rfl (emv (eV (v := (SL 6 cPt t0)) rfl)) ?_
      refine ado rfl rfl rfl (emv (eV (v := (I v2)) rfl)) ?_
      obtain ⟨x4, hx4, h⟩ := bindS h
      refine ado rfl rfl rfl (tx_idxD (c := cPt) (xs := t0) (i := v2) ce_api_Ptr Try.underlying70 s_35 rfl rfl hx4) ?_
      refine ado rfl rfl rfl (tx_ldDA (vs := (cPt x4)) Try.underlying35 rfl s_35 (by decide) rfl (Nat.le_of_ble_eq_true rfl) rfl) ?_
      obtain ⟨x5, hx5, h⟩ := bindS h
      refine ado rfl rfl rfl (ex_call0 (vs := [(Value.agg (cPt x4).toArray)]) (v := (Bo x5)) rfl en_53 (cargs (evs rfl evs_nil)) rfl (ok_ref1_MayPtr x4 x5 hx5) rfl) ?_
      refine ado rfl rfl rfl (ex_un (vx := (Bo x5)) rfl notB_ok) ?_
      refine ake [0, 3, 4, 17] 0 0 (st' := ⟨47, 0, [(0, (SL 6 cPt t0)), (3, (S v1)), (4, (I v2)), (17, (Bo (!x5)))], [], ⟨0, []⟩⟩) (by kernel_rfl) (by kernel_rfl) ?_
      show AWp _ _ _ _
      rcases Bool.eq_false_or_eq_true (!x5) with hb6 | hb6
      · rw [condT hb6] at h
        refine awp_condT (boT hb6) ?_
        refine aws ?_
        refine awr ?_
        refine ado rfl rfl rfl (eas (eV (v := (S [])) rfl)) ?_
        refine ake [2] 0 0 (st' := ⟨47, 0, [(2, (S []))], [], ⟨0, []⟩⟩) (by kernel_rfl) (by kernel_rfl) ?_
        show AWp _ _ _ _
        refine awp_ret ?_
        cases h
        exact ares1 (rtmp rfl (eV rfl))
      · rw [condF hb6] at h
        refine awp_condF (boF hb6) ?_
        refine awp_skip ?_
        show AWp _ _ _ _
        refine aws ?_
        refine awr ?_
        refine ado rfl rfl rfl (emv (eV (v := (SL 6 cPt t0)) rfl)) ?_
        refine ado rfl rfl rfl (emv (eV (v := (I v2)) rfl)) ?_
        obtain ⟨x7, hx7, h⟩ := bindS h
        refine ado rfl rfl rfl (tx_idxD (c := cPt) (xs := t0) (i := v2) ce_api_Ptr Try.underlying70 s_35 rfl rfl hx7) ?_
        refine ado rfl rfl rfl (tx_ldDA (vs := (cPt x7)) Try.underlying35 rfl s_35 (by decide) rfl (Nat.le_of_ble_eq_true rfl) rfl) ?_
        refine ado rfl rfl rfl (ex_alloc (k := 0) (zs := (cPt (GPt.mk 0 0 (A4.mk 0 0 0 0)))) (L' := [(cPt (GPt.mk 0 0 (A4.mk 0 0 0 0)))]) z_35 rfl rfl rfl rfl) ?_
        refine arun_do0 rfl rfl (ex_storeL (vy := (Value.agg (cPt x7).toArray)) (cs := (cPt (GPt.mk 0 0 (A4.mk 0 0 0 0)))) (vs := (cPt x7)) (L' := [(cPt x7)]) rfl (eV (v := (Value.agg (cPt x7).toArray)) rfl) rfl s_35 rfl (Nat.le_of_ble_eq_true rfl) (by kernel_rfl)) ?_
        refine ake [0, 3, 4, 5] 1 0 (st' := ⟨47, 0, [(0, (SL 6 cPt t0)), (3, (S v1)), (4, (I v2)), (5, (LP 0 0))], [(cPt x7)], ⟨0, []⟩⟩) (by kernel_rfl) (by kernel_rfl) ?_
        show AWp _ _ _ _
        refine awr ?_
        refine ado rfl rfl rfl (emv (eV (v := (S v1)) rfl)) ?_
        refine ado rfl rfl rfl (efa (v := (LP 0 0)) Try.underlying35 rfl s_3 (by decide) rfl rfl) ?_
        refine ado rfl rfl rfl (tx_ldL1 (v := (I x7.Addr)) Try.underlying3 rfl rfl rfl rfl) ?_
        refine ado rfl rfl rfl (efa (v := (LP 0 1)) Try.underlying35 rfl s_3 (by decide) rfl rfl) ?_
        refine ado rfl rfl rfl (tx_ldL1 (v := (I x7.Birth)) Try.underlying3 rfl rfl rfl rfl) ?_
        refine ado rfl rfl rfl (efa (v := (LP 0 2)) Try.underlying35 rfl s_33 (by decide) rfl rfl) ?_
        refine ado rfl rfl rfl (ex_indexAddrA (i := 0) (v := (LP 0 2)) Try.underlying33 s_31 rfl rfl (by decide) rfl) ?_
        refine ado rfl rfl rfl (tx_ldL1 (v := (U32 x7.Sum.x0)) Try.underlying31 rfl rfl rfl rfl) ?_
        refine ado rfl rfl rfl (tx_32_64 Try.underlying31 Try.underlying3 rfl) ?_
        refine ado rfl rfl rfl (efa (v := (LP 0 2)) Try.underlying35 rfl s_33 (by decide) rfl rfl) ?_
        refine ado rfl rfl rfl (ex_indexAddrA (i := 1) (v := (LP 0 3)) Try.underlying33 s_31 rfl rfl (by decide) rfl) ?_
        refine ado rfl rfl rfl (tx_ldL1 (v := (U32 x7.Sum.x1)) Try.underlying31 rfl rfl rfl rfl) ?_
        refine ado rfl rfl rfl (tx_32_64 Try.underlying31 Try.underlying3 rfl) ?_
        refine ado rfl rfl rfl (efa (v := (LP 0 2)) Try.underlying35 rfl s_33 (by decide) rfl rfl) ?_
        refine ado rfl rfl rfl (ex_indexAddrA (i := 2) (v := (LP 0 4)) Try.underlying33 s_31 rfl rfl (by decide) rfl) ?_
        refine ado rfl rfl rfl (tx_ldL1 (v := (U32 x7.Sum.x2)) Try.underlying31 rfl rfl rfl rfl) ?_
        refine ado rfl rfl rfl (tx_32_64 Try.underlying31 Try.underlying3 rfl) ?_
        refine ado rfl rfl rfl (efa (v := (LP 0 2)) Try.underlying35 rfl s_33 (by decide) rfl rfl) ?_
        refine ado rfl rfl rfl (ex_indexAddrA (i := 3) (v := (LP 0 5)) Try.underlying33 s_31 rfl rfl (by decide) rfl) ?_
        refine ado rfl rfl rfl (tx_ldL1 (v := (U32 x7.Sum.x3)) Try.underlying31 rfl rfl rfl rfl) ?_
        refine ado rfl rfl rfl (tx_32_64 Try.underlying31 Try.underlying3 rfl) ?_
        refine ado rfl rfl rfl (ex_buildSliceD (qs := [(0, (I x7.Addr)), (1, (I x7.Birth)), (2, (I (x7.Sum.x0.toNat : Int))), (3, (I (x7.Sum.x1.toNat : Int))), (4, (I (x7.Sum.x2.toNat : Int))), (5, (I (x7.Sum.x3.toNat : Int)))]) (cells := (([x7.Addr, x7.Birth, (x7.Sum.x0.toNat : Int), (x7.Sum.x1.toNat : Int), (x7.Sum.x2.toNat : Int), (x7.Sum.x3.toNat : Int)] : List Int).flatMap cI)) Try.underlying59 s_3 (by decide) (evp rfl (evp rfl (evp rfl (evp rfl (evp rfl (evp rfl evp_nil)))))) rfl (by kernel_rfl) (by kernel_rfl) (by kernel_rfl)) ?_
        obtain ⟨x8, hx8, h⟩ := bindS h
        refine ado rfl rfl rfl (ex_call0 (vs := [(S ([50, 52, 52, 52, 52, 52] : Str)), (SL 1 cI ([x7.Addr, x7.Birth, (x7.Sum.x0.toNat : Int), (x7.Sum.x1.toNat : Int), (x7.Sum.x2.toNat : Int), (x7.Sum.x3.toNat : Int)] : List Int))]) (v := (S x8)) rfl en_37 (cargs (evs rfl (evs rfl evs_nil))) rfl (ok_ref1_Put ([50, 52, 52, 52, 52, 52] : Str) ([x7.Addr, x7.Birth, (x7.Sum.x0.toNat : Int), (x7.Sum.x1.toNat : Int), (x7.Sum.x2.toNat : Int), (x7.Sum.x3.toNat : Int)] : List Int) x8 hx8) rfl) ?_
        obtain ⟨x9, hx9, h⟩ := bindS h
        refine ado rfl rfl rfl (ex_bin (vx := (S v1)) (vy := (S x8)) rfl rfl (addS_ok hx9)) ?_
        refine ado rfl rfl rfl (eas (eV (v := (S x9)) rfl)) ?_
        refine ake [0, 3, 4] 0 0 (st' := ⟨47, 0, [(0, (SL 6 cPt t0)), (3, (S x9)), (4, (I v2))], [], ⟨0, []⟩⟩) (by kernel_rfl) (by kernel_rfl) ?_
        show AWp _ _ _ _
        refine awr ?_
        refine ado rfl rfl rfl (emv (eV (v := (I v2)) rfl)) ?_
        refine ado rfl rfl rfl (ex_bin (vx := (I v2)) (vy := (I 1)) rfl rfl addI_ok) ?_
        refine ado rfl rfl rfl (eas (eV (v := (I (w64 (v2 + 1)))) rfl)) ?_
        refine ake [0, 3, 4] 0 0 (st' := ⟨47, 0, [(0, (SL 6 cPt t0)), (3, (S x9)), (4, (I (w64 (v2 + 1))))], [], ⟨0, []⟩⟩) (by kernel_rfl) (by kernel_rfl) ?_
        exact Exists.intro n1 (And.intro (Nat.lt_succ_self _) (Exists.intro x9 (Exists.intro (w64 (v2 + 1)) (And.intro rfl h))))
    · rw [condF hb3] at h
      refine awp_condF (boF hb3) ?_
      refine awp_exit ?_
      show AWp _ _ _ _
      refine aws ?_
      refine awr ?_
      refine ado rfl rfl rfl (emv (eV (v := (S v1)) rfl)) ?_
      refine ado rfl rfl rfl (eas (eV (v := (S v1)) rfl)) ?_
      refine ake [2] 0 0 (st' := ⟨47, 0, [(2, (S v1))], [], ⟨0, []⟩⟩) (by kernel_rfl) (by kernel_rfl) ?_
      show AWp _ _ _ _
      refine awp_ret ?_
      cases h
      exact ares1 (rtmp rfl (eV rfl))

end Go.Proofs
