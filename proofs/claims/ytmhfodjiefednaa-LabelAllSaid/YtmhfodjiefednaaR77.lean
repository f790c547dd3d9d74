/- Pure models of functions of the program, and that its code does what they say: palimpref1 Of, palimpref1 sealed, palimpref1 Config, palimpref1 Write. Written by a program. -/
import Derived.Test.YtmhfodjiefednaaR74
import Derived.Test.YtmhfodjiefednaaR75
import Derived.Test.YtmhfodjiefednaaR76
import Derived.Test.YtmhfodjiefednaaR7B
set_option maxRecDepth 20000
set_option maxHeartbeats 4000000
namespace Go.Proofs
open Go Go.Fhl
set_option linter.unusedVariables false
set_option linter.unusedSimpArgs false
noncomputable def M_ref1_Of (t0 : Str) : Option (A4 UInt32) :=
  Option.bind (M_ref1_Sum ([t0] : List Str)) fun (x1 : (A4 UInt32)) => some x1
theorem ok_ref1_Of (t0 : Str) (r : (A4 UInt32)) (h : M_ref1_Of t0 = some r) : FFn Try.prog 54 [(S t0)] (Value.agg ((cA4 c32) r).toArray) := by
  refine FFn.of_body (n := 6) Try.func54 rfl Try.ntmps54 rfl rfl rfl rfl ?_
  show AWp _ _ _ ⟨6, 0, [(0, (S t0))], [], ⟨0, []⟩⟩
  unfold M_ref1_Of at h
  refine aws ?_
  refine awr ?_
  refine ado rfl rfl rfl (ex_alloc (k := 0) (zs := ((cA4 c32) (A4.mk 0 0 0 0))) (L' := [((cA4 c32) (A4.mk 0 0 0 0))]) z_33 rfl rfl rfl rfl) ?_
  refine ake [0, 2] 1 0 (st' := ⟨6, 0, [(0, (S t0)), (2, (LP 0 0))], [((cA4 c32) (A4.mk 0 0 0 0))], ⟨0, []⟩⟩) (by kernel_rfl) (by kernel_rfl) ?_
  show AWp _ _ _ _
  refine aws ?_
  refine awr ?_
  refine ado rfl rfl rfl (emv (eV (v := (S t0)) rfl)) ?_
  refine ado rfl rfl rfl (ex_buildSliceD (qs := [(0, (S t0))]) (cells := (([t0] : List Str).flatMap cS)) Try.underlying26 s_9 (by decide) (evp rfl evp_nil) rfl (by kernel_rfl) (by kernel_rfl) (by kernel_rfl)) ?_
  obtain ⟨x1, hx1, h⟩ := bindS h
  refine ado rfl rfl rfl (ex_call0 (vs := [(SL 1 cS ([t0] : List Str))]) (v := (Value.agg ((cA4 c32) x1).toArray)) rfl en_69 (cargs (evs rfl evs_nil)) rfl (ok_ref1_Sum ([t0] : List Str) x1 hx1) rfl) ?_
  refine arun_do0 rfl rfl (ex_storeL (vy := (Value.agg ((cA4 c32) x1).toArray)) (cs := ((cA4 c32) (A4.mk 0 0 0 0))) (vs := ((cA4 c32) x1)) (L' := [((cA4 c32) x1)]) rfl (eV (v := (Value.agg ((cA4 c32) x1).toArray)) rfl) rfl s_33 rfl (Nat.le_of_ble_eq_true rfl) (by kernel_rfl)) ?_
  refine ake [2] 1 0 (st' := ⟨6, 0, [(2, (LP 0 0))], [((cA4 c32) x1)], ⟨0, []⟩⟩) (by kernel_rfl) (by kernel_rfl) ?_
  show AWp _ _ _ _
  refine awp_ret ?_
  cases h
  exact ares1 (rcellL rfl rfl rfl (partA Try.underlying33 rfl s_33 (by decide) (Nat.le_of_ble_eq_true rfl) rfl))

noncomputable def M_ref1_sealed (t0 : Str) : Option Str :=
  Option.bind (M_ref1_Of t0) fun (x1 : (A4 UInt32)) => Option.bind (M_ref1_Put ([52, 52, 52, 52] : Str) ([(x1.x0.toNat : Int), (x1.x1.toNat : Int), (x1.x2.toNat : Int), (x1.x3.toNat : Int)] : List Int)) fun (x2 : Str) => Option.bind (addS t0 x2) fun (x3 : Str) => Option.bind (M_ref1_noughts (w64 (256 - (x3.length : Int)))) fun (x4 : Str) => Option.bind (addS x3 x4) fun (x5 : Str) => some x5
theorem ok_ref1_sealed (t0 : Str) (r : Str) (h : M_ref1_sealed t0 = some r) : FFn Try.prog 36 [(S t0)] (S r) := by
  refine FFn.of_body (n := 28) Try.func36 rfl Try.ntmps36 rfl rfl rfl rfl ?_
  show AWp _ _ _ ⟨28, 0, [(0, (S t0))], [], ⟨0, []⟩⟩
  unfold M_ref1_sealed at h
  refine aws ?_
  refine awr ?_
  refine ado rfl rfl rfl (eas (eV (v := (S [])) rfl)) ?_
  refine ake [0] 0 0 (st' := ⟨28, 0, [(0, (S t0))], [], ⟨0, []⟩⟩) (by kernel_rfl) (by kernel_rfl) ?_
  show AWp _ _ _ _
  refine aws ?_
  refine awr ?_
  refine ado rfl rfl rfl (emv (eV (v := (S t0)) rfl)) ?_
  obtain ⟨x1, hx1, h⟩ := bindS h
  refine ado rfl rfl rfl (ex_call0 (vs := [(S t0)]) (v := (Value.agg ((cA4 c32) x1).toArray)) rfl en_54 (cargs (evs rfl evs_nil)) rfl (ok_ref1_Of t0 x1 hx1) rfl) ?_
  refine ado rfl rfl rfl (ex_alloc (k := 0) (zs := ((cA4 c32) (A4.mk 0 0 0 0))) (L' := [((cA4 c32) (A4.mk 0 0 0 0))]) z_33 rfl rfl rfl rfl) ?_
  refine arun_do0 rfl rfl (ex_storeL (vy := (Value.agg ((cA4 c32) x1).toArray)) (cs := ((cA4 c32) (A4.mk 0 0 0 0))) (vs := ((cA4 c32) x1)) (L' := [((cA4 c32) x1)]) rfl (eV (v := (Value.agg ((cA4 c32) x1).toArray)) rfl) rfl s_33 rfl (Nat.le_of_ble_eq_true rfl) (by kernel_rfl)) ?_
  refine ake [0, 3] 1 0 (st' := ⟨28, 0, [(0, (S t0)), (3, (LP 0 0))], [((cA4 c32) x1)], ⟨0, []⟩⟩) (by kernel_rfl) (by kernel_rfl) ?_
  show AWp _ _ _ _
  refine aws ?_
  refine awr ?_
  refine ado rfl rfl rfl (emv (eV (v := (S t0)) rfl)) ?_
  refine ado rfl rfl rfl (ex_indexAddrA (i := 0) (v := (LP 0 0)) Try.underlying33 s_31 rfl rfl (by decide) rfl) ?_
  refine ado rfl rfl rfl (tx_ldL1 (v := (U32 x1.x0)) Try.underlying31 rfl rfl rfl rfl) ?_
  refine ado rfl rfl rfl (tx_32_64 Try.underlying31 Try.underlying3 rfl) ?_
  refine ado rfl rfl rfl (ex_indexAddrA (i := 1) (v := (LP 0 1)) Try.underlying33 s_31 rfl rfl (by decide) rfl) ?_
  refine ado rfl rfl rfl (tx_ldL1 (v := (U32 x1.x1)) Try.underlying31 rfl rfl rfl rfl) ?_
  refine ado rfl rfl rfl (tx_32_64 Try.underlying31 Try.underlying3 rfl) ?_
  refine ado rfl rfl rfl (ex_indexAddrA (i := 2) (v := (LP 0 2)) Try.underlying33 s_31 rfl rfl (by decide) rfl) ?_
  refine ado rfl rfl rfl (tx_ldL1 (v := (U32 x1.x2)) Try.underlying31 rfl rfl rfl rfl) ?_
  refine ado rfl rfl rfl (tx_32_64 Try.underlying31 Try.underlying3 rfl) ?_
  refine ado rfl rfl rfl (ex_indexAddrA (i := 3) (v := (LP 0 3)) Try.underlying33 s_31 rfl rfl (by decide) rfl) ?_
  refine ado rfl rfl rfl (tx_ldL1 (v := (U32 x1.x3)) Try.underlying31 rfl rfl rfl rfl) ?_
  refine ado rfl rfl rfl (tx_32_64 Try.underlying31 Try.underlying3 rfl) ?_
  refine ado rfl rfl rfl (ex_buildSliceD (qs := [(0, (I (x1.x0.toNat : Int))), (1, (I (x1.x1.toNat : Int))), (2, (I (x1.x2.toNat : Int))), (3, (I (x1.x3.toNat : Int)))]) (cells := (([(x1.x0.toNat : Int), (x1.x1.toNat : Int), (x1.x2.toNat : Int), (x1.x3.toNat : Int)] : List Int).flatMap cI)) Try.underlying59 s_3 (by decide) (evp rfl (evp rfl (evp rfl (evp rfl evp_nil)))) rfl (by kernel_rfl) (by kernel_rfl) (by kernel_rfl)) ?_
  obtain ⟨x2, hx2, h⟩ := bindS h
  refine ado rfl rfl rfl (ex_call0 (vs := [(S ([52, 52, 52, 52] : Str)), (SL 1 cI ([(x1.x0.toNat : Int), (x1.x1.toNat : Int), (x1.x2.toNat : Int), (x1.x3.toNat : Int)] : List Int))]) (v := (S x2)) rfl en_37 (cargs (evs rfl (evs rfl evs_nil))) rfl (ok_ref1_Put ([52, 52, 52, 52] : Str) ([(x1.x0.toNat : Int), (x1.x1.toNat : Int), (x1.x2.toNat : Int), (x1.x3.toNat : Int)] : List Int) x2 hx2) rfl) ?_
  obtain ⟨x3, hx3, h⟩ := bindS h
  refine ado rfl rfl rfl (ex_bin (vx := (S t0)) (vy := (S x2)) rfl rfl (addS_ok hx3)) ?_
  refine ado rfl rfl rfl (eas (eV (v := (S x3)) rfl)) ?_
  refine ake [0] 0 0 (st' := ⟨28, 0, [(0, (S x3))], [], ⟨0, []⟩⟩) (by kernel_rfl) (by kernel_rfl) ?_
  show AWp _ _ _ _
  refine aws ?_
  refine awr ?_
  refine ado rfl rfl rfl (emv (eV (v := (S x3)) rfl)) ?_
  refine ado rfl rfl rfl (emv (eV (v := (S x3)) rfl)) ?_
  refine ado rfl rfl rfl (tx_lenS Try.underlying9 rfl) ?_
  refine ado rfl rfl rfl (ex_bin (vx := (I 256)) (vy := (I (x3.length : Int))) rfl rfl subI_ok) ?_
  obtain ⟨x4, hx4, h⟩ := bindS h
  refine ado rfl rfl rfl (ex_call0 (vs := [(I (w64 (256 - (x3.length : Int))))]) (v := (S x4)) rfl en_31 (cargs (evs rfl evs_nil)) rfl (ok_ref1_noughts (w64 (256 - (x3.length : Int))) x4 hx4) rfl) ?_
  obtain ⟨x5, hx5, h⟩ := bindS h
  refine ado rfl rfl rfl (ex_bin (vx := (S x3)) (vy := (S x4)) rfl rfl (addS_ok hx5)) ?_
  refine ado rfl rfl rfl (eas (eV (v := (S x5)) rfl)) ?_
  refine ake [2] 0 0 (st' := ⟨28, 0, [(2, (S x5))], [], ⟨0, []⟩⟩) (by kernel_rfl) (by kernel_rfl) ?_
  show AWp _ _ _ _
  refine awp_ret ?_
  cases h
  exact ares1 (rtmp rfl (eV rfl))

noncomputable def M_ref1_Config (t0 : Int) (t1 : Int) : Option Str :=
  Option.bind (M_ref1_num t0) fun (x1 : Bool) => Option.bind (gd ((!x1) == false) (M_ref1_mayData t1)) fun (x2 : Bool) => cond ((!x1) || (!x2)) (some []) (Option.bind (M_ref1_Put ([49, 52, 50] : Str) ([172, t0, t1] : List Int)) fun (x4 : Str) => Option.bind (M_ref1_sealed x4) fun (x5 : Str) => some x5)
theorem ok_ref1_Config (t0 : Int) (t1 : Int) (r : Str) (h : M_ref1_Config t0 t1 = some r) : FFn Try.prog 19 [(I t0), (I t1)] (S r) := by
  refine FFn.of_body (n := 18) Try.func19 rfl Try.ntmps19 rfl rfl rfl rfl ?_
  show AWp _ _ _ ⟨18, 0, [(0, (I t0)), (1, (I t1))], [], ⟨0, []⟩⟩
  unfold M_ref1_Config at h
  refine aws ?_
  refine awr ?_
  refine ado rfl rfl rfl (eas (eV (v := (S [])) rfl)) ?_
  refine ake [0, 1] 0 0 (st' := ⟨18, 0, [(0, (I t0)), (1, (I t1))], [], ⟨0, []⟩⟩) (by kernel_rfl) (by kernel_rfl) ?_
  show AWp _ _ _ _
  refine aws ?_
  refine aws ?_
  refine awr ?_
  refine ado rfl rfl rfl (emv (eV (v := (I t0)) rfl)) ?_
  obtain ⟨x1, hx1, h⟩ := bindS h
  refine ado rfl rfl rfl (ex_call0 (vs := [(I t0)]) (v := (Bo x1)) rfl en_35 (cargs (evs rfl evs_nil)) rfl (ok_ref1_num t0 x1 hx1) rfl) ?_
  refine ado rfl rfl rfl (ex_un (vx := (Bo x1)) rfl notB_ok) ?_
  refine ado rfl rfl rfl (emv (eV (v := (Bo (!x1))) rfl)) ?_
  refine agu (v := (I t1)) ((!x1) == false) rfl rfl rfl (fun hc => emv (eV (v := (I t1)) rfl)) ?_
  obtain ⟨x2, hx2, h⟩ := bindS h
  refine agu (v := (Bo x2)) ((!x1) == false) rfl rfl rfl (fun hc => ex_call0 (vs := [(I t1)]) (v := (Bo x2)) rfl en_30 (cargs (evs (cdo hc) evs_nil)) rfl (ok_ref1_mayData t1 x2 (gd_of hc hx2)) rfl) ?_
  refine agu (v := (Bo (!x2))) ((!x1) == false) rfl rfl rfl (fun hc => ex_un (vx := (Bo x2)) (cdo hc) notB_ok) ?_
  refine ado rfl rfl rfl (ex_pick rfl pkOr) ?_
  refine ake [0, 1, 12] 0 0 (st' := ⟨18, 0, [(0, (I t0)), (1, (I t1)), (12, (Bo ((!x1) || (!x2))))], [], ⟨0, []⟩⟩) (by kernel_rfl) (by kernel_rfl) ?_
  show AWp _ _ _ _
  rcases Bool.eq_false_or_eq_true ((!x1) || (!x2)) with hb3 | hb3
  · rw [condT hb3] at h
    refine awp_condT (boT hb3) ?_
    refine aws ?_
    refine awr ?_
    refine ado rfl rfl rfl (eas (eV (v := (S [])) rfl)) ?_
    refine ake [4] 0 0 (st' := ⟨18, 0, [(4, (S []))], [], ⟨0, []⟩⟩) (by kernel_rfl) (by kernel_rfl) ?_
    show AWp _ _ _ _
    refine awp_ret ?_
    cases h
    exact ares1 (rtmp rfl (eV rfl))
  · rw [condF hb3] at h
    refine awp_condF (boF hb3) ?_
    refine awp_skip ?_
    show AWp _ _ _ _
    refine aws ?_
    refine awr ?_
    refine ado rfl rfl rfl (emv (eV (v := (I t0)) rfl)) ?_
    refine ado rfl rfl rfl (emv (eV (v := (I t1)) rfl)) ?_
    refine ado rfl rfl rfl (ex_buildSliceD (qs := [(0, (I 172)), (1, (I t0)), (2, (I t1))]) (cells := (([172, t0, t1] : List Int).flatMap cI)) Try.underlying59 s_3 (by decide) (evp rfl (evp rfl (evp rfl evp_nil))) rfl (by kernel_rfl) (by kernel_rfl) (by kernel_rfl)) ?_
    obtain ⟨x4, hx4, h⟩ := bindS h
    refine ado rfl rfl rfl (ex_call0 (vs := [(S ([49, 52, 50] : Str)), (SL 1 cI ([172, t0, t1] : List Int))]) (v := (S x4)) rfl en_37 (cargs (evs rfl (evs rfl evs_nil))) rfl (ok_ref1_Put ([49, 52, 50] : Str) ([172, t0, t1] : List Int) x4 hx4) rfl) ?_
    obtain ⟨x5, hx5, h⟩ := bindS h
    refine ado rfl rfl rfl (ex_call0 (vs := [(S x4)]) (v := (S x5)) rfl en_36 (cargs (evs rfl evs_nil)) rfl (ok_ref1_sealed x4 x5 hx5) rfl) ?_
    refine ado rfl rfl rfl (eas (eV (v := (S x5)) rfl)) ?_
    refine ake [4] 0 0 (st' := ⟨18, 0, [(4, (S x5))], [], ⟨0, []⟩⟩) (by kernel_rfl) (by kernel_rfl) ?_
    show AWp _ _ _ _
    refine awp_ret ?_
    cases h
    exact ares1 (rtmp rfl (eV rfl))

noncomputable def M_ref1_Write_k1 (c_1 : (Int → GDv → Option (GDv × Bool))) (t1 : (List GPu)) (v2 : Int) (y5 : GDv) : Option (GDv × Bool) :=
  c_1 (w64 (v2 + 1)) y5
noncomputable def M_ref1_Write_k2 (c_1 : (Int → GDv → Option (GDv × Bool))) (t1 : (List GPu)) (v2 : Int) (y13 : GDv) : Option (GDv × Bool) :=
  cond y13.Down (some (y13, false)) (M_ref1_Write_k1 c_1 t1 v2 y13)
noncomputable def M_ref1_Write_l1 (t1 : (List GPu)) : Nat → Int → GDv → Option (GDv × Bool)
  | 0, _, _ => none
  | n1 + 1, v2, v3 =>
  cond (decide (v2 < (t1.length : Int))) (Option.bind (getI t1 v2) fun (x6 : GPu) => Option.bind (gd ((decide (x6.At < 0)) == false) (getI t1 v2)) fun (x7 : GPu) => Option.bind (gd (((decide (x6.At < 0)) || (decide (x7.At ≥ (v3.Last.length : Int)))) == false) (getI t1 v2)) fun (x8 : GPu) => cond (((decide (x6.At < 0)) || (decide (x7.At ≥ (v3.Last.length : Int)))) || ((x8.B.length : Int) != 256)) (some (v3, false)) (Option.bind (appL 24 ([] : List GPu) v3.Wait) fun (x10 : List GPu) => Option.bind (getI t1 v2) fun (x11 : GPu) => Option.bind (appL 24 x10 ([x11] : List GPu)) fun (x12 : List GPu) => cond (decide (v3.Arm > 0)) (M_ref1_Write_k2 (M_ref1_Write_l1 t1 n1) t1 v2 (GDv.mk v3.Last x12 v3.Lies (w64 (v3.Arm - 1)) ((w64 (v3.Arm - 1)) == 0))) (M_ref1_Write_k2 (M_ref1_Write_l1 t1 n1) t1 v2 (GDv.mk v3.Last x12 v3.Lies v3.Arm v3.Down)))) (some (v3, true))
noncomputable def M_ref1_Write (t0 : GDv) (t1 : (List GPu)) : Option (GDv × Bool) :=
  cond t0.Down (some (t0, false)) (M_ref1_Write_l1 t1 fuel 0 t0)
theorem ok_ref1_Write (t0 : GDv) (t1 : (List GPu)) (r : (GDv × Bool)) (h : M_ref1_Write t0 t1 = some r) : FFn Try.prog 21 [(Value.agg (cDv t0).toArray), (SL 2 cPu t1)] (Value.tuple #[(Value.agg (cDv r.1).toArray), (Bo r.2)]) := by
  refine FFn.of_body (n := 69) Try.func21 rfl Try.ntmps21 rfl rfl rfl rfl ?_
  show AWp _ _ _ ⟨69, 0, [(0, (Value.agg (cDv t0).toArray)), (1, (SL 2 cPu t1))], [], ⟨0, []⟩⟩
  unfold M_ref1_Write at h
  refine aws ?_
  refine awr ?_
  refine ado rfl rfl rfl (ex_box (vx := (Value.agg (cDv t0).toArray)) (cs := (cDv t0)) (k := 0) (L' := [(cDv t0)]) (eV (v := (Value.agg (cDv t0).toArray)) rfl) rfl rfl rfl) ?_
  refine ado rfl rfl rfl (ex_allocW (k := 1) (zs := (cDv (GDv.mk [] [] 0 0 false))) (L' := [(cDv t0), (cDv (GDv.mk [] [] 0 0 false))]) z_29 rfl (by repeat (first | exact trivial | refine ⟨.inl rfl, ?_⟩ | refine ⟨.inr ⟨rfl, _, rfl⟩, ?_⟩)) rfl rfl) ?_
  refine ado rfl rfl rfl (eas (eV (v := (Bo false)) rfl)) ?_
  refine ake [1, 2, 4] 2 0 (st' := ⟨69, 0, [(1, (SL 2 cPu t1)), (2, (LP 0 0)), (4, (LP 1 0))], [(cDv t0), (cDv (GDv.mk [] [] 0 0 false))], ⟨0, []⟩⟩) (by kernel_rfl) (by kernel_rfl) ?_
  show AWp _ _ _ _
  refine aws ?_
  refine aws ?_
  refine awr ?_
  refine ado rfl rfl rfl (efa (v := (LP 0 4)) Try.underlying29 rfl s_4 (by decide) rfl rfl) ?_
  refine ado rfl rfl rfl (tx_ldL1 (v := (Bo t0.Down)) Try.underlying4 rfl rfl rfl rfl) ?_
  refine ake [1, 2, 4, 8] 2 0 (st' := ⟨69, 0, [(1, (SL 2 cPu t1)), (2, (LP 0 0)), (4, (LP 1 0)), (8, (Bo t0.Down))], [(cDv t0), (cDv (GDv.mk [] [] 0 0 false))], ⟨0, []⟩⟩) (by kernel_rfl) (by kernel_rfl) ?_
  show AWp _ _ _ _
  rcases Bool.eq_false_or_eq_true t0.Down with hb1 | hb1
  · rw [condT hb1] at h
    refine awp_condT (boT hb1) ?_
    refine aws ?_
    refine awr ?_
    refine ado rfl rfl rfl (tx_ldLA (vs := (cDv t0)) Try.underlying29 rfl s_29 (by decide) rfl rfl rfl rfl) ?_
    refine arun_do0 rfl rfl (ex_storeL (vy := (Value.agg (cDv t0).toArray)) (cs := (cDv (GDv.mk [] [] 0 0 false))) (vs := (cDv t0)) (L' := [(cDv t0), (cDv t0)]) rfl (eV (v := (Value.agg (cDv t0).toArray)) rfl) rfl s_29 rfl (Nat.le_of_ble_eq_true rfl) (by kernel_rfl)) ?_
    refine ado rfl rfl rfl (eas (eV (v := (Bo false)) rfl)) ?_
    refine ake [4, 5] 2 0 (st' := ⟨69, 0, [(4, (LP 1 0)), (5, (Bo false))], [(cDv t0), (cDv t0)], ⟨0, []⟩⟩) (by kernel_rfl) (by kernel_rfl) ?_
    show AWp _ _ _ _
    refine awp_ret ?_
    cases h
    exact aresN rfl (L2.cons (rcellL rfl rfl rfl (partA Try.underlying29 rfl s_29 (by decide) (Nat.le_of_ble_eq_true rfl) rfl)) (L2.cons (rtmp rfl (eV rfl)) L2.nil)) rfl
  · rw [condF hb1] at h
    refine awp_condF (boF hb1) ?_
    refine awp_skip ?_
    show AWp _ _ _ _
    refine aws ?_
    refine aws ?_
    refine awr ?_
    refine ado rfl rfl rfl (eas (eV (v := (I 0)) rfl)) ?_
    refine ake [1, 2, 4, 6] 2 0 (st' := ⟨69, 0, [(1, (SL 2 cPu t1)), (2, (LP 0 0)), (4, (LP 1 0)), (6, (I 0))], [(cDv t0), (cDv (GDv.mk [] [] 0 0 false))], ⟨0, []⟩⟩) (by kernel_rfl) (by kernel_rfl) ?_
    show AWp _ _ _ _
    refine awp_block ?_
    refine awp_loop (fun n s => ∃ (v2 : Int) (v3 : GDv), s = ⟨69, 0, [(1, (SL 2 cPu t1)), (2, (LP 0 0)), (4, (LP 1 0)), (6, (I v2))], [(cDv v3), (cDv (GDv.mk [] [] 0 0 false))], ⟨0, []⟩⟩ ∧ M_ref1_Write_l1 t1 n v2 v3 = some r) fuel (Exists.intro 0 (Exists.intro t0 (And.intro rfl h))) ?_
    rintro n s ⟨v2, v3, rfl, h⟩ -
    cases n with
    | zero => cases h
    | succ n1 =>
      unfold M_ref1_Write_l1 at h
      refine aws ?_
      refine aws ?_
      refine awr ?_
      refine ado rfl rfl rfl (emv (eV (v := (I v2)) rfl)) ?_
      refine ado rfl rfl rfl (emv (eV (v := (SL 2 cPu t1)) rfl)) ?_
      refine ado rfl rfl rfl (tx_lenD (xs := t1) ce_api_Put Try.underlying27 rfl) ?_
      refine ado rfl rfl rfl (ex_bin (vx := (I v2)) (vy := (I (t1.length : Int))) rfl rfl lssI_ok) ?_
      refine ake [1, 2, 4, 6, 13] 2 0 (st' := ⟨69, 0, [(1, (SL 2 cPu t1)), (2, (LP 0 0)), (4, (LP 1 0)), (6, (I v2)), (13, (Bo (decide (v2 < (t1.length : Int)))))], [(cDv v3), (cDv (GDv.mk [] [] 0 0 false))], ⟨0, []⟩⟩) (by kernel_rfl) (by kernel_rfl) ?_
      show AWp _ _ _ _
      rcases Bool.eq_false_or_eq_true (decide (v2 < (t1.length : Int))) with hb4 | hb4
      · rw [condT hb4] at h
        refine awp_condT (boT hb4) ?_
        refine awp_skip ?_
        show AWp _ _ _ _
        refine awp_seqJ (fun s => ∃ (y5 : GDv), s = ⟨69, 0, [(1, (SL 2 cPu t1)), (2, (LP 0 0)), (4, (LP 1 0)), (6, (I v2))], [(cDv y5), (cDv (GDv.mk [] [] 0 0 false))], ⟨0, []⟩⟩ ∧ M_ref1_Write_k1 (M_ref1_Write_l1 t1 n1) t1 v2 y5 = some r) ?_ ?_
        · refine awp_block ?_
          refine aws ?_
          refine aws ?_
          obtain ⟨x6, hx6, h⟩ := bindS h
          obtain ⟨x7, hx7, h⟩ := bindS h
          obtain ⟨x8, hx8, h⟩ := bindS h
          refine awp_kn [1, 2, 4, 6, 41] 2 0 (st' := ⟨69, 0, [(1, (SL 2 cPu t1)), (2, (LP 0 0)), (4, (LP 1 0)), (6, (I v2)), (41, (Bo (((decide (x6.At < 0)) || (decide (x7.At ≥ (v3.Last.length : Int)))) || ((x8.B.length : Int) != 256))))], [(cDv v3), (cDv (GDv.mk [] [] 0 0 false))], ⟨0, []⟩⟩) (awp_draw (T := [(SL 2 cPu t1), (I v2), (DP (cPu x6)), (DP (List.drop 0 (cPu x6))), (I x6.At), (Bo (decide (x6.At < 0))), (Bo (decide (x6.At < 0))), (cond ((decide (x6.At < 0)) == false) (SL 2 cPu t1) skipV), (cond ((decide (x6.At < 0)) == false) (I v2) skipV), (cond ((decide (x6.At < 0)) == false) (DP (cPu x7)) skipV), (cond ((decide (x6.At < 0)) == false) (DP (List.drop 0 (cPu x7))) skipV), (cond ((decide (x6.At < 0)) == false) (I x7.At) skipV), (cond ((decide (x6.At < 0)) == false) (LP 0 0) skipV), (cond ((decide (x6.At < 0)) == false) (SL 1 cS v3.Last) skipV), (cond ((decide (x6.At < 0)) == false) (I (v3.Last.length : Int)) skipV), (cond ((decide (x6.At < 0)) == false) (Bo (decide (x7.At ≥ (v3.Last.length : Int)))) skipV), (Bo ((decide (x6.At < 0)) || (decide (x7.At ≥ (v3.Last.length : Int))))), (Bo ((decide (x6.At < 0)) || (decide (x7.At ≥ (v3.Last.length : Int))))), (cond (((decide (x6.At < 0)) || (decide (x7.At ≥ (v3.Last.length : Int)))) == false) (SL 2 cPu t1) skipV), (cond (((decide (x6.At < 0)) || (decide (x7.At ≥ (v3.Last.length : Int)))) == false) (I v2) skipV), (cond (((decide (x6.At < 0)) || (decide (x7.At ≥ (v3.Last.length : Int)))) == false) (DP (cPu x8)) skipV), (cond (((decide (x6.At < 0)) || (decide (x7.At ≥ (v3.Last.length : Int)))) == false) (DP (List.drop 1 (cPu x8))) skipV), (cond (((decide (x6.At < 0)) || (decide (x7.At ≥ (v3.Last.length : Int)))) == false) (S x8.B) skipV), (cond (((decide (x6.At < 0)) || (decide (x7.At ≥ (v3.Last.length : Int)))) == false) (I (x8.B.length : Int)) skipV), (cond (((decide (x6.At < 0)) || (decide (x7.At ≥ (v3.Last.length : Int)))) == false) (Bo ((x8.B.length : Int) != 256)) skipV), (Bo (((decide (x6.At < 0)) || (decide (x7.At ≥ (v3.Last.length : Int)))) || ((x8.B.length : Int) != 256)))]) (LH := [([(cDv v3), (cDv (GDv.mk [] [] 0 0 false))], ⟨0, []⟩)]) (D := [⟨[(1, none)], [], [0], false⟩, ⟨[(6, none)], [], [0], false⟩, ⟨[(16, some 0), (17, some 1)], [0, 1], [0], false⟩, ⟨[(18, some 2)], [0, 1, 2], [0], false⟩, ⟨[(19, some 3)], [0, 1, 2, 3], [0], false⟩, ⟨[(20, some 4)], [0, 1, 2, 3, 4], [0], false⟩, ⟨[(21, some 5)], [0, 1, 2, 3, 4, 5], [0], false⟩, ⟨[(1, none), (22, some 6)], [0, 1, 2, 3, 4, 5, 6], [0], false⟩, ⟨[(6, none), (22, some 6)], [0, 1, 2, 3, 4, 5, 6], [0], false⟩, ⟨[(23, some 7), (24, some 8), (22, some 6)], [0, 1, 2, 3, 4, 5, 6, 7, 8], [0], false⟩, ⟨[(25, some 9), (22, some 6)], [0, 1, 2, 3, 4, 5, 6, 7, 8, 9], [0], false⟩, ⟨[(26, some 10), (22, some 6)], [0, 1, 2, 3, 4, 5, 6, 7, 8, 9, 10], [0], false⟩, ⟨[(2, none), (22, some 6)], [0, 1, 2, 3, 4, 5, 6], [0], false⟩, ⟨[(28, some 12), (22, some 6)], [0, 1, 2, 3, 4, 5, 6, 12], [0], false⟩, ⟨[(29, some 13), (22, some 6)], [0, 1, 2, 3, 4, 5, 6, 12, 13], [0], false⟩, ⟨[(27, some 11), (30, some 14), (22, some 6)], [0, 1, 2, 3, 4, 5, 6, 7, 8, 9, 10, 11, 12, 13, 14], [0], false⟩, ⟨[(22, some 6), (31, some 15)], [0, 1, 2, 3, 4, 5, 6, 7, 8, 9, 10, 11, 12, 13, 14, 15], [0], false⟩, ⟨[(32, some 16)], [0, 1, 2, 3, 4, 5, 6, 7, 8, 9, 10, 11, 12, 13, 14, 15, 16], [0], false⟩, ⟨[(1, none), (33, some 17)], [0, 1, 2, 3, 4, 5, 6, 7, 8, 9, 10, 11, 12, 13, 14, 15, 16, 17], [0], false⟩, ⟨[(6, none), (33, some 17)], [0, 1, 2, 3, 4, 5, 6, 7, 8, 9, 10, 11, 12, 13, 14, 15, 16, 17], [0], false⟩, ⟨[(34, some 18), (35, some 19), (33, some 17)], [0, 1, 2, 3, 4, 5, 6, 7, 8, 9, 10, 11, 12, 13, 14, 15, 16, 17, 18, 19], [0], false⟩, ⟨[(36, some 20), (33, some 17)], [0, 1, 2, 3, 4, 5, 6, 7, 8, 9, 10, 11, 12, 13, 14, 15, 16, 17, 18, 19, 20], [0], false⟩, ⟨[(37, some 21), (33, some 17)], [0, 1, 2, 3, 4, 5, 6, 7, 8, 9, 10, 11, 12, 13, 14, 15, 16, 17, 18, 19, 20, 21], [0], false⟩, ⟨[(38, some 22), (33, some 17)], [0, 1, 2, 3, 4, 5, 6, 7, 8, 9, 10, 11, 12, 13, 14, 15, 16, 17, 18, 19, 20, 21, 22], [0], false⟩, ⟨[(39, some 23), (33, some 17)], [0, 1, 2, 3, 4, 5, 6, 7, 8, 9, 10, 11, 12, 13, 14, 15, 16, 17, 18, 19, 20, 21, 22, 23], [0], false⟩, ⟨[(33, some 17), (40, some 24)], [0, 1, 2, 3, 4, 5, 6, 7, 8, 9, 10, 11, 12, 13, 14, 15, 16, 17, 18, 19, 20, 21, 22, 23, 24], [0], false⟩]) (S := []) (plan := [0, 1, 2, 3, 4, 5, 6, 7, 8, 9, 10, 11, 12, 13, 14, 15, 16, 17, 18, 19, 20, 21, 22, 23, 24, 25]) mo (by kernel_rfl) rfl rfl rfl (dcons (dst1 (Tm := [(1, (SL 2 cPu t1))]) (L := [(cDv v3), (cDv (GDv.mk [] [] 0 0 false))]) (H := ⟨0, []⟩) rfl rfl rfl rfl rfl (asd rfl (emv (eV (v := (SL 2 cPu t1)) rfl)))) (dcons (dst1 (Tm := [(6, (I v2))]) (L := [(cDv v3), (cDv (GDv.mk [] [] 0 0 false))]) (H := ⟨0, []⟩) rfl rfl rfl rfl rfl (asd rfl (emv (eV (v := (I v2)) rfl)))) (dcons (dst1 (Tm := [(16, (SL 2 cPu t1)), (17, (I v2))]) (L := [(cDv v3), (cDv (GDv.mk [] [] 0 0 false))]) (H := ⟨0, []⟩) rfl rfl rfl rfl rfl (asd rfl (tx_idxD (c := cPu) (xs := t1) (i := v2) ce_api_Put Try.underlying27 s_44 rfl rfl hx6))) (dcons (dst1 (Tm := [(18, (DP (cPu x6)))]) (L := [(cDv v3), (cDv (GDv.mk [] [] 0 0 false))]) (H := ⟨0, []⟩) rfl rfl rfl rfl rfl (asd rfl (ex_fieldAddrD (vs := (List.drop 0 (cPu x6))) Try.underlying44 rfl s_3 (by decide) rfl rfl))) (dcons (dst1 (Tm := [(19, (DP (List.drop 0 (cPu x6))))]) (L := [(cDv v3), (cDv (GDv.mk [] [] 0 0 false))]) (H := ⟨0, []⟩) rfl rfl rfl rfl rfl (asd rfl (tx_ldD1 (v := (I x6.At)) Try.underlying3 rfl rfl rfl))) (dcons (dst1 (Tm := [(20, (I x6.At))]) (L := [(cDv v3), (cDv (GDv.mk [] [] 0 0 false))]) (H := ⟨0, []⟩) rfl rfl rfl rfl rfl (asd rfl (ex_bin (vx := (I x6.At)) (vy := (I 0)) rfl rfl lssI_ok))) (dcons (dst1 (Tm := [(21, (Bo (decide (x6.At < 0))))]) (L := [(cDv v3), (cDv (GDv.mk [] [] 0 0 false))]) (H := ⟨0, []⟩) rfl rfl rfl rfl rfl (asd rfl (emv (eV (v := (Bo (decide (x6.At < 0)))) rfl)))) (dcons (dst1 (Tm := [(1, (SL 2 cPu t1)), (22, (Bo (decide (x6.At < 0))))]) (L := [(cDv v3), (cDv (GDv.mk [] [] 0 0 false))]) (H := ⟨0, []⟩) rfl rfl rfl rfl rfl (astep_guard (v := (SL 2 cPu t1)) ((decide (x6.At < 0)) == false) rfl (fun hc => emv (eV (v := (SL 2 cPu t1)) rfl)))) (dcons (dst1 (Tm := [(6, (I v2)), (22, (Bo (decide (x6.At < 0))))]) (L := [(cDv v3), (cDv (GDv.mk [] [] 0 0 false))]) (H := ⟨0, []⟩) rfl rfl rfl rfl rfl (astep_guard (v := (I v2)) ((decide (x6.At < 0)) == false) rfl (fun hc => emv (eV (v := (I v2)) rfl)))) (dcons (dst1 (Tm := [(23, (cond ((decide (x6.At < 0)) == false) (SL 2 cPu t1) skipV)), (24, (cond ((decide (x6.At < 0)) == false) (I v2) skipV)), (22, (Bo (decide (x6.At < 0))))]) (L := [(cDv v3), (cDv (GDv.mk [] [] 0 0 false))]) (H := ⟨0, []⟩) rfl rfl rfl rfl rfl (astep_guard (v := (DP (cPu x7))) ((decide (x6.At < 0)) == false) rfl (fun hc => tx_idxD (c := cPu) (xs := t1) (i := v2) ce_api_Put Try.underlying27 s_44 (cdo hc) (cdo hc) (gd_of hc hx7)))) (dcons (dst1 (Tm := [(25, (cond ((decide (x6.At < 0)) == false) (DP (cPu x7)) skipV)), (22, (Bo (decide (x6.At < 0))))]) (L := [(cDv v3), (cDv (GDv.mk [] [] 0 0 false))]) (H := ⟨0, []⟩) rfl rfl rfl rfl rfl (astep_guard (v := (DP (List.drop 0 (cPu x7)))) ((decide (x6.At < 0)) == false) rfl (fun hc => ex_fieldAddrD (vs := (List.drop 0 (cPu x7))) Try.underlying44 rfl s_3 (by decide) (cdo hc) rfl))) (dcons (dst1 (Tm := [(26, (cond ((decide (x6.At < 0)) == false) (DP (List.drop 0 (cPu x7))) skipV)), (22, (Bo (decide (x6.At < 0))))]) (L := [(cDv v3), (cDv (GDv.mk [] [] 0 0 false))]) (H := ⟨0, []⟩) rfl rfl rfl rfl rfl (astep_guard (v := (I x7.At)) ((decide (x6.At < 0)) == false) rfl (fun hc => tx_ldD1 (v := (I x7.At)) Try.underlying3 rfl (cdo hc) rfl))) (dcons (dst1 (Tm := [(2, (LP 0 0)), (22, (Bo (decide (x6.At < 0))))]) (L := [(cDv v3), (cDv (GDv.mk [] [] 0 0 false))]) (H := ⟨0, []⟩) rfl rfl rfl rfl rfl (astep_guard (v := (LP 0 0)) ((decide (x6.At < 0)) == false) rfl (fun hc => efa (v := (LP 0 0)) Try.underlying29 rfl s_26 (by decide) rfl rfl))) (dcons (dst1 (Tm := [(28, (cond ((decide (x6.At < 0)) == false) (LP 0 0) skipV)), (22, (Bo (decide (x6.At < 0))))]) (L := [(cDv v3), (cDv (GDv.mk [] [] 0 0 false))]) (H := ⟨0, []⟩) rfl rfl rfl rfl rfl (astep_guard (v := (SL 1 cS v3.Last)) ((decide (x6.At < 0)) == false) rfl (fun hc => tx_ldL1 (v := (SL 1 cS v3.Last)) Try.underlying26 rfl (cdo hc) rfl rfl))) (dcons (dst1 (Tm := [(29, (cond ((decide (x6.At < 0)) == false) (SL 1 cS v3.Last) skipV)), (22, (Bo (decide (x6.At < 0))))]) (L := [(cDv v3), (cDv (GDv.mk [] [] 0 0 false))]) (H := ⟨0, []⟩) rfl rfl rfl rfl rfl (astep_guard (v := (I (v3.Last.length : Int))) ((decide (x6.At < 0)) == false) rfl (fun hc => tx_lenD (xs := v3.Last) ceS Try.underlying26 (cdo hc)))) (dcons (dst1 (Tm := [(27, (cond ((decide (x6.At < 0)) == false) (I x7.At) skipV)), (30, (cond ((decide (x6.At < 0)) == false) (I (v3.Last.length : Int)) skipV)), (22, (Bo (decide (x6.At < 0))))]) (L := [(cDv v3), (cDv (GDv.mk [] [] 0 0 false))]) (H := ⟨0, []⟩) rfl rfl rfl rfl rfl (astep_guard (v := (Bo (decide (x7.At ≥ (v3.Last.length : Int))))) ((decide (x6.At < 0)) == false) rfl (fun hc => ex_bin (vx := (I x7.At)) (vy := (I (v3.Last.length : Int))) (cdo hc) (cdo hc) geqI_ok))) (dcons (dst1 (Tm := [(22, (Bo (decide (x6.At < 0)))), (31, (cond ((decide (x6.At < 0)) == false) (Bo (decide (x7.At ≥ (v3.Last.length : Int)))) skipV))]) (L := [(cDv v3), (cDv (GDv.mk [] [] 0 0 false))]) (H := ⟨0, []⟩) rfl rfl rfl rfl rfl (asd rfl (ex_pick rfl pkOr))) (dcons (dst1 (Tm := [(32, (Bo ((decide (x6.At < 0)) || (decide (x7.At ≥ (v3.Last.length : Int))))))]) (L := [(cDv v3), (cDv (GDv.mk [] [] 0 0 false))]) (H := ⟨0, []⟩) rfl rfl rfl rfl rfl (asd rfl (emv (eV (v := (Bo ((decide (x6.At < 0)) || (decide (x7.At ≥ (v3.Last.length : Int)))))) rfl)))) (dcons (dst1 (Tm := [(1, (SL 2 cPu t1)), (33, (Bo ((decide (x6.At < 0)) || (decide (x7.At ≥ (v3.Last.length : Int))))))]) (L := [(cDv v3), (cDv (GDv.mk [] [] 0 0 false))]) (H := ⟨0, []⟩) rfl rfl rfl rfl rfl (astep_guard (v := (SL 2 cPu t1)) (((decide (x6.At < 0)) || (decide (x7.At ≥ (v3.Last.length : Int)))) == false) rfl (fun hc => emv (eV (v := (SL 2 cPu t1)) rfl)))) (dcons (dst1 (Tm := [(6, (I v2)), (33, (Bo ((decide (x6.At < 0)) || (decide (x7.At ≥ (v3.Last.length : Int))))))]) (L := [(cDv v3), (cDv (GDv.mk [] [] 0 0 false))]) (H := ⟨0, []⟩) rfl rfl rfl rfl rfl (astep_guard (v := (I v2)) (((decide (x6.At < 0)) || (decide (x7.At ≥ (v3.Last.length : Int)))) == false) rfl (fun hc => emv (eV (v := (I v2)) rfl)))) (dcons (dst1 (Tm := [(34, (cond (((decide (x6.At < 0)) || (decide (x7.At ≥ (v3.Last.length : Int)))) == false) (SL 2 cPu t1) skipV)), (35, (cond (((decide (x6.At < 0)) || (decide (x7.At ≥ (v3.Last.length : Int)))) == false) (I v2) skipV)), (33, (Bo ((decide (x6.At < 0)) || (decide (x7.At ≥ (v3.Last.length : Int))))))]) (L := [(cDv v3), (cDv (GDv.mk [] [] 0 0 false))]) (H := ⟨0, []⟩) rfl rfl rfl rfl rfl (astep_guard (v := (DP (cPu x8))) (((decide (x6.At < 0)) || (decide (x7.At ≥ (v3.Last.length : Int)))) == false) rfl (fun hc => tx_idxD (c := cPu) (xs := t1) (i := v2) ce_api_Put Try.underlying27 s_44 (cdo hc) (cdo hc) (gd_of hc hx8)))) (dcons (dst1 (Tm := [(36, (cond (((decide (x6.At < 0)) || (decide (x7.At ≥ (v3.Last.length : Int)))) == false) (DP (cPu x8)) skipV)), (33, (Bo ((decide (x6.At < 0)) || (decide (x7.At ≥ (v3.Last.length : Int))))))]) (L := [(cDv v3), (cDv (GDv.mk [] [] 0 0 false))]) (H := ⟨0, []⟩) rfl rfl rfl rfl rfl (astep_guard (v := (DP (List.drop 1 (cPu x8)))) (((decide (x6.At < 0)) || (decide (x7.At ≥ (v3.Last.length : Int)))) == false) rfl (fun hc => ex_fieldAddrD (vs := (List.drop 1 (cPu x8))) Try.underlying44 rfl s_9 (by decide) (cdo hc) rfl))) (dcons (dst1 (Tm := [(37, (cond (((decide (x6.At < 0)) || (decide (x7.At ≥ (v3.Last.length : Int)))) == false) (DP (List.drop 1 (cPu x8))) skipV)), (33, (Bo ((decide (x6.At < 0)) || (decide (x7.At ≥ (v3.Last.length : Int))))))]) (L := [(cDv v3), (cDv (GDv.mk [] [] 0 0 false))]) (H := ⟨0, []⟩) rfl rfl rfl rfl rfl (astep_guard (v := (S x8.B)) (((decide (x6.At < 0)) || (decide (x7.At ≥ (v3.Last.length : Int)))) == false) rfl (fun hc => tx_ldD1 (v := (S x8.B)) Try.underlying9 rfl (cdo hc) rfl))) (dcons (dst1 (Tm := [(38, (cond (((decide (x6.At < 0)) || (decide (x7.At ≥ (v3.Last.length : Int)))) == false) (S x8.B) skipV)), (33, (Bo ((decide (x6.At < 0)) || (decide (x7.At ≥ (v3.Last.length : Int))))))]) (L := [(cDv v3), (cDv (GDv.mk [] [] 0 0 false))]) (H := ⟨0, []⟩) rfl rfl rfl rfl rfl (astep_guard (v := (I (x8.B.length : Int))) (((decide (x6.At < 0)) || (decide (x7.At ≥ (v3.Last.length : Int)))) == false) rfl (fun hc => tx_lenS Try.underlying9 (cdo hc)))) (dcons (dst1 (Tm := [(39, (cond (((decide (x6.At < 0)) || (decide (x7.At ≥ (v3.Last.length : Int)))) == false) (I (x8.B.length : Int)) skipV)), (33, (Bo ((decide (x6.At < 0)) || (decide (x7.At ≥ (v3.Last.length : Int))))))]) (L := [(cDv v3), (cDv (GDv.mk [] [] 0 0 false))]) (H := ⟨0, []⟩) rfl rfl rfl rfl rfl (astep_guard (v := (Bo ((x8.B.length : Int) != 256))) (((decide (x6.At < 0)) || (decide (x7.At ≥ (v3.Last.length : Int)))) == false) rfl (fun hc => ex_bin (vx := (I (x8.B.length : Int))) (vy := (I 256)) (cdo hc) rfl neqI_ok))) (dcons (dst1 (Tm := [(33, (Bo ((decide (x6.At < 0)) || (decide (x7.At ≥ (v3.Last.length : Int)))))), (40, (cond (((decide (x6.At < 0)) || (decide (x7.At ≥ (v3.Last.length : Int)))) == false) (Bo ((x8.B.length : Int) != 256)) skipV))]) (L := [(cDv v3), (cDv (GDv.mk [] [] 0 0 false))]) (H := ⟨0, []⟩) rfl rfl rfl rfl rfl (asd rfl (ex_pick rfl pkOr))) dnil)))))))))))))))))))))))))) ⟨rfl, rfl⟩) (by kernel_rfl) (by kernel_rfl) ?_
          show AWp _ _ _ _
          rcases Bool.eq_false_or_eq_true (((decide (x6.At < 0)) || (decide (x7.At ≥ (v3.Last.length : Int)))) || ((x8.B.length : Int) != 256)) with hb9 | hb9
          · rw [condT hb9] at h
            refine awp_condT (boT hb9) ?_
            refine aws ?_
            refine awr ?_
            refine ado rfl rfl rfl (tx_ldLA (vs := (cDv v3)) Try.underlying29 rfl s_29 (by decide) rfl rfl rfl rfl) ?_
            refine arun_do0 rfl rfl (ex_storeL (vy := (Value.agg (cDv v3).toArray)) (cs := (cDv (GDv.mk [] [] 0 0 false))) (vs := (cDv v3)) (L' := [(cDv v3), (cDv v3)]) rfl (eV (v := (Value.agg (cDv v3).toArray)) rfl) rfl s_29 rfl (Nat.le_of_ble_eq_true rfl) (by kernel_rfl)) ?_
            refine ado rfl rfl rfl (eas (eV (v := (Bo false)) rfl)) ?_
            refine ake [4, 5] 2 0 (st' := ⟨69, 0, [(4, (LP 1 0)), (5, (Bo false))], [(cDv v3), (cDv v3)], ⟨0, []⟩⟩) (by kernel_rfl) (by kernel_rfl) ?_
            show AWp _ _ _ _
            refine awp_ret ?_
            cases h
            exact aresN rfl (L2.cons (rcellL rfl rfl rfl (partA Try.underlying29 rfl s_29 (by decide) (Nat.le_of_ble_eq_true rfl) rfl)) (L2.cons (rtmp rfl (eV rfl)) L2.nil)) rfl
          · rw [condF hb9] at h
            refine awp_condF (boF hb9) ?_
            refine awp_skip ?_
            show AWp _ _ _ _
            refine aws ?_
            obtain ⟨x10, hx10, h⟩ := bindS h
            obtain ⟨x11, hx11, h⟩ := bindS h
            obtain ⟨x12, hx12, h⟩ := bindS h
            refine awp_kn [1, 2, 4, 6] 2 0 (st' := ⟨69, 0, [(1, (SL 2 cPu t1)), (2, (LP 0 0)), (4, (LP 1 0)), (6, (I v2))], [(cDv (GDv.mk v3.Last x12 v3.Lies v3.Arm v3.Down)), (cDv (GDv.mk [] [] 0 0 false))], ⟨0, []⟩⟩) (awp_draw (T := [(GV 0 0), (LP 0 1), (SL 2 cPu v3.Wait), (GV 0 x10.length), (SL 2 cPu t1), (I v2), (DP (cPu x11)), (Value.agg (cPu x11).toArray), (SL 2 cPu ([x11] : List GPu)), (GV 0 x12.length), (LP 0 1), undef]) (LH := [([(cDv v3), (cDv (GDv.mk [] [] 0 0 false))], ⟨0, []⟩), ([(cDv v3), (cDv (GDv.mk [] [] 0 0 false))], ⟨1, [(0, ⟨2, (([] : List GPu).flatMap cPu), true⟩)]⟩), ([(cDv v3), (cDv (GDv.mk [] [] 0 0 false))], ⟨1, [(0, ⟨2, ((x10).flatMap cPu), true⟩)]⟩), ([(cDv v3), (cDv (GDv.mk [] [] 0 0 false))], ⟨1, [(0, ⟨2, ((x12).flatMap cPu), true⟩)]⟩), ([(cDv (GDv.mk v3.Last x12 v3.Lies v3.Arm v3.Down)), (cDv (GDv.mk [] [] 0 0 false))], ⟨1, []⟩)]) (D := [⟨[], [], [0], true⟩, ⟨[(2, none)], [], [0, 1], false⟩, ⟨[(44, some 1)], [1], [0, 1], false⟩, ⟨[(43, some 0), (45, some 2)], [0, 1, 2], [1], true⟩, ⟨[(1, none)], [], [0, 1, 2], false⟩, ⟨[(6, none)], [], [0, 1, 2], false⟩, ⟨[(47, some 4), (48, some 5)], [4, 5], [0, 1, 2], false⟩, ⟨[(49, some 6)], [4, 5, 6], [0, 1, 2], false⟩, ⟨[(50, some 7)], [4, 5, 6, 7], [0, 1, 2], false⟩, ⟨[(46, some 3), (51, some 8)], [0, 1, 2, 3, 4, 5, 6, 7, 8], [2], true⟩, ⟨[(2, none)], [0, 1, 2, 3, 4, 5, 6, 7, 8, 9], [3], false⟩, ⟨[(53, some 10), (52, some 9)], [0, 1, 2, 3, 4, 5, 6, 7, 8, 9, 10], [3], true⟩]) (S := [0, 3, 9, 11]) (plan := [0, 1, 2, 3, 4, 5, 6, 7, 8, 9, 10, 11]) mo (by kernel_rfl) rfl rfl rfl (dcons (dst1 (Tm := []) (L := [(cDv v3), (cDv (GDv.mk [] [] 0 0 false))]) (H := ⟨0, []⟩) rfl rfl rfl rfl rfl (asd rfl (ex_buildSliceG (k := 0) (qs := []) (cells := (([] : List GPu).flatMap cPu)) (H' := ⟨1, [(0, ⟨2, (([] : List GPu).flatMap cPu), true⟩)]⟩) Try.underlying27 s_44 (by decide) (by decide) evp_nil rfl (by kernel_rfl) (by kernel_rfl) (by kernel_rfl) rfl rfl))) (dcons (dstepN (by intro k hk; simp only [List.mem_cons, List.not_mem_nil, or_false] at hk; rcases hk with rfl | rfl <;> exact ⟨[(2, (LP 0 0))], _, _, _, _, _, rfl, rfl, rfl, rfl, asd rfl (efa (v := (LP 0 1)) Try.underlying29 rfl s_27 (by decide) rfl rfl)⟩)) (dcons (dstepN (by intro k hk; simp only [List.mem_cons, List.not_mem_nil, or_false] at hk; rcases hk with rfl | rfl <;> exact ⟨[(44, (LP 0 1))], _, _, _, _, _, rfl, rfl, rfl, rfl, asd rfl (tx_ldL1 (v := (SL 2 cPu v3.Wait)) Try.underlying27 rfl rfl rfl rfl)⟩)) (dcons (dst1 (Tm := [(43, (GV 0 0)), (45, (SL 2 cPu v3.Wait))]) (L := [(cDv v3), (cDv (GDv.mk [] [] 0 0 false))]) (H := ⟨1, [(0, ⟨2, (([] : List GPu).flatMap cPu), true⟩)]⟩) rfl rfl rfl rfl rfl (asd rfl (tx_appG (c := cPu) (xs := []) (H' := ⟨1, [(0, ⟨2, ((x10).flatMap cPu), true⟩)]⟩) ce_api_Put e_44 rfl rfl rfl (tsrcD (ys := v3.Wait) ce_api_Put Try.underlying27 s_44 Try.underlying27 rfl) hx10 rfl))) (dcons (dstepN (by intro k hk; simp only [List.mem_cons, List.not_mem_nil, or_false] at hk; rcases hk with rfl | rfl | rfl <;> exact ⟨[(1, (SL 2 cPu t1))], _, _, _, _, _, rfl, rfl, rfl, rfl, asd rfl (emv (eV (v := (SL 2 cPu t1)) rfl))⟩)) (dcons (dstepN (by intro k hk; simp only [List.mem_cons, List.not_mem_nil, or_false] at hk; rcases hk with rfl | rfl | rfl <;> exact ⟨[(6, (I v2))], _, _, _, _, _, rfl, rfl, rfl, rfl, asd rfl (emv (eV (v := (I v2)) rfl))⟩)) (dcons (dstepN (by intro k hk; simp only [List.mem_cons, List.not_mem_nil, or_false] at hk; rcases hk with rfl | rfl | rfl <;> exact ⟨[(47, (SL 2 cPu t1)), (48, (I v2))], _, _, _, _, _, rfl, rfl, rfl, rfl, asd rfl (tx_idxD (c := cPu) (xs := t1) (i := v2) ce_api_Put Try.underlying27 s_44 rfl rfl hx11)⟩)) (dcons (dstepN (by intro k hk; simp only [List.mem_cons, List.not_mem_nil, or_false] at hk; rcases hk with rfl | rfl | rfl <;> exact ⟨[(49, (DP (cPu x11)))], _, _, _, _, _, rfl, rfl, rfl, rfl, asd rfl (tx_ldDA (vs := (cPu x11)) Try.underlying44 rfl s_44 (by decide) rfl (Nat.le_of_ble_eq_true rfl) rfl)⟩)) (dcons (dstepN (by intro k hk; simp only [List.mem_cons, List.not_mem_nil, or_false] at hk; rcases hk with rfl | rfl | rfl <;> exact ⟨[(50, (Value.agg (cPu x11).toArray))], _, _, _, _, _, rfl, rfl, rfl, rfl, asd rfl (ex_buildSliceD (qs := [(0, (Value.agg (cPu x11).toArray))]) (cells := (([x11] : List GPu).flatMap cPu)) Try.underlying27 s_44 (by decide) (evp rfl evp_nil) rfl (by kernel_rfl) (by kernel_rfl) (by kernel_rfl))⟩)) (dcons (dst1 (Tm := [(46, (GV 0 x10.length)), (51, (SL 2 cPu ([x11] : List GPu)))]) (L := [(cDv v3), (cDv (GDv.mk [] [] 0 0 false))]) (H := ⟨1, [(0, ⟨2, ((x10).flatMap cPu), true⟩)]⟩) rfl rfl rfl rfl rfl (asd rfl (tx_appG (c := cPu) (xs := x10) (H' := ⟨1, [(0, ⟨2, ((x12).flatMap cPu), true⟩)]⟩) ce_api_Put e_44 rfl rfl rfl (tsrcD (ys := ([x11] : List GPu)) ce_api_Put Try.underlying27 s_44 Try.underlying27 rfl) hx12 rfl))) (dcons (dst1 (Tm := [(2, (LP 0 0))]) (L := [(cDv v3), (cDv (GDv.mk [] [] 0 0 false))]) (H := ⟨1, [(0, ⟨2, ((x12).flatMap cPu), true⟩)]⟩) rfl rfl rfl rfl rfl (asd rfl (efa (v := (LP 0 1)) Try.underlying29 rfl s_27 (by decide) rfl rfl))) (dcons (dst1 (Tm := [(53, (LP 0 1)), (52, (GV 0 x12.length))]) (L := [(cDv v3), (cDv (GDv.mk [] [] 0 0 false))]) (H := ⟨1, [(0, ⟨2, ((x12).flatMap cPu), true⟩)]⟩) rfl rfl rfl rfl rfl (asd rfl (ex_fz (Tm' := [(53, (LP 0 1)), (52, (SL 2 cPu x12))]) 0 rfl (FzT.keep (v := (LP 0 1)) rfl (fzG ce_api_Put rfl rfl FzT.nil)) (ex_storeL (vy := (SL 2 cPu x12)) (cs := (cDv v3)) (vs := [(SL 2 cPu x12)]) (L' := [(cDv (GDv.mk v3.Last x12 v3.Lies v3.Arm v3.Down)), (cDv (GDv.mk [] [] 0 0 false))]) rfl (eV (v := (SL 2 cPu x12)) rfl) rfl s_27 rfl (Nat.le_of_ble_eq_true rfl) (by kernel_rfl))))) dnil)))))))))))) ⟨rfl, rfl⟩) (by kernel_rfl) (by kernel_rfl) ?_
            show AWp _ _ _ _
            refine awp_seqJ (fun s => ∃ (y13 : GDv), s = ⟨69, 0, [(1, (SL 2 cPu t1)), (2, (LP 0 0)), (4, (LP 1 0)), (6, (I v2))], [(cDv y13), (cDv (GDv.mk [] [] 0 0 false))], ⟨0, []⟩⟩ ∧ M_ref1_Write_k2 (M_ref1_Write_l1 t1 n1) t1 v2 y13 = some r) ?_ ?_
            · refine aws ?_
              refine awr ?_
              refine ado rfl rfl rfl (efa (v := (LP 0 3)) Try.underlying29 rfl s_3 (by decide) rfl rfl) ?_
              refine ado rfl rfl rfl (tx_ldL1 (v := (I v3.Arm)) Try.underlying3 rfl rfl rfl rfl) ?_
              refine ado rfl rfl rfl (ex_bin (vx := (I v3.Arm)) (vy := (I 0)) rfl rfl gtrI_ok) ?_
              refine ake [1, 2, 4, 6, 56] 2 0 (st' := ⟨69, 0, [(1, (SL 2 cPu t1)), (2, (LP 0 0)), (4, (LP 1 0)), (6, (I v2)), (56, (Bo (decide (v3.Arm > 0))))], [(cDv (GDv.mk v3.Last x12 v3.Lies v3.Arm v3.Down)), (cDv (GDv.mk [] [] 0 0 false))], ⟨0, []⟩⟩) (by kernel_rfl) (by kernel_rfl) ?_
              show AWp _ _ _ _
              rcases Bool.eq_false_or_eq_true (decide (v3.Arm > 0)) with hb14 | hb14
              · rw [condT hb14] at h
                refine awp_condT (boT hb14) ?_
                refine aws ?_
                refine awr ?_
                refine ado rfl rfl rfl (efa (v := (LP 0 3)) Try.underlying29 rfl s_3 (by decide) rfl rfl) ?_
                refine ado rfl rfl rfl (tx_ldL1 (v := (I v3.Arm)) Try.underlying3 rfl rfl rfl rfl) ?_
                refine ado rfl rfl rfl (ex_bin (vx := (I v3.Arm)) (vy := (I 1)) rfl rfl subI_ok) ?_
                refine ado rfl rfl rfl (efa (v := (LP 0 3)) Try.underlying29 rfl s_3 (by decide) rfl rfl) ?_
                refine arun_do0 rfl rfl (ex_storeL (vy := (I (w64 (v3.Arm - 1)))) (cs := (cDv (GDv.mk v3.Last x12 v3.Lies v3.Arm v3.Down))) (vs := [(I (w64 (v3.Arm - 1)))]) (L' := [(cDv (GDv.mk v3.Last x12 v3.Lies (w64 (v3.Arm - 1)) v3.Down)), (cDv (GDv.mk [] [] 0 0 false))]) rfl (eV (v := (I (w64 (v3.Arm - 1)))) rfl) rfl s_3 rfl (Nat.le_of_ble_eq_true rfl) (by kernel_rfl)) ?_
                refine ake [1, 2, 4, 6] 2 0 (st' := ⟨69, 0, [(1, (SL 2 cPu t1)), (2, (LP 0 0)), (4, (LP 1 0)), (6, (I v2))], [(cDv (GDv.mk v3.Last x12 v3.Lies (w64 (v3.Arm - 1)) v3.Down)), (cDv (GDv.mk [] [] 0 0 false))], ⟨0, []⟩⟩) (by kernel_rfl) (by kernel_rfl) ?_
                show AWp _ _ _ _
                refine awr ?_
                refine ado rfl rfl rfl (efa (v := (LP 0 3)) Try.underlying29 rfl s_3 (by decide) rfl rfl) ?_
                refine ado rfl rfl rfl (tx_ldL1 (v := (I (w64 (v3.Arm - 1)))) Try.underlying3 rfl rfl rfl rfl) ?_
                refine ado rfl rfl rfl (ex_bin (vx := (I (w64 (v3.Arm - 1)))) (vy := (I 0)) rfl rfl eqlI_ok) ?_
                refine ado rfl rfl rfl (efa (v := (LP 0 4)) Try.underlying29 rfl s_4 (by decide) rfl rfl) ?_
                refine arun_do0 rfl rfl (ex_storeL (vy := (Bo ((w64 (v3.Arm - 1)) == 0))) (cs := (cDv (GDv.mk v3.Last x12 v3.Lies (w64 (v3.Arm - 1)) v3.Down))) (vs := [(Bo ((w64 (v3.Arm - 1)) == 0))]) (L' := [(cDv (GDv.mk v3.Last x12 v3.Lies (w64 (v3.Arm - 1)) ((w64 (v3.Arm - 1)) == 0))), (cDv (GDv.mk [] [] 0 0 false))]) rfl (eV (v := (Bo ((w64 (v3.Arm - 1)) == 0))) rfl) rfl s_4 rfl (Nat.le_of_ble_eq_true rfl) (by kernel_rfl)) ?_
                refine ake [1, 2, 4, 6] 2 0 (st' := ⟨69, 0, [(1, (SL 2 cPu t1)), (2, (LP 0 0)), (4, (LP 1 0)), (6, (I v2))], [(cDv (GDv.mk v3.Last x12 v3.Lies (w64 (v3.Arm - 1)) ((w64 (v3.Arm - 1)) == 0))), (cDv (GDv.mk [] [] 0 0 false))], ⟨0, []⟩⟩) (by kernel_rfl) (by kernel_rfl) ?_
                exact (Exists.intro (GDv.mk v3.Last x12 v3.Lies (w64 (v3.Arm - 1)) ((w64 (v3.Arm - 1)) == 0)) (And.intro rfl h))
              · rw [condF hb14] at h
                refine awp_condF (boF hb14) ?_
                refine awp_keepE [1, 2, 4, 6] 2 0 (st' := ⟨69, 0, [(1, (SL 2 cPu t1)), (2, (LP 0 0)), (4, (LP 1 0)), (6, (I v2))], [(cDv (GDv.mk v3.Last x12 v3.Lies v3.Arm v3.Down)), (cDv (GDv.mk [] [] 0 0 false))], ⟨0, []⟩⟩) (by kernel_rfl) (by kernel_rfl) ?_
                refine awp_skip ?_
                exact (Exists.intro (GDv.mk v3.Last x12 v3.Lies v3.Arm v3.Down) (And.intro rfl h))
            · rintro s ⟨y13, rfl, h⟩
              unfold M_ref1_Write_k2 at h
              refine aws ?_
              refine awr ?_
              refine ado rfl rfl rfl (efa (v := (LP 0 4)) Try.underlying29 rfl s_4 (by decide) rfl rfl) ?_
              refine ado rfl rfl rfl (tx_ldL1 (v := (Bo y13.Down)) Try.underlying4 rfl rfl rfl rfl) ?_
              refine ake [1, 2, 4, 6, 66] 2 0 (st' := ⟨69, 0, [(1, (SL 2 cPu t1)), (2, (LP 0 0)), (4, (LP 1 0)), (6, (I v2)), (66, (Bo y13.Down))], [(cDv y13), (cDv (GDv.mk [] [] 0 0 false))], ⟨0, []⟩⟩) (by kernel_rfl) (by kernel_rfl) ?_
              show AWp _ _ _ _
              rcases Bool.eq_false_or_eq_true y13.Down with hb15 | hb15
              · rw [condT hb15] at h
                refine awp_condT (boT hb15) ?_
                refine aws ?_
                refine awr ?_
                refine ado rfl rfl rfl (tx_ldLA (vs := (cDv y13)) Try.underlying29 rfl s_29 (by decide) rfl rfl rfl rfl) ?_
                refine arun_do0 rfl rfl (ex_storeL (vy := (Value.agg (cDv y13).toArray)) (cs := (cDv (GDv.mk [] [] 0 0 false))) (vs := (cDv y13)) (L' := [(cDv y13), (cDv y13)]) rfl (eV (v := (Value.agg (cDv y13).toArray)) rfl) rfl s_29 rfl (Nat.le_of_ble_eq_true rfl) (by kernel_rfl)) ?_
                refine ado rfl rfl rfl (eas (eV (v := (Bo false)) rfl)) ?_
                refine ake [4, 5] 2 0 (st' := ⟨69, 0, [(4, (LP 1 0)), (5, (Bo false))], [(cDv y13), (cDv y13)], ⟨0, []⟩⟩) (by kernel_rfl) (by kernel_rfl) ?_
                show AWp _ _ _ _
                refine awp_ret ?_
                cases h
                exact aresN rfl (L2.cons (rcellL rfl rfl rfl (partA Try.underlying29 rfl s_29 (by decide) (Nat.le_of_ble_eq_true rfl) rfl)) (L2.cons (rtmp rfl (eV rfl)) L2.nil)) rfl
              · rw [condF hb15] at h
                refine awp_condF (boF hb15) ?_
                refine awp_keepE [1, 2, 4, 6] 2 0 (st' := ⟨69, 0, [(1, (SL 2 cPu t1)), (2, (LP 0 0)), (4, (LP 1 0)), (6, (I v2))], [(cDv y13), (cDv (GDv.mk [] [] 0 0 false))], ⟨0, []⟩⟩) (by kernel_rfl) (by kernel_rfl) ?_
                refine awp_skip ?_
                exact (Exists.intro y13 (And.intro rfl h))
        · rintro s ⟨y5, rfl, h⟩
          unfold M_ref1_Write_k1 at h
          refine awr ?_
          refine ado rfl rfl rfl (emv (eV (v := (I v2)) rfl)) ?_
          refine ado rfl rfl rfl (ex_bin (vx := (I v2)) (vy := (I 1)) rfl rfl addI_ok) ?_
          refine ado rfl rfl rfl (eas (eV (v := (I (w64 (v2 + 1)))) rfl)) ?_
          refine ake [1, 2, 4, 6] 2 0 (st' := ⟨69, 0, [(1, (SL 2 cPu t1)), (2, (LP 0 0)), (4, (LP 1 0)), (6, (I (w64 (v2 + 1))))], [(cDv y5), (cDv (GDv.mk [] [] 0 0 false))], ⟨0, []⟩⟩) (by kernel_rfl) (by kernel_rfl) ?_
          exact Exists.intro n1 (And.intro (Nat.lt_succ_self _) (Exists.intro (w64 (v2 + 1)) (Exists.intro y5 (And.intro rfl h))))
      · rw [condF hb4] at h
        refine awp_condF (boF hb4) ?_
        refine awp_exit ?_
        show AWp _ _ _ _
        refine aws ?_
        refine awr ?_
        refine ado rfl rfl rfl (tx_ldLA (vs := (cDv v3)) Try.underlying29 rfl s_29 (by decide) rfl rfl rfl rfl) ?_
        refine arun_do0 rfl rfl (ex_storeL (vy := (Value.agg (cDv v3).toArray)) (cs := (cDv (GDv.mk [] [] 0 0 false))) (vs := (cDv v3)) (L' := [(cDv v3), (cDv v3)]) rfl (eV (v := (Value.agg (cDv v3).toArray)) rfl) rfl s_29 rfl (Nat.le_of_ble_eq_true rfl) (by kernel_rfl)) ?_
        refine ado rfl rfl rfl (eas (eV (v := (Bo true)) rfl)) ?_
        refine ake [4, 5] 2 0 (st' := ⟨69, 0, [(4, (LP 1 0)), (5, (Bo true))], [(cDv v3), (cDv v3)], ⟨0, []⟩⟩) (by kernel_rfl) (by kernel_rfl) ?_
        show AWp _ _ _ _
        refine awp_ret ?_
        cases h
        exact aresN rfl (L2.cons (rcellL rfl rfl rfl (partA Try.underlying29 rfl s_29 (by decide) (Nat.le_of_ble_eq_true rfl) rfl)) (L2.cons (rtmp rfl (eV rfl)) L2.nil)) rfl

end Go.Proofs
