/- Pure models of functions of the program, and that its code does what they say: palimpref1 noughts, palimpref1 New, dev has, pack Take. Written by a program. -/
import Derived.Test.YtmhfodjiefednaaR71
import Derived.Test.YtmhfodjiefednaaR7B
set_option maxRecDepth 20000
set_option maxHeartbeats 4000000
namespace Go.Proofs
open Go Go.Fhl
set_option linter.unusedVariables false
set_option linter.unusedSimpArgs false
noncomputable def M_ref1_noughts (t0 : Int) : Option Str :=
  Option.bind (makeL 1 (max t0 0) 0) fun (x1 : List UInt8) => some x1
theorem ok_ref1_noughts (t0 : Int) (r : Str) (h : M_ref1_noughts t0 = some r) : FFn Try.prog 31 [(I t0)] (S r) := by
  refine FFn.of_body (n := 7) Try.func31 rfl Try.ntmps31 rfl rfl rfl rfl ?_
  show AWp _ _ _ ⟨7, 0, [(0, (I t0))], [], ⟨0, []⟩⟩
  unfold M_ref1_noughts at h
  refine aws ?_
  refine awr ?_
  refine ado rfl rfl rfl (eas (eV (v := (S [])) rfl)) ?_
  refine ake [0] 0 0 (st' := ⟨7, 0, [(0, (I t0))], [], ⟨0, []⟩⟩) (by kernel_rfl) (by kernel_rfl) ?_
  show AWp _ _ _ _
  refine aws ?_
  refine awr ?_
  refine ado rfl rfl rfl (emv (eV (v := (I t0)) rfl)) ?_
  refine ado rfl rfl rfl (ex_max (m := t0) (n := 0) rfl rfl) ?_
  obtain ⟨x1, hx1, h⟩ := bindS h
  refine ado rfl rfl rfl (tx_makeD (c := c8) (e := 0) ce8 Try.underlying72 s_5 b_5 z_5 rfl rfl rfl rfl hx1) ?_
  refine ado rfl rfl rfl (tx_bsD (bs := x1) Try.underlying72 Try.underlying9 Try.underlying5 rfl) ?_
  refine ado rfl rfl rfl (eas (eV (v := (S x1)) rfl)) ?_
  refine ake [2] 0 0 (st' := ⟨7, 0, [(2, (S x1))], [], ⟨0, []⟩⟩) (by kernel_rfl) (by kernel_rfl) ?_
  show AWp _ _ _ _
  refine awp_ret ?_
  cases h
  exact ares1 (rtmp rfl (eV rfl))

noncomputable def M_ref1_New_l1 (t0 : Int) : Nat → Int → List Str → Option GDv
  | 0, _, _ => none
  | n1 + 1, v1, v2 =>
  cond ((decide (v1 < t0)) && (decide (t0 ≤ 268))) (Option.bind (M_ref1_noughts 256) fun (x4 : Str) => Option.bind (appL 16 v2 ([x4] : List Str)) fun (x5 : List Str) => (M_ref1_New_l1 t0 n1) (w64 (v1 + 1)) x5) (some (GDv.mk v2 [] 0 0 false))
noncomputable def M_ref1_New (t0 : Int) : Option GDv :=
  M_ref1_New_l1 t0 fuel 0 ([] : List Str)
theorem ok_ref1_New (t0 : Int) (r : GDv) (h : M_ref1_New t0 = some r) : FFn Try.prog 14 [(I t0)] (Value.agg (cDv r).toArray) := by
  refine FFn.of_body (n := 22) Try.func14 rfl Try.ntmps14 rfl rfl rfl rfl ?_
  show AWp _ _ _ ⟨22, 0, [(0, (I t0))], [], ⟨0, []⟩⟩
  unfold M_ref1_New at h
  refine aws ?_
  refine awr ?_
  refine ado rfl rfl rfl (ex_allocW (k := 0) (zs := (cDv (GDv.mk [] [] 0 0 false))) (L' := [(cDv (GDv.mk [] [] 0 0 false))]) z_29 rfl (by repeat (first | exact trivial | refine ⟨.inl rfl, ?_⟩ | refine ⟨.inr ⟨rfl, _, rfl⟩, ?_⟩)) rfl rfl) ?_
  refine ake [0, 2] 1 0 (st' := ⟨22, 0, [(0, (I t0)), (2, (LP 0 0))], [(cDv (GDv.mk [] [] 0 0 false))], ⟨0, []⟩⟩) (by kernel_rfl) (by kernel_rfl) ?_
  show AWp _ _ _ _
  refine aws ?_
  refine awr ?_
  refine ado rfl rfl rfl (ex_build (qs := []) (v := (Value.agg ([(Value.slice none 0 0)] ++ ([(Value.slice none 0 0)] ++ ([(I 0)] ++ ([(I 0)] ++ ([(Bo false)]))))).toArray)) evp_nil (by kernel_rfl)) ?_
  refine ado rfl rfl rfl (ex_alloc (k := 1) (zs := ([(Value.slice none 0 0)] ++ ([(Value.slice none 0 0)] ++ ([(I 0)] ++ ([(I 0)] ++ ([(Bo false)])))))) (L' := [(cDv (GDv.mk [] [] 0 0 false)), ([(Value.slice none 0 0)] ++ ([(Value.slice none 0 0)] ++ ([(I 0)] ++ ([(I 0)] ++ ([(Bo false)])))))]) z_29 rfl rfl rfl rfl) ?_
  refine arun_do0 rfl rfl (ex_storeL (vy := (Value.agg ([(Value.slice none 0 0)] ++ ([(Value.slice none 0 0)] ++ ([(I 0)] ++ ([(I 0)] ++ ([(Bo false)]))))).toArray)) (cs := ([(Value.slice none 0 0)] ++ ([(Value.slice none 0 0)] ++ ([(I 0)] ++ ([(I 0)] ++ ([(Bo false)])))))) (vs := ([(Value.slice none 0 0)] ++ ([(Value.slice none 0 0)] ++ ([(I 0)] ++ ([(I 0)] ++ ([(Bo false)])))))) (L' := [(cDv (GDv.mk [] [] 0 0 false)), ([(Value.slice none 0 0)] ++ ([(Value.slice none 0 0)] ++ ([(I 0)] ++ ([(I 0)] ++ ([(Bo false)])))))]) rfl (eV (v := (Value.agg ([(Value.slice none 0 0)] ++ ([(Value.slice none 0 0)] ++ ([(I 0)] ++ ([(I 0)] ++ ([(Bo false)]))))).toArray)) rfl) rfl s_29 rfl (Nat.le_of_ble_eq_true rfl) (by kernel_rfl)) ?_
  refine ake [0, 2, 3] 2 0 (st' := ⟨22, 0, [(0, (I t0)), (2, (LP 0 0)), (3, (LP 1 0))], [(cDv (GDv.mk [] [] 0 0 false)), ([(Value.slice none 0 0)] ++ ([(Value.slice none 0 0)] ++ ([(I 0)] ++ ([(I 0)] ++ ([(Bo false)])))))], ⟨0, []⟩⟩) (by kernel_rfl) (by kernel_rfl) ?_
  show AWp _ _ _ _
  refine aws ?_
  refine aws ?_
  refine awr ?_
  refine ado rfl rfl rfl (eas (eV (v := (I 0)) rfl)) ?_
  refine ake [0, 2, 3, 4] 2 0 (st' := ⟨22, 0, [(0, (I t0)), (2, (LP 0 0)), (3, (LP 1 0)), (4, (I 0))], [(cDv (GDv.mk [] [] 0 0 false)), ([(Value.slice none 0 0)] ++ ([(Value.slice none 0 0)] ++ ([(I 0)] ++ ([(I 0)] ++ ([(Bo false)])))))], ⟨0, []⟩⟩) (by kernel_rfl) (by kernel_rfl) ?_
  show AWp _ _ _ _
  refine awp_block ?_
  refine awp_nilGroL 1 0 1 rfl rfl (by decide) (L' := [(cDv (GDv.mk [] [] 0 0 false)), ([(GV 0 0)] ++ ([(Value.slice none 0 0)] ++ ([(I 0)] ++ ([(I 0)] ++ ([(Bo false)])))))]) rfl ?_
  refine awp_keepE [0, 2, 3, 4] 2 1 (st' := ⟨22, 0, [(0, (I t0)), (2, (LP 0 0)), (3, (LP 1 0)), (4, (I 0))], [(cDv (GDv.mk [] [] 0 0 false)), ([(GV 0 0)] ++ ([(Value.slice none 0 0)] ++ ([(I 0)] ++ ([(I 0)] ++ ([(Bo false)])))))], ⟨1, [(0, ⟨1, (([] : List Str).flatMap cS), true⟩)]⟩⟩) (by kernel_rfl) (by kernel_rfl) ?_
  refine awp_loop (fun n s => ∃ (v1 : Int) (v2 : List Str), s = ⟨22, 0, [(0, (I t0)), (2, (LP 0 0)), (3, (LP 1 0)), (4, (I v1))], [(cDv (GDv.mk [] [] 0 0 false)), ([(GV 0 v2.length)] ++ ([(Value.slice none 0 0)] ++ ([(I 0)] ++ ([(I 0)] ++ ([(Bo false)])))))], ⟨1, [(0, ⟨1, ((v2).flatMap cS), true⟩)]⟩⟩ ∧ M_ref1_New_l1 t0 n v1 v2 = some r) fuel (Exists.intro 0 (Exists.intro ([] : List Str) (And.intro rfl h))) ?_
  rintro n s ⟨v1, v2, rfl, h⟩ -
  cases n with
  | zero => cases h
  | succ n1 =>
    unfold M_ref1_New_l1 at h
    refine aws ?_
    refine aws ?_
    refine awr ?_
    refine ado rfl rfl rfl (emv (eV (v := (I v1)) rfl)) ?_
    refine ado rfl rfl rfl (emv (eV (v := (I t0)) rfl)) ?_
    refine ado rfl rfl rfl (ex_bin (vx := (I v1)) (vy := (I t0)) rfl rfl lssI_ok) ?_
    refine ado rfl rfl rfl (emv (eV (v := (Bo (decide (v1 < t0)))) rfl)) ?_
    refine agu (v := (I t0)) ((decide (v1 < t0)) == true) rfl rfl rfl (fun hc => emv (eV (v := (I t0)) rfl)) ?_
    refine agu (v := (Bo (decide (t0 ≤ 268)))) ((decide (v1 < t0)) == true) rfl rfl rfl (fun hc => ex_bin (vx := (I t0)) (vy := (I 268)) (cdo hc) rfl leqI_ok) ?_
    refine ado rfl rfl rfl (ex_pick rfl pkAnd) ?_
    refine ake [0, 2, 3, 4, 12] 2 1 (st' := ⟨22, 0, [(0, (I t0)), (2, (LP 0 0)), (3, (LP 1 0)), (4, (I v1)), (12, (Bo ((decide (v1 < t0)) && (decide (t0 ≤ 268)))))], [(cDv (GDv.mk [] [] 0 0 false)), ([(GV 0 v2.length)] ++ ([(Value.slice none 0 0)] ++ ([(I 0)] ++ ([(I 0)] ++ ([(Bo false)])))))], ⟨1, [(0, ⟨1, ((v2).flatMap cS), true⟩)]⟩⟩) (by kernel_rfl) (by kernel_rfl) ?_
    show AWp _ _ _ _
    rcases Bool.eq_false_or_eq_true ((decide (v1 < t0)) && (decide (t0 ≤ 268))) with hb3 | hb3
    · rw [condT hb3] at h
      refine awp_condT (boT hb3) ?_
      refine awp_skip ?_
      show AWp _ _ _ _
      refine aws ?_
      refine awp_block ?_
      obtain ⟨x4, hx4, h⟩ := bindS h
      obtain ⟨x5, hx5, h⟩ := bindS h
      refine awp_kn [0, 2, 3, 4] 2 1 (st' := ⟨22, 0, [(0, (I t0)), (2, (LP 0 0)), (3, (LP 1 0)), (4, (I v1))], [(cDv (GDv.mk [] [] 0 0 false)), ([(GV 0 x5.length)] ++ ([(Value.slice none 0 0)] ++ ([(I 0)] ++ ([(I 0)] ++ ([(Bo false)])))))], ⟨1, [(0, ⟨1, ((x5).flatMap cS), true⟩)]⟩⟩) (awp_draw (T := [(LP 1 0), (GV 0 v2.length), (S x4), (SL 1 cS ([x4] : List Str)), (GV 0 x5.length), (LP 1 0), undef]) (LH := [([(cDv (GDv.mk [] [] 0 0 false)), ([(GV 0 v2.length)] ++ ([(Value.slice none 0 0)] ++ ([(I 0)] ++ ([(I 0)] ++ ([(Bo false)])))))], ⟨1, [(0, ⟨1, ((v2).flatMap cS), true⟩)]⟩), ([(cDv (GDv.mk [] [] 0 0 false)), ([(GV 0 v2.length)] ++ ([(Value.slice none 0 0)] ++ ([(I 0)] ++ ([(I 0)] ++ ([(Bo false)])))))], ⟨1, [(0, ⟨1, ((x5).flatMap cS), true⟩)]⟩), ([(cDv (GDv.mk [] [] 0 0 false)), ([(GV 0 x5.length)] ++ ([(Value.slice none 0 0)] ++ ([(I 0)] ++ ([(I 0)] ++ ([(Bo false)])))))], ⟨1, [(0, ⟨1, ((x5).flatMap cS), true⟩)]⟩)]) (D := [⟨[(3, none)], [], [0], false⟩, ⟨[(15, some 0)], [0], [0], false⟩, ⟨[], [], [0], false⟩, ⟨[(17, some 2)], [2], [0], false⟩, ⟨[(16, some 1), (18, some 3)], [0, 1, 2, 3], [0], true⟩, ⟨[(3, none)], [0, 1, 2, 3, 4], [1], false⟩, ⟨[(20, some 5), (19, some 4)], [0, 1, 2, 3, 4, 5], [1], true⟩]) (S := [4, 6]) (plan := [0, 1, 2, 3, 4, 5, 6]) mo (by kernel_rfl) rfl rfl rfl (dcons (dst1 (Tm := [(3, (LP 1 0))]) (L := [(cDv (GDv.mk [] [] 0 0 false)), ([(GV 0 v2.length)] ++ ([(Value.slice none 0 0)] ++ ([(I 0)] ++ ([(I 0)] ++ ([(Bo false)])))))]) (H := ⟨1, [(0, ⟨1, ((v2).flatMap cS), true⟩)]⟩) rfl rfl rfl rfl rfl (asd rfl (efa (v := (LP 1 0)) Try.underlying29 rfl s_26 (by decide) rfl rfl))) (dcons (dst1 (Tm := [(15, (LP 1 0))]) (L := [(cDv (GDv.mk [] [] 0 0 false)), ([(GV 0 v2.length)] ++ ([(Value.slice none 0 0)] ++ ([(I 0)] ++ ([(I 0)] ++ ([(Bo false)])))))]) (H := ⟨1, [(0, ⟨1, ((v2).flatMap cS), true⟩)]⟩) rfl rfl rfl rfl rfl (asd rfl (tx_ldL1 (v := (GV 0 v2.length)) Try.underlying26 rfl rfl rfl rfl))) (dcons (dst1 (Tm := []) (L := [(cDv (GDv.mk [] [] 0 0 false)), ([(GV 0 v2.length)] ++ ([(Value.slice none 0 0)] ++ ([(I 0)] ++ ([(I 0)] ++ ([(Bo false)])))))]) (H := ⟨1, [(0, ⟨1, ((v2).flatMap cS), true⟩)]⟩) rfl rfl rfl rfl rfl (asd rfl (ex_call0 (vs := [(I 256)]) (v := (S x4)) rfl en_31 (cargs (evs rfl evs_nil)) rfl (ok_ref1_noughts 256 x4 hx4) rfl))) (dcons (dst1 (Tm := [(17, (S x4))]) (L := [(cDv (GDv.mk [] [] 0 0 false)), ([(GV 0 v2.length)] ++ ([(Value.slice none 0 0)] ++ ([(I 0)] ++ ([(I 0)] ++ ([(Bo false)])))))]) (H := ⟨1, [(0, ⟨1, ((v2).flatMap cS), true⟩)]⟩) rfl rfl rfl rfl rfl (asd rfl (ex_buildSliceD (qs := [(0, (S x4))]) (cells := (([x4] : List Str).flatMap cS)) Try.underlying26 s_9 (by decide) (evp rfl evp_nil) rfl (by kernel_rfl) (by kernel_rfl) (by kernel_rfl)))) (dcons (dst1 (Tm := [(16, (GV 0 v2.length)), (18, (SL 1 cS ([x4] : List Str)))]) (L := [(cDv (GDv.mk [] [] 0 0 false)), ([(GV 0 v2.length)] ++ ([(Value.slice none 0 0)] ++ ([(I 0)] ++ ([(I 0)] ++ ([(Bo false)])))))]) (H := ⟨1, [(0, ⟨1, ((v2).flatMap cS), true⟩)]⟩) rfl rfl rfl rfl rfl (asd rfl (tx_appG (c := cS) (xs := v2) (H' := ⟨1, [(0, ⟨1, ((x5).flatMap cS), true⟩)]⟩) ceS e_9 rfl rfl rfl (tsrcD (ys := ([x4] : List Str)) ceS Try.underlying26 s_9 Try.underlying26 rfl) hx5 rfl))) (dcons (dst1 (Tm := [(3, (LP 1 0))]) (L := [(cDv (GDv.mk [] [] 0 0 false)), ([(GV 0 v2.length)] ++ ([(Value.slice none 0 0)] ++ ([(I 0)] ++ ([(I 0)] ++ ([(Bo false)])))))]) (H := ⟨1, [(0, ⟨1, ((x5).flatMap cS), true⟩)]⟩) rfl rfl rfl rfl rfl (asd rfl (efa (v := (LP 1 0)) Try.underlying29 rfl s_26 (by decide) rfl rfl))) (dcons (dst1 (Tm := [(20, (LP 1 0)), (19, (GV 0 x5.length))]) (L := [(cDv (GDv.mk [] [] 0 0 false)), ([(GV 0 v2.length)] ++ ([(Value.slice none 0 0)] ++ ([(I 0)] ++ ([(I 0)] ++ ([(Bo false)])))))]) (H := ⟨1, [(0, ⟨1, ((x5).flatMap cS), true⟩)]⟩) rfl rfl rfl rfl rfl (asd rfl (ex_storeL (vy := (GV 0 x5.length)) (cs := ([(GV 0 v2.length)] ++ ([(Value.slice none 0 0)] ++ ([(I 0)] ++ ([(I 0)] ++ ([(Bo false)])))))) (vs := [(GV 0 x5.length)]) (L' := [(cDv (GDv.mk [] [] 0 0 false)), ([(GV 0 x5.length)] ++ ([(Value.slice none 0 0)] ++ ([(I 0)] ++ ([(I 0)] ++ ([(Bo false)])))))]) rfl (eV (v := (GV 0 x5.length)) rfl) rfl s_26 rfl (Nat.le_of_ble_eq_true rfl) (by kernel_rfl)))) dnil))))))) ⟨rfl, rfl⟩) (by kernel_rfl) (by kernel_rfl) ?_
      show AWp _ _ _ _
      refine awr ?_
      refine ado rfl rfl rfl (emv (eV (v := (I v1)) rfl)) ?_
      refine ado rfl rfl rfl (ex_bin (vx := (I v1)) (vy := (I 1)) rfl rfl addI_ok) ?_
      refine ado rfl rfl rfl (eas (eV (v := (I (w64 (v1 + 1)))) rfl)) ?_
      refine ake [0, 2, 3, 4] 2 1 (st' := ⟨22, 0, [(0, (I t0)), (2, (LP 0 0)), (3, (LP 1 0)), (4, (I (w64 (v1 + 1))))], [(cDv (GDv.mk [] [] 0 0 false)), ([(GV 0 x5.length)] ++ ([(Value.slice none 0 0)] ++ ([(I 0)] ++ ([(I 0)] ++ ([(Bo false)])))))], ⟨1, [(0, ⟨1, ((x5).flatMap cS), true⟩)]⟩⟩) (by kernel_rfl) (by kernel_rfl) ?_
      exact Exists.intro n1 (And.intro (Nat.lt_succ_self _) (Exists.intro (w64 (v1 + 1)) (Exists.intro x5 (And.intro rfl h))))
    · rw [condF hb3] at h
      refine awp_condF (boF hb3) ?_
      refine awp_exit ?_
      show AWp _ _ _ _
      refine aws ?_
      refine awr ?_
      refine arun_freeze 0 (bk := ⟨1, ((v2).flatMap cS), true⟩) (T' := [(0, (I t0)), (2, (LP 0 0)), (3, (LP 1 0)), (4, (I v1)), (12, (Bo ((decide (v1 < t0)) && (decide (t0 ≤ 268)))))]) (L' := [(cDv (GDv.mk [] [] 0 0 false)), ([(SL 1 cS v2)] ++ ([(Value.slice none 0 0)] ++ ([(I 0)] ++ ([(I 0)] ++ ([(Bo false)])))))]) rfl (FzT.keep (v := (I t0)) rfl (FzT.keep (v := (LP 0 0)) rfl (FzT.keep (v := (LP 1 0)) rfl (FzT.keep (v := (I v1)) rfl (FzT.keep (v := (Bo ((decide (v1 < t0)) && (decide (t0 ≤ 268))))) rfl FzT.nil))))) (fzlS (fzlK (fzcG ceS rfl (fzcK (fzcK (fzcK (fzcK fzcN))))) fzlN)) ?_
      show ARun _ _ _ _ _ ⟨22, 0, [(0, (I t0)), (2, (LP 0 0)), (3, (LP 1 0)), (4, (I v1)), (12, (Bo ((decide (v1 < t0)) && (decide (t0 ≤ 268)))))], [(cDv (GDv.mk [] [] 0 0 false)), ([(SL 1 cS v2)] ++ ([(Value.slice none 0 0)] ++ ([(I 0)] ++ ([(I 0)] ++ ([(Bo false)])))))], ⟨1, []⟩⟩
      refine ado rfl rfl rfl (tx_ldLA (vs := ([(SL 1 cS v2)] ++ ([(Value.slice none 0 0)] ++ ([(I 0)] ++ ([(I 0)] ++ ([(Bo false)])))))) Try.underlying29 rfl s_29 (by decide) rfl rfl rfl rfl) ?_
      refine arun_do0 rfl rfl (ex_storeL (vy := (Value.agg (cDv (GDv.mk v2 [] 0 0 false)).toArray)) (cs := (cDv (GDv.mk [] [] 0 0 false))) (vs := (cDv (GDv.mk v2 [] 0 0 false))) (L' := [(cDv (GDv.mk v2 [] 0 0 false)), ([(SL 1 cS v2)] ++ ([(Value.slice none 0 0)] ++ ([(I 0)] ++ ([(I 0)] ++ ([(Bo false)])))))]) rfl (eW (vs := ([(SL 1 cS v2)] ++ ([(Value.slice none 0 0)] ++ ([(I 0)] ++ ([(I 0)] ++ ([(Bo false)]))))).toArray) (ws := (cDv (GDv.mk v2 [] 0 0 false))) rfl (by repeat (first | exact trivial | refine ⟨.inl rfl, ?_⟩ | refine ⟨.inr ⟨rfl, _, rfl⟩, ?_⟩))) rfl s_29 rfl (Nat.le_of_ble_eq_true rfl) (by kernel_rfl)) ?_
      refine ake [2] 1 0 (st' := ⟨22, 0, [(2, (LP 0 0))], [(cDv (GDv.mk v2 [] 0 0 false))], ⟨0, []⟩⟩) (by kernel_rfl) (by kernel_rfl) ?_
      show AWp _ _ _ _
      refine awp_ret ?_
      cases h
      exact ares1 (rcellL rfl rfl rfl (partA Try.underlying29 rfl s_29 (by decide) (Nat.le_of_ble_eq_true rfl) rfl))

noncomputable def M_dev_has (t0 : GDv) (t1 : Int) : Option Bool :=
  some ((decide (t1 ≥ 0)) && (decide (t1 < (t0.Last.length : Int))))
noncomputable def M_pack_Take_l2 (c_1 : (Str → Int → List Int → Option ((List Int) × Str × Bool))) (x1 : ((List Int) × Int × Bool)) (v3 : Str) (v4 : Int) (v5 : List Int) (x7 : Int) (x8 : Str) : Nat → Int → Int → Option ((List Int) × Str × Bool)
  | 0, _, _ => none
  | n2 + 1, v9, v10 =>
  cond (decide (v10 < (x8.length : Int))) (Option.bind (getI x8 v10) fun (x12 : UInt8) => Option.bind (shlI v9 (8 : Int)) fun (x13 : Int) => (M_pack_Take_l2 c_1 x1 v3 v4 v5 x7 x8 n2) (orI x13 (x12.toNat : Int)) (w64 (v10 + 1))) (Option.bind (appL 8 v5 ([v9] : List Int)) fun (x14 : List Int) => Option.bind (slL v3 x7 (v3.length : Int)) fun (x15 : Str) => c_1 x15 (w64 (v4 + 1)) x14)
noncomputable def M_pack_Take_l1 (x1 : ((List Int) × Int × Bool)) : Nat → Str → Int → List Int → Option ((List Int) × Str × Bool)
  | 0, _, _, _ => none
  | n1 + 1, v3, v4, v5 =>
  cond (decide (v4 < (x1.1.length : Int))) (Option.bind (getI x1.1 v4) fun (x7 : Int) => Option.bind (slL v3 0 x7) fun (x8 : Str) => M_pack_Take_l2 (M_pack_Take_l1 x1 n1) x1 v3 v4 v5 x7 x8 fuel 0 0) (some (v5, v3, true))
noncomputable def M_pack_Take (t0 : Str) (t1 : Str) : Option ((List Int) × Str × Bool) :=
  Option.bind (M_pack_sizes t0) fun (x1 : ((List Int) × Int × Bool)) => cond ((!x1.2.2) || (decide ((t1.length : Int) < x1.2.1))) (some ([], [], false)) (M_pack_Take_l1 x1 fuel t1 0 ([] : List Int))
theorem ok_pack_Take (t0 : Str) (t1 : Str) (r : ((List Int) × Str × Bool)) (h : M_pack_Take t0 t1 = some r) : FFn Try.prog 57 [(S t0), (S t1)] (Value.tuple #[(SL 1 cI r.1), (S r.2.1), (Bo r.2.2)]) := by
  refine FFn.of_body (n := 59) Try.func57 rfl Try.ntmps57 rfl rfl rfl rfl ?_
  show AWp _ _ _ ⟨59, 0, [(0, (S t0)), (1, (S t1))], [], ⟨0, []⟩⟩
  unfold M_pack_Take at h
  refine aws ?_
  refine awr ?_
  refine ado rfl rfl rfl (eas (eV (v := (Value.slice none 0 0)) rfl)) ?_
  refine ado rfl rfl rfl (eas (eV (v := (S [])) rfl)) ?_
  refine ado rfl rfl rfl (eas (eV (v := (Bo false)) rfl)) ?_
  refine ake [0, 1, 4] 0 0 (st' := ⟨59, 0, [(0, (S t0)), (1, (S t1)), (4, (Value.slice none 0 0))], [], ⟨0, []⟩⟩) (by kernel_rfl) (by kernel_rfl) ?_
  show AWp _ _ _ _
  refine aws ?_
  refine awr ?_
  refine ado rfl rfl rfl (emv (eV (v := (S t0)) rfl)) ?_
  obtain ⟨x1, hx1, h⟩ := bindS h
  refine ado rfl rfl rfl (ex_call0 (vs := [(S t0)]) (v := (Value.tuple #[(SL 1 cI x1.1), (I x1.2.1), (Bo x1.2.2)])) rfl en_71 (cargs (evs rfl evs_nil)) rfl (ok_pack_sizes t0 x1 hx1) rfl) ?_
  refine ado rfl rfl rfl (emv (eV (v := (Value.tuple #[(SL 1 cI x1.1), (I x1.2.1), (Bo x1.2.2)])) rfl)) ?_
  refine ado rfl rfl rfl (ex_extract (vx := (Value.tuple #[(SL 1 cI x1.1), (I x1.2.1), (Bo x1.2.2)])) (v := (SL 1 cI x1.1)) rfl rfl) ?_
  refine ado rfl rfl rfl (ex_extract (vx := (Value.tuple #[(SL 1 cI x1.1), (I x1.2.1), (Bo x1.2.2)])) (v := (I x1.2.1)) rfl rfl) ?_
  refine ado rfl rfl rfl (ex_extract (vx := (Value.tuple #[(SL 1 cI x1.1), (I x1.2.1), (Bo x1.2.2)])) (v := (Bo x1.2.2)) rfl rfl) ?_
  refine ado rfl rfl rfl (eas (eV (v := (SL 1 cI x1.1)) rfl)) ?_
  refine ado rfl rfl rfl (eas (eV (v := (I x1.2.1)) rfl)) ?_
  refine ado rfl rfl rfl (eas (eV (v := (Bo x1.2.2)) rfl)) ?_
  refine ake [1, 4, 6, 7, 8] 0 0 (st' := ⟨59, 0, [(1, (S t1)), (4, (Value.slice none 0 0)), (6, (Bo x1.2.2)), (7, (SL 1 cI x1.1)), (8, (I x1.2.1))], [], ⟨0, []⟩⟩) (by kernel_rfl) (by kernel_rfl) ?_
  show AWp _ _ _ _
  refine aws ?_
  refine aws ?_
  refine awr ?_
  refine ado rfl rfl rfl (emv (eV (v := (Bo x1.2.2)) rfl)) ?_
  refine ado rfl rfl rfl (ex_un (vx := (Bo x1.2.2)) rfl notB_ok) ?_
  refine ado rfl rfl rfl (emv (eV (v := (Bo (!x1.2.2))) rfl)) ?_
  refine agu (v := (S t1)) ((!x1.2.2) == false) rfl rfl rfl (fun hc => emv (eV (v := (S t1)) rfl)) ?_
  refine agu (v := (I (t1.length : Int))) ((!x1.2.2) == false) rfl rfl rfl (fun hc => tx_lenS Try.underlying9 (cdo hc)) ?_
  refine agu (v := (I x1.2.1)) ((!x1.2.2) == false) rfl rfl rfl (fun hc => emv (eV (v := (I x1.2.1)) rfl)) ?_
  refine agu (v := (Bo (decide ((t1.length : Int) < x1.2.1)))) ((!x1.2.2) == false) rfl rfl rfl (fun hc => ex_bin (vx := (I (t1.length : Int))) (vy := (I x1.2.1)) (cdo hc) (cdo hc) lssI_ok) ?_
  refine ado rfl rfl rfl (ex_pick rfl pkOr) ?_
  refine ake [1, 4, 7, 27] 0 0 (st' := ⟨59, 0, [(1, (S t1)), (4, (Value.slice none 0 0)), (7, (SL 1 cI x1.1)), (27, (Bo ((!x1.2.2) || (decide ((t1.length : Int) < x1.2.1)))))], [], ⟨0, []⟩⟩) (by kernel_rfl) (by kernel_rfl) ?_
  show AWp _ _ _ _
  rcases Bool.eq_false_or_eq_true ((!x1.2.2) || (decide ((t1.length : Int) < x1.2.1))) with hb2 | hb2
  · rw [condT hb2] at h
    refine awp_condT (boT hb2) ?_
    refine aws ?_
    refine awr ?_
    refine ado rfl rfl rfl (eas (eV (v := (Value.slice none 0 0)) rfl)) ?_
    refine ado rfl rfl rfl (eas (eV (v := (S [])) rfl)) ?_
    refine ado rfl rfl rfl (eas (eV (v := (Bo false)) rfl)) ?_
    refine ake [4, 5, 6] 0 0 (st' := ⟨59, 0, [(4, (Value.slice none 0 0)), (5, (S [])), (6, (Bo false))], [], ⟨0, []⟩⟩) (by kernel_rfl) (by kernel_rfl) ?_
    show AWp _ _ _ _
    refine awp_ret ?_
    cases h
    exact aresN rfl (L2.cons (rtmp rfl (eN rfl)) (L2.cons (rtmp rfl (eV rfl)) (L2.cons (rtmp rfl (eV rfl)) L2.nil))) rfl
  · rw [condF hb2] at h
    refine awp_condF (boF hb2) ?_
    refine awp_skip ?_
    show AWp _ _ _ _
    refine aws ?_
    refine aws ?_
    refine awr ?_
    refine ado rfl rfl rfl (emv (eV (v := (SL 1 cI x1.1)) rfl)) ?_
    refine ado rfl rfl rfl (tx_lenD (xs := x1.1) ceI Try.underlying59 rfl) ?_
    refine ado rfl rfl rfl (emv (eV (v := (I 0)) rfl)) ?_
    refine ake [1, 4, 28, 29, 30] 0 0 (st' := ⟨59, 0, [(1, (S t1)), (4, (Value.slice none 0 0)), (28, (SL 1 cI x1.1)), (29, (I (x1.1.length : Int))), (30, (I 0))], [], ⟨0, []⟩⟩) (by kernel_rfl) (by kernel_rfl) ?_
    show AWp _ _ _ _
    refine awp_block ?_
    refine awp_nilGro 4 1 rfl (by decide) ?_
    refine awp_keepE [1, 4, 28, 29, 30] 0 1 (st' := ⟨59, 0, [(1, (S t1)), (4, (GV 0 0)), (28, (SL 1 cI x1.1)), (29, (I (x1.1.length : Int))), (30, (I 0))], [], ⟨1, [(0, ⟨1, (([] : List Int).flatMap cI), true⟩)]⟩⟩) (by kernel_rfl) (by kernel_rfl) ?_
    refine awp_loop (fun n s => ∃ (v3 : Str) (v4 : Int) (v5 : List Int), s = ⟨59, 0, [(1, (S v3)), (4, (GV 0 v5.length)), (28, (SL 1 cI x1.1)), (29, (I (x1.1.length : Int))), (30, (I v4))], [], ⟨1, [(0, ⟨1, ((v5).flatMap cI), true⟩)]⟩⟩ ∧ M_pack_Take_l1 x1 n v3 v4 v5 = some r) fuel (Exists.intro t1 (Exists.intro 0 (Exists.intro ([] : List Int) (And.intro rfl h)))) ?_
    rintro n s ⟨v3, v4, v5, rfl, h⟩ -
    cases n with
    | zero => cases h
    | succ n1 =>
      unfold M_pack_Take_l1 at h
      refine aws ?_
      refine awr ?_
      refine ado rfl rfl rfl (ex_bin (vx := (I v4)) (vy := (I (x1.1.length : Int))) rfl rfl lssI_ok) ?_
      refine ake [1, 4, 28, 29, 30, 31] 0 1 (st' := ⟨59, 0, [(1, (S v3)), (4, (GV 0 v5.length)), (28, (SL 1 cI x1.1)), (29, (I (x1.1.length : Int))), (30, (I v4)), (31, (Bo (decide (v4 < (x1.1.length : Int)))))], [], ⟨1, [(0, ⟨1, ((v5).flatMap cI), true⟩)]⟩⟩) (by kernel_rfl) (by kernel_rfl) ?_
      show AWp _ _ _ _
      refine aws ?_
      rcases Bool.eq_false_or_eq_true (decide (v4 < (x1.1.length : Int))) with hb6 | hb6
      · rw [condT hb6] at h
        refine awp_condT (boT hb6) ?_
        refine awp_skip ?_
        show AWp _ _ _ _
        refine aws ?_
        refine awp_block ?_
        refine aws ?_
        refine awr ?_
        obtain ⟨x7, hx7, h⟩ := bindS h
        refine ado rfl rfl rfl (tx_idxD (c := cI) (xs := x1.1) (i := v4) ceI Try.underlying59 s_3 rfl rfl hx7) ?_
        refine ado rfl rfl rfl (tx_ldD1 (v := (I x7)) Try.underlying3 rfl rfl rfl) ?_
        refine ado rfl rfl rfl (eas (eV (v := (I x7)) rfl)) ?_
        refine ake [1, 4, 10, 28, 29, 30] 0 1 (st' := ⟨59, 0, [(1, (S v3)), (4, (GV 0 v5.length)), (10, (I x7)), (28, (SL 1 cI x1.1)), (29, (I (x1.1.length : Int))), (30, (I v4))], [], ⟨1, [(0, ⟨1, ((v5).flatMap cI), true⟩)]⟩⟩) (by kernel_rfl) (by kernel_rfl) ?_
        show AWp _ _ _ _
        refine aws ?_
        refine awr ?_
        refine ado rfl rfl rfl (eas (eV (v := (I 0)) rfl)) ?_
        refine ake [1, 4, 10, 11, 28, 29, 30] 0 1 (st' := ⟨59, 0, [(1, (S v3)), (4, (GV 0 v5.length)), (10, (I x7)), (11, (I 0)), (28, (SL 1 cI x1.1)), (29, (I (x1.1.length : Int))), (30, (I v4))], [], ⟨1, [(0, ⟨1, ((v5).flatMap cI), true⟩)]⟩⟩) (by kernel_rfl) (by kernel_rfl) ?_
        show AWp _ _ _ _
        refine aws ?_
        refine aws ?_
        refine awr ?_
        refine ado rfl rfl rfl (emv (eV (v := (S v3)) rfl)) ?_
        refine ado rfl rfl rfl (emv (eV (v := (I x7)) rfl)) ?_
        obtain ⟨x8, hx8, h⟩ := bindS h
        refine ado rfl rfl rfl (tx_slS (u := v3) Try.underlying9 rfl lo0 (hiX (l := x7) rfl) hx8) ?_
        refine ado rfl rfl rfl (tx_sbD Try.underlying9 Try.underlying72 Try.underlying5 rfl) ?_
        refine ado rfl rfl rfl (tx_lenD (xs := x8) ce8 Try.underlying72 rfl) ?_
        refine ado rfl rfl rfl (emv (eV (v := (I 0)) rfl)) ?_
        refine ake [1, 4, 10, 11, 28, 29, 30, 37, 38, 39] 0 1 (st' := ⟨59, 0, [(1, (S v3)), (4, (GV 0 v5.length)), (10, (I x7)), (11, (I 0)), (28, (SL 1 cI x1.1)), (29, (I (x1.1.length : Int))), (30, (I v4)), (37, (SL 1 c8 x8)), (38, (I (x8.length : Int))), (39, (I 0))], [], ⟨1, [(0, ⟨1, ((v5).flatMap cI), true⟩)]⟩⟩) (by kernel_rfl) (by kernel_rfl) ?_
        show AWp _ _ _ _
        refine awp_block ?_
        refine awp_loop (fun n s => ∃ (v9 : Int) (v10 : Int), s = ⟨59, 0, [(1, (S v3)), (4, (GV 0 v5.length)), (10, (I x7)), (11, (I v9)), (28, (SL 1 cI x1.1)), (29, (I (x1.1.length : Int))), (30, (I v4)), (37, (SL 1 c8 x8)), (38, (I (x8.length : Int))), (39, (I v10))], [], ⟨1, [(0, ⟨1, ((v5).flatMap cI), true⟩)]⟩⟩ ∧ M_pack_Take_l2 (M_pack_Take_l1 x1 n1) x1 v3 v4 v5 x7 x8 n v9 v10 = some r) fuel (Exists.intro 0 (Exists.intro 0 (And.intro rfl h))) ?_
        rintro n s ⟨v9, v10, rfl, h⟩ -
        cases n with
        | zero => cases h
        | succ n2 =>
          unfold M_pack_Take_l2 at h
          refine aws ?_
          refine awr ?_
          refine ado rfl rfl rfl (ex_bin (vx := (I v10)) (vy := (I (x8.length : Int))) rfl rfl lssI_ok) ?_
          refine ake [1, 4, 10, 11, 28, 29, 30, 37, 38, 39, 40] 0 1 (st' := ⟨59, 0, [(1, (S v3)), (4, (GV 0 v5.length)), (10, (I x7)), (11, (I v9)), (28, (SL 1 cI x1.1)), (29, (I (x1.1.length : Int))), (30, (I v4)), (37, (SL 1 c8 x8)), (38, (I (x8.length : Int))), (39, (I v10)), (40, (Bo (decide (v10 < (x8.length : Int)))))], [], ⟨1, [(0, ⟨1, ((v5).flatMap cI), true⟩)]⟩⟩) (by kernel_rfl) (by kernel_rfl) ?_
          show AWp _ _ _ _
          refine aws ?_
          rcases Bool.eq_false_or_eq_true (decide (v10 < (x8.length : Int))) with hb11 | hb11
          · rw [condT hb11] at h
            refine awp_condT (boT hb11) ?_
            refine awp_skip ?_
            show AWp _ _ _ _
            refine aws ?_
            refine awp_block ?_
            refine aws ?_
            refine awr ?_
            obtain ⟨x12, hx12, h⟩ := bindS h
            refine ado rfl rfl rfl (tx_idxD (c := c8) (xs := x8) (i := v10) ce8 Try.underlying72 s_5 rfl rfl hx12) ?_
            refine ado rfl rfl rfl (tx_ldD1 (v := (U8 x12)) Try.underlying5 rfl rfl rfl) ?_
            refine ado rfl rfl rfl (eas (eV (v := (U8 x12)) rfl)) ?_
            refine ake [1, 4, 10, 11, 13, 28, 29, 30, 37, 38, 39] 0 1 (st' := ⟨59, 0, [(1, (S v3)), (4, (GV 0 v5.length)), (10, (I x7)), (11, (I v9)), (13, (U8 x12)), (28, (SL 1 cI x1.1)), (29, (I (x1.1.length : Int))), (30, (I v4)), (37, (SL 1 c8 x8)), (38, (I (x8.length : Int))), (39, (I v10))], [], ⟨1, [(0, ⟨1, ((v5).flatMap cI), true⟩)]⟩⟩) (by kernel_rfl) (by kernel_rfl) ?_
            show AWp _ _ _ _
            refine awr ?_
            refine ado rfl rfl rfl (emv (eV (v := (I v9)) rfl)) ?_
            obtain ⟨x13, hx13, h⟩ := bindS h
            refine ado rfl rfl rfl (ex_bin (vx := (I v9)) (vy := (U64 8)) rfl rfl (shlI_ok hx13)) ?_
            refine ado rfl rfl rfl (emv (eV (v := (U8 x12)) rfl)) ?_
            refine ado rfl rfl rfl (tx_8_64 Try.underlying5 Try.underlying3 rfl) ?_
            refine ado rfl rfl rfl (ex_bin (vx := (I x13)) (vy := (I (x12.toNat : Int))) rfl rfl orI_ok) ?_
            refine ado rfl rfl rfl (eas (eV (v := (I (orI x13 (x12.toNat : Int)))) rfl)) ?_
            refine ake [1, 4, 10, 11, 28, 29, 30, 37, 38, 39] 0 1 (st' := ⟨59, 0, [(1, (S v3)), (4, (GV 0 v5.length)), (10, (I x7)), (11, (I (orI x13 (x12.toNat : Int)))), (28, (SL 1 cI x1.1)), (29, (I (x1.1.length : Int))), (30, (I v4)), (37, (SL 1 c8 x8)), (38, (I (x8.length : Int))), (39, (I v10))], [], ⟨1, [(0, ⟨1, ((v5).flatMap cI), true⟩)]⟩⟩) (by kernel_rfl) (by kernel_rfl) ?_
            show AWp _ _ _ _
            refine awr ?_
            refine ado rfl rfl rfl (ex_bin (vx := (I v10)) (vy := (I 1)) rfl rfl addI_ok) ?_
            refine ado rfl rfl rfl (emv (eV (v := (I (w64 (v10 + 1)))) rfl)) ?_
            refine ake [1, 4, 10, 11, 28, 29, 30, 37, 38, 39] 0 1 (st' := ⟨59, 0, [(1, (S v3)), (4, (GV 0 v5.length)), (10, (I x7)), (11, (I (orI x13 (x12.toNat : Int)))), (28, (SL 1 cI x1.1)), (29, (I (x1.1.length : Int))), (30, (I v4)), (37, (SL 1 c8 x8)), (38, (I (x8.length : Int))), (39, (I (w64 (v10 + 1))))], [], ⟨1, [(0, ⟨1, ((v5).flatMap cI), true⟩)]⟩⟩) (by kernel_rfl) (by kernel_rfl) ?_
            exact Exists.intro n2 (And.intro (Nat.lt_succ_self _) (Exists.intro (orI x13 (x12.toNat : Int)) (Exists.intro (w64 (v10 + 1)) (And.intro rfl h))))
          · rw [condF hb11] at h
            refine awp_condF (boF hb11) ?_
            refine awp_exit ?_
            show AWp _ _ _ _
            obtain ⟨x14, hx14, h⟩ := bindS h
            obtain ⟨x15, hx15, h⟩ := bindS h
            refine awp_kn [1, 4, 28, 29, 30] 0 1 (st' := ⟨59, 0, [(1, (S x15)), (4, (GV 0 x14.length)), (28, (SL 1 cI x1.1)), (29, (I (x1.1.length : Int))), (30, (I v4))], [], ⟨1, [(0, ⟨1, ((x14).flatMap cI), true⟩)]⟩⟩) (awp_draw (T := [(GV 0 v5.length), (I v9), (SL 1 cI ([v9] : List Int)), (GV 0 x14.length), (S v3), (I x7), (S x15), (GV 0 x14.length), (S x15)]) (LH := [([], ⟨1, [(0, ⟨1, ((v5).flatMap cI), true⟩)]⟩), ([], ⟨1, [(0, ⟨1, ((x14).flatMap cI), true⟩)]⟩)]) (D := [⟨[(4, none)], [], [0], false⟩, ⟨[(11, none)], [], [0], false⟩, ⟨[(50, some 1)], [1], [0], false⟩, ⟨[(49, some 0), (51, some 2)], [0, 1, 2], [0], true⟩, ⟨[(1, none)], [], [0, 1], false⟩, ⟨[(10, none)], [], [0, 1], false⟩, ⟨[(53, some 4), (54, some 5)], [4, 5], [0, 1], false⟩, ⟨[(52, some 3)], [0, 1, 2, 3], [1], false⟩, ⟨[(55, some 6)], [0, 1, 2, 3, 4, 5, 6, 7], [1], false⟩]) (S := [3]) (plan := [0, 1, 2, 3, 4, 5, 6, 7, 8]) mo (by kernel_rfl) rfl rfl rfl (dcons (dst1 (Tm := [(4, (GV 0 v5.length))]) (L := []) (H := ⟨1, [(0, ⟨1, ((v5).flatMap cI), true⟩)]⟩) rfl rfl rfl rfl rfl (asd rfl (emv (eV (v := (GV 0 v5.length)) rfl)))) (dcons (dst1 (Tm := [(11, (I v9))]) (L := []) (H := ⟨1, [(0, ⟨1, ((v5).flatMap cI), true⟩)]⟩) rfl rfl rfl rfl rfl (asd rfl (emv (eV (v := (I v9)) rfl)))) (dcons (dst1 (Tm := [(50, (I v9))]) (L := []) (H := ⟨1, [(0, ⟨1, ((v5).flatMap cI), true⟩)]⟩) rfl rfl rfl rfl rfl (asd rfl (ex_buildSliceD (qs := [(0, (I v9))]) (cells := (([v9] : List Int).flatMap cI)) Try.underlying59 s_3 (by decide) (evp rfl evp_nil) rfl (by kernel_rfl) (by kernel_rfl) (by kernel_rfl)))) (dcons (dst1 (Tm := [(49, (GV 0 v5.length)), (51, (SL 1 cI ([v9] : List Int)))]) (L := []) (H := ⟨1, [(0, ⟨1, ((v5).flatMap cI), true⟩)]⟩) rfl rfl rfl rfl rfl (asd rfl (tx_appG (c := cI) (xs := v5) (H' := ⟨1, [(0, ⟨1, ((x14).flatMap cI), true⟩)]⟩) ceI e_3 rfl rfl rfl (tsrcD (ys := ([v9] : List Int)) ceI Try.underlying59 s_3 Try.underlying59 rfl) hx14 rfl))) (dcons (dstepN (by intro k hk; simp only [List.mem_cons, List.not_mem_nil, or_false] at hk; rcases hk with rfl | rfl <;> exact ⟨[(1, (S v3))], _, _, _, _, _, rfl, rfl, rfl, rfl, asd rfl (emv (eV (v := (S v3)) rfl))⟩)) (dcons (dstepN (by intro k hk; simp only [List.mem_cons, List.not_mem_nil, or_false] at hk; rcases hk with rfl | rfl <;> exact ⟨[(10, (I x7))], _, _, _, _, _, rfl, rfl, rfl, rfl, asd rfl (emv (eV (v := (I x7)) rfl))⟩)) (dcons (dstepN (by intro k hk; simp only [List.mem_cons, List.not_mem_nil, or_false] at hk; rcases hk with rfl | rfl <;> exact ⟨[(53, (S v3)), (54, (I x7))], _, _, _, _, _, rfl, rfl, rfl, rfl, asd rfl (tx_slS (u := v3) Try.underlying9 rfl (loX (l := x7) rfl) hiN hx15)⟩)) (dcons (dst1 (Tm := [(52, (GV 0 x14.length))]) (L := []) (H := ⟨1, [(0, ⟨1, ((x14).flatMap cI), true⟩)]⟩) rfl rfl rfl rfl rfl (asd rfl (eas (eV (v := (GV 0 x14.length)) rfl)))) (dcons (dst1 (Tm := [(55, (S x15))]) (L := []) (H := ⟨1, [(0, ⟨1, ((x14).flatMap cI), true⟩)]⟩) rfl rfl rfl rfl rfl (asd rfl (eas (eV (v := (S x15)) rfl)))) dnil))))))))) ⟨rfl, rfl⟩) (by kernel_rfl) (by kernel_rfl) ?_
            show AWp _ _ _ _
            refine awr ?_
            refine ado rfl rfl rfl (ex_bin (vx := (I v4)) (vy := (I 1)) rfl rfl addI_ok) ?_
            refine ado rfl rfl rfl (emv (eV (v := (I (w64 (v4 + 1)))) rfl)) ?_
            refine ake [1, 4, 28, 29, 30] 0 1 (st' := ⟨59, 0, [(1, (S x15)), (4, (GV 0 x14.length)), (28, (SL 1 cI x1.1)), (29, (I (x1.1.length : Int))), (30, (I (w64 (v4 + 1))))], [], ⟨1, [(0, ⟨1, ((x14).flatMap cI), true⟩)]⟩⟩) (by kernel_rfl) (by kernel_rfl) ?_
            exact Exists.intro n1 (And.intro (Nat.lt_succ_self _) (Exists.intro x15 (Exists.intro (w64 (v4 + 1)) (Exists.intro x14 (And.intro rfl h)))))
      · rw [condF hb6] at h
        refine awp_condF (boF hb6) ?_
        refine awp_exit ?_
        show AWp _ _ _ _
        refine aws ?_
        refine awr ?_
        refine ado rfl rfl rfl (emv (eV (v := (GV 0 v5.length)) rfl)) ?_
        refine ado rfl rfl rfl (emv (eV (v := (S v3)) rfl)) ?_
        refine ado rfl rfl rfl (eas (eV (v := (GV 0 v5.length)) rfl)) ?_
        refine ado rfl rfl rfl (eas (eV (v := (S v3)) rfl)) ?_
        refine ado rfl rfl rfl (eas (eV (v := (Bo true)) rfl)) ?_
        refine ake [4, 5, 6] 0 1 (st' := ⟨59, 0, [(4, (GV 0 v5.length)), (5, (S v3)), (6, (Bo true))], [], ⟨1, [(0, ⟨1, ((v5).flatMap cI), true⟩)]⟩⟩) (by kernel_rfl) (by kernel_rfl) ?_
        show AWp _ _ _ _
        refine awp_freeze 0 (bk := ⟨1, ((v5).flatMap cI), true⟩) (T' := [(4, (SL 1 cI v5)), (5, (S v3)), (6, (Bo true))]) (L' := []) rfl (fzG ceI rfl rfl (FzT.keep (v := (S v3)) rfl (FzT.keep (v := (Bo true)) rfl FzT.nil))) (FzL.refl _) ?_
        show AWp _ _ _ ⟨59, 0, [(4, (SL 1 cI v5)), (5, (S v3)), (6, (Bo true))], [], ⟨1, []⟩⟩
        refine awp_ret ?_
        cases h
        exact aresN rfl (L2.cons (rtmp rfl (eV rfl)) (L2.cons (rtmp rfl (eV rfl)) (L2.cons (rtmp rfl (eV rfl)) L2.nil))) rfl

end Go.Proofs
