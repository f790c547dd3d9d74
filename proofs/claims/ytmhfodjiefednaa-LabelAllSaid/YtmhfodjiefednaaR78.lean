/- Pure models of functions of the program, and that its code does what they say: ptr of, ptr Take, uber Take. Written by a program. -/
import Derived.Test.YtmhfodjiefednaaR70
import Derived.Test.YtmhfodjiefednaaR73
import Derived.Test.YtmhfodjiefednaaR74
import Derived.Test.YtmhfodjiefednaaR7B
set_option maxRecDepth 20000
set_option maxHeartbeats 4000000
namespace Go.Proofs
open Go Go.Fhl
set_option linter.unusedVariables false
set_option linter.unusedSimpArgs false
noncomputable def M_ptr_of_l1 (t0 : (List Int)) : Nat → Int → G_ptr_pointer → Option G_ptr_pointer
  | 0, _, _ => none
  | n1 + 1, v3, v4 =>
  cond (decide (v3 < 4)) (Option.bind (getI t0 (w64 (2 + v3))) fun (x6 : Int) => Option.bind (inA 4 v3) fun (x7 : Unit) => Option.bind (A4.set v4.Ptr.Sum v3 (UInt32.ofInt x6)) fun (x8 : A4 UInt32) => (M_ptr_of_l1 t0 n1) (w64 (v3 + 1)) (G_ptr_pointer.mk (GPt.mk v4.Ptr.Addr v4.Ptr.Birth x8))) (some v4)
noncomputable def M_ptr_of (t0 : (List Int)) : Option G_ptr_pointer :=
  Option.bind (getI t0 0) fun (x1 : Int) => Option.bind (getI t0 1) fun (x2 : Int) => M_ptr_of_l1 t0 fuel 0 (G_ptr_pointer.mk (GPt.mk x1 x2 (A4.mk 0 0 0 0)))
theorem ok_ptr_of (t0 : (List Int)) (r : G_ptr_pointer) (h : M_ptr_of t0 = some r) : FFn Try.prog 72 [(SL 1 cI t0)] (Value.agg (c_ptr_pointer r).toArray) := by
  refine FFn.of_body (n := 28) Try.func72 rfl Try.ntmps72 rfl rfl rfl rfl ?_
  show AWp _ _ _ ⟨28, 0, [(0, (SL 1 cI t0))], [], ⟨0, []⟩⟩
  unfold M_ptr_of at h
  refine aws ?_
  refine awr ?_
  refine ado rfl rfl rfl (ex_alloc (k := 0) (zs := (c_ptr_pointer (G_ptr_pointer.mk (GPt.mk 0 0 (A4.mk 0 0 0 0))))) (L' := [(c_ptr_pointer (G_ptr_pointer.mk (GPt.mk 0 0 (A4.mk 0 0 0 0))))]) z_105 rfl rfl rfl rfl) ?_
  refine ake [0, 2] 1 0 (st' := ⟨28, 0, [(0, (SL 1 cI t0)), (2, (LP 0 0))], [(c_ptr_pointer (G_ptr_pointer.mk (GPt.mk 0 0 (A4.mk 0 0 0 0))))], ⟨0, []⟩⟩) (by kernel_rfl) (by kernel_rfl) ?_
  show AWp _ _ _ _
  refine aws ?_
  obtain ⟨x1, hx1, h⟩ := bindS h
  obtain ⟨x2, hx2, h⟩ := bindS h
  refine awp_kn [0, 2, 3] 2 0 (st' := ⟨28, 0, [(0, (SL 1 cI t0)), (2, (LP 0 0)), (3, (LP 1 0))], [(c_ptr_pointer (G_ptr_pointer.mk (GPt.mk 0 0 (A4.mk 0 0 0 0)))), (c_ptr_pointer (G_ptr_pointer.mk (GPt.mk x1 x2 (A4.mk 0 0 0 0))))], ⟨0, []⟩⟩) (awp_draw (T := [(SL 1 cI t0), (DP (cI x1)), (I x1), (SL 1 cI t0), (DP (cI x2)), (I x2), (Value.agg (cPt (GPt.mk x1 x2 (A4.mk 0 0 0 0))).toArray), (Value.agg (c_ptr_pointer (G_ptr_pointer.mk (GPt.mk x1 x2 (A4.mk 0 0 0 0)))).toArray), (LP 1 0), undef]) (LH := [([(c_ptr_pointer (G_ptr_pointer.mk (GPt.mk 0 0 (A4.mk 0 0 0 0))))], ⟨0, []⟩), ([(c_ptr_pointer (G_ptr_pointer.mk (GPt.mk 0 0 (A4.mk 0 0 0 0)))), (c_ptr_pointer (G_ptr_pointer.mk (GPt.mk 0 0 (A4.mk 0 0 0 0))))], ⟨0, []⟩), ([(c_ptr_pointer (G_ptr_pointer.mk (GPt.mk 0 0 (A4.mk 0 0 0 0)))), (c_ptr_pointer (G_ptr_pointer.mk (GPt.mk x1 x2 (A4.mk 0 0 0 0))))], ⟨0, []⟩)]) (D := [⟨[(0, none)], [], [0, 1], false⟩, ⟨[(5, some 0)], [0], [0, 1], false⟩, ⟨[(6, some 1)], [0, 1], [0, 1], false⟩, ⟨[(0, none)], [], [0, 1], false⟩, ⟨[(8, some 3)], [3], [0, 1], false⟩, ⟨[(9, some 4)], [3, 4], [0, 1], false⟩, ⟨[(7, some 2), (10, some 5)], [0, 1, 2, 3, 4, 5], [0, 1], false⟩, ⟨[(11, some 6)], [0, 1, 2, 3, 4, 5, 6], [0, 1], false⟩, ⟨[], [], [0], true⟩, ⟨[(3, some 8), (12, some 7)], [0, 1, 2, 3, 4, 5, 6, 7, 8], [1], true⟩]) (S := [8, 9]) (plan := [0, 1, 2, 3, 4, 5, 6, 7, 8, 9]) mo (by kernel_rfl) rfl rfl rfl (dcons (dstepN (by intro k hk; simp only [List.mem_cons, List.not_mem_nil, or_false] at hk; rcases hk with rfl | rfl <;> exact ⟨[(0, (SL 1 cI t0))], _, _, _, _, _, rfl, rfl, rfl, rfl, asd rfl (emv (eV (v := (SL 1 cI t0)) rfl))⟩)) (dcons (dstepN (by intro k hk; simp only [List.mem_cons, List.not_mem_nil, or_false] at hk; rcases hk with rfl | rfl <;> exact ⟨[(5, (SL 1 cI t0))], _, _, _, _, _, rfl, rfl, rfl, rfl, asd rfl (tx_idxD (c := cI) (xs := t0) (i := 0) ceI Try.underlying59 s_3 rfl rfl hx1)⟩)) (dcons (dstepN (by intro k hk; simp only [List.mem_cons, List.not_mem_nil, or_false] at hk; rcases hk with rfl | rfl <;> exact ⟨[(6, (DP (cI x1)))], _, _, _, _, _, rfl, rfl, rfl, rfl, asd rfl (tx_ldD1 (v := (I x1)) Try.underlying3 rfl rfl rfl)⟩)) (dcons (dstepN (by intro k hk; simp only [List.mem_cons, List.not_mem_nil, or_false] at hk; rcases hk with rfl | rfl <;> exact ⟨[(0, (SL 1 cI t0))], _, _, _, _, _, rfl, rfl, rfl, rfl, asd rfl (emv (eV (v := (SL 1 cI t0)) rfl))⟩)) (dcons (dstepN (by intro k hk; simp only [List.mem_cons, List.not_mem_nil, or_false] at hk; rcases hk with rfl | rfl <;> exact ⟨[(8, (SL 1 cI t0))], _, _, _, _, _, rfl, rfl, rfl, rfl, asd rfl (tx_idxD (c := cI) (xs := t0) (i := 1) ceI Try.underlying59 s_3 rfl rfl hx2)⟩)) (dcons (dstepN (by intro k hk; simp only [List.mem_cons, List.not_mem_nil, or_false] at hk; rcases hk with rfl | rfl <;> exact ⟨[(9, (DP (cI x2)))], _, _, _, _, _, rfl, rfl, rfl, rfl, asd rfl (tx_ldD1 (v := (I x2)) Try.underlying3 rfl rfl rfl)⟩)) (dcons (dstepN (by intro k hk; simp only [List.mem_cons, List.not_mem_nil, or_false] at hk; rcases hk with rfl | rfl <;> exact ⟨[(7, (I x1)), (10, (I x2))], _, _, _, _, _, rfl, rfl, rfl, rfl, asd rfl (ex_build (qs := [(0, (I x1)), (1, (I x2))]) (v := (Value.agg (cPt (GPt.mk x1 x2 (A4.mk 0 0 0 0))).toArray)) (evp rfl (evp rfl evp_nil)) (by kernel_rfl))⟩)) (dcons (dstepN (by intro k hk; simp only [List.mem_cons, List.not_mem_nil, or_false] at hk; rcases hk with rfl | rfl <;> exact ⟨[(11, (Value.agg (cPt (GPt.mk x1 x2 (A4.mk 0 0 0 0))).toArray))], _, _, _, _, _, rfl, rfl, rfl, rfl, asd rfl (ex_build (qs := [(0, (Value.agg (cPt (GPt.mk x1 x2 (A4.mk 0 0 0 0))).toArray))]) (v := (Value.agg (c_ptr_pointer (G_ptr_pointer.mk (GPt.mk x1 x2 (A4.mk 0 0 0 0)))).toArray)) (evp rfl evp_nil) (by kernel_rfl))⟩)) (dcons (dst1 (Tm := []) (L := [(c_ptr_pointer (G_ptr_pointer.mk (GPt.mk 0 0 (A4.mk 0 0 0 0))))]) (H := ⟨0, []⟩) rfl rfl rfl rfl rfl (asd rfl (ex_alloc (k := 1) (zs := (c_ptr_pointer (G_ptr_pointer.mk (GPt.mk 0 0 (A4.mk 0 0 0 0))))) (L' := [(c_ptr_pointer (G_ptr_pointer.mk (GPt.mk 0 0 (A4.mk 0 0 0 0)))), (c_ptr_pointer (G_ptr_pointer.mk (GPt.mk 0 0 (A4.mk 0 0 0 0))))]) z_105 rfl rfl rfl rfl))) (dcons (dst1 (Tm := [(3, (LP 1 0)), (12, (Value.agg (c_ptr_pointer (G_ptr_pointer.mk (GPt.mk x1 x2 (A4.mk 0 0 0 0)))).toArray))]) (L := [(c_ptr_pointer (G_ptr_pointer.mk (GPt.mk 0 0 (A4.mk 0 0 0 0)))), (c_ptr_pointer (G_ptr_pointer.mk (GPt.mk 0 0 (A4.mk 0 0 0 0))))]) (H := ⟨0, []⟩) rfl rfl rfl rfl rfl (asd rfl (ex_storeL (vy := (Value.agg (c_ptr_pointer (G_ptr_pointer.mk (GPt.mk x1 x2 (A4.mk 0 0 0 0)))).toArray)) (cs := (c_ptr_pointer (G_ptr_pointer.mk (GPt.mk 0 0 (A4.mk 0 0 0 0))))) (vs := (c_ptr_pointer (G_ptr_pointer.mk (GPt.mk x1 x2 (A4.mk 0 0 0 0))))) (L' := [(c_ptr_pointer (G_ptr_pointer.mk (GPt.mk 0 0 (A4.mk 0 0 0 0)))), (c_ptr_pointer (G_ptr_pointer.mk (GPt.mk x1 x2 (A4.mk 0 0 0 0))))]) rfl (eV (v := (Value.agg (c_ptr_pointer (G_ptr_pointer.mk (GPt.mk x1 x2 (A4.mk 0 0 0 0)))).toArray)) rfl) rfl s_105 rfl (Nat.le_of_ble_eq_true rfl) (by kernel_rfl)))) dnil)))))))))) ⟨rfl, rfl⟩) (by kernel_rfl) (by kernel_rfl) ?_
  show AWp _ _ _ _
  refine aws ?_
  refine aws ?_
  refine awr ?_
  refine ado rfl rfl rfl (emv (eV (v := (I 0)) rfl)) ?_
  refine ake [0, 2, 3, 13] 2 0 (st' := ⟨28, 0, [(0, (SL 1 cI t0)), (2, (LP 0 0)), (3, (LP 1 0)), (13, (I 0))], [(c_ptr_pointer (G_ptr_pointer.mk (GPt.mk 0 0 (A4.mk 0 0 0 0)))), (c_ptr_pointer (G_ptr_pointer.mk (GPt.mk x1 x2 (A4.mk 0 0 0 0))))], ⟨0, []⟩⟩) (by kernel_rfl) (by kernel_rfl) ?_
  show AWp _ _ _ _
  refine awp_block ?_
  refine awp_loop (fun n s => ∃ (v3 : Int) (v4 : G_ptr_pointer), s = ⟨28, 0, [(0, (SL 1 cI t0)), (2, (LP 0 0)), (3, (LP 1 0)), (13, (I v3))], [(c_ptr_pointer (G_ptr_pointer.mk (GPt.mk 0 0 (A4.mk 0 0 0 0)))), (c_ptr_pointer v4)], ⟨0, []⟩⟩ ∧ M_ptr_of_l1 t0 n v3 v4 = some r) fuel (Exists.intro 0 (Exists.intro (G_ptr_pointer.mk (GPt.mk x1 x2 (A4.mk 0 0 0 0))) (And.intro rfl h))) ?_
  rintro n s ⟨v3, v4, rfl, h⟩ -
  cases n with
  | zero => cases h
  | succ n1 =>
    unfold M_ptr_of_l1 at h
    refine aws ?_
    refine awr ?_
    refine ado rfl rfl rfl (ex_bin (vx := (I v3)) (vy := (I 4)) rfl rfl lssI_ok) ?_
    refine ake [0, 2, 3, 13, 14] 2 0 (st' := ⟨28, 0, [(0, (SL 1 cI t0)), (2, (LP 0 0)), (3, (LP 1 0)), (13, (I v3)), (14, (Bo (decide (v3 < 4))))], [(c_ptr_pointer (G_ptr_pointer.mk (GPt.mk 0 0 (A4.mk 0 0 0 0)))), (c_ptr_pointer v4)], ⟨0, []⟩⟩) (by kernel_rfl) (by kernel_rfl) ?_
    show AWp _ _ _ _
    refine aws ?_
    rcases Bool.eq_false_or_eq_true (decide (v3 < 4)) with hb5 | hb5
    · rw [condT hb5] at h
      refine awp_condT (boT hb5) ?_
      refine awp_skip ?_
      show AWp _ _ _ _
      refine aws ?_
      refine awp_block ?_
      refine aws ?_
      refine awr ?_
      refine ado rfl rfl rfl (emv (eV (v := (I v3)) rfl)) ?_
      refine ado rfl rfl rfl (eas (eV (v := (I v3)) rfl)) ?_
      refine ake [0, 2, 3, 4, 13] 2 0 (st' := ⟨28, 0, [(0, (SL 1 cI t0)), (2, (LP 0 0)), (3, (LP 1 0)), (4, (I v3)), (13, (I v3))], [(c_ptr_pointer (G_ptr_pointer.mk (GPt.mk 0 0 (A4.mk 0 0 0 0)))), (c_ptr_pointer v4)], ⟨0, []⟩⟩) (by kernel_rfl) (by kernel_rfl) ?_
      show AWp _ _ _ _
      refine awr ?_
      refine ado rfl rfl rfl (emv (eV (v := (I v3)) rfl)) ?_
      refine ado rfl rfl rfl (emv (eV (v := (SL 1 cI t0)) rfl)) ?_
      refine ado rfl rfl rfl (emv (eV (v := (I v3)) rfl)) ?_
      refine ado rfl rfl rfl (ex_bin (vx := (I 2)) (vy := (I v3)) rfl rfl addI_ok) ?_
      obtain ⟨x6, hx6, h⟩ := bindS h
      refine ado rfl rfl rfl (tx_idxD (c := cI) (xs := t0) (i := (w64 (2 + v3))) ceI Try.underlying59 s_3 rfl rfl hx6) ?_
      refine ado rfl rfl rfl (tx_ldD1 (v := (I x6)) Try.underlying3 rfl rfl rfl) ?_
      refine ado rfl rfl rfl (tx_64_32 Try.underlying3 Try.underlying31 rfl) ?_
      refine ado rfl rfl rfl (efa (v := (LP 1 0)) Try.underlying105 rfl s_35 (by decide) rfl rfl) ?_
      refine ado rfl rfl rfl (efa (v := (LP 1 2)) Try.underlying35 rfl s_33 (by decide) rfl rfl) ?_
      obtain ⟨x7, hx7, h⟩ := bindS h
      refine ado rfl rfl rfl (ex_indexAddrA (i := v3) (v := (LP 1 (2 + v3.toNat * 1))) Try.underlying33 s_31 rfl rfl (inA_ok hx7) rfl) ?_
      obtain ⟨x8, hx8, h⟩ := bindS h
      refine arun_do0 rfl rfl (ex_storeL (vy := (U32 (UInt32.ofInt x6))) (cs := (c_ptr_pointer v4)) (vs := [(U32 (UInt32.ofInt x6))]) (L' := [(c_ptr_pointer (G_ptr_pointer.mk (GPt.mk 0 0 (A4.mk 0 0 0 0)))), (c_ptr_pointer (G_ptr_pointer.mk (GPt.mk v4.Ptr.Addr v4.Ptr.Birth x8)))]) rfl (eV (v := (U32 (UInt32.ofInt x6))) rfl) rfl s_31 rfl (by obtain ⟨hi, hz⟩ | ⟨hi, hz⟩ | ⟨hi, hz⟩ | ⟨hi, hz⟩ := A4.set_some hx8 <;> (simp only [hi]; exact Nat.le_of_ble_eq_true rfl)) (by obtain ⟨hi, hz⟩ | ⟨hi, hz⟩ | ⟨hi, hz⟩ | ⟨hi, hz⟩ := A4.set_some hx8 <;> (subst hz; simp only [hi]; rfl))) ?_
      refine ake [0, 2, 3, 13] 2 0 (st' := ⟨28, 0, [(0, (SL 1 cI t0)), (2, (LP 0 0)), (3, (LP 1 0)), (13, (I v3))], [(c_ptr_pointer (G_ptr_pointer.mk (GPt.mk 0 0 (A4.mk 0 0 0 0)))), (c_ptr_pointer (G_ptr_pointer.mk (GPt.mk v4.Ptr.Addr v4.Ptr.Birth x8)))], ⟨0, []⟩⟩) (by kernel_rfl) (by kernel_rfl) ?_
      show AWp _ _ _ _
      refine awr ?_
      refine ado rfl rfl rfl (ex_bin (vx := (I v3)) (vy := (I 1)) rfl rfl addI_ok) ?_
      refine ado rfl rfl rfl (emv (eV (v := (I (w64 (v3 + 1)))) rfl)) ?_
      refine ake [0, 2, 3, 13] 2 0 (st' := ⟨28, 0, [(0, (SL 1 cI t0)), (2, (LP 0 0)), (3, (LP 1 0)), (13, (I (w64 (v3 + 1))))], [(c_ptr_pointer (G_ptr_pointer.mk (GPt.mk 0 0 (A4.mk 0 0 0 0)))), (c_ptr_pointer (G_ptr_pointer.mk (GPt.mk v4.Ptr.Addr v4.Ptr.Birth x8)))], ⟨0, []⟩⟩) (by kernel_rfl) (by kernel_rfl) ?_
      exact Exists.intro n1 (And.intro (Nat.lt_succ_self _) (Exists.intro (w64 (v3 + 1)) (Exists.intro (G_ptr_pointer.mk (GPt.mk v4.Ptr.Addr v4.Ptr.Birth x8)) (And.intro rfl h))))
    · rw [condF hb5] at h
      refine awp_condF (boF hb5) ?_
      refine awp_exit ?_
      show AWp _ _ _ _
      refine aws ?_
      refine awr ?_
      refine ado rfl rfl rfl (tx_ldLA (vs := (c_ptr_pointer v4)) Try.underlying105 rfl s_105 (by decide) rfl rfl rfl rfl) ?_
      refine arun_do0 rfl rfl (ex_storeL (vy := (Value.agg (c_ptr_pointer v4).toArray)) (cs := (c_ptr_pointer (G_ptr_pointer.mk (GPt.mk 0 0 (A4.mk 0 0 0 0))))) (vs := (c_ptr_pointer v4)) (L' := [(c_ptr_pointer v4), (c_ptr_pointer v4)]) rfl (eV (v := (Value.agg (c_ptr_pointer v4).toArray)) rfl) rfl s_105 rfl (Nat.le_of_ble_eq_true rfl) (by kernel_rfl)) ?_
      refine ake [2] 1 0 (st' := ⟨28, 0, [(2, (LP 0 0))], [(c_ptr_pointer v4)], ⟨0, []⟩⟩) (by kernel_rfl) (by kernel_rfl) ?_
      show AWp _ _ _ _
      refine awp_ret ?_
      cases h
      exact ares1 (rcellL rfl rfl rfl (partA Try.underlying105 rfl s_105 (by decide) (Nat.le_of_ble_eq_true rfl) rfl))

noncomputable def M_ptr_Take_l1 (t1 : Int) : Nat → Str → Int → List GPt → Option ((List GPt) × Str × Bool)
  | 0, _, _, _ => none
  | n1 + 1, v1, v2, v3 =>
  cond (decide (v2 < (max t1 0))) (Option.bind (M_pack_Take ([50, 52, 52, 52, 52, 52] : Str) v1) fun (x5 : ((List Int) × Str × Bool)) => Option.bind (gd ((!x5.2.2) == false) (M_ptr_of x5.1)) fun (x6 : G_ptr_pointer) => Option.bind (gd ((!x5.2.2) == false) (M_ptr_May x6.Ptr)) fun (x7 : Bool) => cond ((!x5.2.2) || (!x7)) (some ([], [], false)) (Option.bind (M_ptr_of x5.1) fun (x9 : G_ptr_pointer) => Option.bind (appL 32 v3 ([x9.Ptr] : List GPt)) fun (x10 : List GPt) => (M_ptr_Take_l1 t1 n1) x5.2.1 (w64 (v2 + 1)) x10)) (some (v3, v1, true))
noncomputable def M_ptr_Take (t0 : Str) (t1 : Int) : Option ((List GPt) × Str × Bool) :=
  M_ptr_Take_l1 t1 fuel t0 0 ([] : List GPt)
theorem ok_ptr_Take (t0 : Str) (t1 : Int) (r : ((List GPt) × Str × Bool)) (h : M_ptr_Take t0 t1 = some r) : FFn Try.prog 60 [(S t0), (I t1)] (Value.tuple #[(SL 6 cPt r.1), (S r.2.1), (Bo r.2.2)]) := by
  refine FFn.of_body (n := 39) Try.func60 rfl Try.ntmps60 rfl rfl rfl rfl ?_
  show AWp _ _ _ ⟨39, 0, [(0, (S t0)), (1, (I t1))], [], ⟨0, []⟩⟩
  unfold M_ptr_Take at h
  refine aws ?_
  refine awr ?_
  refine ado rfl rfl rfl (eas (eV (v := (Value.slice none 0 0)) rfl)) ?_
  refine ado rfl rfl rfl (eas (eV (v := (S [])) rfl)) ?_
  refine ado rfl rfl rfl (eas (eV (v := (Bo false)) rfl)) ?_
  refine ake [0, 1, 4] 0 0 (st' := ⟨39, 0, [(0, (S t0)), (1, (I t1)), (4, (Value.slice none 0 0))], [], ⟨0, []⟩⟩) (by kernel_rfl) (by kernel_rfl) ?_
  show AWp _ _ _ _
  refine aws ?_
  refine aws ?_
  refine awr ?_
  refine ado rfl rfl rfl (emv (eV (v := (I t1)) rfl)) ?_
  refine ado rfl rfl rfl (ex_max (m := t1) (n := 0) rfl rfl) ?_
  refine ado rfl rfl rfl (emv (eV (v := (I 0)) rfl)) ?_
  refine ake [0, 4, 11, 12] 0 0 (st' := ⟨39, 0, [(0, (S t0)), (4, (Value.slice none 0 0)), (11, (I (max t1 0))), (12, (I 0))], [], ⟨0, []⟩⟩) (by kernel_rfl) (by kernel_rfl) ?_
  show AWp _ _ _ _
  refine awp_block ?_
  refine awp_nilGro 4 6 rfl (by decide) ?_
  refine awp_keepE [0, 4, 11, 12] 0 1 (st' := ⟨39, 0, [(0, (S t0)), (4, (GV 0 0)), (11, (I (max t1 0))), (12, (I 0))], [], ⟨1, [(0, ⟨6, (([] : List GPt).flatMap cPt), true⟩)]⟩⟩) (by kernel_rfl) (by kernel_rfl) ?_
  refine awp_loop (fun n s => ∃ (v1 : Str) (v2 : Int) (v3 : List GPt), s = ⟨39, 0, [(0, (S v1)), (4, (GV 0 v3.length)), (11, (I (max t1 0))), (12, (I v2))], [], ⟨1, [(0, ⟨6, ((v3).flatMap cPt), true⟩)]⟩⟩ ∧ M_ptr_Take_l1 t1 n v1 v2 v3 = some r) fuel (Exists.intro t0 (Exists.intro 0 (Exists.intro ([] : List GPt) (And.intro rfl h)))) ?_
  rintro n s ⟨v1, v2, v3, rfl, h⟩ -
  cases n with
  | zero => cases h
  | succ n1 =>
    unfold M_ptr_Take_l1 at h
    refine aws ?_
    refine awr ?_
    refine ado rfl rfl rfl (ex_bin (vx := (I v2)) (vy := (I (max t1 0))) rfl rfl lssI_ok) ?_
    refine ake [0, 4, 11, 12, 13] 0 1 (st' := ⟨39, 0, [(0, (S v1)), (4, (GV 0 v3.length)), (11, (I (max t1 0))), (12, (I v2)), (13, (Bo (decide (v2 < (max t1 0)))))], [], ⟨1, [(0, ⟨6, ((v3).flatMap cPt), true⟩)]⟩⟩) (by kernel_rfl) (by kernel_rfl) ?_
    show AWp _ _ _ _
    refine aws ?_
    rcases Bool.eq_false_or_eq_true (decide (v2 < (max t1 0))) with hb4 | hb4
    · rw [condT hb4] at h
      refine awp_condT (boT hb4) ?_
      refine awp_skip ?_
      show AWp _ _ _ _
      refine aws ?_
      refine awp_block ?_
      refine aws ?_
      refine awr ?_
      refine ado rfl rfl rfl (emv (eV (v := (S v1)) rfl)) ?_
      obtain ⟨x5, hx5, h⟩ := bindS h
      refine ado rfl rfl rfl (ex_call0 (vs := [(S ([50, 52, 52, 52, 52, 52] : Str)), (S v1)]) (v := (Value.tuple #[(SL 1 cI x5.1), (S x5.2.1), (Bo x5.2.2)])) rfl en_57 (cargs (evs rfl (evs rfl evs_nil))) rfl (ok_pack_Take ([50, 52, 52, 52, 52, 52] : Str) v1 x5 hx5) rfl) ?_
      refine ado rfl rfl rfl (emv (eV (v := (Value.tuple #[(SL 1 cI x5.1), (S x5.2.1), (Bo x5.2.2)])) rfl)) ?_
      refine ado rfl rfl rfl (ex_extract (vx := (Value.tuple #[(SL 1 cI x5.1), (S x5.2.1), (Bo x5.2.2)])) (v := (SL 1 cI x5.1)) rfl rfl) ?_
      refine ado rfl rfl rfl (ex_extract (vx := (Value.tuple #[(SL 1 cI x5.1), (S x5.2.1), (Bo x5.2.2)])) (v := (S x5.2.1)) rfl rfl) ?_
      refine ado rfl rfl rfl (ex_extract (vx := (Value.tuple #[(SL 1 cI x5.1), (S x5.2.1), (Bo x5.2.2)])) (v := (Bo x5.2.2)) rfl rfl) ?_
      refine ado rfl rfl rfl (eas (eV (v := (SL 1 cI x5.1)) rfl)) ?_
      refine ado rfl rfl rfl (eas (eV (v := (S x5.2.1)) rfl)) ?_
      refine ado rfl rfl rfl (eas (eV (v := (Bo x5.2.2)) rfl)) ?_
      refine ake [4, 7, 8, 9, 11, 12] 0 1 (st' := ⟨39, 0, [(4, (GV 0 v3.length)), (7, (SL 1 cI x5.1)), (8, (S x5.2.1)), (9, (Bo x5.2.2)), (11, (I (max t1 0))), (12, (I v2))], [], ⟨1, [(0, ⟨6, ((v3).flatMap cPt), true⟩)]⟩⟩) (by kernel_rfl) (by kernel_rfl) ?_
      show AWp _ _ _ _
      refine aws ?_
      refine aws ?_
      refine awr ?_
      refine ado rfl rfl rfl (emv (eV (v := (Bo x5.2.2)) rfl)) ?_
      refine ado rfl rfl rfl (ex_un (vx := (Bo x5.2.2)) rfl notB_ok) ?_
      refine ado rfl rfl rfl (emv (eV (v := (Bo (!x5.2.2))) rfl)) ?_
      refine agu (v := (SL 1 cI x5.1)) ((!x5.2.2) == false) rfl rfl rfl (fun hc => emv (eV (v := (SL 1 cI x5.1)) rfl)) ?_
      obtain ⟨x6, hx6, h⟩ := bindS h
      refine agu (v := (Value.agg (c_ptr_pointer x6).toArray)) ((!x5.2.2) == false) rfl rfl rfl (fun hc => ex_call0 (vs := [(SL 1 cI x5.1)]) (v := (Value.agg (c_ptr_pointer x6).toArray)) rfl en_72 (cargs (evs (cdo hc) evs_nil)) rfl (ok_ptr_of x5.1 x6 (gd_of hc hx6)) rfl) ?_
      refine agu (v := (Value.agg (cPt x6.Ptr).toArray)) ((!x5.2.2) == false) rfl rfl rfl (fun hc => ex_field (vx := (Value.agg (c_ptr_pointer x6).toArray)) (v := (Value.agg (cPt x6.Ptr).toArray)) (cdo hc) (by kernel_rfl)) ?_
      obtain ⟨x7, hx7, h⟩ := bindS h
      refine agu (v := (Bo x7)) ((!x5.2.2) == false) rfl rfl rfl (fun hc => ex_call0 (vs := [(Value.agg (cPt x6.Ptr).toArray)]) (v := (Bo x7)) rfl en_65 (cargs (evs (cdo hc) evs_nil)) rfl (ok_ptr_May x6.Ptr x7 (gd_of hc hx7)) rfl) ?_
      refine agu (v := (Bo (!x7))) ((!x5.2.2) == false) rfl rfl rfl (fun hc => ex_un (vx := (Bo x7)) (cdo hc) notB_ok) ?_
      refine ado rfl rfl rfl (ex_pick rfl pkOr) ?_
      refine ake [4, 7, 8, 11, 12, 28] 0 1 (st' := ⟨39, 0, [(4, (GV 0 v3.length)), (7, (SL 1 cI x5.1)), (8, (S x5.2.1)), (11, (I (max t1 0))), (12, (I v2)), (28, (Bo ((!x5.2.2) || (!x7))))], [], ⟨1, [(0, ⟨6, ((v3).flatMap cPt), true⟩)]⟩⟩) (by kernel_rfl) (by kernel_rfl) ?_
      show AWp _ _ _ _
      rcases Bool.eq_false_or_eq_true ((!x5.2.2) || (!x7)) with hb8 | hb8
      · rw [condT hb8] at h
        refine awp_condT (boT hb8) ?_
        refine aws ?_
        refine awr ?_
        refine ado rfl rfl rfl (eas (eV (v := (Value.slice none 0 0)) rfl)) ?_
        refine ado rfl rfl rfl (eas (eV (v := (S [])) rfl)) ?_
        refine ado rfl rfl rfl (eas (eV (v := (Bo false)) rfl)) ?_
        refine ake [4, 5, 6] 0 0 (st' := ⟨39, 0, [(4, (Value.slice none 0 0)), (5, (S [])), (6, (Bo false))], [], ⟨0, []⟩⟩) (by kernel_rfl) (by kernel_rfl) ?_
        show AWp _ _ _ _
        refine awp_ret ?_
        cases h
        exact aresN rfl (L2.cons (rtmp rfl (eN rfl)) (L2.cons (rtmp rfl (eV rfl)) (L2.cons (rtmp rfl (eV rfl)) L2.nil))) rfl
      · rw [condF hb8] at h
        refine awp_condF (boF hb8) ?_
        refine awp_skip ?_
        show AWp _ _ _ _
        refine awr ?_
        refine ado rfl rfl rfl (emv (eV (v := (GV 0 v3.length)) rfl)) ?_
        refine ado rfl rfl rfl (emv (eV (v := (SL 1 cI x5.1)) rfl)) ?_
        obtain ⟨x9, hx9, h⟩ := bindS h
        refine ado rfl rfl rfl (ex_call0 (vs := [(SL 1 cI x5.1)]) (v := (Value.agg (c_ptr_pointer x9).toArray)) rfl en_72 (cargs (evs rfl evs_nil)) rfl (ok_ptr_of x5.1 x9 hx9) rfl) ?_
        refine ado rfl rfl rfl (ex_field (vx := (Value.agg (c_ptr_pointer x9).toArray)) (v := (Value.agg (cPt x9.Ptr).toArray)) rfl (by kernel_rfl)) ?_
        refine ado rfl rfl rfl (ex_buildSliceD (qs := [(0, (Value.agg (cPt x9.Ptr).toArray))]) (cells := (([x9.Ptr] : List GPt).flatMap cPt)) Try.underlying70 s_35 (by decide) (evp rfl evp_nil) rfl (by kernel_rfl) (by kernel_rfl) (by kernel_rfl)) ?_
        obtain ⟨x10, hx10, h⟩ := bindS h
        refine ado rfl rfl rfl (tx_appG (c := cPt) (xs := v3) (H' := ⟨1, [(0, ⟨6, ((x10).flatMap cPt), true⟩)]⟩) ce_api_Ptr e_35 rfl rfl rfl (tsrcD (ys := ([x9.Ptr] : List GPt)) ce_api_Ptr Try.underlying70 s_35 Try.underlying70 rfl) hx10 rfl) ?_
        refine ado rfl rfl rfl (emv (eV (v := (S x5.2.1)) rfl)) ?_
        refine ado rfl rfl rfl (eas (eV (v := (GV 0 x10.length)) rfl)) ?_
        refine ado rfl rfl rfl (eas (eV (v := (S x5.2.1)) rfl)) ?_
        refine ake [0, 4, 11, 12] 0 1 (st' := ⟨39, 0, [(0, (S x5.2.1)), (4, (GV 0 x10.length)), (11, (I (max t1 0))), (12, (I v2))], [], ⟨1, [(0, ⟨6, ((x10).flatMap cPt), true⟩)]⟩⟩) (by kernel_rfl) (by kernel_rfl) ?_
        show AWp _ _ _ _
        refine awr ?_
        refine ado rfl rfl rfl (ex_bin (vx := (I v2)) (vy := (I 1)) rfl rfl addI_ok) ?_
        refine ado rfl rfl rfl (emv (eV (v := (I (w64 (v2 + 1)))) rfl)) ?_
        refine ake [0, 4, 11, 12] 0 1 (st' := ⟨39, 0, [(0, (S x5.2.1)), (4, (GV 0 x10.length)), (11, (I (max t1 0))), (12, (I (w64 (v2 + 1))))], [], ⟨1, [(0, ⟨6, ((x10).flatMap cPt), true⟩)]⟩⟩) (by kernel_rfl) (by kernel_rfl) ?_
        exact Exists.intro n1 (And.intro (Nat.lt_succ_self _) (Exists.intro x5.2.1 (Exists.intro (w64 (v2 + 1)) (Exists.intro x10 (And.intro rfl h)))))
    · rw [condF hb4] at h
      refine awp_condF (boF hb4) ?_
      refine awp_exit ?_
      show AWp _ _ _ _
      refine aws ?_
      refine awr ?_
      refine ado rfl rfl rfl (emv (eV (v := (GV 0 v3.length)) rfl)) ?_
      refine ado rfl rfl rfl (emv (eV (v := (S v1)) rfl)) ?_
      refine ado rfl rfl rfl (eas (eV (v := (GV 0 v3.length)) rfl)) ?_
      refine ado rfl rfl rfl (eas (eV (v := (S v1)) rfl)) ?_
      refine ado rfl rfl rfl (eas (eV (v := (Bo true)) rfl)) ?_
      refine ake [4, 5, 6] 0 1 (st' := ⟨39, 0, [(4, (GV 0 v3.length)), (5, (S v1)), (6, (Bo true))], [], ⟨1, [(0, ⟨6, ((v3).flatMap cPt), true⟩)]⟩⟩) (by kernel_rfl) (by kernel_rfl) ?_
      show AWp _ _ _ _
      refine awp_freeze 0 (bk := ⟨6, ((v3).flatMap cPt), true⟩) (T' := [(4, (SL 6 cPt v3)), (5, (S v1)), (6, (Bo true))]) (L' := []) rfl (fzG ce_api_Ptr rfl rfl (FzT.keep (v := (S v1)) rfl (FzT.keep (v := (Bo true)) rfl FzT.nil))) (FzL.refl _) ?_
      show AWp _ _ _ ⟨39, 0, [(4, (SL 6 cPt v3)), (5, (S v1)), (6, (Bo true))], [], ⟨1, []⟩⟩
      refine awp_ret ?_
      cases h
      exact aresN rfl (L2.cons (rtmp rfl (eV rfl)) (L2.cons (rtmp rfl (eV rfl)) (L2.cons (rtmp rfl (eV rfl)) L2.nil))) rfl

noncomputable def M_uber_Take (t0 : Str) : Option (GUb × Bool) :=
  Option.bind (M_pack_Take ([49, 52, 52, 49] : Str) t0) fun (x1 : ((List Int) × Str × Bool)) => cond (!x1.2.2) (some ((GUb.mk 0 0 0 (GPt.mk 0 0 (A4.mk 0 0 0 0))), false)) (Option.bind (M_ptr_Take x1.2.1 1) fun (x3 : ((List GPt) × Str × Bool)) => cond (!x3.2.2) (some ((GUb.mk 0 0 0 (GPt.mk 0 0 (A4.mk 0 0 0 0))), false)) (Option.bind (getI x1.1 1) fun (x5 : Int) => Option.bind (getI x1.1 2) fun (x6 : Int) => Option.bind (getI x1.1 3) fun (x7 : Int) => Option.bind (getI x3.1 0) fun (x8 : GPt) => Option.bind (M_uber_root_may (G_uber_root.mk (GUb.mk x5 x6 x7 x8))) fun (x9 : Bool) => Option.bind (gd ((!x9) == false) (M_uber_root_bytes (G_uber_root.mk (GUb.mk x5 x6 x7 x8)))) fun (x10 : Str) => cond ((!x9) || (x10 != t0)) (some ((GUb.mk 0 0 0 (GPt.mk 0 0 (A4.mk 0 0 0 0))), false)) (some ((GUb.mk x5 x6 x7 x8), true))))
theorem ok_uber_Take (t0 : Str) (r : (GUb × Bool)) (h : M_uber_Take t0 = some r) : FFn Try.prog 44 [(S t0)] (Value.tuple #[(Value.agg (cUb r.1).toArray), (Bo r.2)]) := by
  refine FFn.of_body (n := 54) Try.func44 rfl Try.ntmps44 rfl rfl rfl rfl ?_
  show AWp _ _ _ ⟨54, 0, [(0, (S t0))], [], ⟨0, []⟩⟩
  unfold M_uber_Take at h
  refine aws ?_
  refine awr ?_
  refine ado rfl rfl rfl (ex_alloc (k := 0) (zs := (cUb (GUb.mk 0 0 0 (GPt.mk 0 0 (A4.mk 0 0 0 0))))) (L' := [(cUb (GUb.mk 0 0 0 (GPt.mk 0 0 (A4.mk 0 0 0 0))))]) z_37 rfl rfl rfl rfl) ?_
  refine ado rfl rfl rfl (eas (eV (v := (Bo false)) rfl)) ?_
  refine ake [0, 2] 1 0 (st' := ⟨54, 0, [(0, (S t0)), (2, (LP 0 0))], [(cUb (GUb.mk 0 0 0 (GPt.mk 0 0 (A4.mk 0 0 0 0))))], ⟨0, []⟩⟩) (by kernel_rfl) (by kernel_rfl) ?_
  show AWp _ _ _ _
  refine aws ?_
  refine awr ?_
  refine ado rfl rfl rfl (emv (eV (v := (S t0)) rfl)) ?_
  obtain ⟨x1, hx1, h⟩ := bindS h
  refine ado rfl rfl rfl (ex_call0 (vs := [(S ([49, 52, 52, 49] : Str)), (S t0)]) (v := (Value.tuple #[(SL 1 cI x1.1), (S x1.2.1), (Bo x1.2.2)])) rfl en_57 (cargs (evs rfl (evs rfl evs_nil))) rfl (ok_pack_Take ([49, 52, 52, 49] : Str) t0 x1 hx1) rfl) ?_
  refine ado rfl rfl rfl (emv (eV (v := (Value.tuple #[(SL 1 cI x1.1), (S x1.2.1), (Bo x1.2.2)])) rfl)) ?_
  refine ado rfl rfl rfl (ex_extract (vx := (Value.tuple #[(SL 1 cI x1.1), (S x1.2.1), (Bo x1.2.2)])) (v := (SL 1 cI x1.1)) rfl rfl) ?_
  refine ado rfl rfl rfl (ex_extract (vx := (Value.tuple #[(SL 1 cI x1.1), (S x1.2.1), (Bo x1.2.2)])) (v := (S x1.2.1)) rfl rfl) ?_
  refine ado rfl rfl rfl (ex_extract (vx := (Value.tuple #[(SL 1 cI x1.1), (S x1.2.1), (Bo x1.2.2)])) (v := (Bo x1.2.2)) rfl rfl) ?_
  refine ado rfl rfl rfl (eas (eV (v := (SL 1 cI x1.1)) rfl)) ?_
  refine ado rfl rfl rfl (eas (eV (v := (S x1.2.1)) rfl)) ?_
  refine ado rfl rfl rfl (eas (eV (v := (Bo x1.2.2)) rfl)) ?_
  refine ake [0, 2, 4, 5, 6] 1 0 (st' := ⟨54, 0, [(0, (S t0)), (2, (LP 0 0)), (4, (SL 1 cI x1.1)), (5, (S x1.2.1)), (6, (Bo x1.2.2))], [(cUb (GUb.mk 0 0 0 (GPt.mk 0 0 (A4.mk 0 0 0 0))))], ⟨0, []⟩⟩) (by kernel_rfl) (by kernel_rfl) ?_
  show AWp _ _ _ _
  refine aws ?_
  refine aws ?_
  refine awr ?_
  refine ado rfl rfl rfl (emv (eV (v := (Bo x1.2.2)) rfl)) ?_
  refine ado rfl rfl rfl (ex_un (vx := (Bo x1.2.2)) rfl notB_ok) ?_
  refine ake [0, 2, 4, 5, 17] 1 0 (st' := ⟨54, 0, [(0, (S t0)), (2, (LP 0 0)), (4, (SL 1 cI x1.1)), (5, (S x1.2.1)), (17, (Bo (!x1.2.2)))], [(cUb (GUb.mk 0 0 0 (GPt.mk 0 0 (A4.mk 0 0 0 0))))], ⟨0, []⟩⟩) (by kernel_rfl) (by kernel_rfl) ?_
  show AWp _ _ _ _
  rcases Bool.eq_false_or_eq_true (!x1.2.2) with hb2 | hb2
  · rw [condT hb2] at h
    refine awp_condT (boT hb2) ?_
    refine aws ?_
    refine awr ?_
    refine ado rfl rfl rfl (ex_build (qs := []) (v := (Value.agg (cUb (GUb.mk 0 0 0 (GPt.mk 0 0 (A4.mk 0 0 0 0)))).toArray)) evp_nil (by kernel_rfl)) ?_
    refine arun_do0 rfl rfl (ex_storeL (vy := (Value.agg (cUb (GUb.mk 0 0 0 (GPt.mk 0 0 (A4.mk 0 0 0 0)))).toArray)) (cs := (cUb (GUb.mk 0 0 0 (GPt.mk 0 0 (A4.mk 0 0 0 0))))) (vs := (cUb (GUb.mk 0 0 0 (GPt.mk 0 0 (A4.mk 0 0 0 0))))) (L' := [(cUb (GUb.mk 0 0 0 (GPt.mk 0 0 (A4.mk 0 0 0 0))))]) rfl (eV (v := (Value.agg (cUb (GUb.mk 0 0 0 (GPt.mk 0 0 (A4.mk 0 0 0 0)))).toArray)) rfl) rfl s_37 rfl (Nat.le_of_ble_eq_true rfl) (by kernel_rfl)) ?_
    refine ado rfl rfl rfl (eas (eV (v := (Bo false)) rfl)) ?_
    refine ake [2, 3] 1 0 (st' := ⟨54, 0, [(2, (LP 0 0)), (3, (Bo false))], [(cUb (GUb.mk 0 0 0 (GPt.mk 0 0 (A4.mk 0 0 0 0))))], ⟨0, []⟩⟩) (by kernel_rfl) (by kernel_rfl) ?_
    show AWp _ _ _ _
    refine awp_ret ?_
    cases h
    exact aresN rfl (L2.cons (rcellL rfl rfl rfl (partA Try.underlying37 rfl s_37 (by decide) (Nat.le_of_ble_eq_true rfl) rfl)) (L2.cons (rtmp rfl (eV rfl)) L2.nil)) rfl
  · rw [condF hb2] at h
    refine awp_condF (boF hb2) ?_
    refine awp_skip ?_
    show AWp _ _ _ _
    refine aws ?_
    refine awr ?_
    refine ado rfl rfl rfl (emv (eV (v := (S x1.2.1)) rfl)) ?_
    obtain ⟨x3, hx3, h⟩ := bindS h
    refine ado rfl rfl rfl (ex_call0 (vs := [(S x1.2.1), (I 1)]) (v := (Value.tuple #[(SL 6 cPt x3.1), (S x3.2.1), (Bo x3.2.2)])) rfl en_60 (cargs (evs rfl (evs rfl evs_nil))) rfl (ok_ptr_Take x1.2.1 1 x3 hx3) rfl) ?_
    refine ado rfl rfl rfl (emv (eV (v := (Value.tuple #[(SL 6 cPt x3.1), (S x3.2.1), (Bo x3.2.2)])) rfl)) ?_
    refine ado rfl rfl rfl (ex_extract (vx := (Value.tuple #[(SL 6 cPt x3.1), (S x3.2.1), (Bo x3.2.2)])) (v := (SL 6 cPt x3.1)) rfl rfl) ?_
    refine ado rfl rfl rfl (ex_extract (vx := (Value.tuple #[(SL 6 cPt x3.1), (S x3.2.1), (Bo x3.2.2)])) (v := (S x3.2.1)) rfl rfl) ?_
    refine ado rfl rfl rfl (ex_extract (vx := (Value.tuple #[(SL 6 cPt x3.1), (S x3.2.1), (Bo x3.2.2)])) (v := (Bo x3.2.2)) rfl rfl) ?_
    refine ado rfl rfl rfl (eas (eV (v := (SL 6 cPt x3.1)) rfl)) ?_
    refine ado rfl rfl rfl (eas (eV (v := (S x3.2.1)) rfl)) ?_
    refine ado rfl rfl rfl (eas (eV (v := (Bo x3.2.2)) rfl)) ?_
    refine ake [0, 2, 4, 6, 7] 1 0 (st' := ⟨54, 0, [(0, (S t0)), (2, (LP 0 0)), (4, (SL 1 cI x1.1)), (6, (Bo x3.2.2)), (7, (SL 6 cPt x3.1))], [(cUb (GUb.mk 0 0 0 (GPt.mk 0 0 (A4.mk 0 0 0 0))))], ⟨0, []⟩⟩) (by kernel_rfl) (by kernel_rfl) ?_
    show AWp _ _ _ _
    refine aws ?_
    refine aws ?_
    refine awr ?_
    refine ado rfl rfl rfl (emv (eV (v := (Bo x3.2.2)) rfl)) ?_
    refine ado rfl rfl rfl (ex_un (vx := (Bo x3.2.2)) rfl notB_ok) ?_
    refine ake [0, 2, 4, 7, 26] 1 0 (st' := ⟨54, 0, [(0, (S t0)), (2, (LP 0 0)), (4, (SL 1 cI x1.1)), (7, (SL 6 cPt x3.1)), (26, (Bo (!x3.2.2)))], [(cUb (GUb.mk 0 0 0 (GPt.mk 0 0 (A4.mk 0 0 0 0))))], ⟨0, []⟩⟩) (by kernel_rfl) (by kernel_rfl) ?_
    show AWp _ _ _ _
    rcases Bool.eq_false_or_eq_true (!x3.2.2) with hb4 | hb4
    · rw [condT hb4] at h
      refine awp_condT (boT hb4) ?_
      refine aws ?_
      refine awr ?_
      refine ado rfl rfl rfl (ex_build (qs := []) (v := (Value.agg (cUb (GUb.mk 0 0 0 (GPt.mk 0 0 (A4.mk 0 0 0 0)))).toArray)) evp_nil (by kernel_rfl)) ?_
      refine arun_do0 rfl rfl (ex_storeL (vy := (Value.agg (cUb (GUb.mk 0 0 0 (GPt.mk 0 0 (A4.mk 0 0 0 0)))).toArray)) (cs := (cUb (GUb.mk 0 0 0 (GPt.mk 0 0 (A4.mk 0 0 0 0))))) (vs := (cUb (GUb.mk 0 0 0 (GPt.mk 0 0 (A4.mk 0 0 0 0))))) (L' := [(cUb (GUb.mk 0 0 0 (GPt.mk 0 0 (A4.mk 0 0 0 0))))]) rfl (eV (v := (Value.agg (cUb (GUb.mk 0 0 0 (GPt.mk 0 0 (A4.mk 0 0 0 0)))).toArray)) rfl) rfl s_37 rfl (Nat.le_of_ble_eq_true rfl) (by kernel_rfl)) ?_
      refine ado rfl rfl rfl (eas (eV (v := (Bo false)) rfl)) ?_
      refine ake [2, 3] 1 0 (st' := ⟨54, 0, [(2, (LP 0 0)), (3, (Bo false))], [(cUb (GUb.mk 0 0 0 (GPt.mk 0 0 (A4.mk 0 0 0 0))))], ⟨0, []⟩⟩) (by kernel_rfl) (by kernel_rfl) ?_
      show AWp _ _ _ _
      refine awp_ret ?_
      cases h
      exact aresN rfl (L2.cons (rcellL rfl rfl rfl (partA Try.underlying37 rfl s_37 (by decide) (Nat.le_of_ble_eq_true rfl) rfl)) (L2.cons (rtmp rfl (eV rfl)) L2.nil)) rfl
    · rw [condF hb4] at h
      refine awp_condF (boF hb4) ?_
      refine awp_skip ?_
      show AWp _ _ _ _
      refine aws ?_
      obtain ⟨x5, hx5, h⟩ := bindS h
      obtain ⟨x6, hx6, h⟩ := bindS h
      obtain ⟨x7, hx7, h⟩ := bindS h
      obtain ⟨x8, hx8, h⟩ := bindS h
      refine awp_kn [0, 2, 9] 2 0 (st' := ⟨54, 0, [(0, (S t0)), (2, (LP 0 0)), (9, (LP 1 0))], [(cUb (GUb.mk 0 0 0 (GPt.mk 0 0 (A4.mk 0 0 0 0)))), (c_uber_root (G_uber_root.mk (GUb.mk x5 x6 x7 x8)))], ⟨0, []⟩⟩) (awp_draw (T := [(SL 1 cI x1.1), (DP (cI x5)), (I x5), (SL 1 cI x1.1), (DP (cI x6)), (I x6), (SL 1 cI x1.1), (DP (cI x7)), (I x7), (SL 6 cPt x3.1), (DP (cPt x8)), (Value.agg (cPt x8).toArray), (Value.agg (cUb (GUb.mk x5 x6 x7 x8)).toArray), (Value.agg (c_uber_root (G_uber_root.mk (GUb.mk x5 x6 x7 x8))).toArray), (LP 1 0), undef]) (LH := [([(cUb (GUb.mk 0 0 0 (GPt.mk 0 0 (A4.mk 0 0 0 0))))], ⟨0, []⟩), ([(cUb (GUb.mk 0 0 0 (GPt.mk 0 0 (A4.mk 0 0 0 0)))), (c_uber_root (G_uber_root.mk (GUb.mk 0 0 0 (GPt.mk 0 0 (A4.mk 0 0 0 0)))))], ⟨0, []⟩), ([(cUb (GUb.mk 0 0 0 (GPt.mk 0 0 (A4.mk 0 0 0 0)))), (c_uber_root (G_uber_root.mk (GUb.mk x5 x6 x7 x8)))], ⟨0, []⟩)]) (D := [⟨[(4, none)], [], [0, 1], false⟩, ⟨[(28, some 0)], [0], [0, 1], false⟩, ⟨[(29, some 1)], [0, 1], [0, 1], false⟩, ⟨[(4, none)], [], [0, 1], false⟩, ⟨[(31, some 3)], [3], [0, 1], false⟩, ⟨[(32, some 4)], [3, 4], [0, 1], false⟩, ⟨[(4, none)], [], [0, 1], false⟩, ⟨[(34, some 6)], [6], [0, 1], false⟩, ⟨[(35, some 7)], [6, 7], [0, 1], false⟩, ⟨[(7, none)], [], [0, 1], false⟩, ⟨[(37, some 9)], [9], [0, 1], false⟩, ⟨[(38, some 10)], [9, 10], [0, 1], false⟩, ⟨[(30, some 2), (33, some 5), (36, some 8), (39, some 11)], [0, 1, 2, 3, 4, 5, 6, 7, 8, 9, 10, 11], [0, 1], false⟩, ⟨[(40, some 12)], [0, 1, 2, 3, 4, 5, 6, 7, 8, 9, 10, 11, 12], [0, 1], false⟩, ⟨[], [], [0], true⟩, ⟨[(9, some 14), (41, some 13)], [0, 1, 2, 3, 4, 5, 6, 7, 8, 9, 10, 11, 12, 13, 14], [1], true⟩]) (S := [14, 15]) (plan := [0, 1, 2, 3, 4, 5, 6, 7, 8, 9, 10, 11, 12, 13, 14, 15]) mo (by kernel_rfl) rfl rfl rfl (dcons (dstepN (by intro k hk; simp only [List.mem_cons, List.not_mem_nil, or_false] at hk; rcases hk with rfl | rfl <;> exact ⟨[(4, (SL 1 cI x1.1))], _, _, _, _, _, rfl, rfl, rfl, rfl, asd rfl (emv (eV (v := (SL 1 cI x1.1)) rfl))⟩)) (dcons (dstepN (by intro k hk; simp only [List.mem_cons, List.not_mem_nil, or_false] at hk; rcases hk with rfl | rfl <;> exact ⟨[(28, (SL 1 cI x1.1))], _, _, _, _, _, rfl, rfl, rfl, rfl, asd rfl (tx_idxD (c := cI) (xs := x1.1) (i := 1) ceI Try.underlying59 s_3 rfl rfl hx5)⟩)) (dcons (dstepN (by intro k hk; simp only [List.mem_cons, List.not_mem_nil, or_false] at hk; rcases hk with rfl | rfl <;> exact ⟨[(29, (DP (cI x5)))], _, _, _, _, _, rfl, rfl, rfl, rfl, asd rfl (tx_ldD1 (v := (I x5)) Try.underlying3 rfl rfl rfl)⟩)) (dcons (dstepN (by intro k hk; simp only [List.mem_cons, List.not_mem_nil, or_false] at hk; rcases hk with rfl | rfl <;> exact ⟨[(4, (SL 1 cI x1.1))], _, _, _, _, _, rfl, rfl, rfl, rfl, asd rfl (emv (eV (v := (SL 1 cI x1.1)) rfl))⟩)) (dcons (dstepN (by intro k hk; simp only [List.mem_cons, List.not_mem_nil, or_false] at hk; rcases hk with rfl | rfl <;> exact ⟨[(31, (SL 1 cI x1.1))], _, _, _, _, _, rfl, rfl, rfl, rfl, asd rfl (tx_idxD (c := cI) (xs := x1.1) (i := 2) ceI Try.underlying59 s_3 rfl rfl hx6)⟩)) (dcons (dstepN (by intro k hk; simp only [List.mem_cons, List.not_mem_nil, or_false] at hk; rcases hk with rfl | rfl <;> exact ⟨[(32, (DP (cI x6)))], _, _, _, _, _, rfl, rfl, rfl, rfl, asd rfl (tx_ldD1 (v := (I x6)) Try.underlying3 rfl rfl rfl)⟩)) (dcons (dstepN (by intro k hk; simp only [List.mem_cons, List.not_mem_nil, or_false] at hk; rcases hk with rfl | rfl <;> exact ⟨[(4, (SL 1 cI x1.1))], _, _, _, _, _, rfl, rfl, rfl, rfl, asd rfl (emv (eV (v := (SL 1 cI x1.1)) rfl))⟩)) (dcons (dstepN (by intro k hk; simp only [List.mem_cons, List.not_mem_nil, or_false] at hk; rcases hk with rfl | rfl <;> exact ⟨[(34, (SL 1 cI x1.1))], _, _, _, _, _, rfl, rfl, rfl, rfl, asd rfl (tx_idxD (c := cI) (xs := x1.1) (i := 3) ceI Try.underlying59 s_3 rfl rfl hx7)⟩)) (dcons (dstepN (by intro k hk; simp only [List.mem_cons, List.not_mem_nil, or_false] at hk; rcases hk with rfl | rfl <;> exact ⟨[(35, (DP (cI x7)))], _, _, _, _, _, rfl, rfl, rfl, rfl, asd rfl (tx_ldD1 (v := (I x7)) Try.underlying3 rfl rfl rfl)⟩)) (dcons (dstepN (by intro k hk; simp only [List.mem_cons, List.not_mem_nil, or_false] at hk; rcases hk with rfl | rfl <;> exact ⟨[(7, (SL 6 cPt x3.1))], _, _, _, _, _, rfl, rfl, rfl, rfl, asd rfl (emv (eV (v := (SL 6 cPt x3.1)) rfl))⟩)) (dcons (dstepN (by intro k hk; simp only [List.mem_cons, List.not_mem_nil, or_false] at hk; rcases hk with rfl | rfl <;> exact ⟨[(37, (SL 6 cPt x3.1))], _, _, _, _, _, rfl, rfl, rfl, rfl, asd rfl (tx_idxD (c := cPt) (xs := x3.1) (i := 0) ce_api_Ptr Try.underlying70 s_35 rfl rfl hx8)⟩)) (dcons (dstepN (by intro k hk; simp only [List.mem_cons, List.not_mem_nil, or_false] at hk; rcases hk with rfl | rfl <;> exact ⟨[(38, (DP (cPt x8)))], _, _, _, _, _, rfl, rfl, rfl, rfl, asd rfl (tx_ldDA (vs := (cPt x8)) Try.underlying35 rfl s_35 (by decide) rfl (Nat.le_of_ble_eq_true rfl) rfl)⟩)) (dcons (dstepN (by intro k hk; simp only [List.mem_cons, List.not_mem_nil, or_false] at hk; rcases hk with rfl | rfl <;> exact ⟨[(30, (I x5)), (33, (I x6)), (36, (I x7)), (39, (Value.agg (cPt x8).toArray))], _, _, _, _, _, rfl, rfl, rfl, rfl, asd rfl (ex_build (qs := [(0, (I x5)), (1, (I x6)), (2, (I x7)), (3, (Value.agg (cPt x8).toArray))]) (v := (Value.agg (cUb (GUb.mk x5 x6 x7 x8)).toArray)) (evp rfl (evp rfl (evp rfl (evp rfl evp_nil)))) (by kernel_rfl))⟩)) (dcons (dstepN (by intro k hk; simp only [List.mem_cons, List.not_mem_nil, or_false] at hk; rcases hk with rfl | rfl <;> exact ⟨[(40, (Value.agg (cUb (GUb.mk x5 x6 x7 x8)).toArray))], _, _, _, _, _, rfl, rfl, rfl, rfl, asd rfl (ex_build (qs := [(0, (Value.agg (cUb (GUb.mk x5 x6 x7 x8)).toArray))]) (v := (Value.agg (c_uber_root (G_uber_root.mk (GUb.mk x5 x6 x7 x8))).toArray)) (evp rfl evp_nil) (by kernel_rfl))⟩)) (dcons (dst1 (Tm := []) (L := [(cUb (GUb.mk 0 0 0 (GPt.mk 0 0 (A4.mk 0 0 0 0))))]) (H := ⟨0, []⟩) rfl rfl rfl rfl rfl (asd rfl (ex_alloc (k := 1) (zs := (c_uber_root (G_uber_root.mk (GUb.mk 0 0 0 (GPt.mk 0 0 (A4.mk 0 0 0 0)))))) (L' := [(cUb (GUb.mk 0 0 0 (GPt.mk 0 0 (A4.mk 0 0 0 0)))), (c_uber_root (G_uber_root.mk (GUb.mk 0 0 0 (GPt.mk 0 0 (A4.mk 0 0 0 0)))))]) z_83 rfl rfl rfl rfl))) (dcons (dst1 (Tm := [(9, (LP 1 0)), (41, (Value.agg (c_uber_root (G_uber_root.mk (GUb.mk x5 x6 x7 x8))).toArray))]) (L := [(cUb (GUb.mk 0 0 0 (GPt.mk 0 0 (A4.mk 0 0 0 0)))), (c_uber_root (G_uber_root.mk (GUb.mk 0 0 0 (GPt.mk 0 0 (A4.mk 0 0 0 0)))))]) (H := ⟨0, []⟩) rfl rfl rfl rfl rfl (asd rfl (ex_storeL (vy := (Value.agg (c_uber_root (G_uber_root.mk (GUb.mk x5 x6 x7 x8))).toArray)) (cs := (c_uber_root (G_uber_root.mk (GUb.mk 0 0 0 (GPt.mk 0 0 (A4.mk 0 0 0 0)))))) (vs := (c_uber_root (G_uber_root.mk (GUb.mk x5 x6 x7 x8)))) (L' := [(cUb (GUb.mk 0 0 0 (GPt.mk 0 0 (A4.mk 0 0 0 0)))), (c_uber_root (G_uber_root.mk (GUb.mk x5 x6 x7 x8)))]) rfl (eV (v := (Value.agg (c_uber_root (G_uber_root.mk (GUb.mk x5 x6 x7 x8))).toArray)) rfl) rfl s_83 rfl (Nat.le_of_ble_eq_true rfl) (by kernel_rfl)))) dnil)))))))))))))))) ⟨rfl, rfl⟩) (by kernel_rfl) (by kernel_rfl) ?_
      show AWp _ _ _ _
      refine aws ?_
      refine aws ?_
      refine awr ?_
      refine ado rfl rfl rfl (tx_ldLA (vs := (c_uber_root (G_uber_root.mk (GUb.mk x5 x6 x7 x8)))) Try.underlying83 rfl s_83 (by decide) rfl rfl rfl rfl) ?_
      obtain ⟨x9, hx9, h⟩ := bindS h
      refine ado rfl rfl rfl (ex_call0 (vs := [(Value.agg (c_uber_root (G_uber_root.mk (GUb.mk x5 x6 x7 x8))).toArray)]) (v := (Bo x9)) rfl en_51 (cargs (evs rfl evs_nil)) rfl (ok_uber_root_may (G_uber_root.mk (GUb.mk x5 x6 x7 x8)) x9 hx9) rfl) ?_
      refine ado rfl rfl rfl (ex_un (vx := (Bo x9)) rfl notB_ok) ?_
      refine ado rfl rfl rfl (emv (eV (v := (Bo (!x9))) rfl)) ?_
      refine agu (v := (Value.agg (c_uber_root (G_uber_root.mk (GUb.mk x5 x6 x7 x8))).toArray)) ((!x9) == false) rfl rfl rfl (fun hc => tx_ldLA (vs := (c_uber_root (G_uber_root.mk (GUb.mk x5 x6 x7 x8)))) Try.underlying83 rfl s_83 (by decide) rfl rfl rfl rfl) ?_
      obtain ⟨x10, hx10, h⟩ := bindS h
      refine agu (v := (S x10)) ((!x9) == false) rfl rfl rfl (fun hc => ex_call0 (vs := [(Value.agg (c_uber_root (G_uber_root.mk (GUb.mk x5 x6 x7 x8))).toArray)]) (v := (S x10)) rfl en_52 (cargs (evs (cdo hc) evs_nil)) rfl (ok_uber_root_bytes (G_uber_root.mk (GUb.mk x5 x6 x7 x8)) x10 (gd_of hc hx10)) rfl) ?_
      refine agu (v := (S t0)) ((!x9) == false) rfl rfl rfl (fun hc => emv (eV (v := (S t0)) rfl)) ?_
      refine agu (v := (Bo (x10 != t0))) ((!x9) == false) rfl rfl rfl (fun hc => ex_bin (vx := (S x10)) (vy := (S t0)) (cdo hc) (cdo hc) neqS_ok) ?_
      refine ado rfl rfl rfl (ex_pick rfl pkOr) ?_
      refine ake [2, 9, 50] 2 0 (st' := ⟨54, 0, [(2, (LP 0 0)), (9, (LP 1 0)), (50, (Bo ((!x9) || (x10 != t0))))], [(cUb (GUb.mk 0 0 0 (GPt.mk 0 0 (A4.mk 0 0 0 0)))), (c_uber_root (G_uber_root.mk (GUb.mk x5 x6 x7 x8)))], ⟨0, []⟩⟩) (by kernel_rfl) (by kernel_rfl) ?_
      show AWp _ _ _ _
      rcases Bool.eq_false_or_eq_true ((!x9) || (x10 != t0)) with hb11 | hb11
      · rw [condT hb11] at h
        refine awp_condT (boT hb11) ?_
        refine aws ?_
        refine awr ?_
        refine ado rfl rfl rfl (ex_build (qs := []) (v := (Value.agg (cUb (GUb.mk 0 0 0 (GPt.mk 0 0 (A4.mk 0 0 0 0)))).toArray)) evp_nil (by kernel_rfl)) ?_
        refine arun_do0 rfl rfl (ex_storeL (vy := (Value.agg (cUb (GUb.mk 0 0 0 (GPt.mk 0 0 (A4.mk 0 0 0 0)))).toArray)) (cs := (cUb (GUb.mk 0 0 0 (GPt.mk 0 0 (A4.mk 0 0 0 0))))) (vs := (cUb (GUb.mk 0 0 0 (GPt.mk 0 0 (A4.mk 0 0 0 0))))) (L' := [(cUb (GUb.mk 0 0 0 (GPt.mk 0 0 (A4.mk 0 0 0 0)))), (c_uber_root (G_uber_root.mk (GUb.mk x5 x6 x7 x8)))]) rfl (eV (v := (Value.agg (cUb (GUb.mk 0 0 0 (GPt.mk 0 0 (A4.mk 0 0 0 0)))).toArray)) rfl) rfl s_37 rfl (Nat.le_of_ble_eq_true rfl) (by kernel_rfl)) ?_
        refine ado rfl rfl rfl (eas (eV (v := (Bo false)) rfl)) ?_
        refine ake [2, 3] 1 0 (st' := ⟨54, 0, [(2, (LP 0 0)), (3, (Bo false))], [(cUb (GUb.mk 0 0 0 (GPt.mk 0 0 (A4.mk 0 0 0 0))))], ⟨0, []⟩⟩) (by kernel_rfl) (by kernel_rfl) ?_
        show AWp _ _ _ _
        refine awp_ret ?_
        cases h
        exact aresN rfl (L2.cons (rcellL rfl rfl rfl (partA Try.underlying37 rfl s_37 (by decide) (Nat.le_of_ble_eq_true rfl) rfl)) (L2.cons (rtmp rfl (eV rfl)) L2.nil)) rfl
      · rw [condF hb11] at h
        refine awp_condF (boF hb11) ?_
        refine awp_skip ?_
        show AWp _ _ _ _
        refine aws ?_
        refine awr ?_
        refine ado rfl rfl rfl (efa (v := (LP 1 0)) Try.underlying83 rfl s_37 (by decide) rfl rfl) ?_
        refine ado rfl rfl rfl (tx_ldLA (vs := (cUb (GUb.mk x5 x6 x7 x8))) Try.underlying37 rfl s_37 (by decide) rfl rfl rfl rfl) ?_
        refine arun_do0 rfl rfl (ex_storeL (vy := (Value.agg (cUb (GUb.mk x5 x6 x7 x8)).toArray)) (cs := (cUb (GUb.mk 0 0 0 (GPt.mk 0 0 (A4.mk 0 0 0 0))))) (vs := (cUb (GUb.mk x5 x6 x7 x8))) (L' := [(cUb (GUb.mk x5 x6 x7 x8)), (c_uber_root (G_uber_root.mk (GUb.mk x5 x6 x7 x8)))]) rfl (eV (v := (Value.agg (cUb (GUb.mk x5 x6 x7 x8)).toArray)) rfl) rfl s_37 rfl (Nat.le_of_ble_eq_true rfl) (by kernel_rfl)) ?_
        refine ado rfl rfl rfl (eas (eV (v := (Bo true)) rfl)) ?_
        refine ake [2, 3] 1 0 (st' := ⟨54, 0, [(2, (LP 0 0)), (3, (Bo true))], [(cUb (GUb.mk x5 x6 x7 x8))], ⟨0, []⟩⟩) (by kernel_rfl) (by kernel_rfl) ?_
        show AWp _ _ _ _
        refine awp_ret ?_
        cases h
        exact aresN rfl (L2.cons (rcellL rfl rfl rfl (partA Try.underlying37 rfl s_37 (by decide) (Nat.le_of_ble_eq_true rfl) rfl)) (L2.cons (rtmp rfl (eV rfl)) L2.nil)) rfl

end Go.Proofs
