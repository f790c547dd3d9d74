/- Pure models of functions of the program, and that its code does what they say: api Uber] at a closure, api Uber] at a closure, label Roots. Written by a program. -/
import Derived.Test.YtmhfodjiefednaaR70
import Derived.Test.YtmhfodjiefednaaR75
import Derived.Test.YtmhfodjiefednaaR78
import Derived.Test.YtmhfodjiefednaaR79
import Derived.Test.YtmhfodjiefednaaR7B
import Derived.Test.YtmhfodjiefednaaR7RdC
import Derived.Test.YtmhfodjiefednaaR7X
set_option maxRecDepth 20000
set_option maxHeartbeats 4000000
namespace Go.Proofs
open Go Go.Fhl
set_option linter.unusedVariables false
set_option linter.unusedSimpArgs false
noncomputable def M_slices_pdqsortCmpFunc_api_Uber_c48_k1 (c_1 : (Option (Unit × List GUb))) (t0 : List GUb) (t1 : Int) (t2 : Int) (t3 : Int) : Option (Unit × List GUb) :=
  none
noncomputable def M_slices_pdqsortCmpFunc_api_Uber_c48_l1 (t0 : List GUb) (t1 : Int) (t2 : Int) (t3 : Int) : Nat → Option (Unit × List GUb)
  | 0 => none
  | n1 + 1 =>
  cond (decide ((w64 (t2 - t1)) ≤ 12)) (Option.bind (withLen t0 (M_slices_insertionSortCmpFunc_api_Uber_c48 t0 t1 t2)) fun (x2 : (Unit × List GUb)) => some ((), x2.2)) (cond (t3 == 0) (none) (cond (!true) (none) (M_slices_pdqsortCmpFunc_api_Uber_c48_k1 (M_slices_pdqsortCmpFunc_api_Uber_c48_l1 t0 t1 t2 t3 n1) t0 t1 t2 t3)))
noncomputable def M_slices_pdqsortCmpFunc_api_Uber_c48 (t0 : List GUb) (t1 : Int) (t2 : Int) (t3 : Int) : Option (Unit × List GUb) :=
  M_slices_pdqsortCmpFunc_api_Uber_c48_l1 t0 t1 t2 t3 fuel
theorem ok_slices_pdqsortCmpFunc_api_Uber_c48 (t0 : List GUb) (t1 : Int) (t2 : Int) (t3 : Int) (r : (Unit × List GUb)) (h : M_slices_pdqsortCmpFunc_api_Uber_c48 t0 t1 t2 t3 = some r) : F1n Try.prog 62 [(GV 0 t0.length), (I t1), (I t2), (I t3), (Value.func (Fn.func 48) #[] #[])] ⟨9, (t0).flatMap cUb, true⟩ (Value.tuple #[]) ⟨9, (r.2).flatMap cUb, true⟩ := by
  refine F1n.of_body (n := 148) Try.func62 rfl Try.ntmps62 rfl rfl rfl rfl ?_
  show AWp _ _ _ ⟨148, 1, [(0, (GV 0 t0.length)), (1, (I t1)), (2, (I t2)), (3, (I t3)), (4, (Value.func (Fn.func 48) #[] #[]))], [], ⟨1, [(0, ⟨9, ((t0).flatMap cUb), true⟩)]⟩⟩
  unfold M_slices_pdqsortCmpFunc_api_Uber_c48 at h
  refine aws ?_
  refine awr ?_
  refine ado rfl rfl rfl (eas (eV (v := (Bo true)) rfl)) ?_
  refine ake [0, 1, 2, 3, 4, 10] 0 1 (st' := ⟨148, 1, [(0, (GV 0 t0.length)), (1, (I t1)), (2, (I t2)), (3, (I t3)), (4, (Value.func (Fn.func 48) #[] #[])), (10, (Bo true))], [], ⟨1, [(0, ⟨9, ((t0).flatMap cUb), true⟩)]⟩⟩) (by kernel_rfl) (by kernel_rfl) ?_
  show AWp _ _ _ _
  refine aws ?_
  refine awr ?_
  refine ado rfl rfl rfl (eas (eV (v := (Bo true)) rfl)) ?_
  refine ake [0, 1, 2, 3, 4, 10, 11] 0 1 (st' := ⟨148, 1, [(0, (GV 0 t0.length)), (1, (I t1)), (2, (I t2)), (3, (I t3)), (4, (Value.func (Fn.func 48) #[] #[])), (10, (Bo true)), (11, (Bo true))], [], ⟨1, [(0, ⟨9, ((t0).flatMap cUb), true⟩)]⟩⟩) (by kernel_rfl) (by kernel_rfl) ?_
  show AWp _ _ _ _
  refine awp_block ?_
  refine awp_loop (fun n s => s = ⟨148, 1, [(0, (GV 0 t0.length)), (1, (I t1)), (2, (I t2)), (3, (I t3)), (4, (Value.func (Fn.func 48) #[] #[])), (10, (Bo true)), (11, (Bo true))], [], ⟨1, [(0, ⟨9, ((t0).flatMap cUb), true⟩)]⟩⟩ ∧ M_slices_pdqsortCmpFunc_api_Uber_c48_l1 t0 t1 t2 t3 n  = some r) fuel (And.intro rfl h) ?_
  rintro n s ⟨rfl, h⟩ -
  cases n with
  | zero => cases h
  | succ n1 =>
    unfold M_slices_pdqsortCmpFunc_api_Uber_c48_l1 at h
    refine awp_block ?_
    refine aws ?_
    refine awr ?_
    refine ado rfl rfl rfl (emv (eV (v := (I t2)) rfl)) ?_
    refine ado rfl rfl rfl (emv (eV (v := (I t1)) rfl)) ?_
    refine ado rfl rfl rfl (ex_bin (vx := (I t2)) (vy := (I t1)) rfl rfl subI_ok) ?_
    refine ado rfl rfl rfl (eas (eV (v := (I (w64 (t2 - t1)))) rfl)) ?_
    refine ake [0, 1, 2, 3, 4, 10, 11, 12] 0 1 (st' := ⟨148, 1, [(0, (GV 0 t0.length)), (1, (I t1)), (2, (I t2)), (3, (I t3)), (4, (Value.func (Fn.func 48) #[] #[])), (10, (Bo true)), (11, (Bo true)), (12, (I (w64 (t2 - t1))))], [], ⟨1, [(0, ⟨9, ((t0).flatMap cUb), true⟩)]⟩⟩) (by kernel_rfl) (by kernel_rfl) ?_
    show AWp _ _ _ _
    refine aws ?_
    refine aws ?_
    refine awr ?_
    refine ado rfl rfl rfl (emv (eV (v := (I (w64 (t2 - t1)))) rfl)) ?_
    refine ado rfl rfl rfl (ex_bin (vx := (I (w64 (t2 - t1)))) (vy := (I 12)) rfl rfl leqI_ok) ?_
    refine ake [0, 1, 2, 3, 4, 10, 11, 12, 25] 0 1 (st' := ⟨148, 1, [(0, (GV 0 t0.length)), (1, (I t1)), (2, (I t2)), (3, (I t3)), (4, (Value.func (Fn.func 48) #[] #[])), (10, (Bo true)), (11, (Bo true)), (12, (I (w64 (t2 - t1)))), (25, (Bo (decide ((w64 (t2 - t1)) ≤ 12))))], [], ⟨1, [(0, ⟨9, ((t0).flatMap cUb), true⟩)]⟩⟩) (by kernel_rfl) (by kernel_rfl) ?_
    show AWp _ _ _ _
    rcases Bool.eq_false_or_eq_true (decide ((w64 (t2 - t1)) ≤ 12)) with hb1 | hb1
    · rw [condT hb1] at h
      refine awp_condT (boT hb1) ?_
      refine aws ?_
      refine awr ?_
      refine ado rfl rfl rfl (emv (eV (v := (GV 0 t0.length)) rfl)) ?_
      refine ado rfl rfl rfl (emv (eV (v := (I t1)) rfl)) ?_
      refine ado rfl rfl rfl (emv (eV (v := (I t2)) rfl)) ?_
      refine ado rfl rfl rfl (emv (eV (v := (Value.func (Fn.func 48) #[] #[])) rfl)) ?_
      obtain ⟨x2, hx2, h⟩ := bindS h
      refine ado rfl rfl rfl (ex_callM (vs := [(GV 0 t0.length), (I t1), (I t2), (Value.func (Fn.func 48) #[] #[])]) (vs' := [(GV 0 t0.length), (I t1), (I t2), (Value.func (Fn.func 48) #[] #[])]) (v := (Value.tuple #[])) (n := 0) (b := ⟨9, ((t0).flatMap cUb), true⟩) (b' := ⟨9, ((x2.2).flatMap cUb), true⟩) (H' := ⟨1, [(0, ⟨9, ((x2.2).flatMap cUb), true⟩)]⟩) rfl en_73 (cargs (evs rfl (evs rfl (evs rfl (evs rfl evs_nil))))) rfl (.cons (.inr (.inr (.inl ⟨_, rfl, rfl⟩))) (.cons (.inl ⟨rfl, rfl⟩) (.cons (.inl ⟨rfl, rfl⟩) (.cons (.inr (.inr (.inr (.inr ⟨_, _, _, rfl, rfl, .nil⟩)))) .nil)))) (ok_slices_insertionSortCmpFunc_api_Uber_c48 t0 t1 t2 x2 (withLen_of hx2)) rfl rfl) ?_
      refine ake [] 0 1 (st' := ⟨148, 1, [], [], ⟨1, [(0, ⟨9, ((x2.2).flatMap cUb), true⟩)]⟩⟩) (by kernel_rfl) (by kernel_rfl) ?_
      show AWp _ _ _ _
      refine awp_ret ?_
      cases h
      exact And.intro (aresN rfl L2.nil rfl) rfl
    · rw [condF hb1] at h
      refine awp_condF (boF hb1) ?_
      refine awp_skip ?_
      show AWp _ _ _ _
      refine aws ?_
      refine aws ?_
      refine awr ?_
      refine ado rfl rfl rfl (emv (eV (v := (I t3)) rfl)) ?_
      refine ado rfl rfl rfl (ex_bin (vx := (I t3)) (vy := (I 0)) rfl rfl eqlI_ok) ?_
      refine ake [0, 1, 2, 3, 4, 10, 11, 12, 32] 0 1 (st' := ⟨148, 1, [(0, (GV 0 t0.length)), (1, (I t1)), (2, (I t2)), (3, (I t3)), (4, (Value.func (Fn.func 48) #[] #[])), (10, (Bo true)), (11, (Bo true)), (12, (I (w64 (t2 - t1)))), (32, (Bo (t3 == 0)))], [], ⟨1, [(0, ⟨9, ((t0).flatMap cUb), true⟩)]⟩⟩) (by kernel_rfl) (by kernel_rfl) ?_
      show AWp _ _ _ _
      rcases Bool.eq_false_or_eq_true (t3 == 0) with hb3 | hb3
      · rw [condT hb3] at h
        refine awp_condT (boT hb3) ?_
        refine aws ?_
        cases h
      · rw [condF hb3] at h
        refine awp_condF (boF hb3) ?_
        refine awp_skip ?_
        show AWp _ _ _ _
        refine awp_seqJ (fun s => s = ⟨148, 1, [(0, (GV 0 t0.length)), (1, (I t1)), (2, (I t2)), (3, (I t3)), (4, (Value.func (Fn.func 48) #[] #[])), (10, (Bo true)), (11, (Bo true)), (12, (I (w64 (t2 - t1))))], [], ⟨1, [(0, ⟨9, ((t0).flatMap cUb), true⟩)]⟩⟩ ∧ M_slices_pdqsortCmpFunc_api_Uber_c48_k1 (M_slices_pdqsortCmpFunc_api_Uber_c48_l1 t0 t1 t2 t3 n1) t0 t1 t2 t3 = some r) ?_ ?_
        · refine aws ?_
          refine awr ?_
          refine ado rfl rfl rfl (emv (eV (v := (Bo true)) rfl)) ?_
          refine ado rfl rfl rfl (ex_un (vx := (Bo true)) rfl notB_ok) ?_
          refine ake [0, 1, 2, 3, 4, 10, 11, 12, 39] 0 1 (st' := ⟨148, 1, [(0, (GV 0 t0.length)), (1, (I t1)), (2, (I t2)), (3, (I t3)), (4, (Value.func (Fn.func 48) #[] #[])), (10, (Bo true)), (11, (Bo true)), (12, (I (w64 (t2 - t1)))), (39, (Bo (!true)))], [], ⟨1, [(0, ⟨9, ((t0).flatMap cUb), true⟩)]⟩⟩) (by kernel_rfl) (by kernel_rfl) ?_
          show AWp _ _ _ _
          rcases Bool.eq_false_or_eq_true (!true) with hb4 | hb4
          · rw [condT hb4] at h
            refine awp_condT (boT hb4) ?_
            refine aws ?_
            cases h
          · rw [condF hb4] at h
            refine awp_condF (boF hb4) ?_
            refine awp_keepE [0, 1, 2, 3, 4, 10, 11, 12] 0 1 (st' := ⟨148, 1, [(0, (GV 0 t0.length)), (1, (I t1)), (2, (I t2)), (3, (I t3)), (4, (Value.func (Fn.func 48) #[] #[])), (10, (Bo true)), (11, (Bo true)), (12, (I (w64 (t2 - t1))))], [], ⟨1, [(0, ⟨9, ((t0).flatMap cUb), true⟩)]⟩⟩) (by kernel_rfl) (by kernel_rfl) ?_
            refine awp_skip ?_
            exact (And.intro rfl h)
        · rintro s ⟨rfl, h⟩
          unfold M_slices_pdqsortCmpFunc_api_Uber_c48_k1 at h
          refine aws ?_
          cases h

noncomputable def M_slices_SortFunc_api_Uber_api_Uber_c48 (t0 : List GUb) : Option (Unit × List GUb) :=
  Option.bind (M_math_bits_Len (UInt64.ofInt ((t0.length : Nat) : Int))) fun (x1 : Int) => Option.bind (withLen t0 (M_slices_pdqsortCmpFunc_api_Uber_c48 t0 0 ((t0.length : Nat) : Int) x1)) fun (x2 : (Unit × List GUb)) => some ((), x2.2)
theorem ok_slices_SortFunc_api_Uber_api_Uber_c48 (t0 : List GUb) (r : (Unit × List GUb)) (h : M_slices_SortFunc_api_Uber_api_Uber_c48 t0 = some r) : F1n Try.prog 47 [(GV 0 t0.length), (Value.func (Fn.func 48) #[] #[])] ⟨9, (t0).flatMap cUb, true⟩ (Value.tuple #[]) ⟨9, (r.2).flatMap cUb, true⟩ := by
  refine F1n.of_body (n := 14) Try.func47 rfl Try.ntmps47 rfl rfl rfl rfl ?_
  show AWp _ _ _ ⟨14, 1, [(0, (GV 0 t0.length)), (1, (Value.func (Fn.func 48) #[] #[]))], [], ⟨1, [(0, ⟨9, ((t0).flatMap cUb), true⟩)]⟩⟩
  unfold M_slices_SortFunc_api_Uber_api_Uber_c48 at h
  refine aws ?_
  refine awr ?_
  refine ado rfl rfl rfl (emv (eV (v := (GV 0 t0.length)) rfl)) ?_
  refine ado rfl rfl rfl (ex_lenN (n := t0.length) Try.underlying54 rfl) ?_
  refine ado rfl rfl rfl (eas (eV (v := (I ((t0.length : Nat) : Int))) rfl)) ?_
  refine ake [0, 1, 4] 0 1 (st' := ⟨14, 1, [(0, (GV 0 t0.length)), (1, (Value.func (Fn.func 48) #[] #[])), (4, (I ((t0.length : Nat) : Int)))], [], ⟨1, [(0, ⟨9, ((t0).flatMap cUb), true⟩)]⟩⟩) (by kernel_rfl) (by kernel_rfl) ?_
  show AWp _ _ _ _
  refine awr ?_
  refine ado rfl rfl rfl (emv (eV (v := (GV 0 t0.length)) rfl)) ?_
  refine ado rfl rfl rfl (emv (eV (v := (I ((t0.length : Nat) : Int))) rfl)) ?_
  refine ado rfl rfl rfl (emv (eV (v := (I ((t0.length : Nat) : Int))) rfl)) ?_
  refine ado rfl rfl rfl (tx_64_u64 Try.underlying3 Try.underlying57 rfl) ?_
  obtain ⟨x1, hx1, h⟩ := bindS h
  refine ado rfl rfl rfl (ex_call0 (vs := [(U64 (UInt64.ofInt ((t0.length : Nat) : Int)))]) (v := (I x1)) rfl en_63 (cargs (evs rfl evs_nil)) rfl (ok_math_bits_Len (UInt64.ofInt ((t0.length : Nat) : Int)) x1 hx1) rfl) ?_
  refine ado rfl rfl rfl (emv (eV (v := (Value.func (Fn.func 48) #[] #[])) rfl)) ?_
  obtain ⟨x2, hx2, h⟩ := bindS h
  refine ado rfl rfl rfl (ex_callM (vs := [(GV 0 t0.length), (I 0), (I ((t0.length : Nat) : Int)), (I x1), (Value.func (Fn.func 48) #[] #[])]) (vs' := [(GV 0 t0.length), (I 0), (I ((t0.length : Nat) : Int)), (I x1), (Value.func (Fn.func 48) #[] #[])]) (v := (Value.tuple #[])) (n := 0) (b := ⟨9, ((t0).flatMap cUb), true⟩) (b' := ⟨9, ((x2.2).flatMap cUb), true⟩) (H' := ⟨1, [(0, ⟨9, ((x2.2).flatMap cUb), true⟩)]⟩) rfl en_62 (cargs (evs rfl (evs rfl (evs rfl (evs rfl (evs rfl evs_nil)))))) rfl (.cons (.inr (.inr (.inl ⟨_, rfl, rfl⟩))) (.cons (.inl ⟨rfl, rfl⟩) (.cons (.inl ⟨rfl, rfl⟩) (.cons (.inl ⟨rfl, rfl⟩) (.cons (.inr (.inr (.inr (.inr ⟨_, _, _, rfl, rfl, .nil⟩)))) .nil))))) (ok_slices_pdqsortCmpFunc_api_Uber_c48 t0 0 ((t0.length : Nat) : Int) x1 x2 (withLen_of hx2)) rfl rfl) ?_
  refine ake [] 0 1 (st' := ⟨14, 1, [], [], ⟨1, [(0, ⟨9, ((x2.2).flatMap cUb), true⟩)]⟩⟩) (by kernel_rfl) (by kernel_rfl) ?_
  cases h
  exact And.intro (aresN rfl L2.nil rfl) rfl

noncomputable def M_label_Roots_k1 (c_1 : (Int → List GUb → Option (List GUb))) (c_2 : (Int → List GUb → Option (List GUb))) (t0 : GDv) (x1 : (Int × Int × Bool)) (v3 : Int) (v6 : Int) (y9 : List GUb) : Option (List GUb) :=
  c_2 (w64 (v6 + 1)) y9
noncomputable def M_label_Roots_l2 (c_1 : (Int → List GUb → Option (List GUb))) (t0 : GDv) (x1 : (Int × Int × Bool)) (v3 : Int) : Nat → Int → List GUb → Option (List GUb)
  | 0, _, _ => none
  | n2 + 1, v6, v7 =>
  cond (decide (v6 < 6)) (Option.bind (M_label_Slot x1.2.1 v3 v6) fun (x10 : Int) => Option.bind (M_dev_Read t0 x10) fun (x11 : (Str × Bool)) => Option.bind (M_uber_Take x11.1) fun (x12 : (GUb × Bool)) => cond (((x12.2 && (x12.1.Guid == x1.1)) && (x12.1.Seat == v6)) == true) (Option.bind (M_slices_ContainsFunc_api_Uber_api_Uber_c45 v7 x12.1) fun (x13 : Bool) => cond (((x12.2 && (x12.1.Guid == x1.1)) && (x12.1.Seat == v6)) && (!x13)) (Option.bind (appL 56 v7 ([x12.1] : List GUb)) fun (x15 : List GUb) => M_label_Roots_k1 c_1 (M_label_Roots_l2 c_1 t0 x1 v3 n2) t0 x1 v3 v6 x15) (M_label_Roots_k1 c_1 (M_label_Roots_l2 c_1 t0 x1 v3 n2) t0 x1 v3 v6 v7)) (cond ((x12.2 && (x12.1.Guid == x1.1)) && (x12.1.Seat == v6)) (Option.bind (appL 56 v7 ([x12.1] : List GUb)) fun (x14 : List GUb) => M_label_Roots_k1 c_1 (M_label_Roots_l2 c_1 t0 x1 v3 n2) t0 x1 v3 v6 x14) (M_label_Roots_k1 c_1 (M_label_Roots_l2 c_1 t0 x1 v3 n2) t0 x1 v3 v6 v7))) (c_1 (w64 (v3 + 1)) v7)
noncomputable def M_label_Roots_l1 (t0 : GDv) (x1 : (Int × Int × Bool)) : Nat → Int → List GUb → Option (List GUb)
  | 0, _, _ => none
  | n1 + 1, v3, v4 =>
  cond (decide (v3 < 4)) (M_label_Roots_l2 (M_label_Roots_l1 t0 x1 n1) t0 x1 v3 fuel 0 v4) (Option.bind (withLen v4 (M_slices_SortFunc_api_Uber_api_Uber_c48 v4)) fun (x15 : (Unit × List GUb)) => some x15.2)
noncomputable def M_label_Roots (t0 : GDv) : Option (List GUb) :=
  Option.bind (M_label_Found t0) fun (x1 : (Int × Int × Bool)) => cond (!x1.2.2) (some []) (M_label_Roots_l1 t0 x1 fuel 0 ([] : List GUb))
theorem ok_label_Roots (t0 : GDv) (r : (List GUb)) (h : M_label_Roots t0 = some r) : FFn Try.prog 27 [(Value.agg (cDv t0).toArray)] (SL 9 cUb r) := by
  refine FFn.of_body (n := 71) Try.func27 rfl Try.ntmps27 rfl rfl rfl rfl ?_
  show AWp _ _ _ ⟨71, 0, [(0, (Value.agg (cDv t0).toArray))], [], ⟨0, []⟩⟩
  unfold M_label_Roots at h
  refine aws ?_
  refine awr ?_
  refine ado rfl rfl rfl (ex_box (vx := (Value.agg (cDv t0).toArray)) (cs := (cDv t0)) (k := 0) (L' := [(cDv t0)]) (eV (v := (Value.agg (cDv t0).toArray)) rfl) rfl rfl rfl) ?_
  refine ado rfl rfl rfl (eas (eV (v := (Value.slice none 0 0)) rfl)) ?_
  refine ake [1] 1 0 (st' := ⟨71, 0, [(1, (LP 0 0))], [(cDv t0)], ⟨0, []⟩⟩) (by kernel_rfl) (by kernel_rfl) ?_
  show AWp _ _ _ _
  refine aws ?_
  refine awr ?_
  refine ado rfl rfl rfl (tx_ldLA (vs := (cDv t0)) Try.underlying29 rfl s_29 (by decide) rfl rfl rfl rfl) ?_
  obtain ⟨x1, hx1, h⟩ := bindS h
  refine ado rfl rfl rfl (ex_call0 (vs := [(Value.agg (cDv t0).toArray)]) (v := (Value.tuple #[(I x1.1), (I x1.2.1), (Bo x1.2.2)])) rfl en_24 (cargs (evs rfl evs_nil)) rfl (ok_label_Found t0 x1 hx1) rfl) ?_
  refine ado rfl rfl rfl (emv (eV (v := (Value.tuple #[(I x1.1), (I x1.2.1), (Bo x1.2.2)])) rfl)) ?_
  refine ado rfl rfl rfl (ex_extract (vx := (Value.tuple #[(I x1.1), (I x1.2.1), (Bo x1.2.2)])) (v := (I x1.1)) rfl rfl) ?_
  refine ado rfl rfl rfl (ex_extract (vx := (Value.tuple #[(I x1.1), (I x1.2.1), (Bo x1.2.2)])) (v := (I x1.2.1)) rfl rfl) ?_
  refine ado rfl rfl rfl (ex_extract (vx := (Value.tuple #[(I x1.1), (I x1.2.1), (Bo x1.2.2)])) (v := (Bo x1.2.2)) rfl rfl) ?_
  refine ado rfl rfl rfl (eas (eV (v := (I x1.1)) rfl)) ?_
  refine ado rfl rfl rfl (eas (eV (v := (I x1.2.1)) rfl)) ?_
  refine ado rfl rfl rfl (eas (eV (v := (Bo x1.2.2)) rfl)) ?_
  refine ake [1, 3, 4, 5] 1 0 (st' := ⟨71, 0, [(1, (LP 0 0)), (3, (I x1.1)), (4, (I x1.2.1)), (5, (Bo x1.2.2))], [(cDv t0)], ⟨0, []⟩⟩) (by kernel_rfl) (by kernel_rfl) ?_
  show AWp _ _ _ _
  refine aws ?_
  refine aws ?_
  refine awr ?_
  refine ado rfl rfl rfl (emv (eV (v := (Bo x1.2.2)) rfl)) ?_
  refine ado rfl rfl rfl (ex_un (vx := (Bo x1.2.2)) rfl notB_ok) ?_
  refine ake [1, 3, 4, 21] 1 0 (st' := ⟨71, 0, [(1, (LP 0 0)), (3, (I x1.1)), (4, (I x1.2.1)), (21, (Bo (!x1.2.2)))], [(cDv t0)], ⟨0, []⟩⟩) (by kernel_rfl) (by kernel_rfl) ?_
  show AWp _ _ _ _
  rcases Bool.eq_false_or_eq_true (!x1.2.2) with hb2 | hb2
  · rw [condT hb2] at h
    refine awp_condT (boT hb2) ?_
    refine aws ?_
    refine awr ?_
    refine ado rfl rfl rfl (eas (eV (v := (Value.slice none 0 0)) rfl)) ?_
    refine ake [2] 0 0 (st' := ⟨71, 0, [(2, (Value.slice none 0 0))], [], ⟨0, []⟩⟩) (by kernel_rfl) (by kernel_rfl) ?_
    show AWp _ _ _ _
    refine awp_ret ?_
    cases h
    exact ares1 (rtmp rfl (eN rfl))
  · rw [condF hb2] at h
    refine awp_condF (boF hb2) ?_
    refine awp_skip ?_
    show AWp _ _ _ _
    refine aws ?_
    refine awr ?_
    refine ado rfl rfl rfl (eas (eV (v := (Value.slice none 0 0)) rfl)) ?_
    refine ake [1, 3, 4, 6] 1 0 (st' := ⟨71, 0, [(1, (LP 0 0)), (3, (I x1.1)), (4, (I x1.2.1)), (6, (Value.slice none 0 0))], [(cDv t0)], ⟨0, []⟩⟩) (by kernel_rfl) (by kernel_rfl) ?_
    show AWp _ _ _ _
    refine aws ?_
    refine aws ?_
    refine awr ?_
    refine ado rfl rfl rfl (emv (eV (v := (I 0)) rfl)) ?_
    refine ake [1, 3, 4, 6, 22] 1 0 (st' := ⟨71, 0, [(1, (LP 0 0)), (3, (I x1.1)), (4, (I x1.2.1)), (6, (Value.slice none 0 0)), (22, (I 0))], [(cDv t0)], ⟨0, []⟩⟩) (by kernel_rfl) (by kernel_rfl) ?_
    show AWp _ _ _ _
    refine awp_block ?_
    refine awp_nilGro 6 9 rfl (by decide) ?_
    refine awp_keepE [1, 3, 4, 6, 22] 1 1 (st' := ⟨71, 0, [(1, (LP 0 0)), (3, (I x1.1)), (4, (I x1.2.1)), (6, (GV 0 0)), (22, (I 0))], [(cDv t0)], ⟨1, [(0, ⟨9, (([] : List GUb).flatMap cUb), true⟩)]⟩⟩) (by kernel_rfl) (by kernel_rfl) ?_
    refine awp_loop (fun n s => ∃ (v3 : Int) (v4 : List GUb), s = ⟨71, 0, [(1, (LP 0 0)), (3, (I x1.1)), (4, (I x1.2.1)), (6, (GV 0 v4.length)), (22, (I v3))], [(cDv t0)], ⟨1, [(0, ⟨9, ((v4).flatMap cUb), true⟩)]⟩⟩ ∧ M_label_Roots_l1 t0 x1 n v3 v4 = some r) fuel (Exists.intro 0 (Exists.intro ([] : List GUb) (And.intro rfl h))) ?_
    rintro n s ⟨v3, v4, rfl, h⟩ -
    cases n with
    | zero => cases h
    | succ n1 =>
      unfold M_label_Roots_l1 at h
      refine aws ?_
      refine awr ?_
      refine ado rfl rfl rfl (ex_bin (vx := (I v3)) (vy := (I 4)) rfl rfl lssI_ok) ?_
      refine ake [1, 3, 4, 6, 22, 23] 1 1 (st' := ⟨71, 0, [(1, (LP 0 0)), (3, (I x1.1)), (4, (I x1.2.1)), (6, (GV 0 v4.length)), (22, (I v3)), (23, (Bo (decide (v3 < 4))))], [(cDv t0)], ⟨1, [(0, ⟨9, ((v4).flatMap cUb), true⟩)]⟩⟩) (by kernel_rfl) (by kernel_rfl) ?_
      show AWp _ _ _ _
      refine aws ?_
      rcases Bool.eq_false_or_eq_true (decide (v3 < 4)) with hb5 | hb5
      · rw [condT hb5] at h
        refine awp_condT (boT hb5) ?_
        refine awp_skip ?_
        show AWp _ _ _ _
        refine aws ?_
        refine awp_block ?_
        refine aws ?_
        refine awr ?_
        refine ado rfl rfl rfl (emv (eV (v := (I v3)) rfl)) ?_
        refine ado rfl rfl rfl (eas (eV (v := (I v3)) rfl)) ?_
        refine ake [1, 3, 4, 6, 7, 22] 1 1 (st' := ⟨71, 0, [(1, (LP 0 0)), (3, (I x1.1)), (4, (I x1.2.1)), (6, (GV 0 v4.length)), (7, (I v3)), (22, (I v3))], [(cDv t0)], ⟨1, [(0, ⟨9, ((v4).flatMap cUb), true⟩)]⟩⟩) (by kernel_rfl) (by kernel_rfl) ?_
        show AWp _ _ _ _
        refine aws ?_
        refine awr ?_
        refine ado rfl rfl rfl (emv (eV (v := (I 0)) rfl)) ?_
        refine ake [1, 3, 4, 6, 7, 22, 25] 1 1 (st' := ⟨71, 0, [(1, (LP 0 0)), (3, (I x1.1)), (4, (I x1.2.1)), (6, (GV 0 v4.length)), (7, (I v3)), (22, (I v3)), (25, (I 0))], [(cDv t0)], ⟨1, [(0, ⟨9, ((v4).flatMap cUb), true⟩)]⟩⟩) (by kernel_rfl) (by kernel_rfl) ?_
        show AWp _ _ _ _
        refine awp_block ?_
        refine awp_loop (fun n s => ∃ (v6 : Int) (v7 : List GUb), s = ⟨71, 0, [(1, (LP 0 0)), (3, (I x1.1)), (4, (I x1.2.1)), (6, (GV 0 v7.length)), (7, (I v3)), (22, (I v3)), (25, (I v6))], [(cDv t0)], ⟨1, [(0, ⟨9, ((v7).flatMap cUb), true⟩)]⟩⟩ ∧ M_label_Roots_l2 (M_label_Roots_l1 t0 x1 n1) t0 x1 v3 n v6 v7 = some r) fuel (Exists.intro 0 (Exists.intro v4 (And.intro rfl h))) ?_
        rintro n s ⟨v6, v7, rfl, h⟩ -
        cases n with
        | zero => cases h
        | succ n2 =>
          unfold M_label_Roots_l2 at h
          refine aws ?_
          refine awr ?_
          refine ado rfl rfl rfl (ex_bin (vx := (I v6)) (vy := (I 6)) rfl rfl lssI_ok) ?_
          refine ake [1, 3, 4, 6, 7, 22, 25, 26] 1 1 (st' := ⟨71, 0, [(1, (LP 0 0)), (3, (I x1.1)), (4, (I x1.2.1)), (6, (GV 0 v7.length)), (7, (I v3)), (22, (I v3)), (25, (I v6)), (26, (Bo (decide (v6 < 6))))], [(cDv t0)], ⟨1, [(0, ⟨9, ((v7).flatMap cUb), true⟩)]⟩⟩) (by kernel_rfl) (by kernel_rfl) ?_
          show AWp _ _ _ _
          refine aws ?_
          rcases Bool.eq_false_or_eq_true (decide (v6 < 6)) with hb8 | hb8
          · rw [condT hb8] at h
            refine awp_condT (boT hb8) ?_
            refine awp_skip ?_
            show AWp _ _ _ _
            refine awp_seqJ (fun s => ∃ (y9 : List GUb), s = ⟨71, 0, [(1, (LP 0 0)), (3, (I x1.1)), (4, (I x1.2.1)), (6, (GV 0 y9.length)), (7, (I v3)), (22, (I v3)), (25, (I v6))], [(cDv t0)], ⟨1, [(0, ⟨9, ((y9).flatMap cUb), true⟩)]⟩⟩ ∧ M_label_Roots_k1 (M_label_Roots_l1 t0 x1 n1) (M_label_Roots_l2 (M_label_Roots_l1 t0 x1 n1) t0 x1 v3 n2) t0 x1 v3 v6 y9 = some r) ?_ ?_
            · refine awp_block ?_
              refine aws ?_
              refine awr ?_
              refine ado rfl rfl rfl (emv (eV (v := (I v6)) rfl)) ?_
              refine ado rfl rfl rfl (eas (eV (v := (I v6)) rfl)) ?_
              refine ake [1, 3, 4, 6, 7, 8, 22, 25] 1 1 (st' := ⟨71, 0, [(1, (LP 0 0)), (3, (I x1.1)), (4, (I x1.2.1)), (6, (GV 0 v7.length)), (7, (I v3)), (8, (I v6)), (22, (I v3)), (25, (I v6))], [(cDv t0)], ⟨1, [(0, ⟨9, ((v7).flatMap cUb), true⟩)]⟩⟩) (by kernel_rfl) (by kernel_rfl) ?_
              show AWp _ _ _ _
              refine aws ?_
              obtain ⟨x10, hx10, h⟩ := bindS h
              obtain ⟨x11, hx11, h⟩ := bindS h
              refine awp_kn [1, 3, 4, 6, 7, 8, 9, 22, 25] 1 1 (st' := ⟨71, 0, [(1, (LP 0 0)), (3, (I x1.1)), (4, (I x1.2.1)), (6, (GV 0 v7.length)), (7, (I v3)), (8, (I v6)), (9, (S x11.1)), (22, (I v3)), (25, (I v6))], [(cDv t0)], ⟨1, [(0, ⟨9, ((v7).flatMap cUb), true⟩)]⟩⟩) (awp_draw (T := [(Value.agg (cDv t0).toArray), (I x1.2.1), (I v3), (I v6), (I x10), (Value.tuple #[(S x11.1), (Bo x11.2)]), (Value.tuple #[(S x11.1), (Bo x11.2)]), (S x11.1), (Bo x11.2), (S x11.1), (Bo x11.2)]) (LH := [([(cDv t0)], ⟨1, [(0, ⟨9, ((v7).flatMap cUb), true⟩)]⟩)]) (D := [⟨[(1, none)], [], [0], false⟩, ⟨[(4, none)], [], [0], false⟩, ⟨[(7, none)], [], [0], false⟩, ⟨[(8, none)], [], [0], false⟩, ⟨[(30, some 1), (31, some 2), (32, some 3)], [1, 2, 3], [0], false⟩, ⟨[(29, some 0), (33, some 4)], [0, 1, 2, 3, 4], [0], false⟩, ⟨[(34, some 5)], [0, 1, 2, 3, 4, 5], [0], false⟩, ⟨[(28, some 6)], [0, 1, 2, 3, 4, 5, 6], [0], false⟩, ⟨[(28, some 6)], [0, 1, 2, 3, 4, 5, 6], [0], false⟩, ⟨[(35, some 7)], [0, 1, 2, 3, 4, 5, 6, 7], [0], false⟩, ⟨[(36, some 8)], [0, 1, 2, 3, 4, 5, 6, 7, 8, 9], [0], false⟩]) (S := []) (plan := [0, 1, 2, 3, 4, 5, 6, 7, 8, 9, 10]) mo (by kernel_rfl) rfl rfl rfl (dcons (dst1 (Tm := [(1, (LP 0 0))]) (L := [(cDv t0)]) (H := ⟨1, [(0, ⟨9, ((v7).flatMap cUb), true⟩)]⟩) rfl rfl rfl rfl rfl (asd rfl (tx_ldLA (vs := (cDv t0)) Try.underlying29 rfl s_29 (by decide) rfl rfl rfl rfl))) (dcons (dst1 (Tm := [(4, (I x1.2.1))]) (L := [(cDv t0)]) (H := ⟨1, [(0, ⟨9, ((v7).flatMap cUb), true⟩)]⟩) rfl rfl rfl rfl rfl (asd rfl (emv (eV (v := (I x1.2.1)) rfl)))) (dcons (dst1 (Tm := [(7, (I v3))]) (L := [(cDv t0)]) (H := ⟨1, [(0, ⟨9, ((v7).flatMap cUb), true⟩)]⟩) rfl rfl rfl rfl rfl (asd rfl (emv (eV (v := (I v3)) rfl)))) (dcons (dst1 (Tm := [(8, (I v6))]) (L := [(cDv t0)]) (H := ⟨1, [(0, ⟨9, ((v7).flatMap cUb), true⟩)]⟩) rfl rfl rfl rfl rfl (asd rfl (emv (eV (v := (I v6)) rfl)))) (dcons (dst1 (Tm := [(30, (I x1.2.1)), (31, (I v3)), (32, (I v6))]) (L := [(cDv t0)]) (H := ⟨1, [(0, ⟨9, ((v7).flatMap cUb), true⟩)]⟩) rfl rfl rfl rfl rfl (asd rfl (ex_call0 (vs := [(I x1.2.1), (I v3), (I v6)]) (v := (I x10)) rfl en_12 (cargs (evs rfl (evs rfl (evs rfl evs_nil)))) rfl (ok_label_Slot x1.2.1 v3 v6 x10 hx10) rfl))) (dcons (dst1 (Tm := [(29, (Value.agg (cDv t0).toArray)), (33, (I x10))]) (L := [(cDv t0)]) (H := ⟨1, [(0, ⟨9, ((v7).flatMap cUb), true⟩)]⟩) rfl rfl rfl rfl rfl (asd rfl (ex_call0 (vs := [(Value.agg (cDv t0).toArray), (I x10)]) (v := (Value.tuple #[(S x11.1), (Bo x11.2)])) rfl en_40 (cargs (evs rfl (evs rfl evs_nil))) rfl (ok_dev_Read t0 x10 x11 hx11) rfl))) (dcons (dst1 (Tm := [(34, (Value.tuple #[(S x11.1), (Bo x11.2)]))]) (L := [(cDv t0)]) (H := ⟨1, [(0, ⟨9, ((v7).flatMap cUb), true⟩)]⟩) rfl rfl rfl rfl rfl (asd rfl (emv (eV (v := (Value.tuple #[(S x11.1), (Bo x11.2)])) rfl)))) (dcons (dst1 (Tm := [(28, (Value.tuple #[(S x11.1), (Bo x11.2)]))]) (L := [(cDv t0)]) (H := ⟨1, [(0, ⟨9, ((v7).flatMap cUb), true⟩)]⟩) rfl rfl rfl rfl rfl (asd rfl (ex_extract (vx := (Value.tuple #[(S x11.1), (Bo x11.2)])) (v := (S x11.1)) rfl rfl))) (dcons (dst1 (Tm := [(28, (Value.tuple #[(S x11.1), (Bo x11.2)]))]) (L := [(cDv t0)]) (H := ⟨1, [(0, ⟨9, ((v7).flatMap cUb), true⟩)]⟩) rfl rfl rfl rfl rfl (asd rfl (ex_extract (vx := (Value.tuple #[(S x11.1), (Bo x11.2)])) (v := (Bo x11.2)) rfl rfl))) (dcons (dst1 (Tm := [(35, (S x11.1))]) (L := [(cDv t0)]) (H := ⟨1, [(0, ⟨9, ((v7).flatMap cUb), true⟩)]⟩) rfl rfl rfl rfl rfl (asd rfl (eas (eV (v := (S x11.1)) rfl)))) (dcons (dst1 (Tm := [(36, (Bo x11.2))]) (L := [(cDv t0)]) (H := ⟨1, [(0, ⟨9, ((v7).flatMap cUb), true⟩)]⟩) rfl rfl rfl rfl rfl (asd rfl (eas (eV (v := (Bo x11.2)) rfl)))) dnil))))))))))) ⟨rfl, rfl⟩) (by kernel_rfl) (by kernel_rfl) ?_
              show AWp _ _ _ _
              refine aws ?_
              refine awr ?_
              refine ado rfl rfl rfl (emv (eV (v := (S x11.1)) rfl)) ?_
              obtain ⟨x12, hx12, h⟩ := bindS h
              refine ado rfl rfl rfl (ex_call0 (vs := [(S x11.1)]) (v := (Value.tuple #[(Value.agg (cUb x12.1).toArray), (Bo x12.2)])) rfl en_44 (cargs (evs rfl evs_nil)) rfl (ok_uber_Take x11.1 x12 hx12) rfl) ?_
              refine ado rfl rfl rfl (emv (eV (v := (Value.tuple #[(Value.agg (cUb x12.1).toArray), (Bo x12.2)])) rfl)) ?_
              refine ado rfl rfl rfl (ex_extract (vx := (Value.tuple #[(Value.agg (cUb x12.1).toArray), (Bo x12.2)])) (v := (Value.agg (cUb x12.1).toArray)) rfl rfl) ?_
              refine ado rfl rfl rfl (ex_extract (vx := (Value.tuple #[(Value.agg (cUb x12.1).toArray), (Bo x12.2)])) (v := (Bo x12.2)) rfl rfl) ?_
              refine ado rfl rfl rfl (ex_allocH (k := 1) (zs := (cUb (GUb.mk 0 0 0 (GPt.mk 0 0 (A4.mk 0 0 0 0))))) (H' := ⟨2, [(1, ⟨1, (cUb (GUb.mk 0 0 0 (GPt.mk 0 0 (A4.mk 0 0 0 0)))), false⟩), (0, ⟨9, ((v7).flatMap cUb), true⟩)]⟩) z_37 rfl rfl rfl rfl) ?_
              refine arun_do0 rfl rfl (ex_storeF (vy := (Value.agg (cUb x12.1).toArray)) (b := ⟨1, (cUb (GUb.mk 0 0 0 (GPt.mk 0 0 (A4.mk 0 0 0 0)))), false⟩) (vs := (cUb x12.1)) (H' := ⟨2, [(1, ⟨1, (cUb x12.1), false⟩), (0, ⟨9, ((v7).flatMap cUb), true⟩)]⟩) rfl (eV (v := (Value.agg (cUb x12.1).toArray)) rfl) rfl s_37 rfl rfl (Nat.le_of_ble_eq_true rfl) rfl (by first | exact List.cons_ne_nil _ _ | simp) (by kernel_rfl)) ?_
              refine ado rfl rfl rfl (eas (eV (v := (Bo x12.2)) rfl)) ?_
              refine ake [1, 3, 4, 6, 7, 8, 11, 12, 22, 25] 1 2 (st' := ⟨71, 0, [(1, (LP 0 0)), (3, (I x1.1)), (4, (I x1.2.1)), (6, (GV 0 v7.length)), (7, (I v3)), (8, (I v6)), (11, (NP 1 0)), (12, (Bo x12.2)), (22, (I v3)), (25, (I v6))], [(cDv t0)], ⟨2, [(1, ⟨1, (cUb x12.1), false⟩), (0, ⟨9, ((v7).flatMap cUb), true⟩)]⟩⟩) (by kernel_rfl) (by kernel_rfl) ?_
              show AWp _ _ _ _
              refine aws ?_
              refine awr ?_
              refine ado rfl rfl rfl (ex_makeFunc (vs := [(NP 1 0)]) rfl rfl) ?_
              refine ado rfl rfl rfl (eas (eV (v := (Value.func (Fn.func 45) #[] #[(NP 1 0)])) rfl)) ?_
              refine ake [1, 3, 4, 6, 7, 8, 11, 12, 13, 22, 25] 1 2 (st' := ⟨71, 0, [(1, (LP 0 0)), (3, (I x1.1)), (4, (I x1.2.1)), (6, (GV 0 v7.length)), (7, (I v3)), (8, (I v6)), (11, (NP 1 0)), (12, (Bo x12.2)), (13, (Value.func (Fn.func 45) #[] #[(NP 1 0)])), (22, (I v3)), (25, (I v6))], [(cDv t0)], ⟨2, [(1, ⟨1, (cUb x12.1), false⟩), (0, ⟨9, ((v7).flatMap cUb), true⟩)]⟩⟩) (by kernel_rfl) (by kernel_rfl) ?_
              show AWp _ _ _ _
              refine aws ?_
              rcases Bool.eq_false_or_eq_true (((x12.2 && (x12.1.Guid == x1.1)) && (x12.1.Seat == v6)) == true) with hg14_0 | hg14_0
              · rw [condT hg14_0] at h
                refine awr ?_
                refine ado rfl rfl rfl (emv (eV (v := (Bo x12.2)) rfl)) ?_
                refine ado rfl rfl rfl (emv (eV (v := (Bo x12.2)) rfl)) ?_
                refine agu (v := (NP 1 1)) (x12.2 == true) rfl rfl rfl (fun hc => efa (v := (NP 1 1)) Try.underlying37 rfl s_3 (by decide) rfl rfl) ?_
                refine agu (v := (I x12.1.Guid)) (x12.2 == true) rfl rfl rfl (fun hc => tx_ldF (v := (I x12.1.Guid)) (s := 1) (cdo hc) rfl (part1 Try.underlying3 rfl rfl)) ?_
                refine agu (v := (I x1.1)) (x12.2 == true) rfl rfl rfl (fun hc => emv (eV (v := (I x1.1)) rfl)) ?_
                refine agu (v := (Bo (x12.1.Guid == x1.1))) (x12.2 == true) rfl rfl rfl (fun hc => ex_bin (vx := (I x12.1.Guid)) (vy := (I x1.1)) (cdo hc) (cdo hc) eqlI_ok) ?_
                refine ado rfl rfl rfl (ex_pick rfl pkAnd) ?_
                refine ado rfl rfl rfl (emv (eV (v := (Bo (x12.2 && (x12.1.Guid == x1.1)))) rfl)) ?_
                refine agu (v := (NP 1 2)) ((x12.2 && (x12.1.Guid == x1.1)) == true) rfl rfl rfl (fun hc => efa (v := (NP 1 2)) Try.underlying37 rfl s_3 (by decide) rfl rfl) ?_
                refine agu (v := (I x12.1.Seat)) ((x12.2 && (x12.1.Guid == x1.1)) == true) rfl rfl rfl (fun hc => tx_ldF (v := (I x12.1.Seat)) (s := 1) (cdo hc) rfl (part1 Try.underlying3 rfl rfl)) ?_
                refine agu (v := (I v6)) ((x12.2 && (x12.1.Guid == x1.1)) == true) rfl rfl rfl (fun hc => emv (eV (v := (I v6)) rfl)) ?_
                refine agu (v := (Bo (x12.1.Seat == v6))) ((x12.2 && (x12.1.Guid == x1.1)) == true) rfl rfl rfl (fun hc => ex_bin (vx := (I x12.1.Seat)) (vy := (I v6)) (cdo hc) (cdo hc) eqlI_ok) ?_
                refine ado rfl rfl rfl (ex_pick rfl pkAnd) ?_
                refine ado rfl rfl rfl (emv (eV (v := (Bo ((x12.2 && (x12.1.Guid == x1.1)) && (x12.1.Seat == v6)))) rfl)) ?_
                refine ado rfl rfl (gT rfl hg14_0) (emv (eV (v := (GV 0 v7.length)) rfl)) ?_
                refine ado rfl rfl (gT rfl hg14_0) (emv (eV (v := (Value.func (Fn.func 45) #[] #[(NP 1 0)])) rfl)) ?_
                obtain ⟨x13, hx13, h⟩ := bindS h
                refine ado rfl rfl (gT rfl hg14_0) (ex_callB2 (vs := [(GV 0 v7.length), (Value.func (Fn.func 45) #[] #[(NP 1 0)])]) (vs1 := [(SL 9 cUb v7), (Value.func (Fn.func 45) #[] #[(NP 1 0)])]) (vs' := [(SL 9 cUb v7), (Value.func (Fn.func 45) #[] #[(DP (cUb x12.1))])]) (v := (Bo x13)) (n := 0) (n2 := 1) (b := ⟨9, ((v7).flatMap cUb), true⟩) (b2 := ⟨1, (cUb x12.1), false⟩) rfl en_46 (cargs (evs rfl (evs rfl evs_nil))) rfl rfl (.cons (.inr (.inl (fzaG ce_api_Uber rfl))) (.cons (.inl rfl) .nil)) (.cons (.inl rfl) (.cons (.inr (.inr (.inr (.inr ⟨_, _, _, rfl, rfl, (.cons (.inr ⟨_, rfl, rfl⟩) .nil)⟩)))) .nil)) rfl (ok_slices_ContainsFunc_api_Uber_api_Uber_c45 v7 x12.1 x13 hx13) rfl) ?_
                refine ado rfl rfl (gT rfl hg14_0) (ex_un (vx := (Bo x13)) rfl notB_ok) ?_
                refine ado rfl rfl rfl (ex_pick rfl pkAndD) ?_
                refine ake [1, 3, 4, 6, 7, 11, 22, 25, 61] 1 2 (st' := ⟨71, 0, [(1, (LP 0 0)), (3, (I x1.1)), (4, (I x1.2.1)), (6, (GV 0 v7.length)), (7, (I v3)), (11, (NP 1 0)), (22, (I v3)), (25, (I v6)), (61, (Bo (((x12.2 && (x12.1.Guid == x1.1)) && (x12.1.Seat == v6)) && (!x13))))], [(cDv t0)], ⟨2, [(1, ⟨1, (cUb x12.1), false⟩), (0, ⟨9, ((v7).flatMap cUb), true⟩)]⟩⟩) (by kernel_rfl) (by kernel_rfl) ?_
                show AWp _ _ _ _
                rcases Bool.eq_false_or_eq_true (((x12.2 && (x12.1.Guid == x1.1)) && (x12.1.Seat == v6)) && (!x13)) with hb14 | hb14
                · rw [condT hb14] at h
                  refine awp_condT (boT hb14) ?_
                  refine awr ?_
                  refine ado rfl rfl rfl (emv (eV (v := (GV 0 v7.length)) rfl)) ?_
                  refine ado rfl rfl rfl (tx_ldF (v := (Value.agg (cUb x12.1).toArray)) (s := 1) rfl rfl (partA (vs := (cUb x12.1)) Try.underlying37 rfl s_37 (by decide) (Nat.le_of_ble_eq_true rfl) rfl)) ?_
                  refine ado rfl rfl rfl (ex_buildSliceD (qs := [(0, (Value.agg (cUb x12.1).toArray))]) (cells := (([x12.1] : List GUb).flatMap cUb)) Try.underlying54 s_37 (by decide) (evp rfl evp_nil) rfl (by kernel_rfl) (by kernel_rfl) (by kernel_rfl)) ?_
                  obtain ⟨x15, hx15, h⟩ := bindS h
                  refine ado rfl rfl rfl (tx_appG (c := cUb) (xs := v7) (H' := ⟨2, [(1, ⟨1, (cUb x12.1), false⟩), (0, ⟨9, ((x15).flatMap cUb), true⟩)]⟩) ce_api_Uber e_37 rfl rfl rfl (tsrcD (ys := ([x12.1] : List GUb)) ce_api_Uber Try.underlying54 s_37 Try.underlying54 rfl) hx15 rfl) ?_
                  refine ado rfl rfl rfl (eas (eV (v := (GV 0 x15.length)) rfl)) ?_
                  refine ake [1, 3, 4, 6, 7, 22, 25] 1 1 (st' := ⟨71, 0, [(1, (LP 0 0)), (3, (I x1.1)), (4, (I x1.2.1)), (6, (GV 0 x15.length)), (7, (I v3)), (22, (I v3)), (25, (I v6))], [(cDv t0)], ⟨1, [(0, ⟨9, ((x15).flatMap cUb), true⟩)]⟩⟩) (by kernel_rfl) (by kernel_rfl) ?_
                  exact (Exists.intro x15 (And.intro rfl h))
                · rw [condF hb14] at h
                  refine awp_condF (boF hb14) ?_
                  refine awp_keepE [1, 3, 4, 6, 7, 22, 25] 1 1 (st' := ⟨71, 0, [(1, (LP 0 0)), (3, (I x1.1)), (4, (I x1.2.1)), (6, (GV 0 v7.length)), (7, (I v3)), (22, (I v3)), (25, (I v6))], [(cDv t0)], ⟨1, [(0, ⟨9, ((v7).flatMap cUb), true⟩)]⟩⟩) (by kernel_rfl) (by kernel_rfl) ?_
                  refine awp_skip ?_
                  exact (Exists.intro v7 (And.intro rfl h))
              · rw [condF hg14_0] at h
                refine awr ?_
                refine ado rfl rfl rfl (emv (eV (v := (Bo x12.2)) rfl)) ?_
                refine ado rfl rfl rfl (emv (eV (v := (Bo x12.2)) rfl)) ?_
                refine agu (v := (NP 1 1)) (x12.2 == true) rfl rfl rfl (fun hc => efa (v := (NP 1 1)) Try.underlying37 rfl s_3 (by decide) rfl rfl) ?_
                refine agu (v := (I x12.1.Guid)) (x12.2 == true) rfl rfl rfl (fun hc => tx_ldF (v := (I x12.1.Guid)) (s := 1) (cdo hc) rfl (part1 Try.underlying3 rfl rfl)) ?_
                refine agu (v := (I x1.1)) (x12.2 == true) rfl rfl rfl (fun hc => emv (eV (v := (I x1.1)) rfl)) ?_
                refine agu (v := (Bo (x12.1.Guid == x1.1))) (x12.2 == true) rfl rfl rfl (fun hc => ex_bin (vx := (I x12.1.Guid)) (vy := (I x1.1)) (cdo hc) (cdo hc) eqlI_ok) ?_
                refine ado rfl rfl rfl (ex_pick rfl pkAnd) ?_
                refine ado rfl rfl rfl (emv (eV (v := (Bo (x12.2 && (x12.1.Guid == x1.1)))) rfl)) ?_
                refine agu (v := (NP 1 2)) ((x12.2 && (x12.1.Guid == x1.1)) == true) rfl rfl rfl (fun hc => efa (v := (NP 1 2)) Try.underlying37 rfl s_3 (by decide) rfl rfl) ?_
                refine agu (v := (I x12.1.Seat)) ((x12.2 && (x12.1.Guid == x1.1)) == true) rfl rfl rfl (fun hc => tx_ldF (v := (I x12.1.Seat)) (s := 1) (cdo hc) rfl (part1 Try.underlying3 rfl rfl)) ?_
                refine agu (v := (I v6)) ((x12.2 && (x12.1.Guid == x1.1)) == true) rfl rfl rfl (fun hc => emv (eV (v := (I v6)) rfl)) ?_
                refine agu (v := (Bo (x12.1.Seat == v6))) ((x12.2 && (x12.1.Guid == x1.1)) == true) rfl rfl rfl (fun hc => ex_bin (vx := (I x12.1.Seat)) (vy := (I v6)) (cdo hc) (cdo hc) eqlI_ok) ?_
                refine ado rfl rfl rfl (ex_pick rfl pkAnd) ?_
                refine ado rfl rfl rfl (emv (eV (v := (Bo ((x12.2 && (x12.1.Guid == x1.1)) && (x12.1.Seat == v6)))) rfl)) ?_
                refine arun_skip rfl rfl (gF rfl hg14_0) ?_
                refine arun_skip rfl rfl (gF rfl hg14_0) ?_
                refine arun_skip rfl rfl (gF rfl hg14_0) ?_
                refine arun_skip rfl rfl (gF rfl hg14_0) ?_
                refine ado rfl rfl rfl (ex_pick rfl (pkAndS hg14_0)) ?_
                refine ake [1, 3, 4, 6, 7, 11, 22, 25, 61] 1 2 (st' := ⟨71, 0, [(1, (LP 0 0)), (3, (I x1.1)), (4, (I x1.2.1)), (6, (GV 0 v7.length)), (7, (I v3)), (11, (NP 1 0)), (22, (I v3)), (25, (I v6)), (61, (Bo ((x12.2 && (x12.1.Guid == x1.1)) && (x12.1.Seat == v6))))], [(cDv t0)], ⟨2, [(1, ⟨1, (cUb x12.1), false⟩), (0, ⟨9, ((v7).flatMap cUb), true⟩)]⟩⟩) (by kernel_rfl) (by kernel_rfl) ?_
                show AWp _ _ _ _
                rcases Bool.eq_false_or_eq_true ((x12.2 && (x12.1.Guid == x1.1)) && (x12.1.Seat == v6)) with hb13 | hb13
                · rw [condT hb13] at h
                  refine awp_condT (boT hb13) ?_
                  refine awr ?_
                  refine ado rfl rfl rfl (emv (eV (v := (GV 0 v7.length)) rfl)) ?_
                  refine ado rfl rfl rfl (tx_ldF (v := (Value.agg (cUb x12.1).toArray)) (s := 1) rfl rfl (partA (vs := (cUb x12.1)) Try.underlying37 rfl s_37 (by decide) (Nat.le_of_ble_eq_true rfl) rfl)) ?_
                  refine ado rfl rfl rfl (ex_buildSliceD (qs := [(0, (Value.agg (cUb x12.1).toArray))]) (cells := (([x12.1] : List GUb).flatMap cUb)) Try.underlying54 s_37 (by decide) (evp rfl evp_nil) rfl (by kernel_rfl) (by kernel_rfl) (by kernel_rfl)) ?_
                  obtain ⟨x14, hx14, h⟩ := bindS h
                  refine ado rfl rfl rfl (tx_appG (c := cUb) (xs := v7) (H' := ⟨2, [(1, ⟨1, (cUb x12.1), false⟩), (0, ⟨9, ((x14).flatMap cUb), true⟩)]⟩) ce_api_Uber e_37 rfl rfl rfl (tsrcD (ys := ([x12.1] : List GUb)) ce_api_Uber Try.underlying54 s_37 Try.underlying54 rfl) hx14 rfl) ?_
                  refine ado rfl rfl rfl (eas (eV (v := (GV 0 x14.length)) rfl)) ?_
                  refine ake [1, 3, 4, 6, 7, 22, 25] 1 1 (st' := ⟨71, 0, [(1, (LP 0 0)), (3, (I x1.1)), (4, (I x1.2.1)), (6, (GV 0 x14.length)), (7, (I v3)), (22, (I v3)), (25, (I v6))], [(cDv t0)], ⟨1, [(0, ⟨9, ((x14).flatMap cUb), true⟩)]⟩⟩) (by kernel_rfl) (by kernel_rfl) ?_
                  exact (Exists.intro x14 (And.intro rfl h))
                · rw [condF hb13] at h
                  refine awp_condF (boF hb13) ?_
                  refine awp_keepE [1, 3, 4, 6, 7, 22, 25] 1 1 (st' := ⟨71, 0, [(1, (LP 0 0)), (3, (I x1.1)), (4, (I x1.2.1)), (6, (GV 0 v7.length)), (7, (I v3)), (22, (I v3)), (25, (I v6))], [(cDv t0)], ⟨1, [(0, ⟨9, ((v7).flatMap cUb), true⟩)]⟩⟩) (by kernel_rfl) (by kernel_rfl) ?_
                  refine awp_skip ?_
                  exact (Exists.intro v7 (And.intro rfl h))
            · rintro s ⟨y9, rfl, h⟩
              unfold M_label_Roots_k1 at h
              refine awr ?_
              refine ado rfl rfl rfl (ex_bin (vx := (I v6)) (vy := (I 1)) rfl rfl addI_ok) ?_
              refine ado rfl rfl rfl (emv (eV (v := (I (w64 (v6 + 1)))) rfl)) ?_
              refine ake [1, 3, 4, 6, 7, 22, 25] 1 1 (st' := ⟨71, 0, [(1, (LP 0 0)), (3, (I x1.1)), (4, (I x1.2.1)), (6, (GV 0 y9.length)), (7, (I v3)), (22, (I v3)), (25, (I (w64 (v6 + 1))))], [(cDv t0)], ⟨1, [(0, ⟨9, ((y9).flatMap cUb), true⟩)]⟩⟩) (by kernel_rfl) (by kernel_rfl) ?_
              exact Exists.intro n2 (And.intro (Nat.lt_succ_self _) (Exists.intro (w64 (v6 + 1)) (Exists.intro y9 (And.intro rfl h))))
          · rw [condF hb8] at h
            refine awp_condF (boF hb8) ?_
            refine awp_exit ?_
            show AWp _ _ _ _
            refine awr ?_
            refine ado rfl rfl rfl (ex_bin (vx := (I v3)) (vy := (I 1)) rfl rfl addI_ok) ?_
            refine ado rfl rfl rfl (emv (eV (v := (I (w64 (v3 + 1)))) rfl)) ?_
            refine ake [1, 3, 4, 6, 22] 1 1 (st' := ⟨71, 0, [(1, (LP 0 0)), (3, (I x1.1)), (4, (I x1.2.1)), (6, (GV 0 v7.length)), (22, (I (w64 (v3 + 1))))], [(cDv t0)], ⟨1, [(0, ⟨9, ((v7).flatMap cUb), true⟩)]⟩⟩) (by kernel_rfl) (by kernel_rfl) ?_
            exact Exists.intro n1 (And.intro (Nat.lt_succ_self _) (Exists.intro (w64 (v3 + 1)) (Exists.intro v7 (And.intro rfl h))))
      · rw [condF hb5] at h
        refine awp_condF (boF hb5) ?_
        refine awp_exit ?_
        show AWp _ _ _ _
        refine aws ?_
        refine awr ?_
        refine ado rfl rfl rfl (emv (eV (v := (GV 0 v4.length)) rfl)) ?_
        obtain ⟨x15, hx15, h⟩ := bindS h
        refine ado rfl rfl rfl (ex_callM (vs := [(GV 0 v4.length), (FN 48)]) (vs' := [(GV 0 v4.length), (FN 48)]) (v := (Value.tuple #[])) (n := 0) (b := ⟨9, ((v4).flatMap cUb), true⟩) (b' := ⟨9, ((x15.2).flatMap cUb), true⟩) (H' := ⟨1, [(0, ⟨9, ((x15.2).flatMap cUb), true⟩)]⟩) rfl en_47 (cargs (evs rfl (evs rfl evs_nil))) rfl (.cons (.inr (.inr (.inl ⟨_, rfl, rfl⟩))) (.cons (.inr (.inr (.inr (.inr ⟨_, _, _, rfl, rfl, .nil⟩)))) .nil)) (ok_slices_SortFunc_api_Uber_api_Uber_c48 v4 x15 (withLen_of hx15)) rfl rfl) ?_
        refine ake [6] 0 1 (st' := ⟨71, 0, [(6, (GV 0 v4.length))], [], ⟨1, [(0, ⟨9, ((x15.2).flatMap cUb), true⟩)]⟩⟩) (by kernel_rfl) (by kernel_rfl) ?_
        show AWp _ _ _ _
        refine aws ?_
        refine awr ?_
        refine ado rfl rfl rfl (emv (eV (v := (GV 0 v4.length)) rfl)) ?_
        refine ado rfl rfl rfl (eas (eV (v := (GV 0 v4.length)) rfl)) ?_
        refine ake [2] 0 1 (st' := ⟨71, 0, [(2, (GV 0 v4.length))], [], ⟨1, [(0, ⟨9, ((x15.2).flatMap cUb), true⟩)]⟩⟩) (by kernel_rfl) (by kernel_rfl) ?_
        show AWp _ _ _ _
        refine awp_freeze 0 (bk := ⟨9, ((x15.2).flatMap cUb), true⟩) (T' := [(2, (SL 9 cUb x15.2))]) (L' := []) rfl (fzG ce_api_Uber rfl (withLen_len hx15) FzT.nil) (FzL.refl _) ?_
        show AWp _ _ _ ⟨71, 0, [(2, (SL 9 cUb x15.2))], [], ⟨1, []⟩⟩
        refine awp_ret ?_
        cases h
        exact ares1 (rtmp rfl (eV rfl))

end Go.Proofs
