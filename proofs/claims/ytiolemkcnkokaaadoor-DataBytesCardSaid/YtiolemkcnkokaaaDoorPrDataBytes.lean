/-
  The law DataBytes: for every input the program's law returns true, and what came in reads as it did. No further condition.
-/
import Derived.Test.YtiolemkcnkokaaaDoorRows
import Derived.Test.YtiolemkcnkokaaaDoorCards
import Derived.Test.YtiolemkcnkokaaaDoorTie
import Derived.ChangeVars
import Derived.LaidLaws
import Derived.LaidMore
import Derived.Lay
import Derived.OpenShut
import Derived.Stop.Joined
import Derived.SevenTiedAt
import Derived.Test.YtiolemkcnkokaaaDoorXDataBytes
import Derived.Test.YtiolemkcnkokaaaDoorFZ
namespace Go.Proofs.YtiolemkcnkokaaaDoor.dataBytes
set_option maxRecDepth 20000
open Go.ChangeShapes Go.WideShapes Go.ChangeAt Go.RowKit
open Go.ChangeMaps (open_string shut_string)
open Go.Fhl
set_option linter.unusedVariables false
theorem own : ownKnob Tryd.prog.godebug = none := by kernel_rfl
theorem laidOut : laidOutB Tryd.prog = true := by kernel_rfl
theorem walk {w : World} {base : Nat} {v0 : Value} (k0 : Value.okWide Tryd.prog w .any base 9 v0) {v1 : Value} (k1 : Value.okWide Tryd.prog w .any base 9 v1) {v2 : Value} (k2 : Value.okWide Tryd.prog w .any base 5 v2) {v3 : Value} (k3 : Value.okWide Tryd.prog w .any base 5 v3) {v4 : Value} (k4 : Value.okWide Tryd.prog w .any base 5 v4) {v5 : Value} (k5 : Value.okWide Tryd.prog w .any base 5 v5) :
    Calls Tryd.prog 3 #[v0, v1, v2, v3, v4, v5] w fun e w' => e = .returned (.bool true) ∧ Below w.heap.size w w' := by
  obtain ⟨x0, rfl⟩ := cell_S Tryd.underlying9 (val_cell Tryd.underlying9 rfl k0)
  obtain ⟨x1, rfl⟩ := cell_S Tryd.underlying9 (val_cell Tryd.underlying9 rfl k1)
  obtain ⟨x2, rfl⟩ := cell_U8 Tryd.underlying5 (val_cell Tryd.underlying5 rfl k2)
  obtain ⟨x3, rfl⟩ := cell_U8 Tryd.underlying5 (val_cell Tryd.underlying5 rfl k3)
  obtain ⟨x4, rfl⟩ := cell_U8 Tryd.underlying5 (val_cell Tryd.underlying5 rfl k4)
  obtain ⟨x5, rfl⟩ := cell_U8 Tryd.underlying5 (val_cell Tryd.underlying5 rfl k5)
  exact ffn_below (ok_law15_DataBytes x0 x1 x2 x3 x4 x5 true (law_DataBytes x0 x1 x2 x3 x4 x5)) (.cons (.of_plain rfl) (.cons (.of_plain rfl) (.cons (.of_plain rfl) (.cons (.of_plain rfl) (.cons (.of_plain rfl) (.cons (.of_plain rfl) .nil))))))
theorem met (os : Os) (args : Array Value) : laidMetH Tryd.prog Rows.dataBytesRow.laid ((World.laidAll Tryd.prog os Rows.dataBytesRow.laid).forCall (fun _ _ => 0) ⟨#[], args, []⟩).memory := by
  rw [MakeChecks.laidMetH_plain _ _ _ (by kernel_rfl)]; exact laidMet_laidAll _ (by kernel_rfl) (by kernel_rfl)
set_option maxRecDepth 100000 in
theorem lifted (os : Os) (started : os.Started) (H : Type) (enc : TypeId × Value → H) :
    ReturnsInHanded {} Tryd.checked os 3 .any (fun w args => (Rows.dataBytesSpec.pre enc Tryd.prog Tryd.f3 [] false w args ∧ laidMetH Tryd.prog Rows.dataBytesRow.laid w) ∧ sizedMet enc Tryd.prog Tryd.f3 (OpenSpec.ofChange Rows.dataBytesSpec) false w args)
      (Rows.dataBytesSpec.post enc Tryd.prog Tryd.f3 false true false false) := by
  refine returnsInHanded_of_change_and (C := Tryd.checked) (X := fun w _ => laidMetH Tryd.prog Rows.dataBytesRow.laid w) (fun _ _ _ hh h => h.of_heap hh) own started (by kernel_rfl) Tryd.func3
    (ChangeSpec.witness_shaped (enc := enc) (C := Tryd.checked) (os := os) (X := fun w _ => laidMetH Tryd.prog Rows.dataBytesRow.laid w) false (World.laidAll Tryd.prog os Rows.dataBytesRow.laid) #[.string ByteArray.empty, .string ByteArray.empty, .int .u8 0, .int .u8 0, .int .u8 0, .int .u8 0] 8 (World.laidAll_os _ _ _) (World.shaped_of_ZipB (by kernel_rfl) (by kernel_rfl)) (by kernel_rfl) (by kernel_rfl) (by kernel_rfl) (met os _)) ?_
  intro W base args ds gs before hval0 hW _ _ hL _
  have hval : ∀ (j : Nat) t v, Tryd.f3.params[j]? = some t → args[j]? = some v → Value.okWide Tryd.prog W .any base t v := hval0
  have hW' := hW
  obtain ⟨p, q, hA0, hV, rfl, hfz, hnd⟩ := hW
  have hA : DataW.TrodAll enc Tryd.prog W 0 (fun _ => true) true Tryd.f3.params.toList args.toList ds p := hA0
  rw [Tryd.params3] at hA hval
  obtain ⟨v0, vs0, d0, ds0, p0, q0, hargs, rfl, rfl, h0, r0⟩ := trodAll_cons hA
  obtain ⟨v1, vs1, d1, ds1, p1, q1, rfl, rfl, rfl, h1, r1⟩ := trodAll_cons r0
  obtain ⟨v2, vs2, d2, ds2, p2, q2, rfl, rfl, rfl, h2, r2⟩ := trodAll_cons r1
  obtain ⟨v3, vs3, d3, ds3, p3, q3, rfl, rfl, rfl, h3, r3⟩ := trodAll_cons r2
  obtain ⟨v4, vs4, d4, ds4, p4, q4, rfl, rfl, rfl, h4, r4⟩ := trodAll_cons r3
  obtain ⟨v5, vs5, d5, ds5, p5, q5, rfl, rfl, rfl, h5, r5⟩ := trodAll_cons r4
  obtain ⟨rfl, rfl, rfl⟩ := trodAll_nil r5
  obtain rfl : args = #[v0, v1, v2, v3, v4, v5] := by cases args; simp_all
  obtain ⟨rfl, rfl⟩ := trodVars_none hV
  have k0 := h0
  have lt0 : ∀ x ∈ p0, x.block < W.heap.size := by obtain ⟨m, hm⟩ := k0; exact DataW.trod_lt m _ _ _ hm
  have k1 := h1
  have lt1 : ∀ x ∈ p1, x.block < W.heap.size := by obtain ⟨m, hm⟩ := k1; exact DataW.trod_lt m _ _ _ hm
  have k2 := h2
  have lt2 : ∀ x ∈ p2, x.block < W.heap.size := by obtain ⟨m, hm⟩ := k2; exact DataW.trod_lt m _ _ _ hm
  have k3 := h3
  have lt3 : ∀ x ∈ p3, x.block < W.heap.size := by obtain ⟨m, hm⟩ := k3; exact DataW.trod_lt m _ _ _ hm
  have k4 := h4
  have lt4 : ∀ x ∈ p4, x.block < W.heap.size := by obtain ⟨m, hm⟩ := k4; exact DataW.trod_lt m _ _ _ hm
  have k5 := h5
  have lt5 : ∀ x ∈ p5, x.block < W.heap.size := by obtain ⟨m, hm⟩ := k5; exact DataW.trod_lt m _ _ _ hm
  clear hA0 hval0
  refine (walk (hval 0 9 _ rfl rfl) (hval 1 9 _ rfl rfl) (hval 2 5 _ rfl rfl) (hval 3 5 _ rfl rfl) (hval 4 5 _ rfl rfl) (hval 5 5 _ rfl rfl)).mono fun e W' ⟨he, bel⟩ => ?_
  subst he
  exact ⟨_, rfl, _, _, _, [], _, [], hW', trodAll_mk1 (shut_bool Tryd.underlying4 _), (trodAll_cons_mk (Below.trod laidOut (by kernel_rfl) (of_decide_eq_true (by kernel_rfl)) k0 bel lt0) (trodAll_cons_mk (Below.trod laidOut (by kernel_rfl) (of_decide_eq_true (by kernel_rfl)) k1 bel lt1) (trodAll_cons_mk (Below.trod laidOut (by kernel_rfl) (of_decide_eq_true (by kernel_rfl)) k2 bel lt2) (trodAll_cons_mk (Below.trod laidOut (by kernel_rfl) (of_decide_eq_true (by kernel_rfl)) k3 bel lt3) (trodAll_cons_mk (Below.trod laidOut (by kernel_rfl) (of_decide_eq_true (by kernel_rfl)) k4 bel lt4) (trodAll_cons_mk (Below.trod laidOut (by kernel_rfl) (of_decide_eq_true (by kernel_rfl)) k5 bel lt5) trodAll_mk0)))))), rfl, bel.frame _, fun h => by cases h⟩
theorem over : Rows.dataBytesRow.holds Tryd.pinned (OpenSpec.ofChange Rows.dataBytesSpec) :=
  OpenClaim.holds_of_wide 3 Tryd.f3 rfl rfl rfl rfl rfl rfl rfl ⟨rfl, rfl, rfl, rfl, rfl⟩ rfl rfl rfl rfl rfl (by kernel_rfl) Tryd.func3 (by kernel_rfl)
    (of_decide_eq_true (by kernel_rfl)) (by unfold Func.isWrapper; first | (rw [if_pos (by decide +kernel)]; kernel_rfl) | (rw [if_neg (by decide +kernel)]; exact ⟨rfl, rfl⟩))
    (fun os started H enc _ => lifted os started H enc)
theorem proved : Rows.DataBytesCardSaid :=
  Claim7.holds_tied_plain_at .later [] [.data, .pinned] true (true, "917cf72f38a19c7e6aab5cb2af81ea927b9f24b098e55c6206a2c847469cfb2e") false
    over (fun _ h => by cases h) (by kernel_rfl) (fun _ h => by cases h) dataBytes_row_tie rfl ⟨rfl, rfl⟩ (by kernel_rfl) rfl
    (fun f fn hf hfn => by
      obtain rfl : f = 3 := Option.some.inj ((show Tryd.prog.funcNamed "palimp/palimplaw15.DataBytes" = some 3 by kernel_rfl).symm.trans hf) |>.symm
      obtain rfl : fn = Tryd.f3 := (Option.some.inj (Tryd.func3.symm.trans hfn)).symm
      exact ⟨by kernel_rfl, fun j t ht => by
        rw [Tryd.params3] at ht
        have hm : t ∈ ([9, 9, 5, 5, 5, 5] : List TypeId) := by simpa using Array.mem_of_getElem? ht
        have hall : (([9, 9, 5, 5, 5, 5] : List TypeId).all fun u => !Tryd.prog.wantsStandIn u) = true := by kernel_rfl
        exact (show Tryd.prog.wantsStandIn t = false by simpa using List.all_eq_true.1 hall t hm)⟩)
    (by kernel_rfl)
#print axioms proved
end Go.Proofs.YtiolemkcnkokaaaDoor.dataBytes
