/-
  The law LabelAll: for every input the program's law returns true, and what came in reads as it did. No further condition.
-/
import Derived.Test.YtmhfodjiefednaaRows
import Derived.Test.YtmhfodjiefednaaXLabelAll
import Derived.Test.YtmhfodjiefednaaR7WLabelAll
import Derived.Test.YtmhfodjiefednaaFZ
import Derived.Test.YtmhfodjiefednaaGD
namespace Go.Proofs.Ytmhfodjiefednaa.labelAll
set_option maxRecDepth 20000
open Go.ChangeShapes Go.WideShapes Go.ChangeAt Go.RowKit
open Go.ChangeMaps (open_string shut_string)
open Go.Fhl
set_option linter.unusedVariables false
theorem own : ownKnob Try.prog.godebug = none := by kernel_rfl
theorem laidOut : laidOutB Try.prog = true := by kernel_rfl
theorem walk {w : World} {base : Nat} {v0 : Value} (k0 : Value.okWide Try.prog w .any base 3 v0) {v1 : Value} (k1 : Value.okWide Try.prog w .any base 3 v1) {v2 : Value} (k2 : Value.okWide Try.prog w .any base 3 v2) {a3 : Option Addr} {len3 cap3 : Nat} (w3 : Go.Fhl.IsRow4 w a3 len3 cap3) {v4 : Value} (k4 : Value.okWide Try.prog w .any base 5 v4) {v5 : Value} (k5 : Value.okWide Try.prog w .any base 5 v5) {v6 : Value} (k6 : Value.okWide Try.prog w .any base 5 v6) {v7 : Value} (k7 : Value.okWide Try.prog w .any base 5 v7) :
    Calls Try.prog 3 #[v0, v1, v2, .slice a3 len3 cap3, v4, v5, v6, v7] w fun e w' => e = .returned (.bool true) ∧ Below w.heap.size w w' := by
  obtain ⟨x0, rfl⟩ := cell_I Try.underlying3 (val_cell Try.underlying3 rfl k0)
  obtain ⟨x1, rfl⟩ := cell_I Try.underlying3 (val_cell Try.underlying3 rfl k1)
  obtain ⟨x2, rfl⟩ := cell_I Try.underlying3 (val_cell Try.underlying3 rfl k2)
  obtain ⟨x3, _, r3⟩ := arr4_in w3
  obtain ⟨x4, rfl⟩ := cell_U8 Try.underlying5 (val_cell Try.underlying5 rfl k4)
  obtain ⟨x5, rfl⟩ := cell_U8 Try.underlying5 (val_cell Try.underlying5 rfl k5)
  obtain ⟨x6, rfl⟩ := cell_U8 Try.underlying5 (val_cell Try.underlying5 rfl k6)
  obtain ⟨x7, rfl⟩ := cell_U8 Try.underlying5 (val_cell Try.underlying5 rfl k7)
  exact ffn_below (ok_law7_LabelAll x0 x1 x2 x3 x4 x5 x6 x7 true (law_LabelAll x0 x1 x2 x3 x4 x5 x6 x7)) (.cons (.of_plain rfl) (.cons (.of_plain rfl) (.cons (.of_plain rfl) (.cons r3 (.cons (.of_plain rfl) (.cons (.of_plain rfl) (.cons (.of_plain rfl) (.cons (.of_plain rfl) .nil))))))))
set_option maxRecDepth 100000 in
theorem lifted (os : Os) (started : os.Started) (H : Type) (enc : TypeId × Value → H) :
    ReturnsInHanded {} Try.checked os 3 .any (Rows.labelAllSpec.pre6 enc Try.prog Try.f3 Rows.labelAllRow.domain false) (Rows.labelAllSpec.post enc Try.prog Try.f3 false true false false) := by
  refine returnsInHanded_of_change (C := Try.checked) own started (by kernel_rfl) Try.func3
    (ChangeSpec.witness6 (enc := enc) (C := Try.checked) false ⟨#[], #[.int .i64 0, .int .i64 0, .int .i64 0, .slice none 0 0, .int .u8 0, .int .u8 0, .int .u8 0, .int .u8 0], []⟩ 8 (by kernel_rfl) (by kernel_rfl) (by kernel_rfl) (by kernel_rfl)) ?_
  intro W base args ds gs before hval0 hW hcnd _
  have hval : ∀ (j : Nat) t v, Try.f3.params[j]? = some t → args[j]? = some v → Value.okWide Try.prog W .any base t v := hval0
  have hW' := hW
  obtain ⟨p, q, hA0, hV, rfl, hfz, hnd⟩ := hW
  have hA : DataW.TrodAll enc Try.prog W 0 (fun _ => true) true Try.f3.params.toList args.toList ds p := hA0
  rw [Try.params3] at hA hval
  obtain ⟨v0, vs0, d0, ds0, p0, q0, hargs, rfl, rfl, h0, r0⟩ := trodAll_cons hA
  obtain ⟨v1, vs1, d1, ds1, p1, q1, rfl, rfl, rfl, h1, r1⟩ := trodAll_cons r0
  obtain ⟨v2, vs2, d2, ds2, p2, q2, rfl, rfl, rfl, h2, r2⟩ := trodAll_cons r1
  obtain ⟨v3, vs3, d3, ds3, p3, q3, rfl, rfl, rfl, h3, r3⟩ := trodAll_cons r2
  obtain ⟨v4, vs4, d4, ds4, p4, q4, rfl, rfl, rfl, h4, r4⟩ := trodAll_cons r3
  obtain ⟨v5, vs5, d5, ds5, p5, q5, rfl, rfl, rfl, h5, r5⟩ := trodAll_cons r4
  obtain ⟨v6, vs6, d6, ds6, p6, q6, rfl, rfl, rfl, h6, r6⟩ := trodAll_cons r5
  obtain ⟨v7, vs7, d7, ds7, p7, q7, rfl, rfl, rfl, h7, r7⟩ := trodAll_cons r6
  obtain ⟨rfl, rfl, rfl⟩ := trodAll_nil r7
  obtain rfl : args = #[v0, v1, v2, v3, v4, v5, v6, v7] := by cases args; simp_all
  obtain ⟨rfl, rfl⟩ := trodVars_none hV
  have k0 := h0
  have lt0 : ∀ x ∈ p0, x.block < W.heap.size := by obtain ⟨m, hm⟩ := k0; exact DataW.trod_lt m _ _ _ hm
  have k1 := h1
  have lt1 : ∀ x ∈ p1, x.block < W.heap.size := by obtain ⟨m, hm⟩ := k1; exact DataW.trod_lt m _ _ _ hm
  have k2 := h2
  have lt2 : ∀ x ∈ p2, x.block < W.heap.size := by obtain ⟨m, hm⟩ := k2; exact DataW.trod_lt m _ _ _ hm
  have k3 := h3
  have lt3 : ∀ x ∈ p3, x.block < W.heap.size := by obtain ⟨m, hm⟩ := k3; exact DataW.trod_lt m _ _ _ hm
  obtain ⟨a3, len3, cap3, rfl⟩ := okWide_slice Try.underlying22 (hval 3 22 v3 rfl rfl)
  have w3 : Go.Fhl.IsRow4 W a3 len3 cap3 := by
    obtain ⟨fuel, hf⟩ := h3
    obtain ⟨a9, len9, cap9, hcs, hr⟩ := open_row4 Try.underlying22 Try.underlying39 Try.underlying5 (by kernel_rfl) (by kernel_rfl) hf
    simp [Value.cells] at hcs
    obtain ⟨rfl, rfl, rfl⟩ := hcs
    exact hr
  have k4 := h4
  have lt4 : ∀ x ∈ p4, x.block < W.heap.size := by obtain ⟨m, hm⟩ := k4; exact DataW.trod_lt m _ _ _ hm
  have k5 := h5
  have lt5 : ∀ x ∈ p5, x.block < W.heap.size := by obtain ⟨m, hm⟩ := k5; exact DataW.trod_lt m _ _ _ hm
  have k6 := h6
  have lt6 : ∀ x ∈ p6, x.block < W.heap.size := by obtain ⟨m, hm⟩ := k6; exact DataW.trod_lt m _ _ _ hm
  have k7 := h7
  have lt7 : ∀ x ∈ p7, x.block < W.heap.size := by obtain ⟨m, hm⟩ := k7; exact DataW.trod_lt m _ _ _ hm
  clear hA0 hval0
  refine (walk (hval 0 3 _ rfl rfl) (hval 1 3 _ rfl rfl) (hval 2 3 _ rfl rfl) w3 (hval 4 5 _ rfl rfl) (hval 5 5 _ rfl rfl) (hval 6 5 _ rfl rfl) (hval 7 5 _ rfl rfl)).mono fun e W' ⟨he, bel⟩ => ?_
  subst he
  exact ⟨_, rfl, _, _, _, [], _, [], hW', trodAll_mk1 (shut_bool Try.underlying4 _), (trodAll_cons_mk (Below.trod laidOut (by kernel_rfl) (of_decide_eq_true (by kernel_rfl)) k0 bel lt0) (trodAll_cons_mk (Below.trod laidOut (by kernel_rfl) (of_decide_eq_true (by kernel_rfl)) k1 bel lt1) (trodAll_cons_mk (Below.trod laidOut (by kernel_rfl) (of_decide_eq_true (by kernel_rfl)) k2 bel lt2) (trodAll_cons_mk (Below.trod laidOut (by kernel_rfl) (of_decide_eq_true (by kernel_rfl)) k3 bel lt3) (trodAll_cons_mk (Below.trod laidOut (by kernel_rfl) (of_decide_eq_true (by kernel_rfl)) k4 bel lt4) (trodAll_cons_mk (Below.trod laidOut (by kernel_rfl) (of_decide_eq_true (by kernel_rfl)) k5 bel lt5) (trodAll_cons_mk (Below.trod laidOut (by kernel_rfl) (of_decide_eq_true (by kernel_rfl)) k6 bel lt6) (trodAll_cons_mk (Below.trod laidOut (by kernel_rfl) (of_decide_eq_true (by kernel_rfl)) k7 bel lt7) trodAll_mk0)))))))), rfl, bel.frame _, fun h => by cases h⟩
theorem over : Rows.labelAllRow.holds Try.pinned (OpenSpec.ofChange Rows.labelAllSpec) :=
  OpenClaim.holds_of_wide 3 Try.f3 rfl rfl rfl rfl rfl rfl rfl ⟨rfl, rfl, rfl, rfl, rfl⟩ rfl rfl rfl rfl rfl (by kernel_rfl) Try.func3 (by kernel_rfl)
    (of_decide_eq_true (by kernel_rfl)) (by unfold Func.isWrapper; first | (rw [if_pos (by decide +kernel)]; kernel_rfl) | (rw [if_neg (by decide +kernel)]; exact ⟨rfl, rfl⟩))
    (fun os started H enc _ => lifted os started H enc)
theorem proved : Rows.LabelAllSaid := over
#print axioms proved
end Go.Proofs.Ytmhfodjiefednaa.labelAll
