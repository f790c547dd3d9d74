/-
  The law LabelOne: for every input the program's law returns true, and what came in reads as it did. No further condition.
-/
import Derived.Test.YtmhfodjiefednaaRows
import Derived.Test.YtmhfodjiefednaaXLabelOne
import Derived.Test.YtmhfodjiefednaaFZ
namespace Go.Proofs.Ytmhfodjiefednaa.labelOne
set_option maxRecDepth 20000
open Go.ChangeShapes Go.WideShapes Go.ChangeAt Go.RowKit
open Go.ChangeMaps (open_string shut_string)
open Go.Fhl
set_option linter.unusedVariables false
theorem own : ownKnob Try.prog.godebug = none := by kernel_rfl
theorem laidOut : laidOutB Try.prog = true := by kernel_rfl
theorem walk {w : World} {base : Nat} {v0 : Value} (k0 : Value.okWide Try.prog w .any base 39 v0) {v1 : Value} (k1 : Value.okWide Try.prog w .any base 5 v1) :
    Calls Try.prog 4 #[v0, v1] w fun e w' => e = .returned (.bool true) ∧ Below w.heap.size w w' := by
  obtain ⟨cs, rfl, hl⟩ := val_agg (ts := [5, 5, 5, 5]) Try.underlying39 rfl (by kernel_rfl) (by kernel_rfl) k0
  obtain ⟨c0_0, l0_0, e0_0, q0_0, hl⟩ := hl.cons_inv
  obtain ⟨n0_0, rfl⟩ := cell_U8 Try.underlying5 q0_0
  obtain ⟨c0_1, l0_1, e0_1, q0_1, hl⟩ := hl.cons_inv
  obtain ⟨n0_1, rfl⟩ := cell_U8 Try.underlying5 q0_1
  obtain ⟨c0_2, l0_2, e0_2, q0_2, hl⟩ := hl.cons_inv
  obtain ⟨n0_2, rfl⟩ := cell_U8 Try.underlying5 q0_2
  obtain ⟨c0_3, l0_3, e0_3, q0_3, hl⟩ := hl.cons_inv
  obtain ⟨n0_3, rfl⟩ := cell_U8 Try.underlying5 q0_3
  have ez0 := hl.nil_inv
  subst ez0
  rw [e0_3] at e0_2
  rw [e0_2] at e0_1
  rw [e0_1] at e0_0
  obtain rfl := arr_of e0_0
  obtain ⟨x1, rfl⟩ := cell_U8 Try.underlying5 (val_cell Try.underlying5 rfl k1)
  exact ffn_below (ok_law7_LabelOne (A4.mk n0_0 n0_1 n0_2 n0_3) x1 true (law_LabelOne (A4.mk n0_0 n0_1 n0_2 n0_3) x1)) (.cons (.of_plain rfl) (.cons (.of_plain rfl) .nil))
set_option maxRecDepth 100000 in
theorem lifted (os : Os) (started : os.Started) (H : Type) (enc : TypeId × Value → H) :
    ReturnsInHanded {} Try.checked os 4 .any (Rows.labelOneSpec.pre6 enc Try.prog Try.f4 Rows.labelOneRow.domain false) (Rows.labelOneSpec.post enc Try.prog Try.f4 false true false false) := by
  refine returnsInHanded_of_change (C := Try.checked) own started (by kernel_rfl) Try.func4
    (ChangeSpec.witness6 (enc := enc) (C := Try.checked) false ⟨#[], #[.agg #[.int .u8 0, .int .u8 0, .int .u8 0, .int .u8 0], .int .u8 0], []⟩ 8 (by kernel_rfl) (by kernel_rfl) (by kernel_rfl) (by kernel_rfl)) ?_
  intro W base args ds gs before hval0 hW hcnd _
  have hval : ∀ (j : Nat) t v, Try.f4.params[j]? = some t → args[j]? = some v → Value.okWide Try.prog W .any base t v := hval0
  have hW' := hW
  obtain ⟨p, q, hA0, hV, rfl, hfz, hnd⟩ := hW
  have hA : DataW.TrodAll enc Try.prog W 0 (fun _ => true) true Try.f4.params.toList args.toList ds p := hA0
  rw [Try.params4] at hA hval
  obtain ⟨v0, vs0, d0, ds0, p0, q0, hargs, rfl, rfl, h0, r0⟩ := trodAll_cons hA
  obtain ⟨v1, vs1, d1, ds1, p1, q1, rfl, rfl, rfl, h1, r1⟩ := trodAll_cons r0
  obtain ⟨rfl, rfl, rfl⟩ := trodAll_nil r1
  obtain rfl : args = #[v0, v1] := by cases args; simp_all
  obtain ⟨rfl, rfl⟩ := trodVars_none hV
  have k0 := h0
  have lt0 : ∀ x ∈ p0, x.block < W.heap.size := by obtain ⟨m, hm⟩ := k0; exact DataW.trod_lt m _ _ _ hm
  have k1 := h1
  have lt1 : ∀ x ∈ p1, x.block < W.heap.size := by obtain ⟨m, hm⟩ := k1; exact DataW.trod_lt m _ _ _ hm
  clear hA0 hval0
  refine (walk (hval 0 39 _ rfl rfl) (hval 1 5 _ rfl rfl)).mono fun e W' ⟨he, bel⟩ => ?_
  subst he
  exact ⟨_, rfl, _, _, _, [], _, [], hW', trodAll_mk1 (shut_bool Try.underlying4 _), (trodAll_cons_mk (Below.trod laidOut (by kernel_rfl) (of_decide_eq_true (by kernel_rfl)) k0 bel lt0) (trodAll_cons_mk (Below.trod laidOut (by kernel_rfl) (of_decide_eq_true (by kernel_rfl)) k1 bel lt1) trodAll_mk0)), rfl, bel.frame _, fun h => by cases h⟩
theorem over : Rows.labelOneRow.holds Try.pinned (OpenSpec.ofChange Rows.labelOneSpec) :=
  OpenClaim.holds_of_wide 4 Try.f4 rfl rfl rfl rfl rfl rfl rfl ⟨rfl, rfl, rfl, rfl, rfl⟩ rfl rfl rfl rfl rfl (by kernel_rfl) Try.func4 (by kernel_rfl)
    (of_decide_eq_true (by kernel_rfl)) (by unfold Func.isWrapper; first | (rw [if_pos (by decide +kernel)]; kernel_rfl) | (rw [if_neg (by decide +kernel)]; exact ⟨rfl, rfl⟩))
    (fun os started H enc _ => lifted os started H enc)
theorem proved : Rows.LabelOneSaid := over
#print axioms proved
end Go.Proofs.Ytmhfodjiefednaa.labelOne
