/-
  The law LabelHalves: for every input the program's law returns true, and what came in reads as it did. No further condition.
-/
import Derived.Test.YtmhfodjiefednaaRows
import Derived.Test.YtmhfodjiefednaaXLabelHalves
import Derived.Test.YtmhfodjiefednaaFZ
namespace Go.Proofs.Ytmhfodjiefednaa.labelHalves
set_option maxRecDepth 20000
open Go.ChangeShapes Go.WideShapes Go.ChangeAt Go.RowKit
open Go.ChangeMaps (open_string shut_string)
open Go.Fhl
set_option linter.unusedVariables false
theorem own : ownKnob Try.prog.godebug = none := by kernel_rfl
theorem laidOut : laidOutB Try.prog = true := by kernel_rfl
theorem walk {w : World} {base : Nat} {v0 : Value} (k0 : Value.okWide Try.prog w .any base 5 v0) {v1 : Value} (k1 : Value.okWide Try.prog w .any base 39 v1) :
    Calls Try.prog 8 #[v0, v1] w fun e w' => e = .returned (.bool true) ∧ Below w.heap.size w w' := by
  obtain ⟨x0, rfl⟩ := cell_U8 Try.underlying5 (val_cell Try.underlying5 rfl k0)
  obtain ⟨cs, rfl, hl⟩ := val_agg (ts := [5, 5, 5, 5]) Try.underlying39 rfl (by kernel_rfl) (by kernel_rfl) k1
  obtain ⟨c1_0, l1_0, e1_0, q1_0, hl⟩ := hl.cons_inv
  obtain ⟨n1_0, rfl⟩ := cell_U8 Try.underlying5 q1_0
  obtain ⟨c1_1, l1_1, e1_1, q1_1, hl⟩ := hl.cons_inv
  obtain ⟨n1_1, rfl⟩ := cell_U8 Try.underlying5 q1_1
  obtain ⟨c1_2, l1_2, e1_2, q1_2, hl⟩ := hl.cons_inv
  obtain ⟨n1_2, rfl⟩ := cell_U8 Try.underlying5 q1_2
  obtain ⟨c1_3, l1_3, e1_3, q1_3, hl⟩ := hl.cons_inv
  obtain ⟨n1_3, rfl⟩ := cell_U8 Try.underlying5 q1_3
  have ez1 := hl.nil_inv
  subst ez1
  rw [e1_3] at e1_2
  rw [e1_2] at e1_1
  rw [e1_1] at e1_0
  obtain rfl := arr_of e1_0
  exact ffn_below (ok_law7_LabelHalves x0 (A4.mk n1_0 n1_1 n1_2 n1_3) true (law_LabelHalves x0 (A4.mk n1_0 n1_1 n1_2 n1_3))) (.cons (.of_plain rfl) (.cons (.of_plain rfl) .nil))
set_option maxRecDepth 100000 in
theorem lifted (os : Os) (started : os.Started) (H : Type) (enc : TypeId × Value → H) :
    ReturnsInHanded {} Try.checked os 8 .any (Rows.labelHalvesSpec.pre6 enc Try.prog Try.f8 Rows.labelHalvesRow.domain false) (Rows.labelHalvesSpec.post enc Try.prog Try.f8 false true false false) := by
  refine returnsInHanded_of_change (C := Try.checked) own started (by kernel_rfl) Try.func8
    (ChangeSpec.witness6 (enc := enc) (C := Try.checked) false ⟨#[], #[.int .u8 0, .agg #[.int .u8 0, .int .u8 0, .int .u8 0, .int .u8 0]], []⟩ 8 (by kernel_rfl) (by kernel_rfl) (by kernel_rfl) (by kernel_rfl)) ?_
  intro W base args ds gs before hval0 hW hcnd _
  have hval : ∀ (j : Nat) t v, Try.f8.params[j]? = some t → args[j]? = some v → Value.okWide Try.prog W .any base t v := hval0
  have hW' := hW
  obtain ⟨p, q, hA0, hV, rfl, hfz, hnd⟩ := hW
  have hA : DataW.TrodAll enc Try.prog W 0 (fun _ => true) true Try.f8.params.toList args.toList ds p := hA0
  rw [Try.params8] at hA hval
  obtain ⟨v0, vs0, d0, ds0, p0, q0, hargs, rfl, rfl, h0, r0⟩ := trodAll_cons hA
  obtain ⟨v1, vs1, d1, ds1, p1, q1, rfl, rfl, rfl, h1, r1⟩ := trodAll_cons r0
  obtain ⟨rfl, rfl, rfl⟩ := trodAll_nil r1
  obtain rfl : args = #[v0, v1] := by cases args; simp_all
  obtain ⟨rfl, rfl⟩ := trodVars_none hV
  have k0 := h0
  have lt0 : ∀ x ∈ p0, x.block < W.heap.size := by obtain ⟨m, hm⟩ := k0; exact DataW.trod_lt m _ _ _ hm
  have k1 := h1
  have lt1 : ∀ x ∈ p1, x.block < W.heap.size := by obtain ⟨m, hm⟩ := k1; exact DataW.trod_lt m _ _ _ hm
  clear hA0 hval0
  refine (walk (hval 0 5 _ rfl rfl) (hval 1 39 _ rfl rfl)).mono fun e W' ⟨he, bel⟩ => ?_
  subst he
  exact ⟨_, rfl, _, _, _, [], _, [], hW', trodAll_mk1 (shut_bool Try.underlying4 _), (trodAll_cons_mk (Below.trod laidOut (by kernel_rfl) (of_decide_eq_true (by kernel_rfl)) k0 bel lt0) (trodAll_cons_mk (Below.trod laidOut (by kernel_rfl) (of_decide_eq_true (by kernel_rfl)) k1 bel lt1) trodAll_mk0)), rfl, bel.frame _, fun h => by cases h⟩
theorem over : Rows.labelHalvesRow.holds Try.pinned (OpenSpec.ofChange Rows.labelHalvesSpec) :=
  OpenClaim.holds_of_wide 8 Try.f8 rfl rfl rfl rfl rfl rfl rfl ⟨rfl, rfl, rfl, rfl, rfl⟩ rfl rfl rfl rfl rfl (by kernel_rfl) Try.func8 (by kernel_rfl)
    (of_decide_eq_true (by kernel_rfl)) (by unfold Func.isWrapper; first | (rw [if_pos (by decide +kernel)]; kernel_rfl) | (rw [if_neg (by decide +kernel)]; exact ⟨rfl, rfl⟩))
    (fun os started H enc _ => lifted os started H enc)
theorem proved : Rows.LabelHalvesSaid := over
#print axioms proved
end Go.Proofs.Ytmhfodjiefednaa.labelHalves
