/-
  The law BlockAll: for every input the program's law returns true, and what came in reads as it did. No further condition.
-/
import Derived.Test.YtjpgcfniahaelaaRows
import Derived.Test.YtjpgcfniahaelaaLc
import Derived.Test.YtjpgcfniahaelaaFZ
namespace Go.Proofs.Ytjpgcfniahaelaa.blockAll
set_option maxRecDepth 20000
open Go.ChangeShapes Go.WideShapes Go.ChangeAt Go.RowKit
open Go.ChangeMaps (open_string shut_string)
open Go.Fhl
set_option linter.unusedVariables false
theorem own : ownKnob Try.prog.godebug = none := by kernel_rfl
theorem laidOut : laidOutB Try.prog = true := by kernel_rfl
theorem walk {w : World} {base : Nat} {v0 : Value} (k0 : Value.okWide Try.prog w .any base 23 v0) {v1 : Value} (k1 : Value.okWide Try.prog w .any base 5 v1) {v2 : Value} (k2 : Value.okWide Try.prog w .any base 5 v2) {v3 : Value} (k3 : Value.okWide Try.prog w .any base 9 v3) {v4 : Value} (k4 : Value.okWide Try.prog w .any base 9 v4) {v5 : Value} (k5 : Value.okWide Try.prog w .any base 5 v5) {v6 : Value} (k6 : Value.okWide Try.prog w .any base 5 v6) {v7 : Value} (k7 : Value.okWide Try.prog w .any base 3 v7) {v8 : Value} (k8 : Value.okWide Try.prog w .any base 3 v8) :
    Calls Try.prog 3 #[v0, v1, v2, v3, v4, v5, v6, v7, v8] w fun e w' => e = .returned (.bool true) ∧ Below w.heap.size w w' := by
  obtain ⟨cs, rfl, hl⟩ := val_agg (ts := [3, 3, 9]) Try.underlying23 rfl (by kernel_rfl) (by kernel_rfl) k0
  obtain ⟨c0_0, l0_0, e0_0, q0_0, hl⟩ := hl.cons_inv
  obtain ⟨n0_0, rfl⟩ := cell_I Try.underlying3 q0_0
  obtain ⟨c0_1, l0_1, e0_1, q0_1, hl⟩ := hl.cons_inv
  obtain ⟨n0_1, rfl⟩ := cell_I Try.underlying3 q0_1
  obtain ⟨c0_2, l0_2, e0_2, q0_2, hl⟩ := hl.cons_inv
  obtain ⟨n0_2, rfl⟩ := cell_S Try.underlying9 q0_2
  have ez0 := hl.nil_inv
  subst ez0
  rw [e0_2] at e0_1
  rw [e0_1] at e0_0
  obtain rfl := arr_of e0_0
  obtain ⟨x1, rfl⟩ := cell_U8 Try.underlying5 (val_cell Try.underlying5 rfl k1)
  obtain ⟨x2, rfl⟩ := cell_U8 Try.underlying5 (val_cell Try.underlying5 rfl k2)
  obtain ⟨x3, rfl⟩ := cell_S Try.underlying9 (val_cell Try.underlying9 rfl k3)
  obtain ⟨x4, rfl⟩ := cell_S Try.underlying9 (val_cell Try.underlying9 rfl k4)
  obtain ⟨x5, rfl⟩ := cell_U8 Try.underlying5 (val_cell Try.underlying5 rfl k5)
  obtain ⟨x6, rfl⟩ := cell_U8 Try.underlying5 (val_cell Try.underlying5 rfl k6)
  obtain ⟨x7, rfl⟩ := cell_I Try.underlying3 (val_cell Try.underlying3 rfl k7)
  obtain ⟨x8, rfl⟩ := cell_I Try.underlying3 (val_cell Try.underlying3 rfl k8)
  exact ffn_below (ok_law5_BlockAll (G_api_Block.mk n0_0 n0_1 n0_2) x1 x2 x3 x4 x5 x6 x7 x8 true (law_BlockAll (G_api_Block.mk n0_0 n0_1 n0_2) x1 x2 x3 x4 x5 x6 x7 x8)) (.cons (.of_plain rfl) (.cons (.of_plain rfl) (.cons (.of_plain rfl) (.cons (.of_plain rfl) (.cons (.of_plain rfl) (.cons (.of_plain rfl) (.cons (.of_plain rfl) (.cons (.of_plain rfl) (.cons (.of_plain rfl) .nil)))))))))
set_option maxRecDepth 100000 in
theorem lifted (os : Os) (started : os.Started) (H : Type) (enc : TypeId × Value → H) :
    ReturnsInHanded {} Try.checked os 3 .any (Rows.blockAllSpec.pre6 enc Try.prog Try.f3 Rows.blockAllRow.domain false) (Rows.blockAllSpec.post enc Try.prog Try.f3 false true false false) := by
  refine returnsInHanded_of_change (C := Try.checked) own started (by kernel_rfl) Try.func3
    (ChangeSpec.witness6 (enc := enc) (C := Try.checked) false ⟨#[], #[.agg #[.int .i64 0, .int .i64 0, .string ByteArray.empty], .int .u8 0, .int .u8 0, .string ByteArray.empty, .string ByteArray.empty, .int .u8 0, .int .u8 0, .int .i64 0, .int .i64 0], []⟩ 8 (by kernel_rfl) (by kernel_rfl) (by kernel_rfl) (by kernel_rfl)) ?_
  intro W base args ds gs before hval0 hW hcnd _
  have hval : ∀ (j : Nat) t v, Try.f3.params[j]? = some t → args[j]? = some v → Value.okWide Try.prog W .any base t v := hval0
  have hW' := hW
  obtain ⟨p, q, hA0, hV, rfl, hfz, hnd⟩ := hW
  have hA : DataW.TrodAll enc Try.prog W 0 (fun _ => true) true Try.f3.params.toList args.toList ds p := hA0
  rw [Try.params3] at hA hval
  obtain ⟨v0, vs0, d0, ds0, p0, q0, hargs, rfl, rfl, h0, r0⟩ := trodAll_cons hA
  obtain ⟨v1, vs1, d1, ds1, p1, q1, rfl, rfl, rfl, h1, r1⟩ := trodAll_cons r0
  obtain ⟨v2, vs2, d2, ds2, p2, q2, rfl, rfl, rfl, h2, r2⟩ := trodAll_cons r1
  obtain ⟨v3, vs3, d3, ds3, p3, q3, rfl, rfl, rfl, h3, r3⟩ := trodAll_cons r2
  obtain ⟨v4, vs4, d4, ds4, p4, q4, rfl, rfl, rfl, h4, r4⟩ := trodAll_cons r3
  obtain ⟨v5, vs5, d5, ds5, p5, q5, rfl, rfl, rfl, h5, r5⟩ := trodAll_cons r4
  obtain ⟨v6, vs6, d6, ds6, p6, q6, rfl, rfl, rfl, h6, r6⟩ := trodAll_cons r5
  obtain ⟨v7, vs7, d7, ds7, p7, q7, rfl, rfl, rfl, h7, r7⟩ := trodAll_cons r6
  obtain ⟨v8, vs8, d8, ds8, p8, q8, rfl, rfl, rfl, h8, r8⟩ := trodAll_cons r7
  obtain ⟨rfl, rfl, rfl⟩ := trodAll_nil r8
  obtain rfl : args = #[v0, v1, v2, v3, v4, v5, v6, v7, v8] := by cases args; simp_all
  obtain ⟨rfl, rfl⟩ := trodVars_none hV
  have k0 := h0
  have lt0 : ∀ x ∈ p0, x.block < W.heap.size := by obtain ⟨m, hm⟩ := k0; exact DataW.trod_lt m _ _ _ hm
  have k1 := h1
  have lt1 : ∀ x ∈ p1, x.block < W.heap.size := by obtain ⟨m, hm⟩ := k1; exact DataW.trod_lt m _ _ _ hm
  have k2 := h2
  have lt2 : ∀ x ∈ p2, x.block < W.heap.size := by obtain ⟨m, hm⟩ := k2; exact DataW.trod_lt m _ _ _ hm
  have k3 := h3
  have lt3 : ∀ x ∈ p3, x.block < W.heap.size := by obtain ⟨m, hm⟩ := k3; exact DataW.trod_lt m _ _ _ hm
  have k4 := h4
  have lt4 : ∀ x ∈ p4, x.block < W.heap.size := by obtain ⟨m, hm⟩ := k4; exact DataW.trod_lt m _ _ _ hm
  have k5 := h5
  have lt5 : ∀ x ∈ p5, x.block < W.heap.size := by obtain ⟨m, hm⟩ := k5; exact DataW.trod_lt m _ _ _ hm
  have k6 := h6
  have lt6 : ∀ x ∈ p6, x.block < W.heap.size := by obtain ⟨m, hm⟩ := k6; exact DataW.trod_lt m _ _ _ hm
  have k7 := h7
  have lt7 : ∀ x ∈ p7, x.block < W.heap.size := by obtain ⟨m, hm⟩ := k7; exact DataW.trod_lt m _ _ _ hm
  have k8 := h8
  have lt8 : ∀ x ∈ p8, x.block < W.heap.size := by obtain ⟨m, hm⟩ := k8; exact DataW.trod_lt m _ _ _ hm
  clear hA0 hval0
  refine (walk (hval 0 23 _ rfl rfl) (hval 1 5 _ rfl rfl) (hval 2 5 _ rfl rfl) (hval 3 9 _ rfl rfl) (hval 4 9 _ rfl rfl) (hval 5 5 _ rfl rfl) (hval 6 5 _ rfl rfl) (hval 7 3 _ rfl rfl) (hval 8 3 _ rfl rfl)).mono fun e W' ⟨he, bel⟩ => ?_
  subst he
  exact ⟨_, rfl, _, _, _, [], _, [], hW', trodAll_mk1 (shut_bool Try.underlying4 _), (trodAll_cons_mk (Below.trod laidOut (by kernel_rfl) (of_decide_eq_true (by kernel_rfl)) k0 bel lt0) (trodAll_cons_mk (Below.trod laidOut (by kernel_rfl) (of_decide_eq_true (by kernel_rfl)) k1 bel lt1) (trodAll_cons_mk (Below.trod laidOut (by kernel_rfl) (of_decide_eq_true (by kernel_rfl)) k2 bel lt2) (trodAll_cons_mk (Below.trod laidOut (by kernel_rfl) (of_decide_eq_true (by kernel_rfl)) k3 bel lt3) (trodAll_cons_mk (Below.trod laidOut (by kernel_rfl) (of_decide_eq_true (by kernel_rfl)) k4 bel lt4) (trodAll_cons_mk (Below.trod laidOut (by kernel_rfl) (of_decide_eq_true (by kernel_rfl)) k5 bel lt5) (trodAll_cons_mk (Below.trod laidOut (by kernel_rfl) (of_decide_eq_true (by kernel_rfl)) k6 bel lt6) (trodAll_cons_mk (Below.trod laidOut (by kernel_rfl) (of_decide_eq_true (by kernel_rfl)) k7 bel lt7) (trodAll_cons_mk (Below.trod laidOut (by kernel_rfl) (of_decide_eq_true (by kernel_rfl)) k8 bel lt8) trodAll_mk0))))))))), rfl, bel.frame _, fun h => by cases h⟩
theorem over : Rows.blockAllRow.holds Try.pinned (OpenSpec.ofChange Rows.blockAllSpec) :=
  OpenClaim.holds_of_wide 3 Try.f3 rfl rfl rfl rfl rfl rfl rfl ⟨rfl, rfl, rfl, rfl, rfl⟩ rfl rfl rfl rfl rfl (by kernel_rfl) Try.func3 (by kernel_rfl)
    (of_decide_eq_true (by kernel_rfl)) (by unfold Func.isWrapper; first | (rw [if_pos (by decide +kernel)]; kernel_rfl) | (rw [if_neg (by decide +kernel)]; exact ⟨rfl, rfl⟩))
    (fun os started H enc _ => lifted os started H enc)
theorem proved : Rows.BlockAllSaid := over
#print axioms proved
end Go.Proofs.Ytjpgcfniahaelaa.blockAll
