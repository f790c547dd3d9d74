/- Types of the program, as Lean has them; facts on them. Written by a program. -/
import Derived.Test.YthndajeemdfebaaFR
import Derived.Test.YthndajeemdfebaaProg
import Derived.KernelRfl
set_option maxRecDepth 20000
namespace Go.Proofs
open Go Go.Fhl
set_option linter.unusedVariables false
set_option linter.unusedSimpArgs false

theorem b_5 : bt Try.prog 5 = some 1 := by kernel_rfl
theorem e_5 : ElemOk Try.prog 5 1 1 := ⟨by kernel_rfl, by decide, by decide, ⟨(Value.int .u8 0), by kernel_rfl, rfl⟩⟩
theorem en_10 : enterable Try.prog 10 = true := by kernel_rfl
theorem en_11 : enterable Try.prog 11 = true := by kernel_rfl
theorem en_12 : enterable Try.prog 12 = true := by kernel_rfl
theorem en_13 : enterable Try.prog 13 = true := by kernel_rfl
theorem en_9 : enterable Try.prog 9 = true := by kernel_rfl
theorem mo : Try.prog.follows .mixedOrders = true := by kernel_rfl
theorem s_23 : sz Try.prog 23 = some 1 := by kernel_rfl
theorem s_25 : sz Try.prog 25 = some 4 := by kernel_rfl
theorem s_5 : sz Try.prog 5 = some 1 := by kernel_rfl
theorem s_9 : sz Try.prog 9 = some 1 := by kernel_rfl
theorem z_25 : zr Try.prog 25 = some (Value.agg #[(Value.int .u32 0), (Value.int .u32 0), (Value.int .u32 0), (Value.int .u32 0)]) := by kernel_rfl
theorem z_5 : zr Try.prog 5 = some (Value.int .u8 0) := by kernel_rfl
theorem eqt_25 {d : Nat} {a b : (A4 UInt32)} : EqT Try.prog (d + 2) 25 (.agg ((cA4 c32) a).toArray) (.agg ((cA4 c32) b).toArray) (decide (a = b)) := by
  obtain ⟨a0, a1, a2, a3⟩ := a
  obtain ⟨b0, b1, b2, b3⟩ := b
  have h := eqt_array (P := Try.prog) (d := d + 1) (xs := ((cA4 c32) ⟨a0, a1, a2, a3⟩).toArray) (ys := ((cA4 c32) ⟨b0, b1, b2, b3⟩).toArray) Try.underlying25 s_23 (eqa_cons (vx := (U32 a0)) (vy := (U32 b0)) (by kernel_rfl) (by kernel_rfl) (eqt_U32 Try.underlying23) (eqa_cons (vx := (U32 a1)) (vy := (U32 b1)) (by kernel_rfl) (by kernel_rfl) (eqt_U32 Try.underlying23) (eqa_cons (vx := (U32 a2)) (vy := (U32 b2)) (by kernel_rfl) (by kernel_rfl) (eqt_U32 Try.underlying23) (eqa_cons (vx := (U32 a3)) (vy := (U32 b3)) (by kernel_rfl) (by kernel_rfl) (eqt_U32 Try.underlying23) eqa_nil))))
  have e : (decide (a0 = b0) && (decide (a1 = b1) && (decide (a2 = b2) && (decide (a3 = b3) && (true))))) = decide ((A4.mk a0 a1 a2 a3) = (A4.mk b0 b1 b2 b3)) := by
    rw [Bool.eq_iff_iff]; simp [and_assoc]
  rw [e] at h; exact h
theorem eql_25 {xo yo : Operand} {a b : (A4 UInt32)} : keep (abin Try.prog .eql 25 xo yo (.agg ((cA4 c32) a).toArray) (.agg ((cA4 c32) b).toArray)) = some (Bo (decide (a = b))) :=
  eql_of rfl rfl (by kernel_rfl) (eqt_25 (d := 9998))
theorem neq_25 {xo yo : Operand} {a b : (A4 UInt32)} : keep (abin Try.prog .neq 25 xo yo (.agg ((cA4 c32) a).toArray) (.agg ((cA4 c32) b).toArray)) = some (Bo (!decide (a = b))) :=
  neq_of rfl rfl (by kernel_rfl) (eqt_25 (d := 9998))
end Go.Proofs
