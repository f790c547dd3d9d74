/-
  A logic over the model, part eighteen: arguments that came in, as values of Lean.
-/
import Derived.Test.YtmhfodjiefednaaFV
import Derived.Test.YtmhfodjiefednaaFHd1
import Derived.WalkKit
import Derived.ProofKit
import Derived.OpenShut
import Derived.ShutString
import Derived.ChangeOld
import Derived.Below
namespace Go.Fhl
open Go.RowKit
set_option linter.unusedVariables false
set_option linter.unusedSimpArgs false
section
variable {P : Program} {W : World} {r : Reach} {base : Nat} {t : TypeId} {v : Value}
theorem cell_int {k : IntKind} (hu : P.underlying t = some (.int k)) (h : Cell.okWide P W r base t v) : ∃ n, v = .int k n ∧ k.min ≤ n ∧ n ≤ k.max := by
  unfold Cell.okWide Cell.ok at h
  rw [hu] at h
  cases v <;> simp only at h <;> first | exact h.elim | skip
  case int k' n => obtain ⟨rfl, h1, h2⟩ := h; exact ⟨n, rfl, h1, h2⟩
theorem cell_I (hu : P.underlying t = some (.int .i64)) (h : Cell.okWide P W r base t v) : ∃ n : Int, v = I n := by
  obtain ⟨n, rfl, _⟩ := cell_int hu h; exact ⟨n, rfl⟩
theorem cell_U8 (hu : P.underlying t = some (.int .u8)) (h : Cell.okWide P W r base t v) : ∃ n : UInt8, v = U8 n := by
  obtain ⟨n, rfl, h1, h2⟩ := cell_int hu h
  exact ⟨u8 n, val_u8 (by simp only [Lit.wf, Bool.and_eq_true, decide_eq_true_eq]; exact ⟨h1, h2⟩)⟩
theorem val_cell {d : TypeDesc} (hu : P.underlying t = some d) (hn : agg? d = false) (h : Value.okWide P W r base t v) : Cell.okWide P W r base t v := by
  unfold Value.okWide at h
  rw [hu] at h
  cases d <;> first | exact h | (simp [agg?] at hn)
end
/-- A row of integers that came in. -/
def IsRow (k : IntKind) (w : World) (a : Option Addr) (len cap : Nat) (zs : List Int) : Prop :=
  (a = none ∧ len = 0 ∧ cap = 0 ∧ zs = []) ∨
  ∃ x, a = some x ∧ len ≤ cap ∧ cap ≤ maxLen ∧ zs.length = cap ∧ (∀ i, i < zs.length → w.cell? (x.add i) = some (.int k (zs.getD i 0))) ∧ ∀ n ∈ zs, (Lit.int k n).wf = true
end Go.Fhl
