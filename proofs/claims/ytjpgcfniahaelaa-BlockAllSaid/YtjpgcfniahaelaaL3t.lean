/-
  What points to a text.
-/
import Derived.Test.YtjpgcfniahaelaaR54
import Derived.Test.YtjpgcfniahaelaaR57
import Derived.Test.YtjpgcfniahaelaaR5B
import Derived.Test.YtjpgcfniahaelaaL1
set_option maxRecDepth 20000
namespace Go.Proofs
open Go Go.Fhl
set_option linter.unusedVariables false
theorem to_eq (a : Int) (s : Str) (b : Int) (h : s.length ≤ 140737488355328) : M_ptr_To a s b = some ⟨a, b, sumOf s⟩ := by
  unfold M_ptr_To; rw [sum1_eq s h, bind_some']
theorem rto_eq (a : Int) (s : Str) (b : Int) (h : s.length ≤ 140737488355328) : M_ref1_To a s b = some ⟨a, b, sumOf s⟩ := by
  unfold M_ref1_To; rw [rsum1_eq s (by omega), bind_some']
theorem fits_eq (p : G_api_Ptr) (s : Str) (h : s.length ≤ 140737488355328) : M_ptr_Fits p s = some (decide (p.Sum = sumOf s)) := by
  unfold M_ptr_Fits; rw [sum1_eq s h, bind_some']
end Go.Proofs
