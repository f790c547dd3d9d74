/-
  The closed law of changes.
-/
import Derived.Test.YtbeefpabcndkcaaDoorLW1
import Derived.Test.YtbeefpabcndkcaaDoorR14B
import Derived.Test.YtbeefpabcndkcaaDoorR14WEditForms
import Derived.KernelRfl
set_option maxRecDepth 20000
namespace Go.Proofs
open Go Go.Fhl Classical
set_option linter.unusedVariables false
set_option linter.unusedSimpArgs false

theorem law_EditForms : M_law14_EditForms = some true := by kernel_rfl
end Go.Proofs
