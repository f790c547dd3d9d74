/-
  The closed law of data.
-/
import Derived.Test.YtiolemkcnkokaaaDoorLW1
import Derived.Test.YtiolemkcnkokaaaDoorR15B
import Derived.Test.YtiolemkcnkokaaaDoorR15WDataForms
import Derived.KernelRfl
set_option maxRecDepth 20000
namespace Go.Proofs
open Go Go.Fhl Classical
set_option linter.unusedVariables false
set_option linter.unusedSimpArgs false
theorem law_DataForms : M_law15_DataForms = some true := by kernel_rfl
end Go.Proofs
