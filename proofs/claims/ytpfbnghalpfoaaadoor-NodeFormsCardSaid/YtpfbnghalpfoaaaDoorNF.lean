/-
  The closed statement on sets of nodes.
-/
import Derived.Test.YtpfbnghalpfoaaaDoorL0
import Derived.Test.YtpfbnghalpfoaaaDoorR12B
import Derived.Test.YtpfbnghalpfoaaaDoorR12WNodeForms
import Derived.KernelRfl
set_option maxRecDepth 20000
namespace Go.Proofs
open Go Go.Fhl
theorem law_NodeForms : M_law12_NodeForms = some true := by kernel_rfl
end Go.Proofs
