/- log.Clock computes clockL. -/
import Derived.Test.YtkjknlnhffmkkabQUpdate3
import Derived.Test.YtkjknlnhffmkkabQPl
namespace Go.Proofs.Ytkjknlnhffmkkab
open Go.RowKit
set_option linter.unusedVariables false

end Go.Proofs.Ytkjknlnhffmkkab
