/- log.Lacks computes lacksU; what it answers is new. -/
import Derived.Test.YtkjknlnhffmkkabQLog
namespace Go.Proofs.Ytkjknlnhffmkkab
open Go.RowKit
set_option linter.unusedVariables false

end Go.Proofs.Ytkjknlnhffmkkab
