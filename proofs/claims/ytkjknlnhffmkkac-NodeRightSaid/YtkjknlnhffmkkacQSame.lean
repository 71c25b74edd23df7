/- pruneref4.Same. -/
import Derived.Test.YtkjknlnhffmkkacQEqs
import Derived.Test.YtkjknlnhffmkkacQEg
import Derived.Test.YtkjknlnhffmkkacQClock3
namespace Go.Proofs.Ytkjknlnhffmkkac
open Go.RowKit
set_option linter.unusedVariables false
end Go.Proofs.Ytkjknlnhffmkkac
