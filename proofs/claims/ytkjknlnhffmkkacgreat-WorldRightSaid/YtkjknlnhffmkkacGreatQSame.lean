/- pruneref4.Same. -/
import Derived.Test.YtkjknlnhffmkkacGreatQEqs
import Derived.Test.YtkjknlnhffmkkacGreatQEg
import Derived.Test.YtkjknlnhffmkkacGreatQClock3
namespace Go.Proofs.YtkjknlnhffmkkacGreat
open Go.RowKit
set_option linter.unusedVariables false
end Go.Proofs.YtkjknlnhffmkkacGreat
