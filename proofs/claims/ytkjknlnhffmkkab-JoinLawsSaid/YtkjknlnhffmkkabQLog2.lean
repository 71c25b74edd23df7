/- log.Lacks computes lacksU; what it answers is new. -/
import Derived.Test.YtkjknlnhffmkkabQLog
namespace Go.Proofs.Ytkjknlnhffmkkab
open Go.RowKit
set_option linter.unusedVariables false

theorem ok_upds : ElemOk Try.prog 36 29 5 56 := ok_elem Try.underlying36 (z := .agg #[.int .i64 0, .slice none 0 0, .int .i64 0, .int .i64 0, .int .i64 0]) (by kernel_rfl) rfl (by decide)

end Go.Proofs.Ytkjknlnhffmkkab
