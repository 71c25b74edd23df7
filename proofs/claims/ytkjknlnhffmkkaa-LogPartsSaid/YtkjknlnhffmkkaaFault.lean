/- Faults held against each other. -/
import Derived.Test.YtkjknlnhffmkkaaClose2
import Derived.Laws.StructEq
namespace Go.Proofs.Ytkjknlnhffmkkaa
open Go.RowKit

theorem fault_eq (a b c d : Int) (w : World) : (binOp .eql 50 (.agg #[.int .i64 a, .int .i64 b]) (.agg #[.int .i64 c, .int .i64 d])).run Try.prog w = .ok (.bool (decide (a = c) && decide (b = d))) w := by
  have u3 := Try.underlying3
  have u4 := Try.underlying25
  have hS : Try.prog.underlying 50 = some (.struct (Try.prog.fieldsOf 50)) := by kernel_rfl
  have hp : Try.prog.stoodInHeld 50 = false := by kernel_rfl
  rw [run_eql_struct, show (10000 : Nat) = 9999 + 1 from rfl, run_equalIn_agg w 9999 50 _ _ hS hp]
  simp only [Program.fieldsOf, Try.underlying50]
  go_simp
  by_cases h1 : a = c <;> by_cases h2 : b = d <;> simp [h1, h2]
end Go.Proofs.Ytkjknlnhffmkkaa
