/- Faults that are the same. -/
import Derived.Test.YtkjknlnhffmkkaaQTy
import Derived.Laws.StructEq
import Derived.ChangeKeysEq
namespace Go.Proofs.Ytkjknlnhffmkkaa
open Go.RowKit
theorem fault_in (a b : Int) (w : World) : (Op.equalIn 10000 50 (.agg #[.int .i64 a, .int .i64 b]) (.agg #[.int .i64 a, .int .i64 b])).run Try.prog w = .ok true w := by
  have u3 := Try.underlying3
  have u4 := Try.underlying25
  have hS : Try.prog.underlying 50 = some (.struct (Try.prog.fieldsOf 50)) := by kernel_rfl
  have hp : Try.prog.stoodInHeld 50 = false := by kernel_rfl
  rw [show (10000 : Nat) = 9999 + 1 from rfl, run_equalIn_agg w 9999 50 _ _ hS hp]
  simp only [Program.fieldsOf, Try.underlying50]
  go_simp
theorem fault_e (a b : Int) (w : World) : (binOp .eql 50 (.agg #[.int .i64 a, .int .i64 b]) (.agg #[.int .i64 a, .int .i64 b])).run Try.prog w = .ok (.bool true) w := by rw [run_eql_struct, fault_in]; rfl
theorem fault_n (a b : Int) (w : World) : (binOp .neq 50 (.agg #[.int .i64 a, .int .i64 b]) (.agg #[.int .i64 a, .int .i64 b])).run Try.prog w = .ok (.bool false) w := by rw [run_neq_struct, fault_in]; rfl
end Go.Proofs.Ytkjknlnhffmkkaa
