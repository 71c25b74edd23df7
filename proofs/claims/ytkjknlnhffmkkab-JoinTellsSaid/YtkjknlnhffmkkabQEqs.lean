/- Structs held against each other. -/
import Derived.Test.YtkjknlnhffmkkabQPl
import Derived.Test.YtkjknlnhffmkkabQTy
import Derived.Laws.StructEq
import Derived.ChangeKeysEq
namespace Go.Proofs.Ytkjknlnhffmkkab
open Go.RowKit
set_option linter.unusedVariables false

theorem live_in (x y : Live) (w : World) : (Op.equalIn 10000 62 (.agg #[.bool x.set, .int .i64 x.key, .int .i64 x.item, .int .i64 x.author, .int .i64 x.seq]) (.agg #[.bool y.set, .int .i64 y.key, .int .i64 y.item, .int .i64 y.author, .int .i64 y.seq])).run Try.prog w = .ok (decide (x = y)) w := by
  have u3 := Try.underlying3
  have u4 := Try.underlying4
  have hS : Try.prog.underlying 62 = some (.struct (Try.prog.fieldsOf 62)) := by kernel_rfl
  have hp : Try.prog.stoodInHeld 62 = false := by kernel_rfl
  rw [show (10000 : Nat) = 9999 + 1 from rfl, run_equalIn_agg w 9999 62 _ _ hS hp]
  simp only [Program.fieldsOf, Try.underlying62]
  go_simp
  obtain ⟨s1, k1, i1, a1, q1⟩ := x
  obtain ⟨s2, k2, i2, a2, q2⟩ := y
  by_cases h0 : s1 = s2 <;> by_cases h1 : k1 = k2 <;> by_cases h2 : i1 = i2 <;> by_cases h3 : a1 = a2 <;> by_cases h4 : q1 = q2 <;> simp [h0, h1, h2, h3, h4]
theorem tally_in (x y : Tally) (w : World) : (Op.equalIn 10000 82 (.agg #[.int .i64 x.key, .int .i64 x.author, .int .i64 x.sum]) (.agg #[.int .i64 y.key, .int .i64 y.author, .int .i64 y.sum])).run Try.prog w = .ok (decide (x = y)) w := by
  have u3 := Try.underlying3
  have hS : Try.prog.underlying 82 = some (.struct (Try.prog.fieldsOf 82)) := by kernel_rfl
  have hp : Try.prog.stoodInHeld 82 = false := by kernel_rfl
  rw [show (10000 : Nat) = 9999 + 1 from rfl, run_equalIn_agg w 9999 82 _ _ hS hp]
  simp only [Program.fieldsOf, Try.underlying82]
  go_simp
  obtain ⟨k1, a1, q1⟩ := x
  obtain ⟨k2, a2, q2⟩ := y
  by_cases h1 : k1 = k2 <;> by_cases h3 : a1 = a2 <;> by_cases h4 : q1 = q2 <;> simp [h1, h3, h4]
section
variable {x y : Pair} (w : World)
end
section
variable {x y : Live} (w : World)
theorem Live_eqT (h : x = y) : (binOp .eql 62 (.agg #[.bool x.set, .int .i64 x.key, .int .i64 x.item, .int .i64 x.author, .int .i64 x.seq]) (.agg #[.bool y.set, .int .i64 y.key, .int .i64 y.item, .int .i64 y.author, .int .i64 y.seq])).run Try.prog w = .ok (.bool true) w := by rw [run_eql_struct, live_in, decide_eq_true h]; rfl
theorem Live_eqF (h : ¬ x = y) : (binOp .eql 62 (.agg #[.bool x.set, .int .i64 x.key, .int .i64 x.item, .int .i64 x.author, .int .i64 x.seq]) (.agg #[.bool y.set, .int .i64 y.key, .int .i64 y.item, .int .i64 y.author, .int .i64 y.seq])).run Try.prog w = .ok (.bool false) w := by rw [run_eql_struct, live_in, decide_eq_false h]; rfl
theorem Live_neT (h : ¬ x = y) : (binOp .neq 62 (.agg #[.bool x.set, .int .i64 x.key, .int .i64 x.item, .int .i64 x.author, .int .i64 x.seq]) (.agg #[.bool y.set, .int .i64 y.key, .int .i64 y.item, .int .i64 y.author, .int .i64 y.seq])).run Try.prog w = .ok (.bool true) w := by rw [run_neq_struct, live_in, decide_eq_false h]; rfl
theorem Live_neF (h : x = y) : (binOp .neq 62 (.agg #[.bool x.set, .int .i64 x.key, .int .i64 x.item, .int .i64 x.author, .int .i64 x.seq]) (.agg #[.bool y.set, .int .i64 y.key, .int .i64 y.item, .int .i64 y.author, .int .i64 y.seq])).run Try.prog w = .ok (.bool false) w := by rw [run_neq_struct, live_in, decide_eq_true h]; rfl
end
section
variable {x y : Tally} (w : World)
theorem Tally_neT (h : ¬ x = y) : (binOp .neq 82 (.agg #[.int .i64 x.key, .int .i64 x.author, .int .i64 x.sum]) (.agg #[.int .i64 y.key, .int .i64 y.author, .int .i64 y.sum])).run Try.prog w = .ok (.bool true) w := by rw [run_neq_struct, tally_in, decide_eq_false h]; rfl
theorem Tally_neF (h : x = y) : (binOp .neq 82 (.agg #[.int .i64 x.key, .int .i64 x.author, .int .i64 x.sum]) (.agg #[.int .i64 y.key, .int .i64 y.author, .int .i64 y.sum])).run Try.prog w = .ok (.bool false) w := by rw [run_neq_struct, tally_in, decide_eq_true h]; rfl
end
end Go.Proofs.Ytkjknlnhffmkkab
