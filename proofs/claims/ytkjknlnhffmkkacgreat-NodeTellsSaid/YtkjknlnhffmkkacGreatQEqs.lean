/- Structs held against each other. -/
import Derived.Test.YtkjknlnhffmkkacGreatQPl
import Derived.Test.YtkjknlnhffmkkacGreatQTy
import Derived.Laws.StructEq
import Derived.ChangeKeysEq
namespace Go.Proofs.YtkjknlnhffmkkacGreat
open Go.RowKit
set_option linter.unusedVariables false

theorem live_in (x y:Live) (w:World):(Op.equalIn 10000 104 (.agg #[.bool x.set,.int .i64 x.key,.int .i64 x.item,.int .i64 x.author,.int .i64 x.seq]) (.agg #[.bool y.set,.int .i64 y.key,.int .i64 y.item,.int .i64 y.author,.int .i64 y.seq])).run Tryz.prog w = .ok (decide (x = y)) w:=by
  have u3:=Tryz.underlying3
  have u4:=Tryz.underlying4
  have hS:Tryz.prog.underlying 104 = some (.struct (Tryz.prog.fieldsOf 104)):=by kernel_rfl
  have hp:Tryz.prog.stoodInHeld 104 = false:=by kernel_rfl
  rw [show (10000:Nat) = 9999 + 1 from rfl,run_equalIn_agg w 9999 104 _ _ hS hp]
  simp only [Program.fieldsOf,Tryz.underlying104]
  go_simp
  obtain ⟨s1,k1,i1,a1,q1⟩:=x
  obtain ⟨s2,k2,i2,a2,q2⟩:=y
  by_cases h0:s1 = s2 <;> by_cases h1:k1 = k2 <;> by_cases h2:i1 = i2 <;> by_cases h3:a1 = a2 <;> by_cases h4:q1 = q2 <;> simp [h0,h1,h2,h3,h4]
theorem tally_in (x y:Tally) (w:World):(Op.equalIn 10000 106 (.agg #[.int .i64 x.key,.int .i64 x.author,.int .i64 x.sum]) (.agg #[.int .i64 y.key,.int .i64 y.author,.int .i64 y.sum])).run Tryz.prog w = .ok (decide (x = y)) w:=by
  have u3:=Tryz.underlying3
  have hS:Tryz.prog.underlying 106 = some (.struct (Tryz.prog.fieldsOf 106)):=by kernel_rfl
  have hp:Tryz.prog.stoodInHeld 106 = false:=by kernel_rfl
  rw [show (10000:Nat) = 9999 + 1 from rfl,run_equalIn_agg w 9999 106 _ _ hS hp]
  simp only [Program.fieldsOf,Tryz.underlying106]
  go_simp
  obtain ⟨k1,a1,q1⟩:=x
  obtain ⟨k2,a2,q2⟩:=y
  by_cases h1:k1 = k2 <;> by_cases h3:a1 = a2 <;> by_cases h4:q1 = q2 <;> simp [h1,h3,h4]
section
variable {x y:Pair} (w:World)
end
section
variable {x y:Live} (w:World)
theorem Live_eqT (h:x = y):(binOp .eql 104 (.agg #[.bool x.set,.int .i64 x.key,.int .i64 x.item,.int .i64 x.author,.int .i64 x.seq]) (.agg #[.bool y.set,.int .i64 y.key,.int .i64 y.item,.int .i64 y.author,.int .i64 y.seq])).run Tryz.prog w = .ok (.bool true) w:=by rw [run_eql_struct,live_in,decide_eq_true h];rfl
theorem Live_eqF (h:¬ x = y):(binOp .eql 104 (.agg #[.bool x.set,.int .i64 x.key,.int .i64 x.item,.int .i64 x.author,.int .i64 x.seq]) (.agg #[.bool y.set,.int .i64 y.key,.int .i64 y.item,.int .i64 y.author,.int .i64 y.seq])).run Tryz.prog w = .ok (.bool false) w:=by rw [run_eql_struct,live_in,decide_eq_false h];rfl
theorem Live_neT (h:¬ x = y):(binOp .neq 104 (.agg #[.bool x.set,.int .i64 x.key,.int .i64 x.item,.int .i64 x.author,.int .i64 x.seq]) (.agg #[.bool y.set,.int .i64 y.key,.int .i64 y.item,.int .i64 y.author,.int .i64 y.seq])).run Tryz.prog w = .ok (.bool true) w:=by rw [run_neq_struct,live_in,decide_eq_false h];rfl
theorem Live_neF (h:x = y):(binOp .neq 104 (.agg #[.bool x.set,.int .i64 x.key,.int .i64 x.item,.int .i64 x.author,.int .i64 x.seq]) (.agg #[.bool y.set,.int .i64 y.key,.int .i64 y.item,.int .i64 y.author,.int .i64 y.seq])).run Tryz.prog w = .ok (.bool false) w:=by rw [run_neq_struct,live_in,decide_eq_true h];rfl
end
section
variable {x y:Tally} (w:World)
theorem Tally_neT (h:¬ x = y):(binOp .neq 106 (.agg #[.int .i64 x.key,.int .i64 x.author,.int .i64 x.sum]) (.agg #[.int .i64 y.key,.int .i64 y.author,.int .i64 y.sum])).run Tryz.prog w = .ok (.bool true) w:=by rw [run_neq_struct,tally_in,decide_eq_false h];rfl
theorem Tally_neF (h:x = y):(binOp .neq 106 (.agg #[.int .i64 x.key,.int .i64 x.author,.int .i64 x.sum]) (.agg #[.int .i64 y.key,.int .i64 y.author,.int .i64 y.sum])).run Tryz.prog w = .ok (.bool false) w:=by rw [run_neq_struct,tally_in,decide_eq_true h];rfl
end
end Go.Proofs.YtkjknlnhffmkkacGreat
