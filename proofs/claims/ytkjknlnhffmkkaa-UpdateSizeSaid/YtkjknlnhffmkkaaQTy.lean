/- Facts on this translation's types and functions, each by the kernel. -/
import Derived.Test.YtkjknlnhffmkkaaRows
import Derived.Test.YtkjknlnhffmkkaaQEg
namespace Go.Proofs.Ytkjknlnhffmkkaa
open Go.RowKit
theorem MX : Try.prog.follows .mixedOrders = true := by kernel_rfl
abbrev U3 := Try.underlying3
theorem SZ3 : ∀ w, (sizeOf 3).run Try.prog w = .ok 1 w := fun _ => by kernel_rfl
theorem T3 : Ty1 Try.prog 3 := ⟨fun _ => by kernel_rfl, SZ3⟩
theorem Z3 : ∀ w, (zeroValue 3).run Try.prog w = .ok (.int .i64 0) w := fun _ => by kernel_rfl
abbrev U5 := Try.underlying5
theorem SZ5 : ∀ w, (sizeOf 5).run Try.prog w = .ok 1 w := fun _ => by kernel_rfl
theorem T5 : Ty1 Try.prog 5 := ⟨fun _ => by kernel_rfl, SZ5⟩
theorem Z5 : ∀ w, (zeroValue 5).run Try.prog w = .ok (.int .u8 0) w := fun _ => by kernel_rfl
abbrev U23 := Try.underlying23
theorem SZ23 : ∀ w, (sizeOf 23).run Try.prog w = .ok 1 w := fun _ => by kernel_rfl
theorem T23 : Ty1 Try.prog 23 := ⟨fun _ => by kernel_rfl, SZ23⟩
abbrev U32 := Try.underlying32
theorem SZ32 : ∀ w, (sizeOf 32).run Try.prog w = .ok 5 w := fun _ => by kernel_rfl
abbrev zc32 : Array Value := #[.int .i64 0, .slice none 0 0, .int .i64 0, .int .i64 0, .int .i64 0]
theorem T32 : TyA Try.prog 32 5 := ⟨fun _ => by kernel_rfl, SZ32⟩
theorem Z32 : ∀ w, (zeroValue 32).run Try.prog w = .ok (.agg #[.int .i64 0, .slice none 0 0, .int .i64 0, .int .i64 0, .int .i64 0]) w := fun _ => by kernel_rfl
abbrev U33 := Try.underlying33
theorem SZ33 : ∀ w, (sizeOf 33).run Try.prog w = .ok 1 w := fun _ => by kernel_rfl
theorem T33 : Ty1 Try.prog 33 := ⟨fun _ => by kernel_rfl, SZ33⟩
theorem K23 : ElemOk Try.prog 23 3 1 8 := ok_elemK U23 (z := .int .i64 0) (by kernel_rfl) rfl (by decide)
theorem K33 : ElemOk Try.prog 33 5 1 1 := ok_elemK U33 (z := .int .u8 0) (by kernel_rfl) rfl (by decide)
theorem FA32_0 : FaOk Try.prog 32 0 0 := faOk U32 rfl SZ3 (by decide) rfl
theorem FA32_1 : FaOk Try.prog 32 1 1 := faOk U32 rfl SZ23 (by decide) rfl
theorem FA32_2 : FaOk Try.prog 32 2 2 := faOk U32 rfl SZ3 (by decide) rfl
theorem FA32_3 : FaOk Try.prog 32 3 3 := faOk U32 rfl SZ3 (by decide) rfl
theorem FA32_4 : FaOk Try.prog 32 4 4 := faOk U32 rfl SZ3 (by decide) rfl
theorem CF (f : Nat) (vs : Array Value) (h : (((Try.prog.funcs[f]?).map fun fn => !(fn.name == "runtime.NumGoroutine") && !fn.body.isNone).getD false) = true := by kernel_rfl) : ∀ w, (callFunc f vs).run Try.prog w = .ok (.enter f vs) w := fun w => by
  cases hf : Try.prog.funcs[f]? with
  | none => rw [hf] at h; cases h
  | some fn =>
    rw [hf] at h
    simp only [Option.map_some, Option.getD_some, Bool.and_eq_true, Bool.not_eq_true'] at h
    have h1 : ¬ fn.name = "runtime.NumGoroutine" := by simpa using h.1
    have h2 : ¬ fn.body = none := fun e => by have := h.2; rw [e] at this; cases this
    simp [callFunc, hf, h1, h2]
end Go.Proofs.Ytkjknlnhffmkkaa
