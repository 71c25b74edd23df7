/- Facts on this translation's types and functions, each by the kernel. -/
import Derived.Test.YtkjknlnhffmkkabRows
import Derived.Test.YtkjknlnhffmkkabQEg
namespace Go.Proofs.Ytkjknlnhffmkkab
open Go.RowKit
theorem MX : Try.prog.follows .mixedOrders = true := by kernel_rfl
theorem SZ3 : ∀ w, (sizeOf 3).run Try.prog w = .ok 1 w := fun _ => by kernel_rfl
theorem T3 : Ty1 Try.prog 3 := ⟨fun _ => by kernel_rfl, SZ3⟩
theorem Z3 : ∀ w, (zeroValue 3).run Try.prog w = .ok (.int .i64 0) w := fun _ => by kernel_rfl
abbrev U4 := Try.underlying4
theorem SZ4 : ∀ w, (sizeOf 4).run Try.prog w = .ok 1 w := fun _ => by kernel_rfl
theorem T4 : Ty1 Try.prog 4 := ⟨fun _ => by kernel_rfl, SZ4⟩
abbrev U22 := Try.underlying22
abbrev U23 := Try.underlying23
theorem SZ23 : ∀ w, (sizeOf 23).run Try.prog w = .ok 1 w := fun _ => by kernel_rfl
theorem T23 : Ty1 Try.prog 23 := ⟨fun _ => by kernel_rfl, SZ23⟩
abbrev U24 := Try.underlying24
theorem SZ24 : ∀ w, (sizeOf 24).run Try.prog w = .ok 1 w := fun _ => by kernel_rfl
theorem T24 : Ty1 Try.prog 24 := ⟨fun _ => by kernel_rfl, SZ24⟩
abbrev U25 := Try.underlying25
theorem SZ25 : ∀ w, (sizeOf 25).run Try.prog w = .ok 1 w := fun _ => by kernel_rfl
theorem T25 : Ty1 Try.prog 25 := ⟨fun _ => by kernel_rfl, SZ25⟩
abbrev U27 := Try.underlying27
theorem SZ27 : ∀ w, (sizeOf 27).run Try.prog w = .ok 3 w := fun _ => by kernel_rfl
abbrev zc27 : Array Value := #[.slice none 0 0, .slice none 0 0, .slice none 0 0]
theorem T27 : TyA Try.prog 27 3 := ⟨fun _ => by kernel_rfl, SZ27⟩
theorem Z27 : ∀ w, (zeroValue 27).run Try.prog w = .ok (.agg #[.slice none 0 0, .slice none 0 0, .slice none 0 0]) w := fun _ => by kernel_rfl
theorem SZ31 : ∀ w, (sizeOf 31).run Try.prog w = .ok 1 w := fun _ => by kernel_rfl
theorem T31 : Ty1 Try.prog 31 := ⟨fun _ => by kernel_rfl, SZ31⟩
abbrev U33 := Try.underlying33
theorem SZ33 : ∀ w, (sizeOf 33).run Try.prog w = .ok 2 w := fun _ => by kernel_rfl
abbrev zc33 : Array Value := #[.int .i64 0, .int .i64 0]
theorem T33 : TyA Try.prog 33 2 := ⟨fun _ => by kernel_rfl, SZ33⟩
theorem Z33 : ∀ w, (zeroValue 33).run Try.prog w = .ok (.agg #[.int .i64 0, .int .i64 0]) w := fun _ => by kernel_rfl
abbrev U42 := Try.underlying42
abbrev U57 := Try.underlying57
theorem SZ57 : ∀ w, (sizeOf 57).run Try.prog w = .ok 2 w := fun _ => by kernel_rfl
abbrev zc57 : Array Value := #[.int .i64 0, .int .i64 0]
theorem T57 : TyA Try.prog 57 2 := ⟨fun _ => by kernel_rfl, SZ57⟩
theorem Z57 : ∀ w, (zeroValue 57).run Try.prog w = .ok (.agg #[.int .i64 0, .int .i64 0]) w := fun _ => by kernel_rfl
abbrev U62 := Try.underlying62
theorem SZ62 : ∀ w, (sizeOf 62).run Try.prog w = .ok 5 w := fun _ => by kernel_rfl
abbrev zc62 : Array Value := #[.bool false, .int .i64 0, .int .i64 0, .int .i64 0, .int .i64 0]
theorem T62 : TyA Try.prog 62 5 := ⟨fun _ => by kernel_rfl, SZ62⟩
theorem Z62 : ∀ w, (zeroValue 62).run Try.prog w = .ok (.agg #[.bool false, .int .i64 0, .int .i64 0, .int .i64 0, .int .i64 0]) w := fun _ => by kernel_rfl
abbrev U82 := Try.underlying82
theorem SZ82 : ∀ w, (sizeOf 82).run Try.prog w = .ok 3 w := fun _ => by kernel_rfl
abbrev zc82 : Array Value := #[.int .i64 0, .int .i64 0, .int .i64 0]
theorem T82 : TyA Try.prog 82 3 := ⟨fun _ => by kernel_rfl, SZ82⟩
theorem Z82 : ∀ w, (zeroValue 82).run Try.prog w = .ok (.agg #[.int .i64 0, .int .i64 0, .int .i64 0]) w := fun _ => by kernel_rfl
abbrev U102 := Try.underlying102
abbrev U107 := Try.underlying107
theorem SZ107 : ∀ w, (sizeOf 107).run Try.prog w = .ok 6 w := fun _ => by kernel_rfl
abbrev zc107 : Array Value := #[.slice none 0 0, .slice none 0 0, .slice none 0 0, .slice none 0 0, .slice none 0 0, .slice none 0 0]
theorem T107 : TyA Try.prog 107 6 := ⟨fun _ => by kernel_rfl, SZ107⟩
theorem Z107 : ∀ w, (zeroValue 107).run Try.prog w = .ok (.agg #[.slice none 0 0, .slice none 0 0, .slice none 0 0, .slice none 0 0, .slice none 0 0, .slice none 0 0]) w := fun _ => by kernel_rfl
abbrev U108 := Try.underlying108
theorem K24 : ElemOk Try.prog 24 62 5 40 := ok_elemK U24 (z := .agg #[.bool false, .int .i64 0, .int .i64 0, .int .i64 0, .int .i64 0]) (by kernel_rfl) rfl (by decide)
theorem K25 : ElemOk Try.prog 25 82 3 24 := ok_elemK U25 (z := .agg #[.int .i64 0, .int .i64 0, .int .i64 0]) (by kernel_rfl) rfl (by decide)
theorem FA27_0 : FaOk Try.prog 27 0 0 := faOk U27 rfl SZ23 (by decide) rfl
theorem FA27_1 : FaOk Try.prog 27 1 1 := faOk U27 rfl SZ24 (by decide) rfl
theorem FA27_2 : FaOk Try.prog 27 2 2 := faOk U27 rfl SZ25 (by decide) rfl
theorem FA33_0 : FaOk Try.prog 33 0 0 := faOk U33 rfl SZ31 (by decide) rfl
theorem FA62_0 : FaOk Try.prog 62 0 0 := faOk U62 rfl SZ4 (by decide) rfl
theorem FA62_1 : FaOk Try.prog 62 1 1 := faOk U62 rfl SZ3 (by decide) rfl
theorem FA62_2 : FaOk Try.prog 62 2 2 := faOk U62 rfl SZ3 (by decide) rfl
theorem FA62_3 : FaOk Try.prog 62 3 3 := faOk U62 rfl SZ3 (by decide) rfl
theorem FA62_4 : FaOk Try.prog 62 4 4 := faOk U62 rfl SZ3 (by decide) rfl
theorem FA82_0 : FaOk Try.prog 82 0 0 := faOk U82 rfl SZ3 (by decide) rfl
theorem FA82_1 : FaOk Try.prog 82 1 1 := faOk U82 rfl SZ3 (by decide) rfl
theorem FA82_2 : FaOk Try.prog 82 2 2 := faOk U82 rfl SZ3 (by decide) rfl
theorem CF (f : Nat) (vs : Array Value) (h : (((Try.prog.funcs[f]?).map fun fn => !(fn.name == "runtime.NumGoroutine") && !fn.body.isNone).getD false) = true := by kernel_rfl) : ∀ w, (callFunc f vs).run Try.prog w = .ok (.enter f vs) w := fun w => by
  cases hf : Try.prog.funcs[f]? with
  | none => rw [hf] at h; cases h
  | some fn =>
    rw [hf] at h
    simp only [Option.map_some, Option.getD_some, Bool.and_eq_true, Bool.not_eq_true'] at h
    have h1 : ¬ fn.name = "runtime.NumGoroutine" := by simpa using h.1
    have h2 : ¬ fn.body = none := fun e => by have := h.2; rw [e] at this; cases this
    simp [callFunc, hf, h1, h2]
end Go.Proofs.Ytkjknlnhffmkkab
