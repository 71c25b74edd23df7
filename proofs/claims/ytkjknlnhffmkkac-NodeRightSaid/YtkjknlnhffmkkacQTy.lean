/- Facts on this translation's types and functions, each by the kernel. -/
import Derived.Test.YtkjknlnhffmkkacRows
import Derived.Test.YtkjknlnhffmkkacQEg
namespace Go.Proofs.Ytkjknlnhffmkkac
open Go.RowKit
theorem MX : Try.prog.follows .mixedOrders = true := by kernel_rfl
abbrev U3 := Try.underlying3
theorem SZ3 : ∀ w, (sizeOf 3).run Try.prog w = .ok 1 w := fun _ => by kernel_rfl
theorem T3 : Ty1 Try.prog 3 := ⟨fun _ => by kernel_rfl, SZ3⟩
theorem Z3 : ∀ w, (zeroValue 3).run Try.prog w = .ok (.int .i64 0) w := fun _ => by kernel_rfl
abbrev U4 := Try.underlying4
theorem SZ4 : ∀ w, (sizeOf 4).run Try.prog w = .ok 1 w := fun _ => by kernel_rfl
theorem T4 : Ty1 Try.prog 4 := ⟨fun _ => by kernel_rfl, SZ4⟩
theorem Z4 : ∀ w, (zeroValue 4).run Try.prog w = .ok (.bool false) w := fun _ => by kernel_rfl
abbrev U22 := Try.underlying22
abbrev U23 := Try.underlying23
theorem SZ23 : ∀ w, (sizeOf 23).run Try.prog w = .ok 1 w := fun _ => by kernel_rfl
theorem T23 : Ty1 Try.prog 23 := ⟨fun _ => by kernel_rfl, SZ23⟩
theorem Z23 : ∀ w, (zeroValue 23).run Try.prog w = .ok (.slice none 0 0) w := fun _ => by kernel_rfl
abbrev U24 := Try.underlying24
theorem SZ24 : ∀ w, (sizeOf 24).run Try.prog w = .ok 1 w := fun _ => by kernel_rfl
theorem T24 : Ty1 Try.prog 24 := ⟨fun _ => by kernel_rfl, SZ24⟩
abbrev U25 := Try.underlying25
theorem SZ25 : ∀ w, (sizeOf 25).run Try.prog w = .ok 1 w := fun _ => by kernel_rfl
theorem T25 : Ty1 Try.prog 25 := ⟨fun _ => by kernel_rfl, SZ25⟩
abbrev U27 := Try.underlying27
theorem SZ27 : ∀ w, (sizeOf 27).run Try.prog w = .ok 3 w := fun _ => by kernel_rfl
theorem T27 : TyA Try.prog 27 3 := ⟨fun _ => by kernel_rfl, SZ27⟩
theorem Z27 : ∀ w, (zeroValue 27).run Try.prog w = .ok (.agg #[.slice none 0 0, .slice none 0 0, .slice none 0 0]) w := fun _ => by kernel_rfl
abbrev U28 := Try.underlying28
theorem SZ28 : ∀ w, (sizeOf 28).run Try.prog w = .ok 1 w := fun _ => by kernel_rfl
theorem T28 : Ty1 Try.prog 28 := ⟨fun _ => by kernel_rfl, SZ28⟩
abbrev U29 := Try.underlying29
theorem SZ29 : ∀ w, (sizeOf 29).run Try.prog w = .ok 1 w := fun _ => by kernel_rfl
theorem T29 : Ty1 Try.prog 29 := ⟨fun _ => by kernel_rfl, SZ29⟩
abbrev U31 := Try.underlying31
theorem SZ31 : ∀ w, (sizeOf 31).run Try.prog w = .ok 7 w := fun _ => by kernel_rfl
theorem T31 : TyA Try.prog 31 7 := ⟨fun _ => by kernel_rfl, SZ31⟩
theorem Z31 : ∀ w, (zeroValue 31).run Try.prog w = .ok (.agg #[.int .i64 0, .slice none 0 0, .slice none 0 0, .slice none 0 0, .slice none 0 0, .slice none 0 0, .slice none 0 0]) w := fun _ => by kernel_rfl
abbrev U33 := Try.underlying33
theorem SZ33 : ∀ w, (sizeOf 33).run Try.prog w = .ok 5 w := fun _ => by kernel_rfl
theorem T33 : TyA Try.prog 33 5 := ⟨fun _ => by kernel_rfl, SZ33⟩
theorem Z33 : ∀ w, (zeroValue 33).run Try.prog w = .ok (.agg #[.int .i64 0, .slice none 0 0, .int .i64 0, .int .i64 0, .int .i64 0]) w := fun _ => by kernel_rfl
theorem SZ35 : ∀ w, (sizeOf 35).run Try.prog w = .ok 1 w := fun _ => by kernel_rfl
theorem T35 : Ty1 Try.prog 35 := ⟨fun _ => by kernel_rfl, SZ35⟩
theorem Z35 : ∀ w, (zeroValue 35).run Try.prog w = .ok (.int .i64 0) w := fun _ => by kernel_rfl
abbrev U45 := Try.underlying45
theorem SZ45 : ∀ w, (sizeOf 45).run Try.prog w = .ok 6 w := fun _ => by kernel_rfl
theorem T45 : TyA Try.prog 45 6 := ⟨fun _ => by kernel_rfl, SZ45⟩
theorem Z45 : ∀ w, (zeroValue 45).run Try.prog w = .ok (.agg #[.bool false, .slice none 0 0, .slice none 0 0, .slice none 0 0, .slice none 0 0, .slice none 0 0]) w := fun _ => by kernel_rfl
abbrev U49 := Try.underlying49
abbrev U50 := Try.underlying50
abbrev U59 := Try.underlying59
theorem SZ59 : ∀ w, (sizeOf 59).run Try.prog w = .ok 2 w := fun _ => by kernel_rfl
theorem T59 : TyA Try.prog 59 2 := ⟨fun _ => by kernel_rfl, SZ59⟩
theorem Z59 : ∀ w, (zeroValue 59).run Try.prog w = .ok (.agg #[.int .i64 0, .int .i64 0]) w := fun _ => by kernel_rfl
abbrev U65 := Try.underlying65
theorem SZ65 : ∀ w, (sizeOf 65).run Try.prog w = .ok 5 w := fun _ => by kernel_rfl
theorem T65 : TyA Try.prog 65 5 := ⟨fun _ => by kernel_rfl, SZ65⟩
theorem Z65 : ∀ w, (zeroValue 65).run Try.prog w = .ok (.agg #[.bool false, .int .i64 0, .int .i64 0, .int .i64 0, .int .i64 0]) w := fun _ => by kernel_rfl
abbrev U67 := Try.underlying67
theorem SZ67 : ∀ w, (sizeOf 67).run Try.prog w = .ok 3 w := fun _ => by kernel_rfl
theorem T67 : TyA Try.prog 67 3 := ⟨fun _ => by kernel_rfl, SZ67⟩
theorem Z67 : ∀ w, (zeroValue 67).run Try.prog w = .ok (.agg #[.int .i64 0, .int .i64 0, .int .i64 0]) w := fun _ => by kernel_rfl
abbrev U97 := Try.underlying97
abbrev U106 := Try.underlying106
theorem K23 : ElemOk Try.prog 23 3 1 8 := ok_elemK U23 (z := .int .i64 0) (by kernel_rfl) rfl (by decide)
theorem K24 : ElemOk Try.prog 24 65 5 40 := ok_elemK U24 (z := .agg #[.bool false, .int .i64 0, .int .i64 0, .int .i64 0, .int .i64 0]) (by kernel_rfl) rfl (by decide)
theorem K25 : ElemOk Try.prog 25 67 3 24 := ok_elemK U25 (z := .agg #[.int .i64 0, .int .i64 0, .int .i64 0]) (by kernel_rfl) rfl (by decide)
theorem K28 : ElemOk Try.prog 28 33 5 56 := ok_elemK U28 (z := .agg #[.int .i64 0, .slice none 0 0, .int .i64 0, .int .i64 0, .int .i64 0]) (by kernel_rfl) rfl (by decide)
theorem K29 : ElemOk Try.prog 29 23 1 24 := ok_elemK U29 (z := .slice none 0 0) (by kernel_rfl) rfl (by decide)
theorem FA27_0 : FaOk Try.prog 27 0 0 := faOk U27 rfl SZ23 (by decide) rfl
theorem FA27_1 : FaOk Try.prog 27 1 1 := faOk U27 rfl SZ24 (by decide) rfl
theorem FA27_2 : FaOk Try.prog 27 2 2 := faOk U27 rfl SZ25 (by decide) rfl
theorem FA31_0 : FaOk Try.prog 31 0 0 := faOk U31 rfl SZ3 (by decide) rfl
theorem FA31_1 : FaOk Try.prog 31 1 1 := faOk U31 rfl SZ27 (by decide) rfl
theorem FA31_2 : FaOk Try.prog 31 2 4 := faOk U31 rfl SZ23 (by decide) rfl
theorem FA31_3 : FaOk Try.prog 31 3 5 := faOk U31 rfl SZ28 (by decide) rfl
theorem FA31_4 : FaOk Try.prog 31 4 6 := faOk U31 rfl SZ29 (by decide) rfl
theorem FA33_0 : FaOk Try.prog 33 0 0 := faOk U33 rfl SZ3 (by decide) rfl
theorem FA33_1 : FaOk Try.prog 33 1 1 := faOk U33 rfl SZ23 (by decide) rfl
theorem FA33_2 : FaOk Try.prog 33 2 2 := faOk U33 rfl SZ3 (by decide) rfl
theorem FA33_3 : FaOk Try.prog 33 3 3 := faOk U33 rfl SZ3 (by decide) rfl
theorem FA33_4 : FaOk Try.prog 33 4 4 := faOk U33 rfl SZ3 (by decide) rfl
theorem FA45_0 : FaOk Try.prog 45 0 0 := faOk U45 rfl SZ4 (by decide) rfl
theorem FA45_1 : FaOk Try.prog 45 1 1 := faOk U45 rfl SZ27 (by decide) rfl
theorem FA45_2 : FaOk Try.prog 45 2 4 := faOk U45 rfl SZ28 (by decide) rfl
theorem FA45_3 : FaOk Try.prog 45 3 5 := faOk U45 rfl SZ23 (by decide) rfl
theorem FA59_0 : FaOk Try.prog 59 0 0 := faOk U59 rfl SZ35 (by decide) rfl
theorem FA65_0 : FaOk Try.prog 65 0 0 := faOk U65 rfl SZ4 (by decide) rfl
theorem FA65_1 : FaOk Try.prog 65 1 1 := faOk U65 rfl SZ3 (by decide) rfl
theorem FA65_2 : FaOk Try.prog 65 2 2 := faOk U65 rfl SZ3 (by decide) rfl
theorem FA65_3 : FaOk Try.prog 65 3 3 := faOk U65 rfl SZ3 (by decide) rfl
theorem FA65_4 : FaOk Try.prog 65 4 4 := faOk U65 rfl SZ3 (by decide) rfl
theorem FA67_0 : FaOk Try.prog 67 0 0 := faOk U67 rfl SZ3 (by decide) rfl
theorem FA67_1 : FaOk Try.prog 67 1 1 := faOk U67 rfl SZ3 (by decide) rfl
theorem FA67_2 : FaOk Try.prog 67 2 2 := faOk U67 rfl SZ3 (by decide) rfl
theorem CF (f : Nat) (vs : Array Value) (h : (((Try.prog.funcs[f]?).map fun fn => !(fn.name == "runtime.NumGoroutine") && !fn.body.isNone).getD false) = true := by kernel_rfl) : ∀ w, (callFunc f vs).run Try.prog w = .ok (.enter f vs) w := fun w => by
  cases hf : Try.prog.funcs[f]? with
  | none => rw [hf] at h; cases h
  | some fn =>
    rw [hf] at h
    simp only [Option.map_some, Option.getD_some, Bool.and_eq_true, Bool.not_eq_true'] at h
    have h1 : ¬ fn.name = "runtime.NumGoroutine" := by simpa using h.1
    have h2 : ¬ fn.body = none := fun e => by have := h.2; rw [e] at this; cases this
    simp [callFunc, hf, h1, h2]
end Go.Proofs.Ytkjknlnhffmkkac
