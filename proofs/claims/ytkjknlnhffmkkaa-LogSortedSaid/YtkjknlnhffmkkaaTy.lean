/- Facts on this translation's types and functions, each by the kernel. -/
import Derived.Test.YtkjknlnhffmkkaaRows
import Derived.Test.YtkjknlnhffmkkaaEngQ
namespace Go.Proofs.Ytkjknlnhffmkkaa
open Go.RowKit
theorem MX : Try.prog.follows .mixedOrders = true := by kernel_rfl
abbrev U1 := Try.underlying1
theorem SZ1 : ∀ w, (sizeOf 1).run Try.prog w = .ok 1 w := fun _ => by kernel_rfl
theorem T1 : Ty1 Try.prog 1 := ⟨fun _ => by kernel_rfl, SZ1⟩
theorem Z1 : ∀ w, (zeroValue 1).run Try.prog w = .ok (.nilFunc) w := fun _ => by kernel_rfl
abbrev U2 := Try.underlying2
theorem SZ2 : ∀ w, (sizeOf 2).run Try.prog w = .ok 1 w := fun _ => by kernel_rfl
theorem T2 : Ty1 Try.prog 2 := ⟨fun _ => by kernel_rfl, SZ2⟩
theorem Z2 : ∀ w, (zeroValue 2).run Try.prog w = .ok (.int .i64 0) w := fun _ => by kernel_rfl
abbrev U3 := Try.underlying3
theorem SZ3 : ∀ w, (sizeOf 3).run Try.prog w = .ok 1 w := fun _ => by kernel_rfl
theorem T3 : Ty1 Try.prog 3 := ⟨fun _ => by kernel_rfl, SZ3⟩
theorem Z3 : ∀ w, (zeroValue 3).run Try.prog w = .ok (.int .i64 0) w := fun _ => by kernel_rfl
abbrev U4 := Try.underlying4
theorem SZ4 : ∀ w, (sizeOf 4).run Try.prog w = .ok 1 w := fun _ => by kernel_rfl
theorem T4 : Ty1 Try.prog 4 := ⟨fun _ => by kernel_rfl, SZ4⟩
theorem Z4 : ∀ w, (zeroValue 4).run Try.prog w = .ok (.bool false) w := fun _ => by kernel_rfl
abbrev U5 := Try.underlying5
theorem SZ5 : ∀ w, (sizeOf 5).run Try.prog w = .ok 1 w := fun _ => by kernel_rfl
theorem T5 : Ty1 Try.prog 5 := ⟨fun _ => by kernel_rfl, SZ5⟩
theorem Z5 : ∀ w, (zeroValue 5).run Try.prog w = .ok (.int .u8 0) w := fun _ => by kernel_rfl
abbrev U6 := Try.underlying6
theorem SZ6 : ∀ w, (sizeOf 6).run Try.prog w = .ok 1 w := fun _ => by kernel_rfl
theorem T6 : Ty1 Try.prog 6 := ⟨fun _ => by kernel_rfl, SZ6⟩
theorem Z6 : ∀ w, (zeroValue 6).run Try.prog w = .ok (.int .u8 0) w := fun _ => by kernel_rfl
abbrev U9 := Try.underlying9
theorem SZ9 : ∀ w, (sizeOf 9).run Try.prog w = .ok 1 w := fun _ => by kernel_rfl
theorem T9 : Ty1 Try.prog 9 := ⟨fun _ => by kernel_rfl, SZ9⟩
theorem Z9 : ∀ w, (zeroValue 9).run Try.prog w = .ok (.string ⟨#[]⟩) w := fun _ => by kernel_rfl
abbrev U10 := Try.underlying10
theorem SZ10 : ∀ w, (sizeOf 10).run Try.prog w = .ok 1 w := fun _ => by kernel_rfl
theorem T10 : Ty1 Try.prog 10 := ⟨fun _ => by kernel_rfl, SZ10⟩
theorem Z10 : ∀ w, (zeroValue 10).run Try.prog w = .ok (.string ⟨#[]⟩) w := fun _ => by kernel_rfl
abbrev U17 := Try.underlying17
theorem SZ17 : ∀ w, (sizeOf 17).run Try.prog w = .ok 1 w := fun _ => by kernel_rfl
theorem T17 : Ty1 Try.prog 17 := ⟨fun _ => by kernel_rfl, SZ17⟩
theorem Z17 : ∀ w, (zeroValue 17).run Try.prog w = .ok (.pointer none) w := fun _ => by kernel_rfl
abbrev U22 := Try.underlying22
theorem SZ22 : ∀ w, (sizeOf 22).run Try.prog w = .ok 1 w := fun _ => by kernel_rfl
theorem T22 : Ty1 Try.prog 22 := ⟨fun _ => by kernel_rfl, SZ22⟩
theorem Z22 : ∀ w, (zeroValue 22).run Try.prog w = .ok (.slice none 0 0) w := fun _ => by kernel_rfl
abbrev U23 := Try.underlying23
theorem SZ23 : ∀ w, (sizeOf 23).run Try.prog w = .ok 1 w := fun _ => by kernel_rfl
theorem T23 : Ty1 Try.prog 23 := ⟨fun _ => by kernel_rfl, SZ23⟩
theorem Z23 : ∀ w, (zeroValue 23).run Try.prog w = .ok (.slice none 0 0) w := fun _ => by kernel_rfl
abbrev U25 := Try.underlying25
theorem SZ25 : ∀ w, (sizeOf 25).run Try.prog w = .ok 1 w := fun _ => by kernel_rfl
theorem T25 : Ty1 Try.prog 25 := ⟨fun _ => by kernel_rfl, SZ25⟩
theorem Z25 : ∀ w, (zeroValue 25).run Try.prog w = .ok (.int .i64 0) w := fun _ => by kernel_rfl
abbrev U32 := Try.underlying32
theorem SZ32 : ∀ w, (sizeOf 32).run Try.prog w = .ok 5 w := fun _ => by kernel_rfl
theorem T32 : TyA Try.prog 32 5 := ⟨fun _ => by kernel_rfl, SZ32⟩
theorem Z32 : ∀ w, (zeroValue 32).run Try.prog w = .ok (.agg #[.int .i64 0, .slice none 0 0, .int .i64 0, .int .i64 0, .int .i64 0]) w := fun _ => by kernel_rfl
abbrev U33 := Try.underlying33
theorem SZ33 : ∀ w, (sizeOf 33).run Try.prog w = .ok 1 w := fun _ => by kernel_rfl
theorem T33 : Ty1 Try.prog 33 := ⟨fun _ => by kernel_rfl, SZ33⟩
theorem Z33 : ∀ w, (zeroValue 33).run Try.prog w = .ok (.slice none 0 0) w := fun _ => by kernel_rfl
abbrev U48 := Try.underlying48
theorem SZ48 : ∀ w, (sizeOf 48).run Try.prog w = .ok 1 w := fun _ => by kernel_rfl
theorem T48 : Ty1 Try.prog 48 := ⟨fun _ => by kernel_rfl, SZ48⟩
theorem Z48 : ∀ w, (zeroValue 48).run Try.prog w = .ok (.slice none 0 0) w := fun _ => by kernel_rfl
abbrev U50 := Try.underlying50
theorem SZ50 : ∀ w, (sizeOf 50).run Try.prog w = .ok 2 w := fun _ => by kernel_rfl
theorem T50 : TyA Try.prog 50 2 := ⟨fun _ => by kernel_rfl, SZ50⟩
theorem Z50 : ∀ w, (zeroValue 50).run Try.prog w = .ok (.agg #[.int .i64 0, .int .i64 0]) w := fun _ => by kernel_rfl
abbrev U56 := Try.underlying56
theorem SZ56 : ∀ w, (sizeOf 56).run Try.prog w = .ok 1 w := fun _ => by kernel_rfl
theorem T56 : Ty1 Try.prog 56 := ⟨fun _ => by kernel_rfl, SZ56⟩
theorem Z56 : ∀ w, (zeroValue 56).run Try.prog w = .ok (.slice none 0 0) w := fun _ => by kernel_rfl
abbrev U67 := Try.underlying67
theorem SZ67 : ∀ w, (sizeOf 67).run Try.prog w = .ok 1 w := fun _ => by kernel_rfl
theorem T67 : Ty1 Try.prog 67 := ⟨fun _ => by kernel_rfl, SZ67⟩
theorem Z67 : ∀ w, (zeroValue 67).run Try.prog w = .ok (.nilFunc) w := fun _ => by kernel_rfl
abbrev U69 := Try.underlying69
theorem SZ69 : ∀ w, (sizeOf 69).run Try.prog w = .ok 1 w := fun _ => by kernel_rfl
theorem T69 : Ty1 Try.prog 69 := ⟨fun _ => by kernel_rfl, SZ69⟩
theorem Z69 : ∀ w, (zeroValue 69).run Try.prog w = .ok (.nilFunc) w := fun _ => by kernel_rfl
abbrev U70 := Try.underlying70
theorem SZ70 : ∀ w, (sizeOf 70).run Try.prog w = .ok 1 w := fun _ => by kernel_rfl
theorem T70 : Ty1 Try.prog 70 := ⟨fun _ => by kernel_rfl, SZ70⟩
theorem Z70 : ∀ w, (zeroValue 70).run Try.prog w = .ok (.int .u64 0) w := fun _ => by kernel_rfl
abbrev U79 := Try.underlying79
theorem SZ79 : ∀ w, (sizeOf 79).run Try.prog w = .ok 1 w := fun _ => by kernel_rfl
theorem T79 : Ty1 Try.prog 79 := ⟨fun _ => by kernel_rfl, SZ79⟩
theorem Z79 : ∀ w, (zeroValue 79).run Try.prog w = .ok (.pointer none) w := fun _ => by kernel_rfl
abbrev U84 := Try.underlying84
theorem SZ84 : ∀ w, (sizeOf 84).run Try.prog w = .ok 1 w := fun _ => by kernel_rfl
theorem T84 : Ty1 Try.prog 84 := ⟨fun _ => by kernel_rfl, SZ84⟩
theorem Z84 : ∀ w, (zeroValue 84).run Try.prog w = .ok (.nilFunc) w := fun _ => by kernel_rfl
theorem K22 : ElemOk Try.prog 22 3 1 8 := ok_elemK U22 (z := .int .i64 0) (by kernel_rfl) rfl (by decide)
theorem K23 : ElemOk Try.prog 23 3 1 8 := ok_elemK U23 (z := .int .i64 0) (by kernel_rfl) rfl (by decide)
theorem K33 : ElemOk Try.prog 33 5 1 1 := ok_elemK U33 (z := .int .u8 0) (by kernel_rfl) rfl (by decide)
theorem K48 : ElemOk Try.prog 48 32 5 56 := ok_elemK U48 (z := .agg #[.int .i64 0, .slice none 0 0, .int .i64 0, .int .i64 0, .int .i64 0]) (by kernel_rfl) rfl (by decide)
theorem K56 : ElemOk Try.prog 56 25 1 8 := ok_elemK U56 (z := .int .i64 0) (by kernel_rfl) rfl (by decide)
theorem FA32_0 : FaOk Try.prog 32 0 0 := faOk U32 rfl SZ3 (by decide) rfl
theorem FA32_1 : FaOk Try.prog 32 1 1 := faOk U32 rfl SZ23 (by decide) rfl
theorem FA32_2 : FaOk Try.prog 32 2 2 := faOk U32 rfl SZ3 (by decide) rfl
theorem FA32_3 : FaOk Try.prog 32 3 3 := faOk U32 rfl SZ3 (by decide) rfl
theorem FA32_4 : FaOk Try.prog 32 4 4 := faOk U32 rfl SZ3 (by decide) rfl
theorem FA50_0 : FaOk Try.prog 50 0 0 := faOk U50 rfl SZ25 (by decide) rfl
theorem FA50_1 : FaOk Try.prog 50 1 1 := faOk U50 rfl SZ3 (by decide) rfl
theorem CF (f : Nat) (vs : Array Value) (h : (((Try.prog.funcs[f]?).map fun fn => !(fn.name == "runtime.NumGoroutine") && !fn.body.isNone).getD false) = true := by kernel_rfl) : ∀ w, (callFunc f vs).run Try.prog w = .ok (.enter f vs) w := fun w => by
  cases hf : Try.prog.funcs[f]? with
  | none => rw [hf] at h; cases h
  | some fn =>
    rw [hf] at h
    simp only [Option.map_some, Option.getD_some, Bool.and_eq_true, Bool.not_eq_true'] at h
    have h1 : ¬ fn.name = "runtime.NumGoroutine" := by simpa using h.1
    have h2 : ¬ fn.body = none := fun e => by have := h.2; rw [e] at this; cases this
    simp [callFunc, hf, h1, h2]
end Go.Proofs.Ytkjknlnhffmkkaa
