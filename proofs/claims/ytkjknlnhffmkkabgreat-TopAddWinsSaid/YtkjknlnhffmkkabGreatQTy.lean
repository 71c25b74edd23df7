/- Facts on this translation's types and functions, each by the kernel. -/
import Derived.Test.YtkjknlnhffmkkabGreatRows
import Derived.Test.YtkjknlnhffmkkabGreatQEg
namespace Go.Proofs.YtkjknlnhffmkkabGreat
open Go.RowKit
theorem MX : Tryz.prog.follows .mixedOrders = true := by kernel_rfl
theorem SZ1 : ∀ w, (sizeOf 1).run Tryz.prog w = .ok 1 w := fun _ => by kernel_rfl
theorem T1 : Ty1 Tryz.prog 1 := ⟨fun _ => by kernel_rfl, SZ1⟩
theorem SZ2 : ∀ w, (sizeOf 2).run Tryz.prog w = .ok 1 w := fun _ => by kernel_rfl
theorem T2 : Ty1 Tryz.prog 2 := ⟨fun _ => by kernel_rfl, SZ2⟩
abbrev U3 := Tryz.underlying3
theorem SZ3 : ∀ w, (sizeOf 3).run Tryz.prog w = .ok 1 w := fun _ => by kernel_rfl
theorem T3 : Ty1 Tryz.prog 3 := ⟨fun _ => by kernel_rfl, SZ3⟩
theorem Z3 : ∀ w, (zeroValue 3).run Tryz.prog w = .ok (.int .i64 0) w := fun _ => by kernel_rfl
abbrev U4 := Tryz.underlying4
theorem SZ4 : ∀ w, (sizeOf 4).run Tryz.prog w = .ok 1 w := fun _ => by kernel_rfl
theorem T4 : Ty1 Tryz.prog 4 := ⟨fun _ => by kernel_rfl, SZ4⟩
theorem Z4 : ∀ w, (zeroValue 4).run Tryz.prog w = .ok (.bool false) w := fun _ => by kernel_rfl
abbrev U24 := Tryz.underlying24
theorem SZ24 : ∀ w, (sizeOf 24).run Tryz.prog w = .ok 1 w := fun _ => by kernel_rfl
theorem T24 : Ty1 Tryz.prog 24 := ⟨fun _ => by kernel_rfl, SZ24⟩
abbrev U25 := Tryz.underlying25
theorem SZ25 : ∀ w, (sizeOf 25).run Tryz.prog w = .ok 1 w := fun _ => by kernel_rfl
theorem T25 : Ty1 Tryz.prog 25 := ⟨fun _ => by kernel_rfl, SZ25⟩
theorem Z25 : ∀ w, (zeroValue 25).run Tryz.prog w = .ok (.slice none 0 0) w := fun _ => by kernel_rfl
abbrev U27 := Tryz.underlying27
theorem SZ27 : ∀ w, (sizeOf 27).run Tryz.prog w = .ok 5 w := fun _ => by kernel_rfl
abbrev zc27 : Array Value := #[.int .i64 0, .slice none 0 0, .int .i64 0, .int .i64 0, .int .i64 0]
theorem T27 : TyA Tryz.prog 27 5 := ⟨fun _ => by kernel_rfl, SZ27⟩
theorem Z27 : ∀ w, (zeroValue 27).run Tryz.prog w = .ok (.agg #[.int .i64 0, .slice none 0 0, .int .i64 0, .int .i64 0, .int .i64 0]) w := fun _ => by kernel_rfl
abbrev U29 := Tryz.underlying29
theorem SZ29 : ∀ w, (sizeOf 29).run Tryz.prog w = .ok 8 w := fun _ => by kernel_rfl
abbrev zc29 : Array Value := #[.int .i64 0, .int .i64 0, .int .i64 0, .int .i64 0, .slice none 0 0, .int .i64 0, .int .i64 0, .int .i64 0]
theorem T29 : TyA Tryz.prog 29 8 := ⟨fun _ => by kernel_rfl, SZ29⟩
theorem Z29 : ∀ w, (zeroValue 29).run Tryz.prog w = .ok (.agg #[.int .i64 0, .int .i64 0, .int .i64 0, .int .i64 0, .slice none 0 0, .int .i64 0, .int .i64 0, .int .i64 0]) w := fun _ => by kernel_rfl
abbrev U31 := Tryz.underlying31
abbrev U33 := Tryz.underlying33
theorem SZ33 : ∀ w, (sizeOf 33).run Tryz.prog w = .ok 1 w := fun _ => by kernel_rfl
theorem T33 : Ty1 Tryz.prog 33 := ⟨fun _ => by kernel_rfl, SZ33⟩
abbrev U34 := Tryz.underlying34
theorem SZ34 : ∀ w, (sizeOf 34).run Tryz.prog w = .ok 1 w := fun _ => by kernel_rfl
theorem T34 : Ty1 Tryz.prog 34 := ⟨fun _ => by kernel_rfl, SZ34⟩
abbrev U36 := Tryz.underlying36
theorem SZ36 : ∀ w, (sizeOf 36).run Tryz.prog w = .ok 3 w := fun _ => by kernel_rfl
abbrev zc36 : Array Value := #[.slice none 0 0, .slice none 0 0, .slice none 0 0]
theorem T36 : TyA Tryz.prog 36 3 := ⟨fun _ => by kernel_rfl, SZ36⟩
theorem Z36 : ∀ w, (zeroValue 36).run Tryz.prog w = .ok (.agg #[.slice none 0 0, .slice none 0 0, .slice none 0 0]) w := fun _ => by kernel_rfl
abbrev U45 := Tryz.underlying45
theorem SZ45 : ∀ w, (sizeOf 45).run Tryz.prog w = .ok 1 w := fun _ => by kernel_rfl
theorem T45 : Ty1 Tryz.prog 45 := ⟨fun _ => by kernel_rfl, SZ45⟩
abbrev U46 := Tryz.underlying46
theorem SZ46 : ∀ w, (sizeOf 46).run Tryz.prog w = .ok 1 w := fun _ => by kernel_rfl
theorem T46 : Ty1 Tryz.prog 46 := ⟨fun _ => by kernel_rfl, SZ46⟩
abbrev U48 := Tryz.underlying48
theorem SZ48 : ∀ w, (sizeOf 48).run Tryz.prog w = .ok 2 w := fun _ => by kernel_rfl
abbrev zc48 : Array Value := #[.slice none 0 0, .slice none 0 0]
theorem T48 : TyA Tryz.prog 48 2 := ⟨fun _ => by kernel_rfl, SZ48⟩
theorem Z48 : ∀ w, (zeroValue 48).run Tryz.prog w = .ok (.agg #[.slice none 0 0, .slice none 0 0]) w := fun _ => by kernel_rfl
abbrev U49 := Tryz.underlying49
theorem SZ50 : ∀ w, (sizeOf 50).run Tryz.prog w = .ok 1 w := fun _ => by kernel_rfl
theorem T50 : Ty1 Tryz.prog 50 := ⟨fun _ => by kernel_rfl, SZ50⟩
theorem Z50 : ∀ w, (zeroValue 50).run Tryz.prog w = .ok (.int .i64 0) w := fun _ => by kernel_rfl
abbrev U54 := Tryz.underlying54
theorem SZ54 : ∀ w, (sizeOf 54).run Tryz.prog w = .ok 2 w := fun _ => by kernel_rfl
abbrev zc54 : Array Value := #[.int .i64 0, .int .i64 0]
theorem T54 : TyA Tryz.prog 54 2 := ⟨fun _ => by kernel_rfl, SZ54⟩
theorem Z54 : ∀ w, (zeroValue 54).run Tryz.prog w = .ok (.agg #[.int .i64 0, .int .i64 0]) w := fun _ => by kernel_rfl
abbrev U57 := Tryz.underlying57
theorem SZ57 : ∀ w, (sizeOf 57).run Tryz.prog w = .ok 1 w := fun _ => by kernel_rfl
theorem T57 : Ty1 Tryz.prog 57 := ⟨fun _ => by kernel_rfl, SZ57⟩
abbrev U58 := Tryz.underlying58
theorem SZ58 : ∀ w, (sizeOf 58).run Tryz.prog w = .ok 1 w := fun _ => by kernel_rfl
theorem T58 : Ty1 Tryz.prog 58 := ⟨fun _ => by kernel_rfl, SZ58⟩
abbrev U60 := Tryz.underlying60
theorem SZ60 : ∀ w, (sizeOf 60).run Tryz.prog w = .ok 3 w := fun _ => by kernel_rfl
abbrev zc60 : Array Value := #[.slice none 0 0, .slice none 0 0, .slice none 0 0]
theorem T60 : TyA Tryz.prog 60 3 := ⟨fun _ => by kernel_rfl, SZ60⟩
theorem Z60 : ∀ w, (zeroValue 60).run Tryz.prog w = .ok (.agg #[.slice none 0 0, .slice none 0 0, .slice none 0 0]) w := fun _ => by kernel_rfl
abbrev U61 := Tryz.underlying61
theorem SZ61 : ∀ w, (sizeOf 61).run Tryz.prog w = .ok 1 w := fun _ => by kernel_rfl
theorem T61 : Ty1 Tryz.prog 61 := ⟨fun _ => by kernel_rfl, SZ61⟩
abbrev U62 := Tryz.underlying62
theorem SZ62 : ∀ w, (sizeOf 62).run Tryz.prog w = .ok 1 w := fun _ => by kernel_rfl
theorem T62 : Ty1 Tryz.prog 62 := ⟨fun _ => by kernel_rfl, SZ62⟩
abbrev U64 := Tryz.underlying64
theorem SZ64 : ∀ w, (sizeOf 64).run Tryz.prog w = .ok 7 w := fun _ => by kernel_rfl
abbrev zc64 : Array Value := #[.int .i64 0, .slice none 0 0, .slice none 0 0, .slice none 0 0, .slice none 0 0, .slice none 0 0, .slice none 0 0]
theorem T64 : TyA Tryz.prog 64 7 := ⟨fun _ => by kernel_rfl, SZ64⟩
theorem Z64 : ∀ w, (zeroValue 64).run Tryz.prog w = .ok (.agg #[.int .i64 0, .slice none 0 0, .slice none 0 0, .slice none 0 0, .slice none 0 0, .slice none 0 0, .slice none 0 0]) w := fun _ => by kernel_rfl
abbrev U66 := Tryz.underlying66
theorem SZ66 : ∀ w, (sizeOf 66).run Tryz.prog w = .ok 2 w := fun _ => by kernel_rfl
abbrev zc66 : Array Value := #[.int .i64 0, .slice none 0 0]
theorem T66 : TyA Tryz.prog 66 2 := ⟨fun _ => by kernel_rfl, SZ66⟩
theorem Z66 : ∀ w, (zeroValue 66).run Tryz.prog w = .ok (.agg #[.int .i64 0, .slice none 0 0]) w := fun _ => by kernel_rfl
abbrev U68 := Tryz.underlying68
theorem SZ68 : ∀ w, (sizeOf 68).run Tryz.prog w = .ok 2 w := fun _ => by kernel_rfl
theorem T68 : TyA Tryz.prog 68 2 := ⟨fun _ => by kernel_rfl, SZ68⟩
theorem Z68 : ∀ w, (zeroValue 68).run Tryz.prog w = .ok (.agg #[.int .i64 0, .int .i64 0]) w := fun _ => by kernel_rfl
abbrev U71 := Tryz.underlying71
abbrev U74 := Tryz.underlying74
theorem SZ74 : ∀ w, (sizeOf 74).run Tryz.prog w = .ok 1 w := fun _ => by kernel_rfl
theorem T74 : Ty1 Tryz.prog 74 := ⟨fun _ => by kernel_rfl, SZ74⟩
theorem Z74 : ∀ w, (zeroValue 74).run Tryz.prog w = .ok (.slice none 0 0) w := fun _ => by kernel_rfl
abbrev U81 := Tryz.underlying81
theorem SZ81 : ∀ w, (sizeOf 81).run Tryz.prog w = .ok 3 w := fun _ => by kernel_rfl
abbrev zc81 : Array Value := #[.int .i64 0, .int .i64 0, .int .i64 0]
theorem T81 : TyA Tryz.prog 81 3 := ⟨fun _ => by kernel_rfl, SZ81⟩
theorem Z81 : ∀ w, (zeroValue 81).run Tryz.prog w = .ok (.agg #[.int .i64 0, .int .i64 0, .int .i64 0]) w := fun _ => by kernel_rfl
abbrev U88 := Tryz.underlying88
theorem SZ88 : ∀ w, (sizeOf 88).run Tryz.prog w = .ok 1 w := fun _ => by kernel_rfl
theorem T88 : Ty1 Tryz.prog 88 := ⟨fun _ => by kernel_rfl, SZ88⟩
theorem Z88 : ∀ w, (zeroValue 88).run Tryz.prog w = .ok (.slice none 0 0) w := fun _ => by kernel_rfl
abbrev U91 := Tryz.underlying91
theorem SZ91 : ∀ w, (sizeOf 91).run Tryz.prog w = .ok 6 w := fun _ => by kernel_rfl
abbrev zc91 : Array Value := #[.bool false, .slice none 0 0, .slice none 0 0, .slice none 0 0, .slice none 0 0, .slice none 0 0]
theorem T91 : TyA Tryz.prog 91 6 := ⟨fun _ => by kernel_rfl, SZ91⟩
theorem Z91 : ∀ w, (zeroValue 91).run Tryz.prog w = .ok (.agg #[.bool false, .slice none 0 0, .slice none 0 0, .slice none 0 0, .slice none 0 0, .slice none 0 0]) w := fun _ => by kernel_rfl
abbrev U97 := Tryz.underlying97
theorem SZ97 : ∀ w, (sizeOf 97).run Tryz.prog w = .ok 5 w := fun _ => by kernel_rfl
abbrev zc97 : Array Value := #[.bool false, .int .i64 0, .int .i64 0, .int .i64 0, .int .i64 0]
theorem T97 : TyA Tryz.prog 97 5 := ⟨fun _ => by kernel_rfl, SZ97⟩
theorem Z97 : ∀ w, (zeroValue 97).run Tryz.prog w = .ok (.agg #[.bool false, .int .i64 0, .int .i64 0, .int .i64 0, .int .i64 0]) w := fun _ => by kernel_rfl
abbrev U138 := Tryz.underlying138
abbrev U144 := Tryz.underlying144
theorem K24 : ElemOk Tryz.prog 24 3 1 8 := ok_elemK U24 (z := .int .i64 0) (by kernel_rfl) rfl (by decide)
theorem K25 : ElemOk Tryz.prog 25 3 1 8 := ok_elemK U25 (z := .int .i64 0) (by kernel_rfl) rfl (by decide)
theorem K31 : ElemOk Tryz.prog 31 29 8 80 := ok_elemK U31 (z := .agg #[.int .i64 0, .int .i64 0, .int .i64 0, .int .i64 0, .slice none 0 0, .int .i64 0, .int .i64 0, .int .i64 0]) (by kernel_rfl) rfl (by decide)
theorem K33 : ElemOk Tryz.prog 33 66 2 32 := ok_elemK U33 (z := .agg #[.int .i64 0, .slice none 0 0]) (by kernel_rfl) rfl (by decide)
theorem K34 : ElemOk Tryz.prog 34 68 2 16 := ok_elemK U34 (z := .agg #[.int .i64 0, .int .i64 0]) (by kernel_rfl) rfl (by decide)
theorem K45 : ElemOk Tryz.prog 45 64 7 152 := ok_elemK U45 (z := .agg #[.int .i64 0, .slice none 0 0, .slice none 0 0, .slice none 0 0, .slice none 0 0, .slice none 0 0, .slice none 0 0]) (by kernel_rfl) rfl (by decide)
theorem K46 : ElemOk Tryz.prog 46 74 1 24 := ok_elemK U46 (z := .slice none 0 0) (by kernel_rfl) rfl (by decide)
theorem K49 : ElemOk Tryz.prog 49 50 1 8 := ok_elemK U49 (z := .int .i64 0) (by kernel_rfl) rfl (by decide)
theorem K57 : ElemOk Tryz.prog 57 97 5 40 := ok_elemK U57 (z := .agg #[.bool false, .int .i64 0, .int .i64 0, .int .i64 0, .int .i64 0]) (by kernel_rfl) rfl (by decide)
theorem K58 : ElemOk Tryz.prog 58 81 3 24 := ok_elemK U58 (z := .agg #[.int .i64 0, .int .i64 0, .int .i64 0]) (by kernel_rfl) rfl (by decide)
theorem K61 : ElemOk Tryz.prog 61 27 5 56 := ok_elemK U61 (z := .agg #[.int .i64 0, .slice none 0 0, .int .i64 0, .int .i64 0, .int .i64 0]) (by kernel_rfl) rfl (by decide)
theorem K62 : ElemOk Tryz.prog 62 25 1 24 := ok_elemK U62 (z := .slice none 0 0) (by kernel_rfl) rfl (by decide)
theorem K74 : ElemOk Tryz.prog 74 88 1 24 := ok_elemK U74 (z := .slice none 0 0) (by kernel_rfl) rfl (by decide)
theorem K88 : ElemOk Tryz.prog 88 91 6 128 := ok_elemK U88 (z := .agg #[.bool false, .slice none 0 0, .slice none 0 0, .slice none 0 0, .slice none 0 0, .slice none 0 0]) (by kernel_rfl) rfl (by decide)
theorem FA27_0 : FaOk Tryz.prog 27 0 0 := faOk U27 rfl SZ3 (by decide) rfl
theorem FA27_1 : FaOk Tryz.prog 27 1 1 := faOk U27 rfl SZ25 (by decide) rfl
theorem FA27_2 : FaOk Tryz.prog 27 2 2 := faOk U27 rfl SZ3 (by decide) rfl
theorem FA27_3 : FaOk Tryz.prog 27 3 3 := faOk U27 rfl SZ3 (by decide) rfl
theorem FA27_4 : FaOk Tryz.prog 27 4 4 := faOk U27 rfl SZ3 (by decide) rfl
theorem FA29_0 : FaOk Tryz.prog 29 0 0 := faOk U29 rfl SZ3 (by decide) rfl
theorem FA29_1 : FaOk Tryz.prog 29 1 1 := faOk U29 rfl SZ3 (by decide) rfl
theorem FA29_2 : FaOk Tryz.prog 29 2 2 := faOk U29 rfl SZ3 (by decide) rfl
theorem FA29_3 : FaOk Tryz.prog 29 3 3 := faOk U29 rfl SZ27 (by decide) rfl
theorem FA36_0 : FaOk Tryz.prog 36 0 0 := faOk U36 rfl SZ33 (by decide) rfl
theorem FA36_1 : FaOk Tryz.prog 36 1 1 := faOk U36 rfl SZ33 (by decide) rfl
theorem FA36_2 : FaOk Tryz.prog 36 2 2 := faOk U36 rfl SZ34 (by decide) rfl
theorem FA48_0 : FaOk Tryz.prog 48 0 0 := faOk U48 rfl SZ45 (by decide) rfl
theorem FA48_1 : FaOk Tryz.prog 48 1 1 := faOk U48 rfl SZ46 (by decide) rfl
theorem FA54_0 : FaOk Tryz.prog 54 0 0 := faOk U54 rfl SZ50 (by decide) rfl
theorem FA60_0 : FaOk Tryz.prog 60 0 0 := faOk U60 rfl SZ25 (by decide) rfl
theorem FA60_1 : FaOk Tryz.prog 60 1 1 := faOk U60 rfl SZ57 (by decide) rfl
theorem FA60_2 : FaOk Tryz.prog 60 2 2 := faOk U60 rfl SZ58 (by decide) rfl
theorem FA64_0 : FaOk Tryz.prog 64 0 0 := faOk U64 rfl SZ3 (by decide) rfl
theorem FA64_1 : FaOk Tryz.prog 64 1 1 := faOk U64 rfl SZ60 (by decide) rfl
theorem FA64_2 : FaOk Tryz.prog 64 2 4 := faOk U64 rfl SZ25 (by decide) rfl
theorem FA64_3 : FaOk Tryz.prog 64 3 5 := faOk U64 rfl SZ61 (by decide) rfl
theorem FA64_4 : FaOk Tryz.prog 64 4 6 := faOk U64 rfl SZ62 (by decide) rfl
theorem FA66_0 : FaOk Tryz.prog 66 0 0 := faOk U66 rfl SZ3 (by decide) rfl
theorem FA66_1 : FaOk Tryz.prog 66 1 1 := faOk U66 rfl SZ24 (by decide) rfl
theorem FA71_0 : FaOk Tryz.prog 71 0 0 := faOk U71 rfl SZ48 (by decide) rfl
theorem FA81_0 : FaOk Tryz.prog 81 0 0 := faOk U81 rfl SZ3 (by decide) rfl
theorem FA81_1 : FaOk Tryz.prog 81 1 1 := faOk U81 rfl SZ3 (by decide) rfl
theorem FA81_2 : FaOk Tryz.prog 81 2 2 := faOk U81 rfl SZ3 (by decide) rfl
theorem FA91_0 : FaOk Tryz.prog 91 0 0 := faOk U91 rfl SZ4 (by decide) rfl
theorem FA91_1 : FaOk Tryz.prog 91 1 1 := faOk U91 rfl SZ60 (by decide) rfl
theorem FA91_2 : FaOk Tryz.prog 91 2 4 := faOk U91 rfl SZ61 (by decide) rfl
theorem FA91_3 : FaOk Tryz.prog 91 3 5 := faOk U91 rfl SZ25 (by decide) rfl
theorem FA97_0 : FaOk Tryz.prog 97 0 0 := faOk U97 rfl SZ4 (by decide) rfl
theorem FA97_1 : FaOk Tryz.prog 97 1 1 := faOk U97 rfl SZ3 (by decide) rfl
theorem FA97_2 : FaOk Tryz.prog 97 2 2 := faOk U97 rfl SZ3 (by decide) rfl
theorem FA97_3 : FaOk Tryz.prog 97 3 3 := faOk U97 rfl SZ3 (by decide) rfl
theorem FA97_4 : FaOk Tryz.prog 97 4 4 := faOk U97 rfl SZ3 (by decide) rfl
theorem CF (f : Nat) (vs : Array Value) (h : (((Tryz.prog.funcs[f]?).map fun fn => !(fn.name == "runtime.NumGoroutine") && !fn.body.isNone).getD false) = true := by kernel_rfl) : ∀ w, (callFunc f vs).run Tryz.prog w = .ok (.enter f vs) w := fun w => by
  cases hf : Tryz.prog.funcs[f]? with
  | none => rw [hf] at h; cases h
  | some fn =>
    rw [hf] at h
    simp only [Option.map_some, Option.getD_some, Bool.and_eq_true, Bool.not_eq_true'] at h
    have h1 : ¬ fn.name = "runtime.NumGoroutine" := by simpa using h.1
    have h2 : ¬ fn.body = none := fun e => by have := h.2; rw [e] at this; cases this
    simp [callFunc, hf, h1, h2]
end Go.Proofs.YtkjknlnhffmkkabGreat
