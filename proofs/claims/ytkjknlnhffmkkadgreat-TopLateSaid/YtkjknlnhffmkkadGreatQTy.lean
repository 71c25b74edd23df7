/- Facts on this translation's types and functions, each by the kernel. -/
import Derived.Test.YtkjknlnhffmkkadGreatRows
import Derived.Test.YtkjknlnhffmkkadGreatQEg
namespace Go.Proofs.YtkjknlnhffmkkadGreat
open Go.RowKit
theorem MX : Tryz.prog.follows .mixedOrders = true := by kernel_rfl
theorem SZ1 : ∀ w, (sizeOf 1).run Tryz.prog w = .ok 1 w := fun _ => by kernel_rfl
theorem T1 : Ty1 Tryz.prog 1 := ⟨fun _ => by kernel_rfl, SZ1⟩
theorem SZ2 : ∀ w, (sizeOf 2).run Tryz.prog w = .ok 1 w := fun _ => by kernel_rfl
theorem T2 : Ty1 Tryz.prog 2 := ⟨fun _ => by kernel_rfl, SZ2⟩
abbrev U3 := Tryz.underlying3
theorem SZ3 : ∀ w, (sizeOf 3).run Tryz.prog w = .ok 1 w := fun _ => by kernel_rfl
theorem T3 : Ty1 Tryz.prog 3 := ⟨fun _ => by kernel_rfl, SZ3⟩
theorem Z3 : ∀ w, (zeroValue 3).run Tryz.prog w = .ok (.int .i64 0) w := fun _ => by kernel_rfl
abbrev U4 := Tryz.underlying4
theorem SZ4 : ∀ w, (sizeOf 4).run Tryz.prog w = .ok 1 w := fun _ => by kernel_rfl
theorem T4 : Ty1 Tryz.prog 4 := ⟨fun _ => by kernel_rfl, SZ4⟩
theorem Z4 : ∀ w, (zeroValue 4).run Tryz.prog w = .ok (.bool false) w := fun _ => by kernel_rfl
abbrev U22 := Tryz.underlying22
theorem SZ22 : ∀ w, (sizeOf 22).run Tryz.prog w = .ok 1 w := fun _ => by kernel_rfl
theorem T22 : Ty1 Tryz.prog 22 := ⟨fun _ => by kernel_rfl, SZ22⟩
abbrev U25 := Tryz.underlying25
abbrev U26 := Tryz.underlying26
theorem SZ26 : ∀ w, (sizeOf 26).run Tryz.prog w = .ok 1 w := fun _ => by kernel_rfl
theorem T26 : Ty1 Tryz.prog 26 := ⟨fun _ => by kernel_rfl, SZ26⟩
theorem Z26 : ∀ w, (zeroValue 26).run Tryz.prog w = .ok (.slice none 0 0) w := fun _ => by kernel_rfl
abbrev U28 := Tryz.underlying28
theorem SZ28 : ∀ w, (sizeOf 28).run Tryz.prog w = .ok 5 w := fun _ => by kernel_rfl
abbrev zc28 : Array Value := #[.int .i64 0, .slice none 0 0, .int .i64 0, .int .i64 0, .int .i64 0]
theorem T28 : TyA Tryz.prog 28 5 := ⟨fun _ => by kernel_rfl, SZ28⟩
theorem Z28 : ∀ w, (zeroValue 28).run Tryz.prog w = .ok (.agg #[.int .i64 0, .slice none 0 0, .int .i64 0, .int .i64 0, .int .i64 0]) w := fun _ => by kernel_rfl
abbrev U30 := Tryz.underlying30
theorem SZ30 : ∀ w, (sizeOf 30).run Tryz.prog w = .ok 8 w := fun _ => by kernel_rfl
abbrev zc30 : Array Value := #[.int .i64 0, .int .i64 0, .int .i64 0, .int .i64 0, .slice none 0 0, .int .i64 0, .int .i64 0, .int .i64 0]
theorem T30 : TyA Tryz.prog 30 8 := ⟨fun _ => by kernel_rfl, SZ30⟩
theorem Z30 : ∀ w, (zeroValue 30).run Tryz.prog w = .ok (.agg #[.int .i64 0, .int .i64 0, .int .i64 0, .int .i64 0, .slice none 0 0, .int .i64 0, .int .i64 0, .int .i64 0]) w := fun _ => by kernel_rfl
abbrev U33 := Tryz.underlying33
theorem SZ33 : ∀ w, (sizeOf 33).run Tryz.prog w = .ok 1 w := fun _ => by kernel_rfl
theorem T33 : Ty1 Tryz.prog 33 := ⟨fun _ => by kernel_rfl, SZ33⟩
abbrev U34 := Tryz.underlying34
theorem SZ34 : ∀ w, (sizeOf 34).run Tryz.prog w = .ok 1 w := fun _ => by kernel_rfl
theorem T34 : Ty1 Tryz.prog 34 := ⟨fun _ => by kernel_rfl, SZ34⟩
abbrev U36 := Tryz.underlying36
theorem SZ36 : ∀ w, (sizeOf 36).run Tryz.prog w = .ok 3 w := fun _ => by kernel_rfl
abbrev zc36 : Array Value := #[.slice none 0 0, .slice none 0 0, .slice none 0 0]
theorem T36 : TyA Tryz.prog 36 3 := ⟨fun _ => by kernel_rfl, SZ36⟩
theorem Z36 : ∀ w, (zeroValue 36).run Tryz.prog w = .ok (.agg #[.slice none 0 0, .slice none 0 0, .slice none 0 0]) w := fun _ => by kernel_rfl
abbrev U39 := Tryz.underlying39
theorem SZ39 : ∀ w, (sizeOf 39).run Tryz.prog w = .ok 2 w := fun _ => by kernel_rfl
theorem T39 : TyA Tryz.prog 39 2 := ⟨fun _ => by kernel_rfl, SZ39⟩
theorem Z39 : ∀ w, (zeroValue 39).run Tryz.prog w = .ok (.agg #[.int .i64 0, .int .i64 0]) w := fun _ => by kernel_rfl
abbrev U41 := Tryz.underlying41
theorem SZ41 : ∀ w, (sizeOf 41).run Tryz.prog w = .ok 1 w := fun _ => by kernel_rfl
theorem T41 : Ty1 Tryz.prog 41 := ⟨fun _ => by kernel_rfl, SZ41⟩
theorem SZ43 : ∀ w, (sizeOf 43).run Tryz.prog w = .ok 1 w := fun _ => by kernel_rfl
theorem T43 : Ty1 Tryz.prog 43 := ⟨fun _ => by kernel_rfl, SZ43⟩
theorem Z43 : ∀ w, (zeroValue 43).run Tryz.prog w = .ok (.int .i64 0) w := fun _ => by kernel_rfl
abbrev U50 := Tryz.underlying50
theorem SZ50 : ∀ w, (sizeOf 50).run Tryz.prog w = .ok 1 w := fun _ => by kernel_rfl
theorem T50 : Ty1 Tryz.prog 50 := ⟨fun _ => by kernel_rfl, SZ50⟩
abbrev U51 := Tryz.underlying51
theorem SZ51 : ∀ w, (sizeOf 51).run Tryz.prog w = .ok 1 w := fun _ => by kernel_rfl
theorem T51 : Ty1 Tryz.prog 51 := ⟨fun _ => by kernel_rfl, SZ51⟩
abbrev U53 := Tryz.underlying53
theorem SZ53 : ∀ w, (sizeOf 53).run Tryz.prog w = .ok 2 w := fun _ => by kernel_rfl
abbrev zc53 : Array Value := #[.slice none 0 0, .slice none 0 0]
theorem T53 : TyA Tryz.prog 53 2 := ⟨fun _ => by kernel_rfl, SZ53⟩
theorem Z53 : ∀ w, (zeroValue 53).run Tryz.prog w = .ok (.agg #[.slice none 0 0, .slice none 0 0]) w := fun _ => by kernel_rfl
abbrev U54 := Tryz.underlying54
abbrev U58 := Tryz.underlying58
theorem SZ58 : ∀ w, (sizeOf 58).run Tryz.prog w = .ok 2 w := fun _ => by kernel_rfl
abbrev zc58 : Array Value := #[.int .i64 0, .int .i64 0]
theorem T58 : TyA Tryz.prog 58 2 := ⟨fun _ => by kernel_rfl, SZ58⟩
theorem Z58 : ∀ w, (zeroValue 58).run Tryz.prog w = .ok (.agg #[.int .i64 0, .int .i64 0]) w := fun _ => by kernel_rfl
abbrev U61 := Tryz.underlying61
theorem SZ61 : ∀ w, (sizeOf 61).run Tryz.prog w = .ok 1 w := fun _ => by kernel_rfl
theorem T61 : Ty1 Tryz.prog 61 := ⟨fun _ => by kernel_rfl, SZ61⟩
abbrev U62 := Tryz.underlying62
theorem SZ62 : ∀ w, (sizeOf 62).run Tryz.prog w = .ok 1 w := fun _ => by kernel_rfl
theorem T62 : Ty1 Tryz.prog 62 := ⟨fun _ => by kernel_rfl, SZ62⟩
abbrev U64 := Tryz.underlying64
theorem SZ64 : ∀ w, (sizeOf 64).run Tryz.prog w = .ok 3 w := fun _ => by kernel_rfl
abbrev zc64 : Array Value := #[.slice none 0 0, .slice none 0 0, .slice none 0 0]
theorem T64 : TyA Tryz.prog 64 3 := ⟨fun _ => by kernel_rfl, SZ64⟩
theorem Z64 : ∀ w, (zeroValue 64).run Tryz.prog w = .ok (.agg #[.slice none 0 0, .slice none 0 0, .slice none 0 0]) w := fun _ => by kernel_rfl
abbrev U65 := Tryz.underlying65
theorem SZ65 : ∀ w, (sizeOf 65).run Tryz.prog w = .ok 1 w := fun _ => by kernel_rfl
theorem T65 : Ty1 Tryz.prog 65 := ⟨fun _ => by kernel_rfl, SZ65⟩
abbrev U67 := Tryz.underlying67
theorem SZ67 : ∀ w, (sizeOf 67).run Tryz.prog w = .ok 7 w := fun _ => by kernel_rfl
abbrev zc67 : Array Value := #[.int .i64 0, .slice none 0 0, .slice none 0 0, .slice none 0 0, .slice none 0 0, .slice none 0 0, .slice none 0 0]
theorem T67 : TyA Tryz.prog 67 7 := ⟨fun _ => by kernel_rfl, SZ67⟩
theorem Z67 : ∀ w, (zeroValue 67).run Tryz.prog w = .ok (.agg #[.int .i64 0, .slice none 0 0, .slice none 0 0, .slice none 0 0, .slice none 0 0, .slice none 0 0, .slice none 0 0]) w := fun _ => by kernel_rfl
abbrev U71 := Tryz.underlying71
theorem SZ71 : ∀ w, (sizeOf 71).run Tryz.prog w = .ok 2 w := fun _ => by kernel_rfl
abbrev zc71 : Array Value := #[.int .i64 0, .slice none 0 0]
theorem T71 : TyA Tryz.prog 71 2 := ⟨fun _ => by kernel_rfl, SZ71⟩
theorem Z71 : ∀ w, (zeroValue 71).run Tryz.prog w = .ok (.agg #[.int .i64 0, .slice none 0 0]) w := fun _ => by kernel_rfl
abbrev U74 := Tryz.underlying74
abbrev U77 := Tryz.underlying77
theorem SZ77 : ∀ w, (sizeOf 77).run Tryz.prog w = .ok 1 w := fun _ => by kernel_rfl
theorem T77 : Ty1 Tryz.prog 77 := ⟨fun _ => by kernel_rfl, SZ77⟩
theorem Z77 : ∀ w, (zeroValue 77).run Tryz.prog w = .ok (.slice none 0 0) w := fun _ => by kernel_rfl
abbrev U84 := Tryz.underlying84
theorem SZ84 : ∀ w, (sizeOf 84).run Tryz.prog w = .ok 3 w := fun _ => by kernel_rfl
abbrev zc84 : Array Value := #[.int .i64 0, .int .i64 0, .int .i64 0]
theorem T84 : TyA Tryz.prog 84 3 := ⟨fun _ => by kernel_rfl, SZ84⟩
theorem Z84 : ∀ w, (zeroValue 84).run Tryz.prog w = .ok (.agg #[.int .i64 0, .int .i64 0, .int .i64 0]) w := fun _ => by kernel_rfl
abbrev U91 := Tryz.underlying91
theorem SZ91 : ∀ w, (sizeOf 91).run Tryz.prog w = .ok 1 w := fun _ => by kernel_rfl
theorem T91 : Ty1 Tryz.prog 91 := ⟨fun _ => by kernel_rfl, SZ91⟩
theorem Z91 : ∀ w, (zeroValue 91).run Tryz.prog w = .ok (.slice none 0 0) w := fun _ => by kernel_rfl
abbrev U94 := Tryz.underlying94
theorem SZ94 : ∀ w, (sizeOf 94).run Tryz.prog w = .ok 6 w := fun _ => by kernel_rfl
abbrev zc94 : Array Value := #[.bool false, .slice none 0 0, .slice none 0 0, .slice none 0 0, .slice none 0 0, .slice none 0 0]
theorem T94 : TyA Tryz.prog 94 6 := ⟨fun _ => by kernel_rfl, SZ94⟩
theorem Z94 : ∀ w, (zeroValue 94).run Tryz.prog w = .ok (.agg #[.bool false, .slice none 0 0, .slice none 0 0, .slice none 0 0, .slice none 0 0, .slice none 0 0]) w := fun _ => by kernel_rfl
abbrev U100 := Tryz.underlying100
theorem SZ100 : ∀ w, (sizeOf 100).run Tryz.prog w = .ok 5 w := fun _ => by kernel_rfl
abbrev zc100 : Array Value := #[.bool false, .int .i64 0, .int .i64 0, .int .i64 0, .int .i64 0]
theorem T100 : TyA Tryz.prog 100 5 := ⟨fun _ => by kernel_rfl, SZ100⟩
theorem Z100 : ∀ w, (zeroValue 100).run Tryz.prog w = .ok (.agg #[.bool false, .int .i64 0, .int .i64 0, .int .i64 0, .int .i64 0]) w := fun _ => by kernel_rfl
abbrev U140 := Tryz.underlying140
abbrev U146 := Tryz.underlying146
theorem K22 : ElemOk Tryz.prog 22 3 1 8 := ok_elemK U22 (z := .int .i64 0) (by kernel_rfl) rfl (by decide)
theorem K25 : ElemOk Tryz.prog 25 30 8 80 := ok_elemK U25 (z := .agg #[.int .i64 0, .int .i64 0, .int .i64 0, .int .i64 0, .slice none 0 0, .int .i64 0, .int .i64 0, .int .i64 0]) (by kernel_rfl) rfl (by decide)
theorem K26 : ElemOk Tryz.prog 26 3 1 8 := ok_elemK U26 (z := .int .i64 0) (by kernel_rfl) rfl (by decide)
theorem K33 : ElemOk Tryz.prog 33 71 2 32 := ok_elemK U33 (z := .agg #[.int .i64 0, .slice none 0 0]) (by kernel_rfl) rfl (by decide)
theorem K34 : ElemOk Tryz.prog 34 39 2 16 := ok_elemK U34 (z := .agg #[.int .i64 0, .int .i64 0]) (by kernel_rfl) rfl (by decide)
theorem K41 : ElemOk Tryz.prog 41 28 5 56 := ok_elemK U41 (z := .agg #[.int .i64 0, .slice none 0 0, .int .i64 0, .int .i64 0, .int .i64 0]) (by kernel_rfl) rfl (by decide)
theorem K50 : ElemOk Tryz.prog 50 67 7 152 := ok_elemK U50 (z := .agg #[.int .i64 0, .slice none 0 0, .slice none 0 0, .slice none 0 0, .slice none 0 0, .slice none 0 0, .slice none 0 0]) (by kernel_rfl) rfl (by decide)
theorem K51 : ElemOk Tryz.prog 51 77 1 24 := ok_elemK U51 (z := .slice none 0 0) (by kernel_rfl) rfl (by decide)
theorem K54 : ElemOk Tryz.prog 54 43 1 8 := ok_elemK U54 (z := .int .i64 0) (by kernel_rfl) rfl (by decide)
theorem K61 : ElemOk Tryz.prog 61 100 5 40 := ok_elemK U61 (z := .agg #[.bool false, .int .i64 0, .int .i64 0, .int .i64 0, .int .i64 0]) (by kernel_rfl) rfl (by decide)
theorem K62 : ElemOk Tryz.prog 62 84 3 24 := ok_elemK U62 (z := .agg #[.int .i64 0, .int .i64 0, .int .i64 0]) (by kernel_rfl) rfl (by decide)
theorem K65 : ElemOk Tryz.prog 65 26 1 24 := ok_elemK U65 (z := .slice none 0 0) (by kernel_rfl) rfl (by decide)
theorem K77 : ElemOk Tryz.prog 77 91 1 24 := ok_elemK U77 (z := .slice none 0 0) (by kernel_rfl) rfl (by decide)
theorem K91 : ElemOk Tryz.prog 91 94 6 128 := ok_elemK U91 (z := .agg #[.bool false, .slice none 0 0, .slice none 0 0, .slice none 0 0, .slice none 0 0, .slice none 0 0]) (by kernel_rfl) rfl (by decide)
theorem FA28_0 : FaOk Tryz.prog 28 0 0 := faOk U28 rfl SZ3 (by decide) rfl
theorem FA28_1 : FaOk Tryz.prog 28 1 1 := faOk U28 rfl SZ26 (by decide) rfl
theorem FA28_2 : FaOk Tryz.prog 28 2 2 := faOk U28 rfl SZ3 (by decide) rfl
theorem FA28_3 : FaOk Tryz.prog 28 3 3 := faOk U28 rfl SZ3 (by decide) rfl
theorem FA28_4 : FaOk Tryz.prog 28 4 4 := faOk U28 rfl SZ3 (by decide) rfl
theorem FA30_0 : FaOk Tryz.prog 30 0 0 := faOk U30 rfl SZ3 (by decide) rfl
theorem FA30_1 : FaOk Tryz.prog 30 1 1 := faOk U30 rfl SZ3 (by decide) rfl
theorem FA30_2 : FaOk Tryz.prog 30 2 2 := faOk U30 rfl SZ3 (by decide) rfl
theorem FA30_3 : FaOk Tryz.prog 30 3 3 := faOk U30 rfl SZ28 (by decide) rfl
theorem FA36_0 : FaOk Tryz.prog 36 0 0 := faOk U36 rfl SZ33 (by decide) rfl
theorem FA36_1 : FaOk Tryz.prog 36 1 1 := faOk U36 rfl SZ33 (by decide) rfl
theorem FA36_2 : FaOk Tryz.prog 36 2 2 := faOk U36 rfl SZ34 (by decide) rfl
theorem FA53_0 : FaOk Tryz.prog 53 0 0 := faOk U53 rfl SZ50 (by decide) rfl
theorem FA53_1 : FaOk Tryz.prog 53 1 1 := faOk U53 rfl SZ51 (by decide) rfl
theorem FA58_0 : FaOk Tryz.prog 58 0 0 := faOk U58 rfl SZ43 (by decide) rfl
theorem FA64_0 : FaOk Tryz.prog 64 0 0 := faOk U64 rfl SZ26 (by decide) rfl
theorem FA64_1 : FaOk Tryz.prog 64 1 1 := faOk U64 rfl SZ61 (by decide) rfl
theorem FA64_2 : FaOk Tryz.prog 64 2 2 := faOk U64 rfl SZ62 (by decide) rfl
theorem FA67_0 : FaOk Tryz.prog 67 0 0 := faOk U67 rfl SZ3 (by decide) rfl
theorem FA67_1 : FaOk Tryz.prog 67 1 1 := faOk U67 rfl SZ64 (by decide) rfl
theorem FA67_2 : FaOk Tryz.prog 67 2 4 := faOk U67 rfl SZ26 (by decide) rfl
theorem FA67_3 : FaOk Tryz.prog 67 3 5 := faOk U67 rfl SZ41 (by decide) rfl
theorem FA67_4 : FaOk Tryz.prog 67 4 6 := faOk U67 rfl SZ65 (by decide) rfl
theorem FA71_0 : FaOk Tryz.prog 71 0 0 := faOk U71 rfl SZ3 (by decide) rfl
theorem FA71_1 : FaOk Tryz.prog 71 1 1 := faOk U71 rfl SZ22 (by decide) rfl
theorem FA74_0 : FaOk Tryz.prog 74 0 0 := faOk U74 rfl SZ53 (by decide) rfl
theorem FA84_0 : FaOk Tryz.prog 84 0 0 := faOk U84 rfl SZ3 (by decide) rfl
theorem FA84_1 : FaOk Tryz.prog 84 1 1 := faOk U84 rfl SZ3 (by decide) rfl
theorem FA84_2 : FaOk Tryz.prog 84 2 2 := faOk U84 rfl SZ3 (by decide) rfl
theorem FA94_0 : FaOk Tryz.prog 94 0 0 := faOk U94 rfl SZ4 (by decide) rfl
theorem FA94_1 : FaOk Tryz.prog 94 1 1 := faOk U94 rfl SZ64 (by decide) rfl
theorem FA94_2 : FaOk Tryz.prog 94 2 4 := faOk U94 rfl SZ41 (by decide) rfl
theorem FA94_3 : FaOk Tryz.prog 94 3 5 := faOk U94 rfl SZ26 (by decide) rfl
theorem FA100_0 : FaOk Tryz.prog 100 0 0 := faOk U100 rfl SZ4 (by decide) rfl
theorem FA100_1 : FaOk Tryz.prog 100 1 1 := faOk U100 rfl SZ3 (by decide) rfl
theorem FA100_2 : FaOk Tryz.prog 100 2 2 := faOk U100 rfl SZ3 (by decide) rfl
theorem FA100_3 : FaOk Tryz.prog 100 3 3 := faOk U100 rfl SZ3 (by decide) rfl
theorem FA100_4 : FaOk Tryz.prog 100 4 4 := faOk U100 rfl SZ3 (by decide) rfl
theorem CF (f : Nat) (vs : Array Value) (h : (((Tryz.prog.funcs[f]?).map fun fn => !(fn.name == "runtime.NumGoroutine") && !fn.body.isNone).getD false) = true := by kernel_rfl) : ∀ w, (callFunc f vs).run Tryz.prog w = .ok (.enter f vs) w := fun w => by
  cases hf : Tryz.prog.funcs[f]? with
  | none => rw [hf] at h; cases h
  | some fn =>
    rw [hf] at h
    simp only [Option.map_some, Option.getD_some, Bool.and_eq_true, Bool.not_eq_true'] at h
    have h1 : ¬ fn.name = "runtime.NumGoroutine" := by simpa using h.1
    have h2 : ¬ fn.body = none := fun e => by have := h.2; rw [e] at this; cases this
    simp [callFunc, hf, h1, h2]
end Go.Proofs.YtkjknlnhffmkkadGreat
