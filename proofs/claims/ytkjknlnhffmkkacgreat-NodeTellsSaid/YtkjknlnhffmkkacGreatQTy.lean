/- Facts on this translation's types and functions, each by the kernel. -/
import Derived.Test.YtkjknlnhffmkkacGreatRows
import Derived.Test.YtkjknlnhffmkkacGreatQEg
namespace Go.Proofs.YtkjknlnhffmkkacGreat
open Go.RowKit
theorem MX:Tryz.prog.follows .mixedOrders = true:=by kernel_rfl
theorem SZ1:∀ w,(sizeOf 1).run Tryz.prog w = .ok 1 w:=fun _ => by kernel_rfl
theorem T1:Ty1 Tryz.prog 1:=⟨fun _ => by kernel_rfl,SZ1⟩
theorem SZ2:∀ w,(sizeOf 2).run Tryz.prog w = .ok 1 w:=fun _ => by kernel_rfl
theorem T2:Ty1 Tryz.prog 2:=⟨fun _ => by kernel_rfl,SZ2⟩
abbrev U3:=Tryz.underlying3
theorem SZ3:∀ w,(sizeOf 3).run Tryz.prog w = .ok 1 w:=fun _ => by kernel_rfl
theorem T3:Ty1 Tryz.prog 3:=⟨fun _ => by kernel_rfl,SZ3⟩
theorem Z3:∀ w,(zeroValue 3).run Tryz.prog w = .ok (.int .i64 0) w:=fun _ => by kernel_rfl
abbrev U4:=Tryz.underlying4
theorem SZ4:∀ w,(sizeOf 4).run Tryz.prog w = .ok 1 w:=fun _ => by kernel_rfl
theorem T4:Ty1 Tryz.prog 4:=⟨fun _ => by kernel_rfl,SZ4⟩
theorem Z4:∀ w,(zeroValue 4).run Tryz.prog w = .ok (.bool false) w:=fun _ => by kernel_rfl
abbrev U22:=Tryz.underlying22
abbrev U23:=Tryz.underlying23
theorem SZ23:∀ w,(sizeOf 23).run Tryz.prog w = .ok 1 w:=fun _ => by kernel_rfl
theorem T23:Ty1 Tryz.prog 23:=⟨fun _ => by kernel_rfl,SZ23⟩
theorem Z23:∀ w,(zeroValue 23).run Tryz.prog w = .ok (.slice none 0 0) w:=fun _ => by kernel_rfl
abbrev U24:=Tryz.underlying24
theorem SZ24:∀ w,(sizeOf 24).run Tryz.prog w = .ok 1 w:=fun _ => by kernel_rfl
theorem T24:Ty1 Tryz.prog 24:=⟨fun _ => by kernel_rfl,SZ24⟩
abbrev U25:=Tryz.underlying25
theorem SZ25:∀ w,(sizeOf 25).run Tryz.prog w = .ok 1 w:=fun _ => by kernel_rfl
theorem T25:Ty1 Tryz.prog 25:=⟨fun _ => by kernel_rfl,SZ25⟩
abbrev U27:=Tryz.underlying27
theorem SZ27:∀ w,(sizeOf 27).run Tryz.prog w = .ok 3 w:=fun _ => by kernel_rfl
abbrev zc27:Array Value:=#[.slice none 0 0,.slice none 0 0,.slice none 0 0]
theorem T27:TyA Tryz.prog 27 3:=⟨fun _ => by kernel_rfl,SZ27⟩
theorem Z27:∀ w,(zeroValue 27).run Tryz.prog w = .ok (.agg #[.slice none 0 0,.slice none 0 0,.slice none 0 0]) w:=fun _ => by kernel_rfl
abbrev U28:=Tryz.underlying28
theorem SZ28:∀ w,(sizeOf 28).run Tryz.prog w = .ok 1 w:=fun _ => by kernel_rfl
theorem T28:Ty1 Tryz.prog 28:=⟨fun _ => by kernel_rfl,SZ28⟩
abbrev U29:=Tryz.underlying29
theorem SZ29:∀ w,(sizeOf 29).run Tryz.prog w = .ok 1 w:=fun _ => by kernel_rfl
theorem T29:Ty1 Tryz.prog 29:=⟨fun _ => by kernel_rfl,SZ29⟩
abbrev U31:=Tryz.underlying31
theorem SZ31:∀ w,(sizeOf 31).run Tryz.prog w = .ok 7 w:=fun _ => by kernel_rfl
abbrev zc31:Array Value:=#[.int .i64 0,.slice none 0 0,.slice none 0 0,.slice none 0 0,.slice none 0 0,.slice none 0 0,.slice none 0 0]
theorem T31:TyA Tryz.prog 31 7:=⟨fun _ => by kernel_rfl,SZ31⟩
theorem Z31:∀ w,(zeroValue 31).run Tryz.prog w = .ok (.agg #[.int .i64 0,.slice none 0 0,.slice none 0 0,.slice none 0 0,.slice none 0 0,.slice none 0 0,.slice none 0 0]) w:=fun _ => by kernel_rfl
abbrev U33:=Tryz.underlying33
theorem SZ33:∀ w,(sizeOf 33).run Tryz.prog w = .ok 6 w:=fun _ => by kernel_rfl
abbrev zc33:Array Value:=#[.bool false,.slice none 0 0,.slice none 0 0,.slice none 0 0,.slice none 0 0,.slice none 0 0]
theorem T33:TyA Tryz.prog 33 6:=⟨fun _ => by kernel_rfl,SZ33⟩
theorem Z33:∀ w,(zeroValue 33).run Tryz.prog w = .ok (.agg #[.bool false,.slice none 0 0,.slice none 0 0,.slice none 0 0,.slice none 0 0,.slice none 0 0]) w:=fun _ => by kernel_rfl
theorem SZ35:∀ w,(sizeOf 35).run Tryz.prog w = .ok 1 w:=fun _ => by kernel_rfl
theorem T35:Ty1 Tryz.prog 35:=⟨fun _ => by kernel_rfl,SZ35⟩
abbrev U42:=Tryz.underlying42
theorem SZ42:∀ w,(sizeOf 42).run Tryz.prog w = .ok 5 w:=fun _ => by kernel_rfl
abbrev zc42:Array Value:=#[.int .i64 0,.slice none 0 0,.int .i64 0,.int .i64 0,.int .i64 0]
theorem T42:TyA Tryz.prog 42 5:=⟨fun _ => by kernel_rfl,SZ42⟩
theorem Z42:∀ w,(zeroValue 42).run Tryz.prog w = .ok (.agg #[.int .i64 0,.slice none 0 0,.int .i64 0,.int .i64 0,.int .i64 0]) w:=fun _ => by kernel_rfl
abbrev U84:=Tryz.underlying84
theorem SZ84:∀ w,(sizeOf 84).run Tryz.prog w = .ok 2 w:=fun _ => by kernel_rfl
abbrev zc84:Array Value:=#[.int .i64 0,.int .i64 0]
theorem T84:TyA Tryz.prog 84 2:=⟨fun _ => by kernel_rfl,SZ84⟩
theorem Z84:∀ w,(zeroValue 84).run Tryz.prog w = .ok (.agg #[.int .i64 0,.int .i64 0]) w:=fun _ => by kernel_rfl
abbrev U104:=Tryz.underlying104
theorem SZ104:∀ w,(sizeOf 104).run Tryz.prog w = .ok 5 w:=fun _ => by kernel_rfl
abbrev zc104:Array Value:=#[.bool false,.int .i64 0,.int .i64 0,.int .i64 0,.int .i64 0]
theorem T104:TyA Tryz.prog 104 5:=⟨fun _ => by kernel_rfl,SZ104⟩
theorem Z104:∀ w,(zeroValue 104).run Tryz.prog w = .ok (.agg #[.bool false,.int .i64 0,.int .i64 0,.int .i64 0,.int .i64 0]) w:=fun _ => by kernel_rfl
abbrev U106:=Tryz.underlying106
theorem SZ106:∀ w,(sizeOf 106).run Tryz.prog w = .ok 3 w:=fun _ => by kernel_rfl
abbrev zc106:Array Value:=#[.int .i64 0,.int .i64 0,.int .i64 0]
theorem T106:TyA Tryz.prog 106 3:=⟨fun _ => by kernel_rfl,SZ106⟩
theorem Z106:∀ w,(zeroValue 106).run Tryz.prog w = .ok (.agg #[.int .i64 0,.int .i64 0,.int .i64 0]) w:=fun _ => by kernel_rfl
abbrev U119:=Tryz.underlying119
abbrev U143:=Tryz.underlying143
theorem SZ143:∀ w,(sizeOf 143).run Tryz.prog w = .ok 6 w:=fun _ => by kernel_rfl
abbrev zc143:Array Value:=#[.slice none 0 0,.slice none 0 0,.slice none 0 0,.slice none 0 0,.slice none 0 0,.slice none 0 0]
theorem T143:TyA Tryz.prog 143 6:=⟨fun _ => by kernel_rfl,SZ143⟩
theorem Z143:∀ w,(zeroValue 143).run Tryz.prog w = .ok (.agg #[.slice none 0 0,.slice none 0 0,.slice none 0 0,.slice none 0 0,.slice none 0 0,.slice none 0 0]) w:=fun _ => by kernel_rfl
abbrev U144:=Tryz.underlying144
abbrev U156:=Tryz.underlying156
theorem SZ156:∀ w,(sizeOf 156).run Tryz.prog w = .ok 2 w:=fun _ => by kernel_rfl
abbrev zc156:Array Value:=#[.int .i64 0,.int .i64 0]
theorem T156:TyA Tryz.prog 156 2:=⟨fun _ => by kernel_rfl,SZ156⟩
theorem Z156:∀ w,(zeroValue 156).run Tryz.prog w = .ok (.agg #[.int .i64 0,.int .i64 0]) w:=fun _ => by kernel_rfl
abbrev U157:=Tryz.underlying157
abbrev U167:=Tryz.underlying167
theorem K22:ElemOk Tryz.prog 22 3 1 8:=ok_elemK U22 (z:=.int .i64 0) (by kernel_rfl) rfl (by decide)
theorem K23:ElemOk Tryz.prog 23 3 1 8:=ok_elemK U23 (z:=.int .i64 0) (by kernel_rfl) rfl (by decide)
theorem K24:ElemOk Tryz.prog 24 104 5 40:=ok_elemK U24 (z:=.agg #[.bool false,.int .i64 0,.int .i64 0,.int .i64 0,.int .i64 0]) (by kernel_rfl) rfl (by decide)
theorem K25:ElemOk Tryz.prog 25 106 3 24:=ok_elemK U25 (z:=.agg #[.int .i64 0,.int .i64 0,.int .i64 0]) (by kernel_rfl) rfl (by decide)
theorem K28:ElemOk Tryz.prog 28 42 5 56:=ok_elemK U28 (z:=.agg #[.int .i64 0,.slice none 0 0,.int .i64 0,.int .i64 0,.int .i64 0]) (by kernel_rfl) rfl (by decide)
theorem K29:ElemOk Tryz.prog 29 23 1 24:=ok_elemK U29 (z:=.slice none 0 0) (by kernel_rfl) rfl (by decide)
theorem FA27_0:FaOk Tryz.prog 27 0 0:=faOk U27 rfl SZ23 (by decide) rfl
theorem FA27_1:FaOk Tryz.prog 27 1 1:=faOk U27 rfl SZ24 (by decide) rfl
theorem FA27_2:FaOk Tryz.prog 27 2 2:=faOk U27 rfl SZ25 (by decide) rfl
theorem FA31_0:FaOk Tryz.prog 31 0 0:=faOk U31 rfl SZ3 (by decide) rfl
theorem FA31_1:FaOk Tryz.prog 31 1 1:=faOk U31 rfl SZ27 (by decide) rfl
theorem FA31_2:FaOk Tryz.prog 31 2 4:=faOk U31 rfl SZ23 (by decide) rfl
theorem FA31_3:FaOk Tryz.prog 31 3 5:=faOk U31 rfl SZ28 (by decide) rfl
theorem FA31_4:FaOk Tryz.prog 31 4 6:=faOk U31 rfl SZ29 (by decide) rfl
theorem FA33_0:FaOk Tryz.prog 33 0 0:=faOk U33 rfl SZ4 (by decide) rfl
theorem FA33_1:FaOk Tryz.prog 33 1 1:=faOk U33 rfl SZ27 (by decide) rfl
theorem FA33_2:FaOk Tryz.prog 33 2 4:=faOk U33 rfl SZ28 (by decide) rfl
theorem FA33_3:FaOk Tryz.prog 33 3 5:=faOk U33 rfl SZ23 (by decide) rfl
theorem FA42_0:FaOk Tryz.prog 42 0 0:=faOk U42 rfl SZ3 (by decide) rfl
theorem FA42_1:FaOk Tryz.prog 42 1 1:=faOk U42 rfl SZ23 (by decide) rfl
theorem FA42_2:FaOk Tryz.prog 42 2 2:=faOk U42 rfl SZ3 (by decide) rfl
theorem FA42_3:FaOk Tryz.prog 42 3 3:=faOk U42 rfl SZ3 (by decide) rfl
theorem FA42_4:FaOk Tryz.prog 42 4 4:=faOk U42 rfl SZ3 (by decide) rfl
theorem FA84_0:FaOk Tryz.prog 84 0 0:=faOk U84 rfl SZ35 (by decide) rfl
theorem FA104_0:FaOk Tryz.prog 104 0 0:=faOk U104 rfl SZ4 (by decide) rfl
theorem FA104_1:FaOk Tryz.prog 104 1 1:=faOk U104 rfl SZ3 (by decide) rfl
theorem FA104_2:FaOk Tryz.prog 104 2 2:=faOk U104 rfl SZ3 (by decide) rfl
theorem FA104_3:FaOk Tryz.prog 104 3 3:=faOk U104 rfl SZ3 (by decide) rfl
theorem FA104_4:FaOk Tryz.prog 104 4 4:=faOk U104 rfl SZ3 (by decide) rfl
theorem FA106_0:FaOk Tryz.prog 106 0 0:=faOk U106 rfl SZ3 (by decide) rfl
theorem FA106_1:FaOk Tryz.prog 106 1 1:=faOk U106 rfl SZ3 (by decide) rfl
theorem FA106_2:FaOk Tryz.prog 106 2 2:=faOk U106 rfl SZ3 (by decide) rfl
theorem CF (f:Nat) (vs:Array Value) (h:(((Tryz.prog.funcs[f]?).map fun fn => !(fn.name == "runtime.NumGoroutine") && !fn.body.isNone).getD false) = true:=by kernel_rfl):∀ w,(callFunc f vs).run Tryz.prog w = .ok (.enter f vs) w:=fun w => by
  cases hf:Tryz.prog.funcs[f]? with
  | none => rw [hf] at h;cases h
  | some fn =>
    rw [hf] at h
    simp only [Option.map_some,Option.getD_some,Bool.and_eq_true,Bool.not_eq_true'] at h
    have h1:¬ fn.name = "runtime.NumGoroutine":=by simpa using h.1
    have h2:¬ fn.body = none:=fun e => by have:=h.2;rw [e] at this;cases this
    simp [callFunc,hf,h1,h2]
end Go.Proofs.YtkjknlnhffmkkacGreat
