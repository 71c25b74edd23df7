/- Closed facts of the program: how its arguments are read. -/
import Derived.Test.YtkjknlnhffmkkabGreatQPl
import Derived.ProofKit
import Derived.SizedLaws
import Derived.ChangeArms
import Derived.ChangeShapes
import Derived.Deep.Slices
import Derived.Deep.Fields
import Derived.Test.YtkjknlnhffmkkabGreatRows
import Derived.JoinedOf
import Derived.Handed
import Derived.Test.YtkjknlnhffmkkabGreatQEg
namespace Go.Proofs.YtkjknlnhffmkkabGreat
open Go.ChangeShapes Go.WideShapes Go.ChangeAt Go.RowKit
set_option linter.unusedVariables false

theorem weights_each {H : Type} {P : Program} {t : TypeId} {ts : List TypeId} {d : DataW H} {ds : List (DataW H)} {q : Nat → Bool} (h : (DataW.weightsEach P (t :: ts) (d :: ds)).all q = true) :
    (d.weights P t).all q = true ∧ (DataW.weightsEach P ts ds).all q = true := by
  simpa [DataW.weightsEach, List.all_append, Bool.and_eq_true] using h

theorem trodAll_below {H : Type} {enc : TypeId × Value → H} {P : Program} (hl : laidOutB P = true) {W W' : World} (hb : Below W.heap.size W W') : ∀ {ts : List TypeId} {vs : List Value} {ds : List (DataW H)} {ps : List MemPlace},
    ts.all (fun t => P.readableRec t && decide (t < P.types.size)) = true → DataW.TrodAll enc P W 0 (fun _ => true) true ts vs ds ps → (∀ x ∈ ps, x.block < W.heap.size) → DataW.TrodAll enc P W' 0 (fun b => decide (b < W.heap.size)) true ts vs ds ps
  | [], [], [], _, _, h, _ => h
  | t :: ts, v :: vs, d :: ds, ps, hr, ⟨p, q, h1, h2, e⟩, hlt => by
    simp only [List.all_cons, Bool.and_eq_true, decide_eq_true_eq] at hr
    subst e
    exact ⟨p, q, Below.trod hl hr.1.1 hr.1.2 h1 hb (fun x hx => hlt x (List.mem_append.2 (.inl hx))), trodAll_below hl hb hr.2 h2 (fun x hx => hlt x (List.mem_append.2 (.inr hx))), rfl⟩
  | [], _ :: _, _, _, _, h, _ => h.elim
  | [], [], _ :: _, _, _, h, _ => h.elim
  | _ :: _, [], _, _, _, h, _ => h.elim
  | _ :: _, _ :: _, [], _, _, h, _ => h.elim

/-- true, and nothing that was there has turned: the law's row -/
theorem close_law {H : Type} {enc : TypeId × Value → H} {P : Program} {f : Func} {s : ChangeSpec} {W W' : World} {args : Array Value} {ds gs : List (DataW H)} {before : List MemPlace} {tb : TypeId} (hl : laidOutB P = true)
    (hr : f.params.toList.all (fun t => P.readableRec t && decide (t < P.types.size)) = true) (hvars : s.vars = []) (hfn : ∀ gs : List (DataW H), gs = [] → s.fn H (ds ++ gs) = { results := [.lit (.bool true)], args := ds })
    (hres : f.resultTypes = #[tb]) (htb : P.underlying tb = some .bool) (hW : DataW.Whole enc P f.params.toList s.vars false W args.toList ds gs before) (hb : Below W.heap.size W W') :
    s.post enc P f false true false false W args (.bool true) W' := by
  have hW' := hW
  obtain ⟨p, q, hA, hV, e, h1, h2⟩ := hW
  rw [hvars] at hV
  obtain ⟨rfl, rfl⟩ := trodVars_none hV
  rw [List.append_nil] at e
  subst e
  have hfn := hfn [] rfl
  refine ⟨ds, [], before, [], before, [], hW', ?_, ?_, ?_, hb.frame _, fun h => by cases h⟩
  · rw [hfn, hres]
    exact trodAll_mk1 (shut_bool htb true)
  · rw [hfn]
    exact trodAll_below hl hb hr hA fun x hx => by simpa using hW'.lt x hx
  · rw [hfn, hvars]
    rfl

end Go.Proofs.YtkjknlnhffmkkabGreat

namespace Go.Proofs.YtkjknlnhffmkkabGreat
open Go.ChangeShapes Go.WideShapes Go.ChangeAt Go.RowKit

theorem own_ : ownKnob Tryz.prog.godebug = none := by kernel_rfl
theorem laidOut : laidOutB Tryz.prog = true := by kernel_rfl
end Go.Proofs.YtkjknlnhffmkkabGreat

namespace Go.Proofs.YtkjknlnhffmkkabGreat
open Go.ChangeShapes Go.WideShapes Go.ChangeAt Go.RowKit

end Go.Proofs.YtkjknlnhffmkkabGreat

namespace Go.Proofs.YtkjknlnhffmkkabGreat
open Go.ChangeShapes Go.WideShapes Go.ChangeAt Go.RowKit

end Go.Proofs.YtkjknlnhffmkkabGreat

namespace Go.Proofs.YtkjknlnhffmkkabGreat
open Go.ChangeShapes Go.WideShapes Go.ChangeAt Go.RowKit
set_option linter.unusedVariables false
end Go.Proofs.YtkjknlnhffmkkabGreat

namespace Go.Proofs.YtkjknlnhffmkkabGreat
open Go.ChangeShapes Go.WideShapes Go.ChangeAt Go.RowKit
set_option linter.unusedVariables false
end Go.Proofs.YtkjknlnhffmkkabGreat
