/- Tick, as what is read. -/
import Derived.Test.YtkjknlnhffmkkaaQClock2
import Derived.Test.YtkjknlnhffmkkaaQEg
namespace Go.Proofs.Ytkjknlnhffmkkaa
open Go.RowKit
theorem Tick_m (rd : Rd) (W : World) (hle : Rd.le rd (wrd W)) (v : Value) (l : List Int) (a : Int) (h : IntsR rd v l) (hbig : l.length * 8 ≤ 140737488355328) :
    Calls Try.prog 35 #[v, .int .i64 a] W fun e w' => ∃ v', e = .returned v' ∧ SliceR 1 IntR (ext rd W w') v' (tickC l a) ∧ Below W.heap.size W w' :=
  (Tick_calls v l a rd W h hle hbig).mono (by
    rintro e w' ⟨v', rfl, ⟨xs, hO, hR⟩, k⟩
    refine ⟨_, rfl, own_ext hO rfl ?_, k⟩
    have any : ∀ {l : List Int} {xs : List Value} {r r' : Rd}, RowR 1 IntR r xs l → RowR 1 IntR r' xs l := by
      intro l
      induction l with
      | nil => intro xs r r' h; exact h
      | cons a l ih => rintro xs r r' ⟨cs, rest, e, h1, h2, h3⟩; exact ⟨cs, rest, e, h1, h2, ih h3⟩
    exact any hR)
end Go.Proofs.Ytkjknlnhffmkkaa
