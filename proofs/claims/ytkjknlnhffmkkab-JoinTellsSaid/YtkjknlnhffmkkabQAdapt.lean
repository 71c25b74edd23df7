/- Contracts of before, in the form that the printed steps take. -/
import Derived.Test.YtkjknlnhffmkkabQLog2
namespace Go.Proofs.Ytkjknlnhffmkkab
open Go.RowKit
theorem Join_c (v u : Value) (a b : List Int) (w : World) (h : IntsR (wrd w) v a) (h' : IntsR (wrd w) u b) (hbig : max a.length b.length * 8 ≤ 140737488355328) :
    Calls Try.prog 37 #[v, u] w fun e w' => ∃ r, e = .returned r ∧ IntsR (newer w' w.heap.size) r (joinC a b) ∧ Below w.heap.size w w' :=
  (Join_calls v u a b w h h' hbig).mono fun e w' ⟨r, h, h2, h3⟩ => ⟨r, h, h2.ints_newer, h3⟩
end Go.Proofs.Ytkjknlnhffmkkab
