/- Contracts of before, in the form that the printed steps take. -/
import Derived.Test.YtkjknlnhffmkkaaQLog2
namespace Go.Proofs.Ytkjknlnhffmkkaa
open Go.RowKit
theorem Lacks_c (v1 v2 : Value) (l : List Upd) (c : List Int) (W : World) (h1 : UpdsR (wrd W) v1 l) (h2 : IntsR (wrd W) v2 c) (hbig : l.length * 56 ≤ 140737488355328) (hseen : ∀ u ∈ l, u.seen.length * 8 ≤ 140737488355328) :
    Calls Try.prog 38 #[v1, v2] W fun e w' => ∃ r, e = .returned r ∧ UpdsR (newer w' W.heap.size) r (lacksU l c) ∧ Below W.heap.size W w' :=
  (Lacks_calls v1 v2 l c W h1 h2 hbig hseen).mono fun e w' ⟨r, h, h2, h3⟩ => ⟨r, h, h2.newer_, h3⟩
end Go.Proofs.Ytkjknlnhffmkkaa
