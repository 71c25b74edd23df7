/- Contracts of before, in the form that the printed steps take. -/
import Derived.Test.YtkjknlnhffmkkacGreatQLog2
namespace Go.Proofs.YtkjknlnhffmkkacGreat
open Go.RowKit
theorem Lacks_c (v1 v2:Value) (l:List Upd) (c:List Int) (W:World) (h1:UpdsR (wrd W) v1 l) (h2:IntsR (wrd W) v2 c) (hbig:l.length * 56 ≤ 140737488355328) (hseen:∀ u ∈ l,u.seen.length * 8 ≤ 140737488355328) :
    Calls Tryz.prog 43 #[v1,v2] W fun e w' => ∃ r,e = .returned r ∧ UpdsR (newer w' W.heap.size) r (lacksU l c) ∧ Below W.heap.size W w' :=
  (Lacks_calls v1 v2 l c W h1 h2 hbig hseen).mono fun e w' ⟨r,h,h2,h3⟩ => ⟨r,h,h2.newer_,h3⟩
theorem Join_c (v u:Value) (a b:List Int) (w:World) (h:IntsR (wrd w) v a) (h':IntsR (wrd w) u b) (hbig:max a.length b.length * 8 ≤ 140737488355328) :
    Calls Tryz.prog 31 #[v,u] w fun e w' => ∃ r,e = .returned r ∧ IntsR (newer w' w.heap.size) r (joinC a b) ∧ Below w.heap.size w w' :=
  (Join_calls v u a b w h h' hbig).mono fun e w' ⟨r,h,h2,h3⟩ => ⟨r,h,h2.ints_newer,h3⟩
theorem Meet_c (v u:Value) (a b:List Int) (w:World) (h:IntsR (wrd w) v a) (h':IntsR (wrd w) u b) (hbig:max a.length b.length * 8 ≤ 140737488355328) :
    Calls Tryz.prog 64 #[v,u] w fun e w' => ∃ r,e = .returned r ∧ IntsR (newer w' w.heap.size) r (meetC a b) ∧ Below w.heap.size w w' :=
  (Meet_calls v u a b w h h' hbig).mono fun e w' ⟨r,h,h2,h3⟩ => ⟨r,h,h2.ints_newer,h3⟩
end Go.Proofs.YtkjknlnhffmkkacGreat
