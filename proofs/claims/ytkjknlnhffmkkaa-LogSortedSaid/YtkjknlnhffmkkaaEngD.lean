/- What a call made, as what is read behind it. Plain theorems over any program; no condition. -/
import Derived.Test.YtkjknlnhffmkkaaEngB
namespace Go.Proofs.Ytkjknlnhffmkkaa
open Go.RowKit
set_option linter.unusedVariables false

section
variable {X : List Nat} {W w w' : World} {r0 rd : Rd} {bx : List BxE} {ow : List OwE}
/-- a row that a call made, as a slice that is read -/
theorem own_ext {α : Type} {size n : Nat} {R : CR α} {e : TypeId} {v : Value} {xs : List Value} {l : List α} (hx : w.ownsRow W.heap.size e size v n xs) (hn : n = l.length) (hr : RowR size R (ext r0 W w) xs l) : SliceR size R (ext r0 W w) v l := by
  subst hn
  rcases hx.2 with ⟨h1, h2⟩ | ⟨g, cap, cur, h1, hB, hh, hc, hm', _⟩
  · rw [h1]
    have : l = [] := List.eq_nil_of_length_eq_zero (by omega)
    subst this
    exact SliceR.nil_ _
  · rw [h1]
    refine ⟨some ⟨g, 0, none⟩, cap, xs, rfl, by omega, hm', hr, fun _ => ⟨g, 0, rfl, fun j u hu => ?_⟩⟩
    rw [h1] at hx
    have := hx.cells (g := g) rfl j u hu
    rw [Addr.add_mid, Nat.zero_add] at this
    rw [Nat.zero_add]
    show (if g < W.heap.size then _ else _) = _
    rw [if_neg (by omega)]
    exact this
theorem St.rowOut {α : Type} {R : CR α} [GoodR R] {l : List α} (S : St [] W r0 rd bx ow w) {i size : Nat} {q : OwE} {v : Value} (hi : ow[i]? = some q) (hv : q.v = v) (hn : q.n = l.length) (hs : q.size = size) (hr : RowR size R rd q.xs l) : SliceR size R (ext r0 W w) v l := by
  subst hv hs
  exact own_ext (S.ownB hi) hn (rm hr S.out)
/-- a row that a call handed back -/
theorem own_ext1 {α : Type} {size : Nat} {R : CR α} [GoodR R] {e : TypeId} {v : Value} {xs : List Value} {l : List α} (hx : w.ownsRow W.heap.size e size v l.length xs) (hr : RowR size R rd xs l) (k : Rd.le rd (ext r0 W w)) : SliceR size R (ext r0 W w) v l := own_ext hx rfl (rm hr k)
theorem OwnsL.at {B : Nat} {l : List OwE} {i : Nat} {q : OwE} (h : OwnsL B w l) (hi : l[i]? = some q) : w.ownsRow B q.e q.size q.v q.n q.xs := h.1 _ (List.mem_of_getElem? hi)
theorem agg1 {α : Type} {R : CR α} {rd : Rd} {cs : List Value} {x y : α} (h : R rd cs x) (e : x = y) : AggR R rd (.agg cs.toArray) y := by subst e; exact ⟨_, rfl, h⟩
end
end Go.Proofs.Ytkjknlnhffmkkaa
