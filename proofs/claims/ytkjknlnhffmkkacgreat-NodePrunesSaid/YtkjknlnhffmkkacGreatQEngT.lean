/- A row of the call's own, of which a slice shows the tail: read, sliced, appended to. Plain theorems over any program; no condition. -/
import Derived.Test.YtkjknlnhffmkkacGreatQEg
namespace Go.Proofs.YtkjknlnhffmkkacGreat
open Go.RowKit
set_option linter.unusedVariables false

section
variable {P : Program} (w : World)
end
section
variable {P : Program} {Q : Exit → Act → World → Prop} {X : List Nat} {W w w' : World} {r0 rd : Rd} {bx : List BxE} {ow : List OwE} {n d : Nat} {l : Ov} {t ty : TypeId} {pos : String} {af : Array Edge} {v : Value} {x y : Operand} {g i j : Nat} {T : TypeId} {cs : Array Value} {rest : List Oper} {ops : Array Oper}
end
/-- a row with one element another one -/
theorem RowR.put {α : Type} {size : Nat} {R : CR α} {rd : Rd} {xs cs : List Value} {l : List α} {k : Nat} {x : α} (h : RowR size R rd xs l) (hk : k < l.length) (hc : cs.length = size) (hx : R rd cs x) : RowR size R rd (xs.take (k * size) ++ cs ++ xs.drop (k * size + cs.length)) (l.set k x) := by
  have e : l.set k x = (l.take k ++ [x]) ++ l.drop (k + 1) := by
    rw [List.set_eq_take_append_cons_drop, if_pos hk]; simp
  rw [e]
  refine RowR.append ((h.take k).push hc hx) ?_
  have := h.drop (k + 1) hk
  rw [Nat.add_mul, Nat.one_mul] at this
  rw [hc]; exact this
/-- a row that a call made, as the call's own statement of the memory -/
theorem St.ofOwn {α : Type} {size : Nat} {R : CR α} [GoodR R] {W w : World} {r0 : Rd} {e : TypeId} {v : Value} {l : List α} (hle : Rd.le r0 (wrd W)) (k : Below W.heap.size W w) (hO : OwnR size R W.heap.size e w (newb w W.heap.size v.ownBlock) v l) :
    ∃ xs rd', St [] W r0 rd' [] [⟨e, size, v, l.length, xs⟩] w ∧ RowR size R rd' xs l := by
  obtain ⟨xs, hx, hr⟩ := hO
  have S := (St.start (X := []) hle).ownAdd k (q := ⟨e, size, v, l.length, xs⟩) hx
  refine ⟨xs, fun b o => if b < W.heap.size then r0 b o else if some b = v.ownBlock then none else w.cell? ⟨b, o, none⟩, ⟨S.fr, fun b o u hb h => ?_, fun b o u h => ?_, fun b o u h => ?_, by simp, fun q hq => ⟨(S.own q hq).1, fun g hg => ⟨((S.own q hq).2 g hg).1, fun o => ?_⟩⟩, S.d1, S.d2, S.d3⟩, rm hr fun b o u h => ?_⟩
  · rw [if_pos hb] at h; exact h
  · have := blk_lt (hle _ _ _ h); rw [if_pos this]; exact h
  · split at h
    · exact S.le _ _ _ h
    · split at h
      · cases h
      · exact h
  · have hq2 : q = ⟨e, size, v, l.length, xs⟩ := by simpa using hq
    subst hq2
    have hlt := (hx.lt g hg).1
    rw [if_neg (by omega), if_pos (by rw [hg])]
  · unfold newb at h; split at h
    · rename_i hb
      rw [if_neg (by omega), if_neg hb.2]; exact h
    · cases h
end Go.Proofs.YtkjknlnhffmkkacGreat
