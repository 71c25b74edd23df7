/- The operations on memory, as steps over St. Plain theorems over any program; no condition. -/
import Derived.Test.YtkjknlnhffmkkaaEngM
import Derived.Laws.CopyRow
namespace Go.Proofs.Ytkjknlnhffmkkaa
open Go.RowKit
set_option linter.unusedVariables false

section
variable {X : List Nat} {W w w' : World} {r0 rd : Rd} {bx : List BxE} {ow : List OwE}
theorem le_plus {r : Rd} {w : World} {g : Option Nat} (h : ∀ k, g = some k → ∀ o, r k o = none) : Rd.le r (plus r w g) := fun b o v e => by
  unfold plus; rw [if_neg (fun e2 => by have := h b e2.symm o; rw [e] at this; cases this)]; exact e
theorem plus_wrd {r : Rd} {w : World} {g : Option Nat} (h : Rd.le r (wrd w)) : Rd.le (plus r w g) (wrd w) := fun b o v e => by
  unfold plus at e; split at e
  · exact e
  · exact h _ _ _ e
theorem pairwise_erase {α : Type} {R : α → α → Prop} {l : List α} {i : Nat} (h : l.Pairwise R) : (l.eraseIdx i).Pairwise R := h.sublist (List.eraseIdx_sublist l i)
theorem mem_erase {α : Type} {l : List α} {i : Nat} {x : α} (h : x ∈ l.eraseIdx i) : ∃ j, j ≠ i ∧ l[j]? = some x := by
  obtain ⟨j, hj⟩ := List.getElem?_of_mem h
  rw [List.getElem?_eraseIdx] at hj
  split at hj
  · exact ⟨j, by omega, hj⟩
  · exact ⟨j + 1, by omega, hj⟩
theorem box_ne (S : St X W r0 rd bx ow w) {i j : Nat} {p q : BxE} (hi : bx[i]? = some p) (hj : bx[j]? = some q) (hn : j ≠ i) : q.1 ≠ p.1 := by
  have h3 := (List.pairwise_iff_getElem.1 S.d1)
  obtain ⟨hi1, hi2⟩ := List.getElem?_eq_some_iff.1 hi
  obtain ⟨hj1, hj2⟩ := List.getElem?_eq_some_iff.1 hj
  rcases Nat.lt_or_gt_of_ne hn with hlt | hlt
  · have := h3 j i hj1 hi1 hlt; rw [hi2, hj2] at this; exact this
  · have := h3 i j hi1 hj1 hlt; rw [hi2, hj2] at this; exact fun e => this e.symm
theorem own_ne (S : St X W r0 rd bx ow w) {i j : Nat} {p q : OwE} (hi : ow[i]? = some p) (hj : ow[j]? = some q) (hn : j ≠ i) : q.v.ownBlock = none ∨ q.v.ownBlock ≠ p.v.ownBlock := by
  have h3 := (List.pairwise_iff_getElem.1 S.d2)
  obtain ⟨hi1, hi2⟩ := List.getElem?_eq_some_iff.1 hi
  obtain ⟨hj1, hj2⟩ := List.getElem?_eq_some_iff.1 hj
  rcases Nat.lt_or_gt_of_ne hn with hlt | hlt
  · have := h3 j i hj1 hi1 hlt; rw [hi2, hj2] at this; exact this
  · have := h3 i j hi1 hj1 hlt; rw [hi2, hj2] at this
    rcases this with h | h
    · cases hq : q.v.ownBlock with
      | none => exact .inl rfl
      | some k => exact .inr (by rw [h]; simp)
    · exact .inr fun e => h e.symm
/-- a block of the call's own is only read from here on -/
theorem St.frz (S : St X W r0 rd bx ow w) {i g : Nat} {T : TypeId} {cs : Array Value} (hi : bx[i]? = some (g, T, cs)) (hX : g ∉ X) : St X W r0 (plus rd w (some g)) (bx.eraseIdx i) ow w := by
  have hm := List.mem_of_getElem? hi
  have hb := S.box _ hm
  refine ⟨S.fr, fun b o v hlt e => ?_, Rd.le_trans S.sup (le_plus fun k e => by injection e with e; subst e; exact hb.2.2), plus_wrd S.le, fun p hp => ?_, fun q hq => ⟨(S.own q hq).1, fun k hk => ⟨((S.own q hq).2 k hk).1, fun o => ?_⟩⟩, pairwise_erase S.d1, S.d2, fun p hp => ?_⟩
  · unfold plus at e; split at e
    · rename_i h2; injection h2 with h2; subst h2; exact hb.1.elim (fun h => absurd hlt (by dsimp only at h; omega)) (fun h => absurd h hX)
    · exact S.sub b o v hlt e
  · obtain ⟨j, hn, hj⟩ := mem_erase hp
    have hp' := List.mem_of_getElem? hj
    refine ⟨(S.box p hp').1, (S.box p hp').2.1, fun o => ?_⟩
    unfold plus; rw [if_neg (fun e => box_ne S hi hj hn (by injection e))]; exact (S.box p hp').2.2 o
  · unfold plus; rw [if_neg (fun e => S.d3 _ hm q hq (by rw [hk, e]))]; exact ((S.own q hq).2 k hk).2 o
  · obtain ⟨j, hn, hj⟩ := mem_erase hp
    exact S.d3 p (List.mem_of_getElem? hj)
theorem St.frz_le (S : St X W r0 rd bx ow w) {i g : Nat} {T : TypeId} {cs : Array Value} (hi : bx[i]? = some (g, T, cs)) : Rd.le rd (plus rd w (some g)) := le_plus fun k e => by injection e with e; subst e; exact (S.box _ (List.mem_of_getElem? hi)).2.2
theorem St.frz_sl {α : Type} {size : Nat} {R : CR α} {xs : List α} (S : St X W r0 rd bx ow w) {i g : Nat} {T : TypeId} {cs : Array Value} (hi : bx[i]? = some (g, T, cs)) {n c : Nat} (hn : n = xs.length) (hc : xs.length ≤ c) (hm : c ≤ maxLen)
    (hr : RowR size R (plus rd w (some g)) cs.toList xs) : SliceR size R (plus rd w (some g)) (.slice (some ⟨g, 0, none⟩) n c) xs := by
  subst hn
  refine ⟨_, _, _, rfl, hc, hm, hr, fun _ => ⟨g, 0, rfl, fun j u hu => ?_⟩⟩
  unfold plus; rw [if_pos rfl, Nat.zero_add]
  rw [cell_of_row w g j cs T (0, 0) (S.box _ (List.mem_of_getElem? hi)).2.1]; simpa using hu
/-- a row of the call's own is only read from here on -/
theorem St.frzo (S : St X W r0 rd bx ow w) {i : Nat} {q : OwE} (hi : ow[i]? = some q) (hX : X = []) : St X W r0 (plus rd w q.v.ownBlock) bx (ow.eraseIdx i) w := by
  have hm := List.mem_of_getElem? hi
  have hb := S.own _ hm
  refine ⟨S.fr, fun b o v hlt e => ?_, Rd.le_trans S.sup (le_plus fun k hk => (hb.2 k hk).2), plus_wrd S.le, fun p hp => ⟨(S.box p hp).1, (S.box p hp).2.1, fun o => ?_⟩, fun p hp => ?_, S.d1, pairwise_erase S.d2, fun p hp r hr => ?_⟩
  · unfold plus at e; split at e
    · rename_i h2; exact (hb.2 b h2.symm).1.elim (fun h => absurd hlt (by omega)) (fun h => by subst hX; cases h)
    · exact S.sub b o v hlt e
  · unfold plus; rw [if_neg (fun e => S.d3 p hp q hm e.symm)]; exact (S.box p hp).2.2 o
  · obtain ⟨j, hn, hj⟩ := mem_erase hp
    have hp' := List.mem_of_getElem? hj
    refine ⟨(S.own p hp').1, fun k hk => ⟨((S.own p hp').2 k hk).1, fun o => ?_⟩⟩
    unfold plus
    rw [if_neg (fun e => by
      rcases own_ne S hi hj hn with h | h
      · rw [h] at hk; cases hk
      · exact h (by rw [hk, e]))]
    exact ((S.own p hp').2 k hk).2 o
  · obtain ⟨j, hn, hj⟩ := mem_erase hr
    exact S.d3 p hp r (List.mem_of_getElem? hj)
theorem St.frzo_le (S : St X W r0 rd bx ow w) {i : Nat} {q : OwE} (hi : ow[i]? = some q) : Rd.le rd (plus rd w q.v.ownBlock) := le_plus fun k hk => ((S.own _ (List.mem_of_getElem? hi)).2 k hk).2
theorem St.frzo_sl {α : Type} {size : Nat} {R : CR α} {xs : List α} (S : St X W r0 rd bx ow w) {i : Nat} {q : OwE} (hi : ow[i]? = some q) {v : Value} {n : Nat} (hv : q.v = v) (hn : q.n = n) (he : n = xs.length) (hs : q.size = size)
    (hr : RowR size R (plus rd w v.ownBlock) q.xs xs) : SliceR size R (plus rd w v.ownBlock) v xs := by
  subst hv hn hs
  have hx := (S.own _ (List.mem_of_getElem? hi)).1
  rcases hx.2 with ⟨h1, h2⟩ | ⟨g, cap, cur, h1, _, hh, hc, hm', _⟩
  · rw [h1] at hr ⊢
    have : xs = [] := List.eq_nil_of_length_eq_zero (by omega)
    subst this
    exact SliceR.nil_ _
  · rw [h1] at hr ⊢
    refine ⟨some ⟨g, 0, none⟩, cap, q.xs, by rw [he], by omega, hm', hr, fun _ => ⟨g, 0, rfl, fun j u hu => ?_⟩⟩
    rw [h1] at hx
    have := hx.cells (g := g) rfl j u hu
    rw [Addr.add_mid, Nat.zero_add] at this
    unfold plus
    rw [if_pos (by rfl), Nat.zero_add]
    exact this
/-- a row to let grow -/
theorem St.ownNil (S : St X W r0 rd bx ow w) (e : TypeId) (size : Nat) : St X W r0 rd bx (ow ++ [⟨e, size, .slice none 0 0, 0, []⟩]) w := by
  refine ⟨S.fr, S.sub, S.sup, S.le, S.box, fun q hq => ?_, S.d1, ?_, fun p hp q hq => ?_⟩
  · rcases List.mem_append.1 hq with h | h
    · exact S.own q h
    · obtain rfl := List.mem_singleton.1 h
      exact ⟨World.ownsRow_nil w _ e size, fun g hg => by cases hg⟩
  · rw [List.pairwise_append]
    refine ⟨S.d2, List.pairwise_singleton _ _, fun p hp q hq => ?_⟩
    obtain rfl := List.mem_singleton.1 hq
    cases h : p.v.ownBlock with
    | none => exact .inl rfl
    | some k => exact .inr (by simp [Value.ownBlock])
  · rcases List.mem_append.1 hq with h | h
    · exact S.d3 p hp q h
    · obtain rfl := List.mem_singleton.1 h
      simp [Value.ownBlock]
/-- a row that a call handed back for the caller to own -/
theorem St.ownAdd (S : St X W r0 rd bx ow w) (k : Below w.heap.size w w') {q : OwE} (hq : w'.ownsRow w.heap.size q.e q.size q.v q.n q.xs) : St X W r0 rd bx (ow ++ [q]) w' := by
  have S' := S.callq k
  have hge : ∀ g, q.v.ownBlock = some g → w.heap.size ≤ g := fun g hg => (hq.lt g hg).1
  have hq' : w'.ownsRow 0 q.e q.size q.v q.n q.xs := by
    refine ⟨hq.1, ?_⟩
    rcases hq.2 with h | ⟨g, cap, cur, a, b, r⟩
    · exact .inl h
    · exact .inr ⟨g, cap, cur, a, Nat.zero_le _, r⟩
  refine ⟨S'.fr, S'.sub, S'.sup, S'.le, S'.box, fun p hp => ?_, S'.d1, ?_, fun p hp r hr => ?_⟩
  · rcases List.mem_append.1 hp with h | h
    · exact S'.own p h
    · obtain rfl := List.mem_singleton.1 h
      exact ⟨hq', fun g hg => ⟨.inl (Nat.le_trans S.base_le (hge g hg)), fun o => S.free (hge g hg) o⟩⟩
  · rw [List.pairwise_append]
    refine ⟨S.d2, List.pairwise_singleton _ _, fun p hp r hr => ?_⟩
    obtain rfl := List.mem_singleton.1 hr
    cases h : p.v.ownBlock with
    | none => exact .inl rfl
    | some k => exact .inr fun e => by have := ((S.own p hp).1.lt k h).2; have := hge k e.symm; omega
  · rcases List.mem_append.1 hr with h | h
    · exact S.d3 p hp r h
    · obtain rfl := List.mem_singleton.1 h
      intro e
      have := hge _ e
      have := S.lt_box hp
      omega
/-- a row of the call's own has grown, or was written -/
theorem St.grew (S : St X W r0 rd bx ow w) {i : Nat} {q q' : OwE} (hi : ow[i]? = some q) (hg : w.grownBy w' q.v.ownBlock) (hq : w'.ownsRow 0 q'.e q'.size q'.v q'.n q'.xs)
    (h' : q'.v.ownBlock = q.v.ownBlock ∨ q'.v.ownBlock = some w.heap.size) : St X W r0 rd bx (ow.set i q') w' := by
  have hm := List.mem_of_getElem? hi
  have hb := S.own _ hm
  have hfree : ∀ g, q'.v.ownBlock = some g → (W.heap.size ≤ g ∨ g ∈ X) ∧ ∀ o, rd g o = none := fun g e => by
    rcases h' with h | h
    · exact hb.2 g (h ▸ e)
    · rw [h] at e; injection e with e; subst e; exact ⟨.inl S.base_le, fun o => S.free (Nat.le_refl _) o⟩
  refine ⟨S.fr_grown hg (fun k e => (hb.2 k e).1), S.sub, S.sup, le_grown S.le hg (fun k hk => (hb.2 k hk).2), fun p hp => ⟨(S.box p hp).1, keep_box S hg hp (S.d3 p hp q hm), (S.box p hp).2.2⟩, fun p hp => ?_, S.d1, ?_, fun p hp r hr => ?_⟩
  · obtain ⟨j, hj⟩ := List.getElem?_of_mem hp
    rw [List.getElem?_set] at hj
    split at hj
    · split at hj
      · injection hj with hj; subst hj; exact ⟨hq, hfree⟩
      · cases hj
    · rename_i hij
      exact ⟨keep_own S hg (List.mem_of_getElem? hj) (own_ne S hi hj (fun e => hij e.symm)), (S.own p (List.mem_of_getElem? hj)).2⟩
  · rw [List.pairwise_iff_getElem]
    intro a b ha hb' hab
    rw [List.length_set] at ha hb'
    have h3 := (List.pairwise_iff_getElem.1 S.d2)
    have key : ∀ p : OwE, p ∈ ow → (p.v.ownBlock = none ∨ p.v.ownBlock ≠ q.v.ownBlock) → p.v.ownBlock = none ∨ p.v.ownBlock ≠ q'.v.ownBlock := fun p hp h => by
      rcases h with h | h
      · exact .inl h
      · rcases h' with e | e
        · exact .inr (by rw [e]; exact h)
        · cases hpb : p.v.ownBlock with
          | none => exact .inl rfl
          | some k => exact .inr (by rw [e]; intro e2; injection e2 with e2; have := ((S.own p hp).1.lt k hpb).2; omega)
    rw [List.getElem_set, List.getElem_set]
    split
    · rename_i e1
      rw [if_neg (by omega)]
      have e2 : ow[i]? = some ow[a] := by rw [e1]; exact List.getElem?_eq_getElem ha
      rw [hi] at e2; injection e2 with e2
      have h4 : ow[b].v.ownBlock = none ∨ ow[b].v.ownBlock ≠ q.v.ownBlock := own_ne S hi (List.getElem?_eq_getElem hb') (by omega)
      rcases key _ (List.getElem_mem hb') h4 with h | h
      · cases hq2 : q'.v.ownBlock with
        | none => exact .inl rfl
        | some k => exact .inr (by rw [h]; simp)
      · exact .inr fun e => h e.symm
    · split
      · exact key _ (List.getElem_mem ha) (own_ne S hi (List.getElem?_eq_getElem ha) (by omega))
      · exact h3 a b ha hb' hab
  · obtain ⟨j, hj⟩ := List.getElem?_of_mem hr
    rw [List.getElem?_set] at hj
    split at hj
    · split at hj
      · injection hj with hj; subst hj
        rcases h' with h | h
        · rw [h]; exact S.d3 p hp q hm
        · rw [h]; intro e; injection e with e; have := S.lt_box hp; omega
      · cases hj
    · exact S.d3 p hp r (List.mem_of_getElem? hj)
end
end Go.Proofs.Ytkjknlnhffmkkaa
