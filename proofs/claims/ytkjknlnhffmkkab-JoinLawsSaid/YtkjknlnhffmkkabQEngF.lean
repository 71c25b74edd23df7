/- Blocks and rows lent to a call, and taken back behind it. Plain theorems over any program; no condition. -/
import Derived.Test.YtkjknlnhffmkkabQEg
namespace Go.Proofs.Ytkjknlnhffmkkab
open Go.RowKit
set_option linter.unusedVariables false

/-- the blocks of some boxes and rows -/
def blks (bx : List BxE) (ow : List OwE) : List Nat := bx.map (·.1) ++ ow.filterMap (·.v.ownBlock)
theorem blks_box {bx : List BxE} {ow : List OwE} {p : BxE} (h : p ∈ bx) : p.1 ∈ blks bx ow := List.mem_append_left _ (List.mem_map_of_mem h)
theorem blks_own {bx : List BxE} {ow : List OwE} {q : OwE} {g : Nat} (h : q ∈ ow) (hg : q.v.ownBlock = some g) : g ∈ blks bx ow := List.mem_append_right _ (List.mem_filterMap.2 ⟨q, h, hg⟩)
theorem blks_mem {bx : List BxE} {ow : List OwE} {g : Nat} (h : g ∈ blks bx ow) : (∃ p ∈ bx, p.1 = g) ∨ ∃ q ∈ ow, q.v.ownBlock = some g := by
  rcases List.mem_append.1 h with h | h
  · obtain ⟨p, a, b⟩ := List.mem_map.1 h; exact .inl ⟨p, a, b⟩
  · obtain ⟨q, a, b⟩ := List.mem_filterMap.1 h; exact .inr ⟨q, a, b⟩
def OwN (p q : OwE) : Prop := p.v.ownBlock = none ∨ p.v.ownBlock ≠ q.v.ownBlock
theorem OwN.symm {p q : OwE} (h : OwN p q) : OwN q p := by
  unfold OwN at h ⊢
  rcases h with h | h
  · cases hq : q.v.ownBlock with
    | none => exact .inl rfl
    | some k => exact .inr (by rw [h]; simp)
  · exact .inr fun e => h e.symm
section
variable {X : List Nat} {W w w' : World} {r0 rd rd' : Rd} {bx bxk bx0 bx2 : List BxE} {ow owk ow0 ow2 : List OwE}
theorem St.permB (S : St X W r0 rd bx ow w) (h : bx2.Perm bx) : St X W r0 rd bx2 ow w :=
  ⟨S.fr, S.sub, S.sup, S.le, fun p hp => S.box p (h.mem_iff.1 hp), S.own, (h.symm.pairwise_iff (fun {x y} h => fun e => h e.symm)).1 S.d1, S.d2, fun p hp => S.d3 p (h.mem_iff.1 hp)⟩
theorem St.permO (S : St X W r0 rd bx ow w) (h : ow2.Perm ow) : St X W r0 rd bx ow2 w :=
  ⟨S.fr, S.sub, S.sup, S.le, S.box, fun q hq => S.own q (h.mem_iff.1 hq), S.d1, (h.symm.pairwise_iff (R := OwN) (fun {x y} h => OwN.symm h)).1 S.d2, fun p hp q hq => S.d3 p hp q (h.mem_iff.1 hq)⟩
theorem perm_end {α : Type} {l : List α} {i : Nat} {x : α} (h : l[i]? = some x) : (l.eraseIdx i ++ [x]).Perm l := by
  obtain ⟨hi, e⟩ := List.getElem?_eq_some_iff.1 h
  have e1 : l = l.take i ++ x :: l.drop (i + 1) := by rw [← e, ← List.drop_eq_getElem_cons hi, List.take_append_drop]
  have e2 : l.eraseIdx i = l.take i ++ l.drop (i + 1) := List.eraseIdx_eq_take_drop_succ ..
  rw [e2]
  conv => rhs; rw [e1]
  rw [List.append_assoc]
  exact List.Perm.append_left _ (List.perm_append_singleton x _)
theorem St.toEndB (S : St X W r0 rd bx ow w) {i : Nat} {p : BxE} (h : bx[i]? = some p) : St X W r0 rd (bx.eraseIdx i ++ [p]) ow w := S.permB (perm_end h)
theorem St.toEndO (S : St X W r0 rd bx ow w) {i : Nat} {q : OwE} (h : ow[i]? = some q) : St X W r0 rd bx (ow.eraseIdx i ++ [q]) w := S.permO (perm_end h)
/-- lent -/
theorem St.give (S : St X W r0 rd bx ow w) (hb : bx = bxk ++ bx0) (ho : ow = owk ++ ow0) : St (blks bx0 ow0) w rd rd bx0 ow0 w := by
  subst hb ho
  refine ⟨Frm.refl _ _, fun _ _ _ _ h => h, Rd.le_refl _, S.le, fun p hp => ⟨.inr (blks_box hp), (S.box p (List.mem_append_right _ hp)).2⟩, fun q hq => ⟨(S.own q (List.mem_append_right _ hq)).1, fun g hg => ⟨.inr (blks_own hq hg), ((S.own q (List.mem_append_right _ hq)).2 g hg).2⟩⟩,
    (List.pairwise_append.1 S.d1).2.1, (List.pairwise_append.1 S.d2).2.1, fun p hp q hq => S.d3 p (List.mem_append_right _ hp) q (List.mem_append_right _ hq)⟩
/-- taken back -/
theorem St.comp (S : St X W r0 rd bx ow w) (hb : bx = bxk ++ bx0) (ho : ow = owk ++ ow0) (k : St (blks bx0 ow0) w rd rd' bx2 ow2 w') : St X W r0 rd' (bxk ++ bx2) (owk ++ ow2) w' := by
  subst hb ho
  have hY : ∀ g ∈ blks bx0 ow0, W.heap.size ≤ g ∨ g ∈ X := fun g hg => by
    rcases blks_mem hg with ⟨p, hp, rfl⟩ | ⟨q, hq, e⟩
    · exact (S.box p (List.mem_append_right _ hp)).1
    · exact ((S.own q (List.mem_append_right _ hq)).2 g e).1
  have nB : ∀ p ∈ bxk, p.1 ∉ blks bx0 ow0 := fun p hp hg => by
    rcases blks_mem hg with ⟨p', hp', e⟩ | ⟨q, hq, e⟩
    · exact (List.pairwise_append.1 S.d1).2.2 p hp p' hp' e.symm
    · exact S.d3 p (List.mem_append_left _ hp) q (List.mem_append_right _ hq) e
  have nO : ∀ q ∈ owk, ∀ g, q.v.ownBlock = some g → g ∉ blks bx0 ow0 := fun q hq g hg hm => by
    rcases blks_mem hm with ⟨p, hp, e⟩ | ⟨q', hq', e⟩
    · exact S.d3 p (List.mem_append_right _ hp) q (List.mem_append_left _ hq) (by rw [hg, e])
    · rcases (List.pairwise_append.1 S.d2).2.2 q hq q' hq' with h | h
      · rw [hg] at h; cases h
      · exact h (by rw [hg, e])
  have ltB : ∀ p ∈ bxk, p.1 < w.heap.size := fun p hp => S.lt_box (List.mem_append_left _ hp)
  have ltO : ∀ q ∈ owk, ∀ g, q.v.ownBlock = some g → g < w.heap.size := fun q hq g hg => ((S.own q (List.mem_append_left _ hq)).1.lt g hg).2
  have nofree : ∀ g, g < w.heap.size → (∀ o, rd g o = none) → ∀ o, rd' g o = none := fun g hg h o => by
    cases e : rd' g o with
    | none => rfl
    | some v => have := k.sub g o v hg e; rw [h o] at this; cases this
  have split : ∀ {g : Nat}, (w.heap.size ≤ g ∨ g ∈ blks bx0 ow0) → W.heap.size ≤ g ∨ g ∈ X := fun {g} h => h.elim (fun h => .inl (Nat.le_trans S.base_le h)) (hY g)
  refine ⟨⟨k.fr.os.trans S.fr.os, k.fr.tape.trans S.fr.tape, k.fr.output.trans S.fr.output, Nat.le_trans S.fr.size k.fr.size, fun b hb hX => ?_⟩, fun b o v hb e => S.sub b o v hb (k.sub b o v (Nat.lt_of_lt_of_le hb S.base_le) e), Rd.le_trans S.sup k.sup, k.le, fun p hp => ?_, fun q hq => ?_, ?_, ?_, fun p hp q hq => ?_⟩
  · have hlt := Nat.lt_of_lt_of_le hb S.base_le
    rw [k.fr.block b hlt (fun h => (hY b h).elim (fun h => by omega) hX)]
    exact S.fr.block b hb hX
  · rcases List.mem_append.1 hp with hp | hp
    · obtain ⟨b1, b2, b3⟩ := S.box p (List.mem_append_left _ hp)
      exact ⟨b1, (k.fr.block p.1 (ltB p hp) (nB p hp)).trans b2, nofree _ (ltB p hp) b3⟩
    · obtain ⟨b1, b2, b3⟩ := k.box p hp
      exact ⟨split b1, b2, b3⟩
  · rcases List.mem_append.1 hq with hq | hq
    · obtain ⟨o1, o2⟩ := S.own q (List.mem_append_left _ hq)
      refine ⟨⟨o1.1, ?_⟩, fun g hg => ⟨(o2 g hg).1, nofree _ (ltO q hq g hg) (o2 g hg).2⟩⟩
      rcases o1.2 with h | ⟨g, cap, cur, e, b, hh, rest⟩
      · exact .inl h
      · exact .inr ⟨g, cap, cur, e, b, (k.fr.block g (ltO q hq g (by rw [e]; rfl)) (nO q hq g (by rw [e]; rfl))).trans hh, rest⟩
    · obtain ⟨o1, o2⟩ := k.own q hq
      exact ⟨o1, fun g hg => ⟨split (o2 g hg).1, (o2 g hg).2⟩⟩
  · rw [List.pairwise_append]
    refine ⟨(List.pairwise_append.1 S.d1).1, k.d1, fun p hp p' hp' e => ?_⟩
    rcases (k.box p' hp').1 with h | h
    · have := ltB p hp; omega
    · exact nB p hp (e ▸ h)
  · rw [List.pairwise_append]
    refine ⟨(List.pairwise_append.1 S.d2).1, k.d2, fun q hq q' hq' => ?_⟩
    cases hg : q.v.ownBlock with
    | none => exact .inl rfl
    | some g =>
      refine .inr fun e => ?_
      rcases ((k.own q' hq').2 g e.symm).1 with h | h
      · have := ltO q hq g hg; omega
      · exact nO q hq g hg h
  · rcases List.mem_append.1 hp with hp1 | hp1
    · rcases List.mem_append.1 hq with hq1 | hq1
      · exact S.d3 p (List.mem_append_left _ hp1) q (List.mem_append_left _ hq1)
      · intro e
        rcases ((k.own q hq1).2 _ e).1 with h | h
        · have := ltB p hp1; omega
        · exact nB p hp1 h
    · rcases List.mem_append.1 hq with hq1 | hq1
      · intro e
        rcases (k.box p hp1).1 with h | h
        · have := ltO q hq1 _ e; omega
        · exact nO q hq1 _ e h
      · exact k.d3 p hp1 q hq1
/-- what a call read and made, in one: the caller goes on reading that -/
theorem St.lele (S : St X W r0 rd bx ow w) (k : St (blks bx0 ow0) w rd rd' bx2 ow2 w') : Rd.le rd rd' := k.sup
/-- a call that lends nothing -/
theorem St.comp0 (S : St X W r0 rd bx ow w) (k : St [] w rd rd' bx2 ow2 w') : St X W r0 rd' (bx ++ bx2) (ow ++ ow2) w' := S.comp (bxk := bx) (bx0 := []) (owk := ow) (ow0 := []) (by simp) (by simp) k
end
end Go.Proofs.Ytkjknlnhffmkkab
