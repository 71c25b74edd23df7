/- The memory as one statement: what is read (rd), the call's own blocks (bx), the rows it lets grow (ow); how each operation turns it. Plain theorems over any program; no condition. -/
import Derived.Test.YtkjknlnhffmkkaaEng
import Derived.Deep.MidRow
namespace Go.Proofs.Ytkjknlnhffmkkaa
open Go.RowKit
set_option linter.unusedVariables false

structure OwE where
  e : TypeId
  size : Nat
  v : Value
  n : Nat
  xs : List Value
abbrev BxE := Nat × TypeId × Array Value
/-- a reading, and what was made since -/
def ext (r : Rd) (w w' : World) : Rd := fun b o => if b < w.heap.size then r b o else w'.cell? ⟨b, o, none⟩
/-- a reading, and one block -/
def plus (r : Rd) (w : World) (g : Option Nat) : Rd := fun b o => if some b = g then w.cell? ⟨b, o, none⟩ else r b o
/-- what was there is as it was, but for the blocks X -/
structure Frm (X : List Nat) (w w' : World) : Prop where
  os : w'.os = w.os
  tape : w'.tape = w.tape
  output : w'.output = w.output
  size : w.heap.size ≤ w'.heap.size
  block : ∀ k, k < w.heap.size → k ∉ X → w'.heap[k]? = w.heap[k]?
theorem Frm.below {w w' : World} (h : Frm [] w w') : Below w.heap.size w w' := ⟨h.os, h.tape, h.output, h.size, fun k hk => h.block k hk (by simp)⟩
theorem Frm.refl (X : List Nat) (w : World) : Frm X w w := ⟨rfl, rfl, rfl, Nat.le_refl _, fun _ _ _ => rfl⟩
structure St (X : List Nat) (W : World) (r0 rd : Rd) (bx : List BxE) (ow : List OwE) (w : World) : Prop where
  fr : Frm X W w
  sub : ∀ b o v, b < W.heap.size → rd b o = some v → r0 b o = some v
  sup : Rd.le r0 rd
  le : Rd.le rd (wrd w)
  box : ∀ p ∈ bx, (W.heap.size ≤ p.1 ∨ p.1 ∈ X) ∧ w.heap[p.1]? = some (.cells p.2.2 p.2.1 (0, 0)) ∧ ∀ o, rd p.1 o = none
  own : ∀ q ∈ ow, w.ownsRow 0 q.e q.size q.v q.n q.xs ∧ ∀ g, q.v.ownBlock = some g → (W.heap.size ≤ g ∨ g ∈ X) ∧ ∀ o, rd g o = none
  d1 : bx.Pairwise fun p q => p.1 ≠ q.1
  d2 : ow.Pairwise fun p q => p.v.ownBlock = none ∨ p.v.ownBlock ≠ q.v.ownBlock
  d3 : ∀ p ∈ bx, ∀ q ∈ ow, q.v.ownBlock ≠ some p.1

section
variable {X : List Nat} {W w w' : World} {r0 rd : Rd} {bx : List BxE} {ow : List OwE}
theorem St.below (S : St [] W r0 rd bx ow w) : Below W.heap.size W w := S.fr.below
theorem St.start (h : Rd.le r0 (wrd W)) : St X W r0 r0 [] [] W :=
  ⟨Frm.refl _ _, fun _ _ _ _ h => h, Rd.le_refl _, h, by simp, by simp, .nil, .nil, by simp⟩
theorem St.base_le (S : St X W r0 rd bx ow w) : W.heap.size ≤ w.heap.size := S.fr.size
theorem St.lt_box (S : St X W r0 rd bx ow w) {p : BxE} (hp : p ∈ bx) : p.1 < w.heap.size := by
  have := (S.box p hp).2.1
  rcases Nat.lt_or_ge p.1 w.heap.size with h | h
  · exact h
  · rw [Array.getElem?_eq_none h] at this; cases this
theorem St.free (S : St X W r0 rd bx ow w) {k : Nat} (hk : w.heap.size ≤ k) (o : Nat) : rd k o = none := by
  cases h : rd k o with
  | none => rfl
  | some v => have := blk_lt (S.le _ _ _ h); omega
theorem grownBy_none {w w' : World} (k : Below w.heap.size w w') : w.grownBy w' none := ⟨k.os, k.tape, k.output, k.size, fun i hi _ => k.block i hi⟩
theorem le_grown {rd : Rd} {w w' : World} {row : Option Nat} (h : Rd.le rd (wrd w)) (hg : w.grownBy w' row) (hr : ∀ k, row = some k → ∀ o, rd k o = none) : Rd.le rd (wrd w') := fun b o v e => by
  have hlt := blk_lt (h _ _ _ e)
  have hne : some b ≠ row := fun e2 => by have := hr b e2.symm o; rw [e] at this; cases this
  exact (World.cell?_of_block (w := w) (a := ⟨b, o, none⟩) (hg.block b hlt hne)).trans (h _ _ _ e)
theorem St.fr_grown (S : St X W r0 rd bx ow w) {row : Option Nat} (hg : w.grownBy w' row) (hr : ∀ k, row = some k → W.heap.size ≤ k ∨ k ∈ X) : Frm X W w' :=
  ⟨hg.os.trans S.fr.os, hg.tape.trans S.fr.tape, hg.output.trans S.fr.output, Nat.le_trans S.fr.size hg.size, fun k hk hX => by
    rw [hg.block k (Nat.lt_of_lt_of_le hk S.fr.size) (fun e => (hr k e.symm).elim (fun h => by omega) hX)]
    exact S.fr.block k hk hX⟩
theorem keep_box (S : St X W r0 rd bx ow w) {row : Option Nat} (hg : w.grownBy w' row) {p : BxE} (hp : p ∈ bx) (hne : row ≠ some p.1) : w'.heap[p.1]? = some (.cells p.2.2 p.2.1 (0, 0)) :=
  (hg.block p.1 (S.lt_box hp) (fun e => hne e.symm)).trans (S.box p hp).2.1
theorem keep_own (S : St X W r0 rd bx ow w) {row : Option Nat} (hg : w.grownBy w' row) {q : OwE} (hq : q ∈ ow) (hne : q.v.ownBlock = none ∨ q.v.ownBlock ≠ row) : w'.ownsRow 0 q.e q.size q.v q.n q.xs :=
  (S.own q hq).1.kept hg hne
/-- nothing known was written -/
theorem St.grown0 (S : St X W r0 rd bx ow w) (hg : w.grownBy w' none) : St X W r0 rd bx ow w' :=
  ⟨S.fr_grown hg (fun _ h => by cases h), S.sub, S.sup, le_grown S.le hg (fun _ h => by cases h), fun p hp => ⟨(S.box p hp).1, keep_box S hg hp (by simp), (S.box p hp).2.2⟩,
    fun q hq => ⟨keep_own S hg hq (by cases h : q.v.ownBlock <;> simp), (S.own q hq).2⟩, S.d1, S.d2, S.d3⟩
theorem St.callq (S : St X W r0 rd bx ow w) (k : Below w.heap.size w w') : St X W r0 rd bx ow w' := S.grown0 (grownBy_none k)
theorem St.drew (S : St X W r0 rd bx ow w) : St X W r0 rd bx ow w.drew := S.callq ⟨rfl, rfl, rfl, Nat.le_refl _, fun _ _ => rfl⟩
theorem le_ext {r : Rd} {w w' : World} (h : Rd.le r (wrd w)) : Rd.le r (ext r w w') := fun b o v e => by
  unfold ext; rw [if_pos (blk_lt (h _ _ _ e))]; exact e
theorem newer_ext {r : Rd} {w w' : World} : Rd.le (newer w' w.heap.size) (ext r w w') := fun b o v e => by
  unfold newer at e; split at e
  · rename_i hb; unfold ext; rw [if_neg (by omega)]; exact e
  · cases e
theorem ext_wrd {r : Rd} {w w' : World} (h : Rd.le r (wrd w)) (k : Below w.heap.size w w') : Rd.le (ext r w w') (wrd w') := fun b o v e => by
  unfold ext at e; split at e
  · rename_i hb; exact (k.cell (p := ⟨b, o, none⟩) hb).trans (h _ _ _ e)
  · exact e
/-- behind a call: what it made is read, too -/
theorem St.call (S : St X W r0 rd bx ow w) (k : Below w.heap.size w w') : St X W r0 (ext rd w w') bx ow w' := by
  have S' := S.callq k
  refine ⟨S'.fr, fun b o v hb e => ?_, Rd.le_trans S.sup (le_ext S.le), ext_wrd S.le k, fun p hp => ⟨(S'.box p hp).1, (S'.box p hp).2.1, fun o => ?_⟩, fun q hq => ⟨(S'.own q hq).1, fun g hg => ⟨((S'.own q hq).2 g hg).1, fun o => ?_⟩⟩, S.d1, S.d2, S.d3⟩
  · have : b < w.heap.size := Nat.lt_of_lt_of_le hb S.base_le
    unfold ext at e; rw [if_pos this] at e
    exact S.sub b o v hb e
  · unfold ext; rw [if_pos (S.lt_box hp)]; exact (S.box p hp).2.2 o
  · unfold ext; rw [if_pos ((S.own q hq).1.lt g hg).2]; exact ((S.own q hq).2 g hg).2 o
theorem grownBy_alloc (w : World) (o : Obj) : w.grownBy (w.alloc o) none := grownBy_none ((Below.refl _ _).alloc (Nat.le_refl _) o)
theorem St.alloc (S : St X W r0 rd bx ow w) (T : TypeId) (cs : Array Value) : St X W r0 rd (bx ++ [(w.heap.size, T, cs)]) ow (w.alloc (.cells cs T)) := by
  have S' := S.grown0 (grownBy_alloc w (.cells cs T))
  refine ⟨S'.fr, S'.sub, S'.sup, S'.le, fun p hp => ?_, S'.own, ?_, S.d2, fun p hp q hq => ?_⟩
  · rcases List.mem_append.1 hp with h | h
    · exact S'.box p h
    · obtain rfl := List.mem_singleton.1 h
      exact ⟨.inl S.base_le, heap_alloc_new w _, fun o => S.free (Nat.le_refl _) o⟩
  · rw [List.pairwise_append]
    refine ⟨S.d1, List.pairwise_singleton _ _, fun p hp q hq => ?_⟩
    obtain rfl := List.mem_singleton.1 hq
    have := S.lt_box hp
    show p.1 ≠ w.heap.size
    omega
  · rcases List.mem_append.1 hp with h | h
    · exact S.d3 p h q hq
    · obtain rfl := List.mem_singleton.1 h
      intro e
      have := ((S.own q hq).1.lt _ e).2
      exact absurd this (Nat.lt_irrefl _)
theorem pairwise_set {α : Type} {R : α → α → Prop} {l : List α} {i : Nat} {x y : α} (h : l.Pairwise R) (hx : l[i]? = some x) (h1 : ∀ z, R x z → R y z) (h2 : ∀ z, R z x → R z y) : (l.set i y).Pairwise R := by
  induction l generalizing i with
  | nil => simp
  | cons a l ih =>
    rw [List.pairwise_cons] at h
    cases i with
    | zero =>
      simp at hx; subst hx
      rw [List.set_cons_zero, List.pairwise_cons]
      exact ⟨fun b hb => h1 _ (h.1 b hb), h.2⟩
    | succ i =>
      rw [List.set_cons_succ, List.pairwise_cons]
      refine ⟨fun b hb => ?_, ih h.2 (by simpa using hx)⟩
      rcases List.mem_or_eq_of_mem_set hb with hb | rfl
      · exact h.1 b hb
      · exact h2 _ (h.1 x (List.mem_of_getElem? (by simpa using hx)))
theorem pairwise_ne {α : Type} {R : α → α → Prop} {l : List α} {i : Nat} {x : α} (h : l.Pairwise R) (hs : ∀ a b, R a b → R b a) (hx : l[i]? = some x) {y : α} (hy : y ∈ l) : R x y ∨ l[i]? = some y := by
  obtain ⟨j, hj⟩ := List.getElem?_of_mem hy
  obtain ⟨hi, ei⟩ := List.getElem?_eq_some_iff.1 hx
  obtain ⟨hj', ej⟩ := List.getElem?_eq_some_iff.1 hj
  rw [List.pairwise_iff_getElem] at h
  rcases Nat.lt_trichotomy i j with hlt | rfl | hlt
  · left; rw [← ei, ← ej]; exact h i j hi hj' hlt
  · right; exact hj
  · left; rw [← ei, ← ej]; exact hs _ _ (h j i hj' hi hlt)
/-- a block of the call's own is written -/
theorem St.wrote (S : St X W r0 rd bx ow w) {i g : Nat} {T : TypeId} {cs cs' : Array Value} (hi : bx[i]? = some (g, T, cs)) (hg : w.grownBy w' (some g)) (hw : w'.heap[g]? = some (.cells cs' T (0, 0))) :
    St X W r0 rd (bx.set i (g, T, cs')) ow w' := by
  have hm := List.mem_of_getElem? hi
  have hb := S.box _ hm
  refine ⟨S.fr_grown hg (fun k e => by injection e with e; subst e; exact hb.1), S.sub, S.sup, le_grown S.le hg (fun k e => by injection e with e; subst e; exact hb.2.2), fun p hp => ?_, fun q hq => ?_, ?_, S.d2, fun p hp q hq => ?_⟩
  · obtain ⟨j, hj⟩ := List.getElem?_of_mem hp
    rw [List.getElem?_set] at hj
    split at hj
    · split at hj
      · injection hj with hj; subst hj; exact ⟨hb.1, hw, hb.2.2⟩
      · cases hj
    · rename_i hij
      have h := List.mem_of_getElem? hj
      have hne : p.1 ≠ g := by
        have h3 := (List.pairwise_iff_getElem.1 S.d1)
        obtain ⟨hi1, hi2⟩ := List.getElem?_eq_some_iff.1 hi
        obtain ⟨hj1, hj2⟩ := List.getElem?_eq_some_iff.1 hj
        rcases Nat.lt_or_gt_of_ne hij with hlt | hlt
        · have := h3 i j hi1 hj1 hlt; rw [hi2, hj2] at this; exact fun e => this e.symm
        · have := h3 j i hj1 hi1 hlt; rw [hi2, hj2] at this; exact this
      exact ⟨(S.box p h).1, keep_box S hg h (by simp; exact fun e => hne e.symm), (S.box p h).2.2⟩
  · refine ⟨keep_own S hg hq (.inr ?_), (S.own q hq).2⟩
    exact S.d3 _ hm q hq
  · exact pairwise_set S.d1 hi (fun z h => h) (fun z h => h)
  · rcases List.mem_or_eq_of_mem_set hp with h | rfl
    · exact S.d3 p h q hq
    · exact S.d3 _ hm q hq
end
end Go.Proofs.Ytkjknlnhffmkkaa
