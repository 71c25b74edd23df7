/- Right states; what an update does to what stays and to tallies, asked of each. No program in sight. -/
import Derived.Test.YtkjknlnhffmkkabStA
import Derived.Test.YtkjknlnhffmkkabLogQ
namespace Go.Proofs.Ytkjknlnhffmkkab
set_option linter.unusedVariables false

/-! ## orders -/
theorem codeL_inj {a b : Live} (h : codeL a = codeL b) : a = b := by
  obtain ⟨s1, k1, i1, a1, q1⟩ := a
  obtain ⟨s2, k2, i2, a2, q2⟩ := b
  cases s1 <;> cases s2 <;> simp [codeL] at h <;> simp [h]
theorem ordL_zero {a b : Live} : ordL a b = 0 ↔ a = b := by
  rw [ordL_code]
  constructor
  · intro h; exact codeL_inj (lexI_eq rfl h)
  · rintro rfl; simp [codeL, lexI, cmpI]
theorem ordT_zero {a b : Tally} : ordT a b = 0 ↔ a.key = b.key ∧ a.author = b.author := by
  rw [ordT_code]; unfold codeT
  rw [lexI_cons0, lexI_cons0]; simp [lexI]
theorem ordL_swap {a b : Live} : ordL b a = - ordL a b := by rw [ordL_code, ordL_code]; exact lexI_swap
theorem ordT_swap {a b : Tally} : ordT b a = - ordT a b := by rw [ordT_code, ordT_code]; exact lexI_swap
theorem sorted_ext {α : Type} {r : α → α → Prop} (hi : ∀ a, ¬ r a a) (hs : ∀ a b, r a b → r b a → False) : ∀ {l1 l2 : List α}, l1.Pairwise r → l2.Pairwise r → (∀ x, x ∈ l1 ↔ x ∈ l2) → l1 = l2
  | [], [], _, _, _ => rfl
  | [], b :: l2, _, _, h => by have := (h b).2 (by simp); cases this
  | a :: l1, [], _, _, h => by have := (h a).1 (by simp); cases this
  | a :: l1, b :: l2, h1, h2, h => by
    rw [List.pairwise_cons] at h1 h2
    have e : a = b := by
      have ha := (h a).1 (by simp)
      have hb := (h b).2 (by simp)
      rcases List.mem_cons.1 ha with e | ha
      · exact e
      · rcases List.mem_cons.1 hb with e | hb
        · exact e.symm
        · exact absurd (h1.1 b hb) (fun k => hs _ _ k (h2.1 a ha))
    subst e
    rw [sorted_ext hi hs h1.2 h2.2 fun x => ?_]
    have k := h x
    simp only [List.mem_cons] at k
    constructor
    · intro hx
      rcases k.1 (.inr hx) with e | hx'
      · subst e; exact absurd (h1.1 _ hx) (hi _)
      · exact hx'
    · intro hx
      rcases k.2 (.inr hx) with e | hx'
      · subst e; exact absurd (h2.1 _ hx) (hi _)
      · exact hx'
theorem sortedL_ext {l1 l2 : List Live} (h1 : SortedL l1) (h2 : SortedL l2) (h : ∀ x, x ∈ l1 ↔ x ∈ l2) : l1 = l2 :=
  sorted_ext (fun a h => by rw [ordL_zero.2 rfl] at h; omega) (fun a b h k => by rw [ordL_swap] at k; omega) h1 h2 h
theorem sortedT_ext {l1 l2 : List Tally} (h1 : SortedT l1) (h2 : SortedT l2) (h : ∀ x, x ∈ l1 ↔ x ∈ l2) : l1 = l2 :=
  sorted_ext (fun a h => by rw [ordT_zero.2 ⟨rfl, rfl⟩] at h; omega) (fun a b h k => by rw [ordT_swap] at k; omega) h1 h2 h
theorem incr_len {α : Type} {f : α → Nat} {N : Nat} : ∀ {l : List α} {m : Nat}, l.Pairwise (fun a b => f a < f b) → (∀ x ∈ l, m ≤ f x ∧ f x < N) → m ≤ N → m + l.length ≤ N
  | [], m, _, _, h => h
  | a :: l, m, hp, hb, hm => by
    rw [List.pairwise_cons] at hp
    have ha := hb a (by simp)
    have := incr_len (l := l) (m := f a + 1) hp.2 (fun x hx => ⟨hp.1 x hx, (hb x (by simp [hx])).2⟩) (by omega)
    simp only [List.length_cons]; omega
/-! ## the first place that is not behind -/
section
variable {α : Type} {f : α → Int} {l : List α}
theorem idxO_le : idxO f l ≤ l.length := List.findIdx_le_length
theorem idxO_take {y : α} (h : y ∈ l.take (idxO f l)) : f y < 0 := by
  obtain ⟨j, hj, e⟩ := List.getElem_of_mem h
  rw [List.length_take] at hj
  have h2 := List.not_of_lt_findIdx (p := fun y => decide (0 ≤ f y)) (xs := l) (i := j) (by unfold idxO at hj; omega)
  rw [List.getElem_take] at e
  rw [e] at h2
  simp at h2
  omega
theorem idxO_drop {y : α} (hm : ∀ (a b : Nat) y z, a ≤ b → l[a]? = some y → l[b]? = some z → f z < 0 → f y < 0) (h : y ∈ l.drop (idxO f l)) : 0 ≤ f y := by
  obtain ⟨j, hj, e⟩ := List.getElem_of_mem h
  rw [List.length_drop] at hj
  rw [List.getElem_drop] at e
  have hi : idxO f l < l.length := by omega
  have h2 := List.findIdx_getElem (p := fun y => decide (0 ≤ f y)) (xs := l) (w := hi)
  have h2 : 0 ≤ f l[idxO f l] := of_decide_eq_true h2
  rcases Int.lt_or_le (f y) 0 with hlt | hle
  · have := hm (idxO f l) (idxO f l + j) l[idxO f l] y (by omega) (List.getElem?_eq_getElem hi) (by rw [List.getElem?_eq_getElem (by omega), e]) hlt
    omega
  · exact hle
end
theorem insO_mem {α : Type} {f : α → α → Int} {l : List α} {x y : α} : y ∈ insO f l x ↔ y ∈ l ∨ y = x := by
  unfold insO
  conv => rhs; rw [← List.take_append_drop (idxO (fun y => f y x) l) l]
  simp only [List.mem_append, List.mem_singleton]
  constructor
  · rintro ((h | h) | h)
    · exact .inl (.inl h)
    · exact .inr h
    · exact .inl (.inr h)
  · rintro ((h | h) | h)
    · exact .inl (.inl h)
    · exact .inr h
    · exact .inl (.inr h)
theorem insO_sorted {α : Type} {f : α → α → Int} (hs : ∀ a b, f b a = - f a b) (ht : ∀ {a b c}, f a b < 0 → f b c < 0 → f a c < 0) {l : List α} {x : α} (h : l.Pairwise fun a b => f a b < 0) (hn : ∀ y ∈ l, f y x ≠ 0) : (insO f l x).Pairwise fun a b => f a b < 0 := by
  have hm := mono_of (f := f) ht h x
  have h1 : ∀ y ∈ l.take (idxO (fun y => f y x) l), f y x < 0 := fun y hy => idxO_take (f := fun y => f y x) hy
  have h2 : ∀ y ∈ l.drop (idxO (fun y => f y x) l), f x y < 0 := fun y hy => by
    have := idxO_drop (f := fun y => f y x) hm hy
    have := hn y (List.mem_of_mem_drop hy)
    rw [hs]; omega
  unfold insO
  rw [← List.take_append_drop (idxO (fun y => f y x) l) l, List.pairwise_append] at h
  rw [List.append_assoc, List.pairwise_append, List.singleton_append, List.pairwise_cons]
  refine ⟨h.1, ⟨h2, h.2.1⟩, fun a ha b hb => ?_⟩
  rcases List.mem_cons.1 hb with e | hb
  · subst e; exact h1 a ha
  · exact h.2.2 a ha b hb
/-! ## right states -/
structure LiveOk (c : List Int) (n : Int) (x : Live) : Prop where
  a0 : 0 ≤ x.author
  a1 : x.author < n
  q0 : 1 ≤ x.seq
  q1 : x.seq ≤ atI c x.author.toNat
  k0 : 0 ≤ x.key
  k1 : x.key ≤ 15
  i0 : -1000 ≤ x.item
  i1 : x.item ≤ 1000
structure TallyOk (c : List Int) (n : Int) (x : Tally) : Prop where
  a0 : 0 ≤ x.author
  a1 : x.author < n
  k0 : 0 ≤ x.key
  k1 : x.key ≤ 15
  s0 : -(1000 * atI c x.author.toNat) ≤ x.sum
  s1 : x.sum ≤ 1000 * atI c x.author.toNat
  ne : x.sum ≠ 0
structure RightS (s : State) (n : Int) : Prop where
  c : wrongC s.clock n = 0
  l : ∀ x ∈ s.lives, LiveOk s.clock n x
  ls : SortedL s.lives
  t : ∀ x ∈ s.tallies, TallyOk s.clock n x
  ts : SortedT s.tallies
theorem chain_cons {α : Type} {f : α → α → Int} (ht : ∀ {a b c}, f a b < 0 → f b c < 0 → f a c < 0) {p : Option α} {x : α} {l : List α} : (p.toList ++ x :: l).Pairwise (fun a b => f a b < 0) ↔ (∀ q ∈ p, f q x < 0) ∧ (x :: l).Pairwise fun a b => f a b < 0 := by
  cases p with
  | none => simp
  | some q =>
    simp only [Option.toList_some, List.singleton_append, Option.mem_def, Option.some.injEq, forall_eq']
    rw [List.pairwise_cons]
    constructor
    · rintro ⟨h1, h2⟩; exact ⟨h1 x (by simp), h2⟩
    · rintro ⟨h1, h2⟩
      refine ⟨fun y hy => ?_, h2⟩
      rcases List.mem_cons.1 hy with e | hy
      · subst e; exact h1
      · exact ht h1 ((List.pairwise_cons.1 h2).1 y hy)
theorem wrongL_cons {c : List Int} {n : Int} {x : Live} {l : List Live} {p : Option Live} {i : Nat} : (wrongL c n p (x :: l) i).1 = 0 ↔ (¬ (x.author < 0 ∨ n ≤ x.author ∨ x.seq < 1 ∨ x.key < 0 ∨ 15 < x.key ∨ x.item < -1000 ∨ 1000 < x.item) ∧ ¬ atI c x.author.toNat < x.seq) ∧ (∀ q ∈ p, ordL q x < 0) ∧ (wrongL c n (some x) l (i + 1)).1 = 0 := by
  have e : wrongL c n p (x :: l) i = if x.author < 0 ∨ n ≤ x.author ∨ x.seq < 1 ∨ x.key < 0 ∨ 15 < x.key ∨ x.item < -1000 ∨ 1000 < x.item then (3, (i : Int))
    else if atI c x.author.toNat < x.seq then (8, (i : Int))
    else if (match p with | some q => decide (0 ≤ ordL q x) | none => false) = true then (2, (i : Int))
    else wrongL c n (some x) l (i + 1) := rfl
  rw [e]
  by_cases h1 : x.author < 0 ∨ n ≤ x.author ∨ x.seq < 1 ∨ x.key < 0 ∨ 15 < x.key ∨ x.item < -1000 ∨ 1000 < x.item
  · rw [if_pos h1]; constructor
    · intro h; cases h
    · intro h; exact absurd h1 h.1.1
  · rw [if_neg h1]
    by_cases h2 : atI c x.author.toNat < x.seq
    · rw [if_pos h2]; constructor
      · intro h; cases h
      · intro h; exact absurd h2 h.1.2
    · rw [if_neg h2]
      cases p with
      | none => simp [h1, h2]
      | some q =>
        by_cases h3 : 0 ≤ ordL q x
        · rw [if_pos (decide_eq_true h3)]; constructor
          · intro h; cases h
          · intro h; have := h.2.1 q rfl; omega
        · rw [if_neg (by simpa using h3)]
          exact ⟨fun h => ⟨⟨h1, h2⟩, fun q' hq => by injection hq with hq; subst hq; omega, h⟩, fun h => h.2.2⟩
theorem wrongT_cons {c : List Int} {n : Int} {x : Tally} {l : List Tally} {p : Option Tally} {i : Nat} : (wrongT c n p (x :: l) i).1 = 0 ↔ ¬ (x.author < 0 ∨ n ≤ x.author ∨ x.key < 0 ∨ 15 < x.key ∨ x.sum < -(mostT c n x) ∨ mostT c n x < x.sum ∨ x.sum = 0) ∧ (∀ q ∈ p, ordT q x < 0) ∧ (wrongT c n (some x) l (i + 1)).1 = 0 := by
  have e : wrongT c n p (x :: l) i = if x.author < 0 ∨ n ≤ x.author ∨ x.key < 0 ∨ 15 < x.key ∨ x.sum < -(mostT c n x) ∨ mostT c n x < x.sum ∨ x.sum = 0 then (3, (i : Int))
    else if (match p with | some q => decide (0 ≤ ordT q x) | none => false) = true then (2, (i : Int))
    else wrongT c n (some x) l (i + 1) := rfl
  rw [e]
  by_cases h1 : x.author < 0 ∨ n ≤ x.author ∨ x.key < 0 ∨ 15 < x.key ∨ x.sum < -(mostT c n x) ∨ mostT c n x < x.sum ∨ x.sum = 0
  · rw [if_pos h1]; constructor
    · intro h; cases h
    · intro h; exact absurd h1 h.1
  · rw [if_neg h1]
    cases p with
    | none => simp [h1]
    | some q =>
      by_cases h3 : 0 ≤ ordT q x
      · rw [if_pos (decide_eq_true h3)]; constructor
        · intro h; cases h
        · intro h; have := h.2.1 q rfl; omega
      · rw [if_neg (by simpa using h3)]
        exact ⟨fun h => ⟨h1, fun q' hq => by injection hq with hq; subst hq; omega, h⟩, fun h => h.2.2⟩
theorem wrongL_iff {c : List Int} {n : Int} : ∀ {l : List Live} {p : Option Live} {i : Nat}, (wrongL c n p l i).1 = 0 ↔ (∀ x ∈ l, LiveOk c n x) ∧ (l ≠ [] → SortedL (p.toList ++ l))
  | [], p, i => by simp [wrongL]
  | x :: l, p, i => by
    have ih := wrongL_iff (c := c) (n := n) (l := l) (p := some x) (i := i + 1)
    unfold SortedL at ih ⊢
    rw [wrongL_cons, chain_cons (f := ordL) ordL_trans, ih]
    constructor
    · rintro ⟨⟨h1, h2⟩, h3, a, b⟩
      refine ⟨fun y hy => ?_, fun _ => ⟨h3, ?_⟩⟩
      · rcases List.mem_cons.1 hy with e | hy
        · subst e; exact ⟨by omega, by omega, by omega, by omega, by omega, by omega, by omega, by omega⟩
        · exact a y hy
      · cases l with
        | nil => simp
        | cons z l => exact b (by simp)
    · rintro ⟨a, b⟩
      have hx := a x (by simp)
      obtain ⟨b1, b2⟩ := b (by simp)
      exact ⟨⟨by have := hx.a0; have := hx.a1; have := hx.q0; have := hx.k0; have := hx.k1; have := hx.i0; have := hx.i1; omega, by have := hx.q1; omega⟩, b1, fun y hy => a y (by simp [hy]), fun _ => b2⟩
theorem wrongT_iff {c : List Int} {n : Int} : ∀ {l : List Tally} {p : Option Tally} {i : Nat}, (wrongT c n p l i).1 = 0 ↔ (∀ x ∈ l, TallyOk c n x) ∧ (l ≠ [] → SortedT (p.toList ++ l))
  | [], p, i => by simp [wrongT]
  | x :: l, p, i => by
    have ih := wrongT_iff (c := c) (n := n) (l := l) (p := some x) (i := i + 1)
    unfold SortedT at ih ⊢
    rw [wrongT_cons, chain_cons (f := ordT) ordT_trans, ih]
    constructor
    · rintro ⟨h1, h3, a, b⟩
      refine ⟨fun y hy => ?_, fun _ => ⟨h3, ?_⟩⟩
      · rcases List.mem_cons.1 hy with e | hy
        · subst e
          have e : mostT c n y = 1000 * atI c y.author.toNat := by unfold mostT; rw [if_pos (by omega)]
          rw [e] at h1
          exact ⟨by omega, by omega, by omega, by omega, by omega, by omega, by omega⟩
        · exact a y hy
      · cases l with
        | nil => simp
        | cons z l => exact b (by simp)
    · rintro ⟨a, b⟩
      have hx := a x (by simp)
      obtain ⟨b1, b2⟩ := b (by simp)
      have e : mostT c n x = 1000 * atI c x.author.toNat := by unfold mostT; rw [if_pos ⟨hx.a0, hx.a1⟩]
      exact ⟨by rw [e]; have := hx.a0; have := hx.a1; have := hx.k0; have := hx.k1; have := hx.s0; have := hx.s1; have := hx.ne; omega, b1, fun y hy => a y (by simp [hy]), fun _ => b2⟩
theorem sorted_nil_or {α : Type} {l : List α} {r : α → α → Prop} (h : l ≠ [] → l.Pairwise r) : l.Pairwise r := by
  cases l with
  | nil => simp
  | cons x l => exact h (by simp)
theorem wrongS_iff {s : State} {n : Int} : (wrongS s n).1 = 0 ↔ RightS s n := by
  unfold wrongS
  constructor
  · intro h
    split at h
    · rename_i h1; exact absurd h h1
    · rename_i h1
      split at h
      · rename_i h2; exact absurd h h2
      · rename_i h2
        have e2 := wrongL_iff.1 (Classical.not_not.1 h2)
        have e3 := wrongT_iff.1 h
        exact ⟨Classical.not_not.1 h1, e2.1, sorted_nil_or e2.2, e3.1, sorted_nil_or e3.2⟩
  · intro h
    have e2 := wrongL_iff (i := 0) (p := none).2 ⟨h.l, fun _ => h.ls⟩
    have e3 := wrongT_iff (i := 0) (p := none).2 ⟨h.t, fun _ => h.ts⟩
    rw [if_neg (fun k => k h.c), if_neg (fun k => k e2), e3]
/-- how long a right state's lists may be -/
def numL (x : Live) : Nat := ((((if x.set then 1 else 0) * 16 + x.key.toNat) * 2001 + (x.item + 1000).toNat) * 6 + x.author.toNat) * 1001 + x.seq.toNat
theorem numL_lt {c : List Int} {n : Int} (hc : wrongC c n = 0) {a b : Live} (ha : LiveOk c n a) (hb : LiveOk c n b) (h : ordL a b < 0) : numL a < numL b := by
  have hn := wrongC_ok hc
  have q1 := atI_bd hc a.author.toNat
  have q2 := atI_bd hc b.author.toNat
  obtain ⟨a1, a2, a3, a4, a5, a6, a7, a8⟩ := ha
  obtain ⟨b1, b2, b3, b4, b5, b6, b7, b8⟩ := hb
  rw [ordL_code] at h
  unfold codeL at h
  simp only [lexI_cons] at h
  unfold numL
  obtain ⟨s1, k1, i1, u1, r1⟩ := a
  obtain ⟨s2, k2, i2, u2, r2⟩ := b
  dsimp only at *
  rcases h with h | ⟨h0, h | ⟨h1, h | ⟨h2, h | ⟨h3, h | ⟨h4, h⟩⟩⟩⟩⟩
  · cases s1 <;> cases s2 <;> simp at h ⊢ <;> omega
  · cases s1 <;> cases s2 <;> simp at h0 ⊢ <;> omega
  · subst h1; cases s1 <;> cases s2 <;> simp at h0 ⊢ <;> omega
  · subst h1 h2; cases s1 <;> cases s2 <;> simp at h0 ⊢ <;> omega
  · subst h1 h2 h3; cases s1 <;> cases s2 <;> simp at h0 ⊢ <;> omega
  · simp [lexI] at h
theorem numL_bd {c : List Int} {n : Int} (hc : wrongC c n = 0) {a : Live} (ha : LiveOk c n a) : numL a < 400000000 := by
  have hn := wrongC_ok hc
  have q1 := atI_bd hc a.author.toNat
  obtain ⟨a1, a2, a3, a4, a5, a6, a7, a8⟩ := ha
  unfold numL
  split <;> omega
def numT (x : Tally) : Nat := x.key.toNat * 6 + x.author.toNat
theorem RightS.lives_len {s : State} {n : Int} (h : RightS s n) : s.lives.length ≤ 400000000 := by
  have := incr_len (f := numL) (N := 400000000) (l := s.lives) (m := 0) (List.Pairwise.imp_of_mem (fun {a b} ha hb hab => numL_lt h.c (h.l a ha) (h.l b hb) hab) h.ls) (fun x hx => ⟨Nat.zero_le _, numL_bd h.c (h.l x hx)⟩) (by omega)
  omega
theorem RightS.tallies_len {s : State} {n : Int} (h : RightS s n) : s.tallies.length ≤ 96 := by
  have hn := wrongC_ok h.c
  have := incr_len (f := numT) (N := 96) (l := s.tallies) (m := 0) (List.Pairwise.imp_of_mem (fun {a b} ha hb hab => by
    have ⟨a1, a2, a3, a4, _, _, _⟩ := h.t a ha
    have ⟨b1, b2, b3, b4, _, _, _⟩ := h.t b hb
    rw [ordT_code] at hab
    unfold codeT at hab
    simp only [lexI_cons] at hab
    unfold numT
    rcases hab with h | ⟨h1, h | ⟨h2, h⟩⟩
    · omega
    · omega
    · simp [lexI] at h) h.ts) (fun x hx => ⟨Nat.zero_le _, by
      have ⟨a1, a2, a3, a4, _, _, _⟩ := h.t x hx
      unfold numT; omega⟩) (by omega)
  omega
theorem RightS.clock_len {s : State} {n : Int} (h : RightS s n) : s.clock.length ≤ 6 := by have := wrongC_ok h.c; omega
/-! ## what stays -/
def ends (u : Upd) (x : Live) : Bool := decide (u.kind ≠ 5) && decide (u.kind ≠ 3) && endsC (decide (u.kind = 3 ∨ u.kind = 4)) u x
def liveOf (u : Upd) : Live := ⟨decide (u.kind = 3), u.key, u.item, u.author, atI u.seen u.author.toNat + 1⟩
def makes (u : Upd) : Bool := decide (u.kind = 1) || decide (u.kind = 3)
theorem seqU_right {u : Upd} {n : Int} (h : RightU u n) : seqU u = atI u.seen u.author.toNat + 1 := by
  unfold seqU
  have := atI_bd h.c u.author.toNat
  exact wrap_small (by omega) (by omega)
theorem newL_liveOf {u : Upd} {n : Int} (h : RightU u n) (hm : makes u = true) : newL (decide (u.kind = 3 ∨ u.kind = 4)) u (seqU u) = liveOf u := by
  unfold newL liveOf
  rw [seqU_right h]
  unfold makes at hm
  simp only [Bool.or_eq_true, decide_eq_true_eq] at hm
  rcases hm with e | e <;> rw [e] <;> rfl
theorem applyS_lives {s : State} {u : Upd} {n : Int} (h : RightU u n) : (applyS s u).lives = if makes u = true then insO ordL (s.lives.filter fun x => !ends u x) (liveOf u) else s.lives.filter fun x => !ends u x := by
  have e1 : (if u.kind ≠ 5 ∧ u.kind ≠ 3 then s.lives.filter fun l => !endsC (decide (u.kind = 3 ∨ u.kind = 4)) u l else s.lives) = s.lives.filter fun x => !ends u x := by
    unfold ends
    split
    · rename_i h1; simp [h1]
    · rename_i h1
      symm; rw [List.filter_eq_self]
      intro x _
      by_cases h5 : u.kind = 5 <;> by_cases h3 : u.kind = 3 <;> simp_all
  show (if u.kind = 1 ∨ u.kind = 3 then insO ordL (if u.kind ≠ 5 ∧ u.kind ≠ 3 then s.lives.filter fun l => !endsC (decide (u.kind = 3 ∨ u.kind = 4)) u l else s.lives) (newL (decide (u.kind = 3 ∨ u.kind = 4)) u (seqU u)) else (if u.kind ≠ 5 ∧ u.kind ≠ 3 then s.lives.filter fun l => !endsC (decide (u.kind = 3 ∨ u.kind = 4)) u l else s.lives)) = _
  rw [e1]
  by_cases hm : makes u = true
  · rw [if_pos hm, newL_liveOf h hm, if_pos (by unfold makes at hm; simpa using hm)]
  · rw [if_neg hm, if_neg (by unfold makes at hm; simpa using hm)]
theorem applyS_mem {s : State} {u : Upd} {n : Int} (h : RightU u n) {x : Live} : x ∈ (applyS s u).lives ↔ (x ∈ s.lives ∧ ends u x = false) ∨ (makes u = true ∧ x = liveOf u) := by
  rw [applyS_lives h]
  split
  · rename_i hm; rw [insO_mem]; simp [hm]
  · rename_i hm; simp [hm]
theorem ends_has {u : Upd} {x : Live} (h : ends u x = true) : hasC u.seen x.author x.seq = true := by
  unfold ends endsC at h
  simp only [Bool.and_eq_true] at h
  exact h.2.2
theorem has_le {c : List Int} {a q : Int} (h : hasC c a q = true) : 0 ≤ a ∧ a < c.length ∧ q ≤ atI c a.toNat := by
  unfold hasC at h
  simp only [Bool.and_eq_true, decide_eq_true_eq] at h
  exact ⟨h.1.1, h.1.2, h.2⟩
/-- who has not seen it does not end it -/
theorem ends_not {u : Upd} {x : Live} (h : atI u.seen x.author.toNat < x.seq) : ends u x = false := by
  rw [Bool.eq_false_iff]; intro k
  have := (has_le (ends_has k)).2.2
  omega
/-! ## tallies -/
def hitT (k a : Int) (t : Tally) : Bool := decide (t.key = k) && decide (t.author = a)
def sumT (k a : Int) : List Tally → Int
  | [] => 0
  | t :: l => (if hitT k a t = true then t.sum else 0) + sumT k a l
theorem sumT_app (k a : Int) : ∀ l1 l2 : List Tally, sumT k a (l1 ++ l2) = sumT k a l1 + sumT k a l2
  | [], l2 => by simp [sumT]
  | t :: l1, l2 => by simp only [List.cons_append, sumT, sumT_app k a l1 l2]; omega
theorem hitT_iff {k a : Int} {t : Tally} : hitT k a t = true ↔ t.key = k ∧ t.author = a := by unfold hitT; simp
theorem sumT_none {k a : Int} : ∀ {l : List Tally}, (∀ t ∈ l, hitT k a t = false) → sumT k a l = 0
  | [], _ => rfl
  | t :: l, h => by
    have h1 := h t (by simp)
    have := sumT_none (k := k) (a := a) (l := l) fun t ht => h t (by simp [ht])
    simp only [sumT, this, h1]; simp
theorem split_at {α : Type} {l : List α} {i : Nat} {z : α} (h : l[i]? = some z) : l = l.take i ++ z :: l.drop (i + 1) := by
  obtain ⟨hi, e⟩ := List.getElem?_eq_some_iff.1 h
  conv => lhs; rw [← List.take_append_drop i l, List.drop_eq_getElem_cons hi, e]
theorem sumT_mem {l : List Tally} (h : SortedT l) {t : Tally} (ht : t ∈ l) : sumT t.key t.author l = t.sum := by
  obtain ⟨i, hi⟩ := List.getElem?_of_mem ht
  have e := split_at hi
  unfold SortedT at h
  rw [e, List.pairwise_append, List.pairwise_cons] at h
  rw [e, sumT_app]
  simp only [sumT]
  rw [sumT_none (l := l.take i) fun y hy => ?_, sumT_none (l := l.drop (i + 1)) fun y hy => ?_, if_pos (hitT_iff.2 ⟨rfl, rfl⟩)]
  · omega
  · rw [Bool.eq_false_iff]; intro k
    obtain ⟨k1, k2⟩ := hitT_iff.1 k
    have := h.2.1.1 y hy
    rw [ordT_zero.2 ⟨k1.symm, k2.symm⟩] at this; omega
  · rw [Bool.eq_false_iff]; intro k
    obtain ⟨k1, k2⟩ := hitT_iff.1 k
    have := h.2.2 y hy t (by simp)
    rw [ordT_zero.2 ⟨k1, k2⟩] at this; omega
theorem sumT_find {k a : Int} {l : List Tally} (h : SortedT l) (hne : sumT k a l ≠ 0) : (⟨k, a, sumT k a l⟩ : Tally) ∈ l := by
  by_cases hx : ∃ t ∈ l, hitT k a t = true
  · obtain ⟨t, ht, hh⟩ := hx
    obtain ⟨rfl, rfl⟩ := hitT_iff.1 hh
    rw [sumT_mem h ht]; exact ht
  · exact absurd (sumT_none fun t ht => by rw [Bool.eq_false_iff]; exact fun k => hx ⟨t, ht, k⟩) hne
theorem tallies_ext {l1 l2 : List Tally} (h1 : SortedT l1) (h2 : SortedT l2) (n1 : ∀ t ∈ l1, t.sum ≠ 0) (n2 : ∀ t ∈ l2, t.sum ≠ 0) (h : ∀ k a, sumT k a l1 = sumT k a l2) : l1 = l2 := by
  refine sortedT_ext h1 h2 fun x => ⟨fun hx => ?_, fun hx => ?_⟩
  · have e := sumT_mem h1 hx
    have e2 := sumT_find (k := x.key) (a := x.author) h2 (by rw [← h, e]; exact n1 x hx)
    rw [← h, e] at e2; exact e2
  · have e := sumT_mem h2 hx
    have e2 := sumT_find (k := x.key) (a := x.author) h1 (by rw [h, e]; exact n2 x hx)
    rw [h, e] at e2; exact e2
theorem sumT_ins (k a : Int) (l : List Tally) (t : Tally) : sumT k a (insO ordT l t) = sumT k a l + (if hitT k a t = true then t.sum else 0) := by
  unfold insO
  rw [sumT_app, sumT_app]
  conv => rhs; rw [← List.take_append_drop (idxO (fun y => ordT y t) l) l, sumT_app]
  simp only [sumT]; omega
theorem hit_same {k a : Int} {z t : Tally} (h : ordT z t = 0) : hitT k a z = hitT k a t := by
  obtain ⟨h1, h2⟩ := ordT_zero.1 h
  unfold hitT; rw [h1, h2]
theorem sumT_count (k a : Int) (l : List Tally) (t : Tally) : sumT k a (countL l t) = sumT k a l + (if hitT k a t = true then t.sum else 0) := by
  unfold countL
  split
  · rename_i z hz
    split
    · rename_i h0
      have e := split_at hz
      have hh := hit_same (k := k) (a := a) h0
      split
      · rename_i hs
        have e2 : l.eraseIdx (idxO (fun y => ordT y t) l) = l.take (idxO (fun y => ordT y t) l) ++ l.drop (idxO (fun y => ordT y t) l + 1) := List.eraseIdx_eq_take_drop_succ ..
        rw [e2, sumT_app]
        conv => rhs; rw [e, sumT_app]
        simp only [sumT, hh]
        split <;> omega
      · have hi := (List.getElem?_eq_some_iff.1 hz).1
        have e2 : l.set (idxO (fun y => ordT y t) l) { z with sum := z.sum + t.sum } = l.take (idxO (fun y => ordT y t) l) ++ { z with sum := z.sum + t.sum } :: l.drop (idxO (fun y => ordT y t) l + 1) := List.set_eq_take_append_cons_drop .. |>.trans (if_pos hi)
        rw [e2, sumT_app]
        conv => rhs; rw [e, sumT_app]
        have hh2 : hitT k a { z with sum := z.sum + t.sum } = hitT k a t := hh
        simp only [sumT, hh, hh2]
        split <;> omega
    · split
      · rename_i h; rw [h]; simp
      · exact sumT_ins k a l t
  · split
    · rename_i h; rw [h]; simp
    · exact sumT_ins k a l t
theorem countL_ne {l : List Tally} {t : Tally} (h : ∀ z ∈ l, z.sum ≠ 0) : ∀ z ∈ countL l t, z.sum ≠ 0 := by
  unfold countL
  intro y hy
  split at hy
  · rename_i z hz
    split at hy
    · split at hy
      · exact h y (List.mem_of_mem_eraseIdx hy)
      · rename_i hs
        rcases List.mem_or_eq_of_mem_set hy with hy | e
        · exact h y hy
        · subst e; exact hs
    · split at hy
      · exact h y hy
      · rename_i hs
        rcases insO_mem.1 hy with hy | e
        · exact h y hy
        · subst e; exact hs
  · split at hy
    · exact h y hy
    · rename_i hs
      rcases insO_mem.1 hy with hy | e
      · exact h y hy
      · subst e; exact hs
theorem countL_sorted {l : List Tally} {t : Tally} (h : SortedT l) : SortedT (countL l t) := by
  have hm := mono_T h t
  have hins : (∀ z, l[idxO (fun y => ordT y t) l]? = some z → ordT z t ≠ 0) → SortedT (insO ordT l t) := fun hz => by
    refine insO_sorted (f := ordT) (fun a b => ordT_swap) ordT_trans h fun y hy e => ?_
    have hy' := hy
    rw [← List.take_append_drop (idxO (fun y => ordT y t) l) l] at hy'
    rcases List.mem_append.1 hy' with hy' | hy'
    · have := idxO_take (f := fun y => ordT y t) hy'; omega
    · obtain ⟨j, hj, ej⟩ := List.getElem_of_mem hy'
      rw [List.length_drop] at hj
      rw [List.getElem_drop] at ej
      have hi : idxO (fun y => ordT y t) l < l.length := by omega
      have h0 := hz _ (List.getElem?_eq_getElem hi)
      have h1 : 0 ≤ ordT l[idxO (fun y => ordT y t) l] t := idxO_drop (f := fun y => ordT y t) hm (by rw [List.drop_eq_getElem_cons hi]; exact List.mem_cons_self)
      cases j with
      | zero => simp only [Nat.add_zero] at ej; rw [ej] at h0; exact h0 e
      | succ j =>
        have h2 := List.pairwise_iff_getElem.1 h _ _ hi (by omega) (show idxO (fun y => ordT y t) l < idxO (fun y => ordT y t) l + (j + 1) by omega)
        rw [ej] at h2
        have h3 : ordT t l[idxO (fun y => ordT y t) l] < 0 := by rw [ordT_swap]; omega
        have h4 := ordT_trans h3 h2
        rw [ordT_swap] at h4; omega
  unfold countL
  split
  · rename_i z hz
    split
    · rename_i h0
      split
      · exact List.Pairwise.sublist (List.eraseIdx_sublist ..) h
      · exact pairwise_set2 h hz (fun y h => h) (fun y h => h)
    · rename_i h0
      split
      · exact h
      · exact hins fun y hy => by rw [hz] at hy; injection hy with hy; subst hy; exact h0
  · rename_i hz
    split
    · exact h
    · exact hins fun y hy => by rw [hz] at hy; cases hy
where
  pairwise_set2 {l : List Tally} {i : Nat} {z y : Tally} (h : SortedT l) (hz : l[i]? = some z) (h1 : ∀ x, ordT z x < 0 → ordT y x < 0) (h2 : ∀ x, ordT x z < 0 → ordT x y < 0) : SortedT (l.set i y) := by
    have hi := (List.getElem?_eq_some_iff.1 hz).1
    have e := split_at hz
    have e2 : l.set i y = l.take i ++ y :: l.drop (i + 1) := List.set_eq_take_append_cons_drop .. |>.trans (if_pos hi)
    unfold SortedT at h ⊢
    rw [e2]
    rw [e, List.pairwise_append, List.pairwise_cons] at h
    rw [List.pairwise_append, List.pairwise_cons]
    refine ⟨h.1, ⟨fun x hx => h1 x (h.2.1.1 x hx), h.2.1.2⟩, fun a ha b hb => ?_⟩
    rcases List.mem_cons.1 hb with e | hb
    · subst e; exact h2 a (h.2.2 a ha z (by simp))
    · exact h.2.2 a ha b (by simp [hb])
theorem applyS_tallies {s : State} {u : Upd} : (applyS s u).tallies = if u.kind = 5 then countL s.tallies ⟨u.key, u.author, u.item⟩ else s.tallies := rfl
theorem applyS_sum {s : State} {u : Upd} (k a : Int) : sumT k a (applyS s u).tallies = sumT k a s.tallies + (if u.kind = 5 ∧ u.key = k ∧ u.author = a then u.item else 0) := by
  rw [applyS_tallies]
  split
  · rename_i h; rw [sumT_count]
    by_cases h2 : u.key = k ∧ u.author = a
    · rw [if_pos (hitT_iff.2 h2), if_pos ⟨h, h2⟩]
    · rw [if_neg (fun k => h2 (hitT_iff.1 k)), if_neg (fun k => h2 k.2)]
  · rename_i h; rw [if_neg (fun k => h k.1)]; omega
theorem applyS_clock {s : State} {u : Upd} : (applyS s u).clock = tickC s.clock u.author := rfl
/-- a right state stays right -/
theorem applyS_right {s : State} {u : Upd} {n : Int} (h : RightS s n) (k : StepOk s.clock u n) : RightS (applyS s u) n := by
  have hn := wrongC_ok h.c
  have hr := k.r
  have tk := tick_at h.c k
  have up : ∀ j, atI s.clock j ≤ atI (tickC s.clock u.author) j := fun j => by rw [tk]; split <;> (try subst_vars) <;> omega
  have hnew : LiveOk (tickC s.clock u.author) n (liveOf u) := by
    have := atI_bd hr.c u.author.toNat
    refine ⟨hr.a0, hr.a1, ?_, ?_, hr.y0, hr.y1, hr.i0, hr.i1⟩
    · show 1 ≤ atI u.seen u.author.toNat + 1; omega
    · show atI u.seen u.author.toNat + 1 ≤ atI (tickC s.clock u.author) u.author.toNat
      rw [tk, if_pos rfl, k.eq]; exact Int.le_refl _
  refine ⟨tick_ok h.c k, fun x hx => ?_, ?_, fun x hx => ?_, ?_⟩
  · rcases (applyS_mem hr).1 hx with ⟨hx, _⟩ | ⟨_, rfl⟩
    · obtain ⟨a1, a2, a3, a4, a5, a6, a7, a8⟩ := h.l x hx
      exact ⟨a1, a2, a3, Int.le_trans a4 (up _), a5, a6, a7, a8⟩
    · exact hnew
  · rw [applyS_lives hr]
    have hf : SortedL (s.lives.filter fun x => !ends u x) := List.Pairwise.filter _ h.ls
    split
    · refine insO_sorted (f := ordL) (fun a b => ordL_swap) ordL_trans hf fun y hy e => ?_
      have e := ordL_zero.1 e
      subst e
      have := (h.l _ (List.mem_filter.1 hy).1).q1
      have : atI u.seen u.author.toNat + 1 ≤ atI s.clock u.author.toNat := this
      have := k.eq
      omega
    · exact hf
  · have hs : SortedT (applyS s u).tallies := by rw [applyS_tallies]; split; exact countL_sorted h.ts; exact h.ts
    have hne : ∀ z ∈ (applyS s u).tallies, z.sum ≠ 0 := by rw [applyS_tallies]; split; exact countL_ne fun z hz => (h.t z hz).ne; exact fun z hz => (h.t z hz).ne
    have e1 := sumT_mem hs hx
    rw [applyS_sum] at e1
    have hx0 := hne x hx
    by_cases hold : sumT x.key x.author s.tallies = 0
    · rw [hold] at e1
      split at e1
      · rename_i hk
        obtain ⟨k5, kk, ka⟩ := hk
        have := hr.a0; have := hr.a1; have := hr.y0; have := hr.y1; have := hr.i0; have := hr.i1
        have b := atI_bd h.c x.author.toNat
        refine ⟨by omega, by omega, by omega, by omega, ?_, ?_, hx0⟩ <;> (show _ ≤ _; rw [applyS_clock, tk, if_pos (by rw [ka])]; rw [← ka] at b; omega)
      · omega
    · have hf := h.t _ (sumT_find h.ts hold)
      obtain ⟨a1, a2, a3, a4, a5, a6, a7⟩ := hf
      dsimp only at a1 a2 a3 a4 a5 a6 a7
      refine ⟨a1, a2, a3, a4, ?_, ?_, hx0⟩
      · rw [applyS_clock, tk]
        split at e1
        · rename_i hk; have := hr.i0; have := hr.i1; rw [if_pos (by rw [hk.2.2]), hk.2.2]; omega
        · have := up x.author.toNat; rw [tk] at this; omega
      · rw [applyS_clock, tk]
        split at e1
        · rename_i hk; have := hr.i0; have := hr.i1; rw [if_pos (by rw [hk.2.2]), hk.2.2]; omega
        · have := up x.author.toNat; rw [tk] at this; omega
  · rw [applyS_tallies]; split
    · exact countL_sorted h.ts
    · exact h.ts
/-- two right states that agree on each thing asked are the same -/
theorem state_ext {s t : State} {n : Int} (h1 : RightS s n) (h2 : RightS t n) (hc : s.clock = t.clock) (hl : ∀ x, x ∈ s.lives ↔ x ∈ t.lives) (ht : ∀ k a, sumT k a s.tallies = sumT k a t.tallies) : s = t := by
  obtain ⟨c, l, m⟩ := s
  obtain ⟨c', l', m'⟩ := t
  dsimp only at hc hl ht
  subst hc
  have e1 : l = l' := sortedL_ext h1.ls h2.ls hl
  have e2 : m = m' := tallies_ext h1.ts h2.ts (fun z hz => (h1.t z hz).ne) (fun z hz => (h2.t z hz).ne) ht
  rw [e1, e2]
end Go.Proofs.Ytkjknlnhffmkkab
