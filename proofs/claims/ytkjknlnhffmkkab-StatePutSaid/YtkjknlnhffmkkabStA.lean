/- What an update does to a state, as plain data. No program in sight. -/
import Derived.Test.YtkjknlnhffmkkabStQ
namespace Go.Proofs.Ytkjknlnhffmkkab

/-- the order, as one of lists of numbers -/
def lexI : List Int → List Int → Int
  | x :: xs, y :: ys => if cmpI x y = 0 then lexI xs ys else cmpI x y
  | _, _ => 0
theorem cmpI_zero {x y : Int} : cmpI x y = 0 ↔ x = y := by unfold cmpI; split <;> (try split) <;> omega
theorem cmpI_neg {x y : Int} : cmpI x y < 0 ↔ x < y := by unfold cmpI; split <;> (try split) <;> omega
theorem cmpI_pos {x y : Int} : 0 < cmpI x y ↔ y < x := by unfold cmpI; split <;> (try split) <;> omega
theorem lexI_cons {x y : Int} {xs ys : List Int} : lexI (x :: xs) (y :: ys) < 0 ↔ x < y ∨ (x = y ∧ lexI xs ys < 0) := by
  show (if cmpI x y = 0 then lexI xs ys else cmpI x y) < 0 ↔ _
  split
  · rename_i h; have := cmpI_zero.1 h
    constructor
    · intro h2; exact .inr ⟨this, h2⟩
    · intro h2; rcases h2 with h2 | h2
      · omega
      · exact h2.2
  · rename_i h
    have h' : ¬ x = y := fun e => h (cmpI_zero.2 e)
    rw [cmpI_neg]
    constructor
    · exact .inl
    · intro h2; rcases h2 with h2 | h2
      · exact h2
      · exact absurd h2.1 h'
theorem lexI_cons0 {x y : Int} {xs ys : List Int} : lexI (x :: xs) (y :: ys) = 0 ↔ x = y ∧ lexI xs ys = 0 := by
  show (if cmpI x y = 0 then lexI xs ys else cmpI x y) = 0 ↔ _
  split
  · rename_i h; have := cmpI_zero.1 h; simp [this]
  · rename_i h; have h' : ¬ x = y := fun e => h (cmpI_zero.2 e)
    simp [h, h']
theorem lexI_trans : ∀ {a b c : List Int}, lexI a b < 0 → lexI b c < 0 → lexI a c < 0
  | x :: xs, y :: ys, z :: zs, h1, h2 => by
    rw [lexI_cons] at *
    rcases h1 with h1 | ⟨rfl, h1⟩ <;> rcases h2 with h2 | ⟨rfl, h2⟩
    · exact .inl (by omega)
    · exact .inl h1
    · exact .inl h2
    · exact .inr ⟨rfl, lexI_trans h1 h2⟩
  | [], _, _, h1, _ => by cases h1
  | _ :: _, [], _, h1, _ => by cases h1
  | _ :: _, _ :: _, [], _, h2 => by cases h2
theorem lexI_swap : ∀ {a b : List Int}, lexI b a = - lexI a b
  | x :: xs, y :: ys => by
    show (if cmpI y x = 0 then lexI ys xs else cmpI y x) = - (if cmpI x y = 0 then lexI xs ys else cmpI x y)
    have e : cmpI y x = - cmpI x y := by unfold cmpI; repeat' split
                                         all_goals omega
    rw [lexI_swap (a := xs) (b := ys), e]
    split <;> split <;> omega
  | [], [] => rfl
  | [], _ :: _ => rfl
  | _ :: _, [] => rfl
theorem lexI_eq : ∀ {a b : List Int}, a.length = b.length → lexI a b = 0 → a = b
  | x :: xs, y :: ys, hl, h => by
    rw [lexI_cons0] at h
    rw [h.1, lexI_eq (by simpa using hl) h.2]
  | [], [], _, _ => rfl
  | [], _ :: _, hl, _ => by simp at hl
  | _ :: _, [], hl, _ => by simp at hl
def codeL (a : Live) : List Int := [if a.set = true then 1 else 0, a.key, a.item, a.author, a.seq]
def codeT (a : Tally) : List Int := [a.key, a.author]
theorem orI_cons {x : Int} {l : List Int} : orI (x :: l) = if x = 0 then orI l else x := rfl
theorem ordL_code (a b : Live) : ordL a b = lexI (codeL a) (codeL b) := by
  obtain ⟨s1, k1, i1, a1, q1⟩ := a
  obtain ⟨s2, k2, i2, a2, q2⟩ := b
  unfold ordL codeL
  cases s1 <;> cases s2 <;> simp [orI, lexI, cmpI]
theorem ordT_code (a b : Tally) : ordT a b = lexI (codeT a) (codeT b) := by
  unfold ordT codeT
  simp only [lexI, orI]
def SortedL (l : List Live) : Prop := l.Pairwise fun a b => ordL a b < 0
def SortedT (l : List Tally) : Prop := l.Pairwise fun a b => ordT a b < 0
theorem ordL_trans {a b c : Live} (h1 : ordL a b < 0) (h2 : ordL b c < 0) : ordL a c < 0 := by rw [ordL_code] at *; exact lexI_trans h1 h2
theorem ordT_trans {a b c : Tally} (h1 : ordT a b < 0) (h2 : ordT b c < 0) : ordT a c < 0 := by rw [ordT_code] at *; exact lexI_trans h1 h2
theorem mono_of {α : Type} {f : α → α → Int} (ht : ∀ {a b c}, f a b < 0 → f b c < 0 → f a c < 0) {l : List α} (h : l.Pairwise fun a b => f a b < 0) (t : α) : ∀ (a b : Nat) y z, a ≤ b → l[a]? = some y → l[b]? = some z → f z t < 0 → f y t < 0 := fun a b y z hab hy hz hlt => by
  obtain ⟨ha, rfl⟩ := List.getElem?_eq_some_iff.1 hy
  obtain ⟨hb, rfl⟩ := List.getElem?_eq_some_iff.1 hz
  rcases Nat.lt_or_eq_of_le hab with h' | rfl
  · exact ht (List.pairwise_iff_getElem.1 h a b ha hb h') hlt
  · exact hlt
theorem mono_L {l : List Live} (h : SortedL l) (t : Live) : ∀ (a b : Nat) y z, a ≤ b → l[a]? = some y → l[b]? = some z → ordL z t < 0 → ordL y t < 0 := mono_of (f := ordL) ordL_trans h t
theorem mono_T {l : List Tally} (h : SortedT l) (t : Tally) : ∀ (a b : Nat) y z, a ≤ b → l[a]? = some y → l[b]? = some z → ordT z t < 0 → ordT y t < 0 := mono_of (f := ordT) ordT_trans h t
/-- does u end l -/
def endsC (set : Bool) (u : Upd) (l : Live) : Bool := (l.set == set) && (l.key == u.key) && (!set || l.item == u.item) && hasC u.seen l.author l.seq
/-- the first place that is not behind -/
def idxO {α : Type} (f : α → Int) (l : List α) : Nat := l.findIdx fun y => decide (0 ≤ f y)
theorem idxO_eq {α : Type} {f : α → Int} {l : List α} {i : Nat} (hi : i ≤ l.length) (ha : ∀ (a : Nat) y, a < i → l[a]? = some y → f y < 0) (hb : ∀ (a : Nat) y, i ≤ a → l[a]? = some y → 0 ≤ f y) : i = idxO f l := by
  unfold idxO
  symm
  rcases Nat.lt_or_ge i l.length with h | h
  · rw [List.findIdx_eq h]
    refine ⟨?_, fun j hj => ?_⟩
    · simpa using hb i l[i] (Nat.le_refl _) (List.getElem?_eq_getElem h)
    · have := ha j l[j] hj (List.getElem?_eq_getElem (by omega))
      simp; omega
  · have e : i = l.length := by omega
    rw [e, List.findIdx_eq_length]
    intro y hy
    obtain ⟨j, hj, rfl⟩ := List.getElem_of_mem hy
    have := ha j l[j] (by omega) (List.getElem?_eq_getElem hj)
    simp; omega
def insO {α : Type} (f : α → α → Int) (l : List α) (x : α) : List α := l.take (idxO (fun y => f y x) l) ++ [x] ++ l.drop (idxO (fun y => f y x) l)
theorem insO_len {α : Type} (f : α → α → Int) (l : List α) (x : α) : (insO f l x).length = l.length + 1 := by
  have : idxO (fun y => f y x) l ≤ l.length := List.findIdx_le_length
  unfold insO; simp; omega
def countL (l : List Tally) (t : Tally) : List Tally :=
  match l[idxO (fun y => ordT y t) l]? with
  | some z => if ordT z t = 0 then (if z.sum + t.sum = 0 then l.eraseIdx (idxO (fun y => ordT y t) l) else l.set (idxO (fun y => ordT y t) l) { z with sum := z.sum + t.sum }) else if t.sum = 0 then l else insO ordT l t
  | none => if t.sum = 0 then l else insO ordT l t
section
variable {l : List Tally} {t z : Tally} {i : Nat} (hi : i ≤ l.length) (ha : ∀ (a : Nat) y, a < i → l[a]? = some y → ordT y t < 0) (hb : ∀ (a : Nat) y, i ≤ a → l[a]? = some y → 0 ≤ ordT y t)
include hi ha hb
theorem count_del (hz : l[i]? = some z) (h0 : ordT z t = 0) (hs : z.sum + t.sum = 0) : l.eraseIdx i = countL l t := by
  have e := idxO_eq (f := fun y => ordT y t) hi ha hb
  unfold countL
  rw [← e, hz]; simp [h0, hs]
theorem count_set (hz : l[i]? = some z) (h0 : ordT z t = 0) (hs : ¬ z.sum + t.sum = 0) : l.set i { z with sum := z.sum + t.sum } = countL l t := by
  have e := idxO_eq (f := fun y => ordT y t) hi ha hb
  unfold countL
  rw [← e, hz]; simp [h0, hs]
theorem count_same (hf : ∀ z, l[i]? = some z → ordT z t ≠ 0) (hs : t.sum = 0) : l = countL l t := by
  have e := idxO_eq (f := fun y => ordT y t) hi ha hb
  unfold countL
  rw [← e]
  split
  · rename_i z hz; rw [if_neg (hf z hz), if_pos hs]
  · rw [if_pos hs]
theorem count_ins (hf : ∀ z, l[i]? = some z → ordT z t ≠ 0) (hs : ¬ t.sum = 0) : l.take i ++ [t] ++ l.drop i = countL l t := by
  have e := idxO_eq (f := fun y => ordT y t) hi ha hb
  unfold countL
  rw [← e]
  split
  · rename_i z hz; rw [if_neg (hf z hz), if_neg hs]; unfold insO; rw [← e]
  · rw [if_neg hs]; unfold insO; rw [← e]
end
/-- what u does to s -/
def newL (set : Bool) (u : Upd) (seq : Int) : Live := ⟨set, u.key, u.item, u.author, seq⟩
def applyS (s : State) (u : Upd) : State :=
  let set := decide (u.kind = 3 ∨ u.kind = 4)
  let ls := if u.kind ≠ 5 ∧ u.kind ≠ 3 then s.lives.filter fun l => !endsC set u l else s.lives
  ⟨tickC s.clock u.author, if u.kind = 1 ∨ u.kind = 3 then insO ordL ls (newL set u (seqU u)) else ls, if u.kind = 5 then countL s.tallies ⟨u.key, u.author, u.item⟩ else s.tallies⟩
end Go.Proofs.Ytkjknlnhffmkkab
