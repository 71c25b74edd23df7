/- What the functions compute, as plain functions on lists of numbers: clocks. No program in sight. -/
import Derived.Test.YtkjknlnhffmkkaaLib
namespace Go.Proofs.Ytkjknlnhffmkkaa

def atI (l : List Int) (i : Nat) : Int := l.getD i 0
theorem atI_lt {l : List Int} {i : Nat} (h : i < l.length) : atI l i = l[i] := by simp [atI, h]
theorem atI_ge {l : List Int} {i : Nat} (h : l.length ≤ i) : atI l i = 0 := by simp [atI, List.getElem?_eq_none h]

def zipC (f : Int → Int → Int) (a b : List Int) : List Int := (List.range (max a.length b.length)).map fun i => f (atI a i) (atI b i)
theorem zipC_len (f : Int → Int → Int) (a b : List Int) : (zipC f a b).length = max a.length b.length := by simp [zipC]
theorem zipC_get (f : Int → Int → Int) (a b : List Int) {k : Nat} (hk : k < max a.length b.length) : (zipC f a b)[k]? = some (f (atI a k) (atI b k)) := by
  simp only [zipC, List.getElem?_map, List.getElem?_range hk, Option.map_some]
theorem take_snoc {α : Type} {l : List α} {k : Nat} {x : α} (h : l[k]? = some x) : l.take (k + 1) = l.take k ++ [x] := by rw [List.take_add_one, h]; rfl
def joinC (a b : List Int) : List Int := zipC max a b
def meetC (a b : List Int) : List Int := zipC min a b
def seesC (a b : List Int) : Bool := (List.range (max a.length b.length)).all fun i => decide (atI b i ≤ atI a i)
def okK (k : Int) : Bool := decide (0 ≤ k) && decide (k ≤ 1000)
/-- 5: too many, 3: out of range -/
def wrongC (c : List Int) (n : Int) : Int := if n < 1 ∨ 6 < n ∨ (c.length : Int) ≠ n then 5 else if c.all okK then 0 else 3
def hasC (c : List Int) (author seq : Int) : Bool := decide (0 ≤ author) && decide (author < c.length) && decide (seq ≤ atI c author.toNat)
def tickC (c : List Int) (author : Int) : List Int := if 0 ≤ author ∧ author < c.length then c.set author.toNat (RowKit.wrap64 (atI c author.toNat + 1)) else c

theorem seesC_iff {a b : List Int} : seesC a b = true ↔ ∀ k, atI b k ≤ atI a k := by
  unfold seesC
  rw [List.all_eq_true]
  constructor
  · intro h k
    rcases Nat.lt_or_ge k (max a.length b.length) with hk | hk
    · simpa using h k (List.mem_range.2 hk)
    · rw [atI_ge (show b.length ≤ k by omega), atI_ge (show a.length ≤ k by omega)]; exact Int.le_refl _
  · intro h k _
    simpa using h k
theorem seesC_refl (a : List Int) : seesC a a = true := seesC_iff.2 fun _ => Int.le_refl _
theorem seesC_trans {a b c : List Int} (h : seesC a b = true) (k : seesC b c = true) : seesC a c = true :=
  seesC_iff.2 fun i => Int.le_trans (seesC_iff.1 k i) (seesC_iff.1 h i)
theorem seesC_anti {a b : List Int} (hl : a.length = b.length) (h : seesC a b = true) (k : seesC b a = true) : a = b := by
  refine List.ext_getElem hl fun i h1 h2 => ?_
  have e1 := seesC_iff.1 h i
  have e2 := seesC_iff.1 k i
  rw [atI_lt h1, atI_lt h2] at e1 e2
  omega
theorem joinC_len (a b : List Int) : (joinC a b).length = max a.length b.length := zipC_len _ _ _
theorem meetC_len (a b : List Int) : (meetC a b).length = max a.length b.length := zipC_len _ _ _
theorem zipC_at {f : Int → Int → Int} (hf : f 0 0 = 0) (a b : List Int) (k : Nat) : atI (zipC f a b) k = f (atI a k) (atI b k) := by
  rcases Nat.lt_or_ge k (max a.length b.length) with h | h
  · have := zipC_get f a b h
    unfold atI at this ⊢
    rw [List.getD, this]; rfl
  · rw [atI_ge (show (zipC f a b).length ≤ k by rw [zipC_len]; exact h), atI_ge (show a.length ≤ k by omega), atI_ge (show b.length ≤ k by omega), hf]
theorem joinC_at (a b : List Int) (k : Nat) : atI (joinC a b) k = max (atI a k) (atI b k) := zipC_at rfl a b k
theorem meetC_at (a b : List Int) (k : Nat) : atI (meetC a b) k = min (atI a k) (atI b k) := zipC_at rfl a b k
theorem atI_ext {a b : List Int} (hl : a.length = b.length) (h : ∀ k, atI a k = atI b k) : a = b := by
  refine List.ext_getElem hl fun i h1 h2 => ?_
  have := h i
  rwa [atI_lt h1, atI_lt h2] at this
theorem sees_joinl (a b : List Int) : seesC (joinC a b) a = true := seesC_iff.2 fun k => by rw [joinC_at]; omega
theorem sees_joinr (a b : List Int) : seesC (joinC a b) b = true := seesC_iff.2 fun k => by rw [joinC_at]; omega
theorem sees_meetl (a b : List Int) : seesC a (meetC a b) = true := seesC_iff.2 fun k => by rw [meetC_at]; omega
theorem sees_meetr (a b : List Int) : seesC b (meetC a b) = true := seesC_iff.2 fun k => by rw [meetC_at]; omega
theorem sees_join (c a b : List Int) : seesC c (joinC a b) = (seesC c a && seesC c b) := by
  rw [Bool.eq_iff_iff, Bool.and_eq_true, seesC_iff, seesC_iff, seesC_iff]
  constructor
  · intro h
    exact ⟨fun k => by have := h k; rw [joinC_at] at this; omega, fun k => by have := h k; rw [joinC_at] at this; omega⟩
  · rintro ⟨h1, h2⟩ k
    have := h1 k; have := h2 k
    rw [joinC_at]; omega
theorem meet_sees (a b c : List Int) : seesC (meetC a b) c = (seesC a c && seesC b c) := by
  rw [Bool.eq_iff_iff, Bool.and_eq_true, seesC_iff, seesC_iff, seesC_iff]
  constructor
  · intro h
    exact ⟨fun k => by have := h k; rw [meetC_at] at this; omega, fun k => by have := h k; rw [meetC_at] at this; omega⟩
  · rintro ⟨h1, h2⟩ k
    have := h1 k; have := h2 k
    rw [meetC_at]; omega
theorem joinC_assoc (a b c : List Int) : joinC a (joinC b c) = joinC (joinC a b) c :=
  atI_ext (by simp only [joinC_len]; omega) fun k => by simp only [joinC_at]; omega
theorem joinC_comm (a b : List Int) : joinC a b = joinC b a := atI_ext (by simp only [joinC_len]; omega) fun k => by simp only [joinC_at]; omega
theorem joinC_meet {a b : List Int} (h : b.length ≤ a.length) : joinC a (meetC a b) = a := atI_ext (by simp only [joinC_len, meetC_len]; omega) fun k => by simp only [joinC_at, meetC_at]; omega
theorem meetC_join {a b : List Int} (h : b.length ≤ a.length) : meetC a (joinC a b) = a := atI_ext (by simp only [joinC_len, meetC_len]; omega) fun k => by simp only [joinC_at, meetC_at]; omega
theorem tickC_in {a : List Int} {k : Nat} (hk : k < a.length) : tickC a k = a.set k (RowKit.wrap64 (a[k] + 1)) := by
  unfold tickC; rw [if_pos (by omega), Int.toNat_natCast, atI_lt hk]
theorem tickC_out {a : List Int} {n : Int} (h : n < 0 ∨ (a.length : Int) ≤ n) : tickC a n = a := by unfold tickC; rw [if_neg (by omega)]
theorem tickC_len (a : List Int) (n : Int) : (tickC a n).length = a.length := by unfold tickC; split <;> simp
theorem wrap_small {x : Int} (h : 0 ≤ x) (h' : x ≤ 1000000) : RowKit.wrap64 x = x := by
  simp only [RowKit.wrap64]; omega
theorem set_at {a : List Int} {k : Nat} {x : Int} (hk : k < a.length) (j : Nat) : atI (a.set k x) j = if j = k then x else atI a j := by
  unfold atI
  rw [List.getD, List.getD, List.getElem?_set]
  by_cases e : j = k
  · subst e; simp [hk]
  · rw [if_neg (fun h => e h.symm), if_neg e]
theorem sees_set_up {a : List Int} {k : Nat} {x : Int} (hk : k < a.length) (hx : atI a k ≤ x) : seesC (a.set k x) a = true := seesC_iff.2 fun j => by
  rw [set_at hk]; split
  · rename_i e; subst e; exact hx
  · exact Int.le_refl _
theorem sees_set_no {a : List Int} {k : Nat} {x : Int} (hk : k < a.length) (hx : atI a k < x) : seesC a (a.set k x) = false := by
  rw [Bool.eq_false_iff]; intro h
  have := seesC_iff.1 h k
  rw [set_at hk, if_pos rfl] at this
  omega
theorem hasC_nat {a : List Int} {k : Nat} {x : Int} (hk : k < a.length) : hasC a k x = decide (x ≤ atI a k) := by unfold hasC; rw [Int.toNat_natCast]; simp [hk]
theorem wrongC_ok {l : List Int} {n : Int} (h : wrongC l n = 0) : 1 ≤ n ∧ n ≤ 6 ∧ (l.length : Int) = n ∧ ∀ x ∈ l, 0 ≤ x ∧ x ≤ 1000 := by
  unfold wrongC at h
  split at h
  · cases h
  · rename_i hn
    split at h
    · rename_i ha
      refine ⟨by omega, by omega, by omega, fun x hx => ?_⟩
      have := List.all_eq_true.1 ha x hx
      simpa [okK] using this
    · cases h
theorem ne_b {x y : Int} (h : x ≠ y) : (x != y) = true ∧ (x == y) = false := by simp [h]
theorem eq_b {x y : Int} (h : x = y) : (x != y) = false ∧ (x == y) = true := by simp [h]

/-- the first place where p holds, or -1 -/
def idxF {α : Type} (p : α → Bool) (l : List α) : Int := match l.findIdx? p with | some i => (i : Int) | none => -1
theorem idxF_hit {α : Type} {p : α → Bool} {l : List α} {k : Nat} {x : α} (hk : l[k]? = some x) (hp : p x = true) (hb : ∀ (j : Nat) (y : α), j < k → l[j]? = some y → p y = false) : idxF p l = k := by
  unfold idxF
  have : l.findIdx? p = some k := by
    rw [List.findIdx?_eq_some_iff_getElem]
    obtain ⟨hl, e⟩ := List.getElem?_eq_some_iff.1 hk
    refine ⟨hl, by rw [e]; exact hp, fun j hj => ?_⟩
    have := hb j l[j] hj (List.getElem?_eq_getElem (by omega))
    simp [this]
  rw [this]
theorem idxF_none {α : Type} {p : α → Bool} {l : List α} (hb : ∀ (j : Nat) (y : α), l[j]? = some y → p y = false) : idxF p l = -1 := by
  unfold idxF
  have : l.findIdx? p = none := by
    rw [List.findIdx?_eq_none_iff]
    intro x hx
    obtain ⟨j, hj⟩ := List.getElem?_of_mem hx
    exact hb j x hj
  rw [this]
theorem idxF_any {α : Type} (p : α → Bool) (l : List α) : decide (0 ≤ idxF p l) = l.any p := by
  unfold idxF
  cases h : l.findIdx? p with
  | none =>
    have := List.findIdx?_eq_none_iff.1 h
    have h' : l.any p = false := by
      rw [List.any_eq_false]
      intro x hx; simp [this x hx]
    simp [h']
  | some i =>
    obtain ⟨hl, e, _⟩ := List.findIdx?_eq_some_iff_getElem.1 h
    have h' : l.any p = true := List.any_eq_true.2 ⟨l[i], List.getElem_mem hl, e⟩
    simp [h']
theorem idxF_bd {α : Type} (p : α → Bool) (l : List α) : -1 ≤ idxF p l ∧ idxF p l < max 1 l.length := by
  unfold idxF
  cases h : l.findIdx? p with
  | none => constructor <;> simp; omega
  | some i =>
    obtain ⟨hl, _⟩ := List.findIdx?_eq_some_iff_getElem.1 h
    simp; omega
end Go.Proofs.Ytkjknlnhffmkkaa
