/- Plain laws: clocks, updates, logs, states. No program in sight. -/
import Derived.WalkKit
import Derived.Maps.AppendAt
import Derived.Deep.AppendLies
import Derived.Deep.Draws
namespace Go.Proofs.Ytkjknlnhffmkkaa
open Go.RowKit
set_option linter.unusedVariables false

theorem hid {p : Prop} (h : p) : Hid p := h
theorem ret_i {k : IntKind} {a b : Int} (h : a = b) : Ending.returned (.int k a) = .returned (.int k b) := by rw [h]
theorem ret_b {a b : Bool} (h : a = b) : Ending.returned (.bool a) = .returned (.bool b) := by rw [h]

/-- a reading of memory: block, place -/
abbrev Rd := Nat → Nat → Option Value
def wrd (w : World) : Rd := fun b o => w.cell? ⟨b, o, none⟩
/-- without one block -/
def but (w : World) (g : Option Nat) : Rd := fun b o => if some b = g then none else w.cell? ⟨b, o, none⟩
def Rd.le (r s : Rd) : Prop := ∀ b o v, r b o = some v → s b o = some v

theorem Rd.le_refl (r : Rd) : Rd.le r r := fun _ _ _ h => h
theorem Rd.le_trans {r s t : Rd} (h : Rd.le r s) (k : Rd.le s t) : Rd.le r t := fun b o v e => k b o v (h b o v e)
theorem below_drewN (B : Nat) (w : World) (n : Nat) : Below B w (w.drewN n) := ⟨rfl, rfl, rfl, Nat.le_refl _, fun _ _ => rfl⟩
theorem blk_lt {w : World} {b o : Nat} {v : Value} (h : w.cell? ⟨b, o, none⟩ = some v) : b < w.heap.size := World.block_lt_of_cell? w ⟨b, o, none⟩ h
theorem le_below {w w' : World} {B : Nat} (hb : Below B w w') (hB : w.heap.size ≤ B) : Rd.le (wrd w) (wrd w') := fun b o v h => by
  have := blk_lt h
  exact (hb.cell (p := ⟨b, o, none⟩) (by show b < B; omega)).trans h
theorem le_alloc (w : World) (o : Obj) : Rd.le (wrd w) (wrd (w.alloc o)) := le_below ((Below.refl _ _).alloc (Nat.le_refl _) o) (Nat.le_refl _)
/-- one thing of some cells -/
abbrev CR (α : Type) := Rd → List Value → α → Prop
def MonoR {α : Type} (R : CR α) : Prop := ∀ r s cs x, Rd.le r s → R r cs x → R s cs x

def RowR {α : Type} (size : Nat) (R : CR α) (rd : Rd) : List Value → List α → Prop
  | xs, [] => xs = []
  | xs, x :: l => ∃ cs rest, xs = cs ++ rest ∧ cs.length = size ∧ R rd cs x ∧ RowR size R rd rest l

section
variable {α : Type} {size : Nat} {R : CR α} {rd : Rd}
theorem RowR.len : ∀ {l : List α} {xs : List Value}, RowR size R rd xs l → xs.length = l.length * size
  | [], _, h => by cases h; simp
  | x :: l, _, ⟨cs, rest, e, h1, _, h3⟩ => by
    subst e
    have := h3.len
    simp [h1, this, Nat.add_mul, Nat.add_comm]
theorem RowR.mono {rd' : Rd} (hm : MonoR R) (hle : Rd.le rd rd') : ∀ {l : List α} {xs : List Value}, RowR size R rd xs l → RowR size R rd' xs l
  | [], _, h => h
  | _ :: _, _, ⟨cs, rest, e, h1, h2, h3⟩ => ⟨cs, rest, e, h1, hm _ _ _ _ hle h2, h3.mono hm hle⟩
theorem RowR.append : ∀ {l m : List α} {xs ys : List Value}, RowR size R rd xs l → RowR size R rd ys m → RowR size R rd (xs ++ ys) (l ++ m)
  | [], _, _, _, h, k => by cases h; exact k
  | _ :: _, _, _, _, ⟨cs, rest, e, h1, h2, h3⟩, k => ⟨cs, rest ++ _, by rw [e, List.append_assoc], h1, h2, h3.append k⟩
theorem RowR.one {cs : List Value} {x : α} (h1 : cs.length = size) (h : R rd cs x) : RowR size R rd cs [x] := ⟨cs, [], by simp, h1, h, rfl⟩
theorem RowR.push {l : List α} {xs cs : List Value} {x : α} (h : RowR size R rd xs l) (h1 : cs.length = size) (hx : R rd cs x) : RowR size R rd (xs ++ cs) (l ++ [x]) := h.append (RowR.one h1 hx)
/-- a row's cells, place by place -/
theorem RowR.get : ∀ {l : List α} {xs : List Value} (k : Nat) {x : α}, RowR size R rd xs l → l[k]? = some x →
    ∃ cs, cs.length = size ∧ R rd cs x ∧ ∀ j u, cs[j]? = some u → xs[k * size + j]? = some u
  | [], _, k, x, _, hk => by simp at hk
  | y :: l, _, 0, x, ⟨cs, rest, e, h1, h2, h3⟩, hk => by
    simp at hk; subst hk; subst e
    refine ⟨cs, h1, h2, fun j u hu => ?_⟩
    have hj : j < cs.length := (List.getElem?_eq_some_iff.1 hu).1
    rw [Nat.zero_mul, Nat.zero_add, List.getElem?_append_left hj]
    exact hu
  | y :: l, _, k + 1, x, ⟨cs, rest, e, h1, h2, h3⟩, hk => by
    subst e
    obtain ⟨cs', a, b, c⟩ := h3.get k (by simpa using hk)
    refine ⟨cs', a, b, fun j u hu => ?_⟩
    rw [List.getElem?_append_right (by rw [h1, Nat.add_mul]; omega)]
    rw [← c j u hu]
    congr 1
    rw [h1, Nat.add_mul]
    omega
theorem RowR.drop : ∀ {l : List α} {xs : List Value} (k : Nat), k ≤ l.length → RowR size R rd xs l → RowR size R rd (xs.drop (k * size)) (l.drop k)
  | _, _, 0, _, h => by simpa using h
  | [], _, k + 1, hk, h => by simp at hk
  | y :: l, _, k + 1, hk, ⟨cs, rest, e, h1, h2, h3⟩ => by
    subst e
    have := h3.drop k (by simpa using hk)
    rw [List.drop_succ_cons, Nat.add_mul, Nat.add_comm (k * size), Nat.one_mul, ← List.drop_drop]
    rw [show (cs ++ rest).drop size = rest by rw [← h1]; simp]
    exact this
theorem RowR.take : ∀ {l : List α} {xs : List Value} (k : Nat), RowR size R rd xs l → RowR size R rd (xs.take (k * size)) (l.take k)
  | _, _, 0, h => by simp [RowR]
  | [], _, k + 1, h => by cases h; simp [RowR]
  | y :: l, _, k + 1, ⟨cs, rest, e, h1, h2, h3⟩ => by
    subst e
    have := h3.take k
    refine ⟨cs, rest.take (k * size), ?_, h1, h2, this⟩
    rw [Nat.add_mul, Nat.add_comm (k * size), Nat.one_mul, List.take_append, List.take_of_length_le (by omega), h1]
    simp
end

/-- a slice's value reads as a list -/
def SliceR {α : Type} (size : Nat) (R : CR α) (rd : Rd) (v : Value) (l : List α) : Prop :=
  ∃ A c xs, v = .slice A l.length c ∧ l.length ≤ c ∧ c ≤ maxLen ∧ RowR size R rd xs l ∧
    (l ≠ [] → ∃ b o, A = some ⟨b, o, none⟩ ∧ ∀ j u, xs[j]? = some u → rd b (o + j) = some u)

section
variable {α : Type} {size : Nat} {R : CR α} {rd : Rd}
theorem SliceR.mono {rd' : Rd} {v : Value} {l : List α} (h : SliceR size R rd v l) (hm : MonoR R) (hle : Rd.le rd rd') : SliceR size R rd' v l := by
  obtain ⟨A, c, xs, e, h1, h2, h3, h4⟩ := h
  refine ⟨A, c, xs, e, h1, h2, h3.mono hm hle, fun hl => ?_⟩
  obtain ⟨b, o, eA, hc⟩ := h4 hl
  exact ⟨b, o, eA, fun j u hu => hle _ _ _ (hc j u hu)⟩
theorem SliceR.len {A : Option Addr} {n c : Nat} {l : List α} (h : SliceR size R rd (.slice A n c) l) : n = l.length ∧ n ≤ c ∧ c ≤ maxLen := by
  obtain ⟨A', c', xs, e, h1, h2, _⟩ := h
  injection e with e1 e2 e3
  subst e2 e3
  exact ⟨rfl, h1, h2⟩
theorem SliceR.val {v : Value} {l : List α} (h : SliceR size R rd v l) : ∃ A c, v = .slice A l.length c ∧ l.length ≤ c ∧ c ≤ maxLen := by
  obtain ⟨A, c, xs, e, h1, h2, _⟩ := h
  exact ⟨A, c, e, h1, h2⟩
/-- element k: its address, its cells -/
theorem SliceR.get {A : Option Addr} {n c : Nat} {l : List α} {k : Nat} {x : α} (h : SliceR size R rd (.slice A n c) l) (hk : l[k]? = some x) :
    ∃ b o cs, A = some ⟨b, o, none⟩ ∧ cs.length = size ∧ R rd cs x ∧ ∀ j u, cs[j]? = some u → rd b (o + k * size + j) = some u := by
  obtain ⟨A', c', xs, e, h1, h2, h3, h4⟩ := h
  injection e with e1 e2 e3
  subst e1
  obtain ⟨b, o, eA, hc⟩ := h4 (by intro e; subst e; simp at hk)
  obtain ⟨cs, a1, a2, a3⟩ := h3.get k hk
  exact ⟨b, o, cs, eA, a1, a2, fun j u hu => by have := hc _ _ (a3 j u hu); rwa [← Nat.add_assoc] at this⟩
theorem SliceR.nil_ (rd : Rd) : SliceR size R rd (.slice none 0 0) ([] : List α) := ⟨none, 0, [], rfl, Nat.le_refl _, by simp [maxLen], rfl, fun h => absurd rfl h⟩
theorem SliceR.empty_ (rd : Rd) (A : Option Addr) (c : Nat) (hc : c ≤ maxLen) : SliceR size R rd (.slice A 0 c) ([] : List α) := ⟨A, c, [], rfl, Nat.zero_le _, hc, rfl, fun h => absurd rfl h⟩
end

def IntR : CR Int := fun _ cs n => cs = [.int .i64 n]
def ByteR : CR UInt8 := fun _ cs b => cs = [.int .u8 b.toNat]
/-- one cell that holds a slice -/
def SlC {α : Type} (size : Nat) (R : CR α) : CR (List α) := fun rd cs l => ∃ v, cs = [v] ∧ SliceR size R rd v l
theorem mono_int : MonoR IntR := fun _ _ _ _ _ h => h
theorem mono_byte : MonoR ByteR := fun _ _ _ _ _ h => h
/-- a struct by value -/
def AggR {α : Type} (R : CR α) : Rd → Value → α → Prop := fun rd v x => ∃ cs, v = .agg cs.toArray ∧ R rd cs x

abbrev IntsR := SliceR 1 IntR
theorem IntsR.mono {rd rd' : Rd} {v : Value} {l : List Int} (h : IntsR rd v l) (hle : Rd.le rd rd') : IntsR rd' v l := SliceR.mono h mono_int hle
theorem IntsR.at_ {rd : Rd} {A : Option Addr} {n c : Nat} {l : List Int} (h : IntsR rd (.slice A n c) l) {k : Nat} (hk : k < l.length) :
    ∃ b o, A = some ⟨b, o, none⟩ ∧ rd b (o + k) = some (.int .i64 l[k]) := by
  obtain ⟨b, o, cs, e, h1, h2, h3⟩ := SliceR.get h (k := k) (x := l[k]) (by simp [hk])
  cases h2
  exact ⟨b, o, e, by simpa using h3 0 _ rfl⟩

theorem IntsR.cell {rd : Rd} {b o n c : Nat} {l : List Int} (h : IntsR rd (.slice (some ⟨b, o, none⟩) n c) l) {w : World} (hle : Rd.le rd (wrd w)) {k : Nat} (hk : k < l.length) : w.cell? ⟨b, o + k, none⟩ = some (.int .i64 l[k]) := by
  obtain ⟨b', o', e, hc⟩ := h.at_ hk
  cases e
  exact hle _ _ _ hc

section
variable {α : Type} {size base : Nat} {R : CR α} {rd : Rd} {e : TypeId} {w : World} {v : Value} {l : List α}
end

/-- what append asks of a slice type t over e -/
structure ElemOk (P : Program) (t e : TypeId) (size bytes : Nat) : Prop where
  ex : ∃ (i : TypeInfo) (z : Value), P.underlying t = some (.slice e) ∧ P.info? e = some i ∧ i.zero = some z ∧ i.size = size ∧ i.bytes = bytes ∧ z.cells.size = size ∧ 0 < size

def OneR {α : Type} (R : CR α) : Prop := ∀ rd cs x, R rd cs x → ∀ u ∈ cs, u.oneCell' = true
theorem one_int : OneR IntR := fun _ cs x h u hu => by cases h; rw [List.mem_singleton.1 hu]; rfl
theorem one_byte : OneR ByteR := fun _ cs x h u hu => by cases h; rw [List.mem_singleton.1 hu]; rfl
section
variable {α : Type} {size base : Nat} {R : CR α} {rd : Rd} {e : TypeId} {w : World} {v : Value} {l : List α}
end

/-- what the words ask of one thing's cells -/
class GoodR {α : Type} (R : CR α) : Prop where
  mono : MonoR R
  one : OneR R
instance : GoodR IntR := ⟨mono_int, one_int⟩
instance : GoodR ByteR := ⟨mono_byte, one_byte⟩
theorem SliceR.up {α : Type} {size : Nat} {R : CR α} [GoodR R] {w w' : World} {v : Value} {l : List α} (h : SliceR size R (wrd w) v l) (k : Below w.heap.size w w') : SliceR size R (wrd w') v l :=
  h.mono GoodR.mono (le_below k (Nat.le_refl _))
theorem below_alloc1 (w : World) (o : Obj) : Below w.heap.size w (w.alloc o) := (Below.refl _ _).alloc (Nat.le_refl _) o
theorem below_alloc2 (w : World) (o o' : Obj) : Below w.heap.size w ((w.alloc o).alloc o') := (below_alloc1 w o).trans ((below_alloc1 _ o').mono (by simp))
/-- the step, told from the world ahead of a new block or a draw -/
theorem below_of_alloc {w w' : World} {o : Obj} (k : Below (w.alloc o).heap.size (w.alloc o) w') : Below w.heap.size w w' := (below_alloc1 w o).trans (k.mono (by simp))
/-- what was made from block B on -/
def newer (w : World) (B : Nat) : Rd := fun b o => if B ≤ b then w.cell? ⟨b, o, none⟩ else none
/-- a slice from k on -/
theorem SliceR.cut {α : Type} {size : Nat} {R : CR α} {rd : Rd} {b o n c k : Nat} {l : List α} (h : SliceR size R rd (.slice (some ⟨b, o, none⟩) n c) l) (hk : k ≤ l.length) : SliceR size R rd (.slice (some ⟨b, o + k * size, none⟩) (n - k) (c - k)) (l.drop k) := by
  obtain ⟨A, c', xs, e, h1, h2, h3, h4⟩ := h
  injection e with e1 e2 e3
  subst e1 e2 e3
  refine ⟨some ⟨b, o + k * size, none⟩, c - k, xs.drop (k * size), by simp, by simp; omega, by omega, h3.drop k hk, fun hne => ⟨b, o + k * size, rfl, fun j u hu => ?_⟩⟩
  obtain ⟨b', o', e, hc⟩ := h4 (by intro e; subst e; simp at hne)
  cases e
  rw [List.getElem?_drop] at hu
  have := hc _ _ hu
  rwa [← Nat.add_assoc] at this
/-- the first k of a slice -/
theorem SliceR.head_ {α : Type} {size : Nat} {R : CR α} {rd : Rd} {A : Option Addr} {n c k : Nat} {l : List α} (h : SliceR size R rd (.slice A n c) l) (hk : k ≤ l.length) : SliceR size R rd (.slice A k c) (l.take k) := by
  obtain ⟨A', c', xs, e, h1, h2, h3, h4⟩ := h
  injection e with e1 e2 e3
  subst e1 e2 e3
  refine ⟨A, c, xs.take (k * size), by simp; omega, by simp; omega, h2, h3.take k, fun hne => ?_⟩
  obtain ⟨b, o, e, hc⟩ := h4 (by intro e; subst e; simp at hne)
  refine ⟨b, o, e, fun j u hu => hc j u ?_⟩
  rw [List.getElem?_take] at hu
  split at hu
  · exact hu
  · cases hu

theorem SliceR.nil_of {α : Type} {size : Nat} {R : CR α} {rd : Rd} {n c : Nat} {l : List α} (h : SliceR size R rd (.slice none n c) l) : l = [] := by
  obtain ⟨A', c', xs, e, h1, h2, h3, h4⟩ := h
  injection e with e1 e2 e3
  subst e1 e2 e3
  rcases l with _ | ⟨x, l⟩
  · rfl
  · obtain ⟨b, o, e, _⟩ := h4 (by simp)
    cases e
/-- a slice from k on, whatever its address -/
theorem SliceR.cutA {α : Type} {size : Nat} {R : CR α} {rd : Rd} {ad : Addr} {n c k : Nat} {l : List α} (h : SliceR size R rd (.slice (some ad) n c) l) (hk : k ≤ l.length) : SliceR size R rd (.slice (some (ad.add (k * size))) (n - k) (c - k)) (l.drop k) := by
  rcases Nat.eq_zero_or_pos l.length with h0 | h0
  · have : l = [] := List.eq_nil_of_length_eq_zero h0
    subst this
    obtain ⟨e1, e2, e3⟩ := h.len
    simp only [List.length_nil] at e1 hk
    have hk0 : k = 0 := by omega
    subst hk0 e1
    simpa using SliceR.empty_ rd (some (ad.add (0 * size))) (c - 0) (by omega)
  · have h' := h
    obtain ⟨A', c', xs, e, h1, h2, h3, h4⟩ := h'
    injection e with e1 e2 e3
    subst e1
    obtain ⟨b, o, e, hc⟩ := h4 (by intro e; subst e; simp at h0)
    injection e with e
    subst e
    have := SliceR.cut h hk
    rcases Nat.eq_zero_or_pos (k * size) with hz | hz
    · rw [hz] at this ⊢
      simpa [Addr.add] using this
    · rw [show (⟨b, o, none⟩ : Addr).add (k * size) = ⟨b, o + k * size, none⟩ by unfold Addr.add; rw [if_neg (by omega)]]
      exact this

end Go.Proofs.Ytkjknlnhffmkkaa

namespace Go.Proofs.Ytkjknlnhffmkkaa

def atI (l : List Int) (i : Nat) : Int := l.getD i 0
theorem atI_lt {l : List Int} {i : Nat} (h : i < l.length) : atI l i = l[i] := by simp [atI, h]
theorem atI_ge {l : List Int} {i : Nat} (h : l.length ≤ i) : atI l i = 0 := by simp [atI, List.getElem?_eq_none h]

theorem take_snoc {α : Type} {l : List α} {k : Nat} {x : α} (h : l[k]? = some x) : l.take (k + 1) = l.take k ++ [x] := by rw [List.take_add_one, h]; rfl
def seesC (a b : List Int) : Bool := (List.range (max a.length b.length)).all fun i => decide (atI b i ≤ atI a i)
def okK (k : Int) : Bool := decide (0 ≤ k) && decide (k ≤ 1000)
/-- 5: too many, 3: out of range -/
def wrongC (c : List Int) (n : Int) : Int := if n < 1 ∨ 6 < n ∨ (c.length : Int) ≠ n then 5 else if c.all okK then 0 else 3
theorem wrap_small {x : Int} (h : 0 ≤ x) (h' : x ≤ 1000000) : RowKit.wrap64 x = x := by
  simp only [RowKit.wrap64]; omega
theorem wrongC_ok {l : List Int} {n : Int} (h : wrongC l n = 0) : 1 ≤ n ∧ n ≤ 6 ∧ (l.length : Int) = n ∧ ∀ x ∈ l, 0 ≤ x ∧ x ≤ 1000 := by
  unfold wrongC at h
  split at h
  · cases h
  · rename_i hn
    split at h
    · rename_i ha
      refine ⟨by omega, by omega, by omega, fun x hx => ?_⟩
      have := List.all_eq_true.1 ha x hx
      simpa [okK] using this
    · cases h
/-- the first place where p holds, or -1 -/
def idxF {α : Type} (p : α → Bool) (l : List α) : Int := match l.findIdx? p with | some i => (i : Int) | none => -1
theorem idxF_hit {α : Type} {p : α → Bool} {l : List α} {k : Nat} {x : α} (hk : l[k]? = some x) (hp : p x = true) (hb : ∀ (j : Nat) (y : α), j < k → l[j]? = some y → p y = false) : idxF p l = k := by
  unfold idxF
  have : l.findIdx? p = some k := by
    rw [List.findIdx?_eq_some_iff_getElem]
    obtain ⟨hl, e⟩ := List.getElem?_eq_some_iff.1 hk
    refine ⟨hl, by rw [e]; exact hp, fun j hj => ?_⟩
    have := hb j l[j] hj (List.getElem?_eq_getElem (by omega))
    simp [this]
  rw [this]
theorem idxF_none {α : Type} {p : α → Bool} {l : List α} (hb : ∀ (j : Nat) (y : α), l[j]? = some y → p y = false) : idxF p l = -1 := by
  unfold idxF
  have : l.findIdx? p = none := by
    rw [List.findIdx?_eq_none_iff]
    intro x hx
    obtain ⟨j, hj⟩ := List.getElem?_of_mem hx
    exact hb j x hj
  rw [this]
theorem idxF_any {α : Type} (p : α → Bool) (l : List α) : decide (0 ≤ idxF p l) = l.any p := by
  unfold idxF
  cases h : l.findIdx? p with
  | none =>
    have := List.findIdx?_eq_none_iff.1 h
    have h' : l.any p = false := by
      rw [List.any_eq_false]
      intro x hx; simp [this x hx]
    simp [h']
  | some i =>
    obtain ⟨hl, e, _⟩ := List.findIdx?_eq_some_iff_getElem.1 h
    have h' : l.any p = true := List.any_eq_true.2 ⟨l[i], List.getElem_mem hl, e⟩
    simp [h']
theorem idxF_bd {α : Type} (p : α → Bool) (l : List α) : -1 ≤ idxF p l ∧ idxF p l < max 1 l.length := by
  unfold idxF
  cases h : l.findIdx? p with
  | none => constructor <;> simp; omega
  | some i =>
    obtain ⟨hl, _⟩ := List.findIdx?_eq_some_iff_getElem.1 h
    simp; omega
end Go.Proofs.Ytkjknlnhffmkkaa

namespace Go.Proofs.Ytkjknlnhffmkkaa
set_option linter.unusedVariables false

structure Upd where
  author : Int
  seen : List Int
  kind : Int
  key : Int
  item : Int
deriving DecidableEq

def UpdR : CR Upd := fun rd cs u => ∃ sv, cs = [.int .i64 u.author, sv, .int .i64 u.kind, .int .i64 u.key, .int .i64 u.item] ∧ IntsR rd sv u.seen
instance : GoodR UpdR := ⟨fun _ _ _ _ hle ⟨sv, e, h⟩ => ⟨sv, e, IntsR.mono h hle⟩, fun _ _ _ ⟨sv, e, h⟩ u hu => by
  obtain ⟨A, c, e2, _⟩ := h.val
  subst e e2
  simp only [List.mem_cons, List.not_mem_nil, or_false] at hu
  rcases hu with h | h | h | h | h <;> subst h <;> rfl⟩
def u0 : Upd := ⟨0, [], 0, 0, 0⟩

/-- what is wrong with an update -/
def wrongU (u : Upd) (n : Int) : Int :=
  if wrongC u.seen n ≠ 0 then wrongC u.seen n
  else if u.author < 0 ∨ n ≤ u.author ∨ 1000 ≤ atI u.seen u.author.toNat then 3
  else if u.kind < 1 ∨ 5 < u.kind then 1
  else if u.key < 0 ∨ 15 < u.key ∨ u.item < -1000 ∨ 1000 < u.item then 3
  else if u.kind = 2 ∧ u.item ≠ 0 then 2
  else 0

structure RightU (u : Upd) (n : Int) : Prop where
  c : wrongC u.seen n = 0
  a0 : 0 ≤ u.author
  a1 : u.author < n
  s : atI u.seen u.author.toNat < 1000
  k0 : 1 ≤ u.kind
  k1 : u.kind ≤ 5
  y0 : 0 ≤ u.key
  y1 : u.key ≤ 15
  i0 : -1000 ≤ u.item
  i1 : u.item ≤ 1000
  f : u.kind = 2 → u.item = 0
theorem wrongU_iff {u : Upd} {n : Int} : wrongU u n = 0 ↔ RightU u n := by
  unfold wrongU
  constructor
  · intro h
    split at h
    · exact absurd h ‹_›
    · split at h
      · cases h
      · split at h
        · cases h
        · split at h
          · cases h
          · split at h
            · cases h
            · exact ⟨by omega, by omega, by omega, by omega, by omega, by omega, by omega, by omega, by omega, by omega, by omega⟩
  · rintro ⟨c, a0, a1, s, k0, k1, y0, y1, i0, i1, f⟩
    rw [if_neg (by omega), if_neg (by omega), if_neg (by omega), if_neg (by omega), if_neg (by omega)]
theorem RightU.len {u : Upd} {n : Int} (h : RightU u n) : 1 ≤ n ∧ n ≤ 6 ∧ (u.seen.length : Int) = n := by have := wrongC_ok h.c; omega
/-- which one of its author's -/
def seqU (u : Upd) : Int := RowKit.wrap64 (atI u.seen u.author.toNat + 1)
def sameU (a b : Upd) : Bool := decide (a = b)
end Go.Proofs.Ytkjknlnhffmkkaa

namespace Go.Proofs.Ytkjknlnhffmkkaa

end Go.Proofs.Ytkjknlnhffmkkaa

namespace Go.Proofs.Ytkjknlnhffmkkaa

structure Tally where
  key : Int
  author : Int
  sum : Int
deriving DecidableEq
def cmpI (x y : Int) : Int := if x < y then -1 else if y < x then 1 else 0
def orI : List Int → Int
  | [] => 0
  | x :: l => if x = 0 then orI l else x
def ordT (a b : Tally) : Int := orI [cmpI a.key b.key, cmpI a.author b.author]
end Go.Proofs.Ytkjknlnhffmkkaa

namespace Go.Proofs.Ytkjknlnhffmkkaa

end Go.Proofs.Ytkjknlnhffmkkaa

namespace Go.Proofs.Ytkjknlnhffmkkaa

section
variable {l : List Tally} {t z : Tally} {i : Nat} (hi : i ≤ l.length) (ha : ∀ (a : Nat) y, a < i → l[a]? = some y → ordT y t < 0) (hb : ∀ (a : Nat) y, i ≤ a → l[a]? = some y → 0 ≤ ordT y t)
include hi ha hb
end
end Go.Proofs.Ytkjknlnhffmkkaa

namespace Go.Proofs.Ytkjknlnhffmkkaa
set_option linter.unusedVariables false

theorem atI_bd {c : List Int} {n : Int} (h : wrongC c n = 0) (k : Nat) : 0 ≤ atI c k ∧ atI c k ≤ 1000 := by
  rcases Nat.lt_or_ge k c.length with hk | hk
  · rw [atI_lt hk]; exact (wrongC_ok h).2.2.2 _ (List.getElem_mem hk)
  · rw [atI_ge hk]; omega

end Go.Proofs.Ytkjknlnhffmkkaa

namespace Go.Proofs.Ytkjknlnhffmkkaa
set_option linter.unusedVariables false

/-! ## orders -/
section
variable {α : Type} {f : α → Int} {l : List α}
end
theorem seqU_right {u : Upd} {n : Int} (h : RightU u n) : seqU u = atI u.seen u.author.toNat + 1 := by
  unfold seqU
  have := atI_bd h.c u.author.toNat
  exact wrap_small (by omega) (by omega)
end Go.Proofs.Ytkjknlnhffmkkaa

namespace Go.Proofs.Ytkjknlnhffmkkaa
set_option linter.unusedVariables false

end Go.Proofs.Ytkjknlnhffmkkaa

namespace Go.Proofs.Ytkjknlnhffmkkaa
set_option linter.unusedVariables false

end Go.Proofs.Ytkjknlnhffmkkaa

namespace Go.Proofs.Ytkjknlnhffmkkaa
set_option linter.unusedVariables false

end Go.Proofs.Ytkjknlnhffmkkaa

namespace Go.Proofs.Ytkjknlnhffmkkaa
set_option linter.unusedVariables false

/-! ## sorting -/
end Go.Proofs.Ytkjknlnhffmkkaa

namespace Go.Proofs.Ytkjknlnhffmkkaa
set_option linter.unusedVariables false

end Go.Proofs.Ytkjknlnhffmkkaa

namespace Go.Proofs.Ytkjknlnhffmkkaa
set_option linter.unusedVariables false

end Go.Proofs.Ytkjknlnhffmkkaa

namespace Go.Proofs.Ytkjknlnhffmkkaa
set_option linter.unusedVariables false

end Go.Proofs.Ytkjknlnhffmkkaa

namespace Go.Proofs.Ytkjknlnhffmkkaa
set_option linter.unusedVariables false

end Go.Proofs.Ytkjknlnhffmkkaa
