/- Words for memory that reads as plain data: a slice as a list, a struct as its cells; what the call owns; what stays as it was. Plain theorems over any program; no condition. -/
import Derived.WalkKit
import Derived.Maps.AppendAt
import Derived.Deep.AppendLies
import Derived.Deep.Draws
namespace Go.Proofs.Ytkjknlnhffmkkaa
open Go.RowKit
set_option linter.unusedVariables false

theorem hid {p : Prop} (h : p) : Hid p := h
theorem ret_i {k : IntKind} {a b : Int} (h : a = b) : Ending.returned (.int k a) = .returned (.int k b) := by rw [h]
theorem ret_b {a b : Bool} (h : a = b) : Ending.returned (.bool a) = .returned (.bool b) := by rw [h]

/-- a reading of memory: block, place -/
abbrev Rd := Nat → Nat → Option Value
def wrd (w : World) : Rd := fun b o => w.cell? ⟨b, o, none⟩
/-- without one block -/
def but (w : World) (g : Option Nat) : Rd := fun b o => if some b = g then none else w.cell? ⟨b, o, none⟩
/-- below a block -/
def upto (w : World) (B : Nat) : Rd := fun b o => if b < B then w.cell? ⟨b, o, none⟩ else none
def Rd.le (r s : Rd) : Prop := ∀ b o v, r b o = some v → s b o = some v

theorem Rd.le_refl (r : Rd) : Rd.le r r := fun _ _ _ h => h
theorem Rd.le_trans {r s t : Rd} (h : Rd.le r s) (k : Rd.le s t) : Rd.le r t := fun b o v e => k b o v (h b o v e)
theorem below_drewN (B : Nat) (w : World) (n : Nat) : Below B w (w.drewN n) := ⟨rfl, rfl, rfl, Nat.le_refl _, fun _ _ => rfl⟩
theorem blk_lt {w : World} {b o : Nat} {v : Value} (h : w.cell? ⟨b, o, none⟩ = some v) : b < w.heap.size := World.block_lt_of_cell? w ⟨b, o, none⟩ h
theorem le_below {w w' : World} {B : Nat} (hb : Below B w w') (hB : w.heap.size ≤ B) : Rd.le (wrd w) (wrd w') := fun b o v h => by
  have := blk_lt h
  exact (hb.cell (p := ⟨b, o, none⟩) (by show b < B; omega)).trans h
theorem le_alloc (w : World) (o : Obj) : Rd.le (wrd w) (wrd (w.alloc o)) := le_below ((Below.refl _ _).alloc (Nat.le_refl _) o) (Nat.le_refl _)
theorem le_but (w : World) (g : Option Nat) : Rd.le (but w g) (wrd w) := fun b o v h => by
  unfold but at h
  split at h
  · cases h
  · exact h
theorem upto_top (w : World) : Rd.le (wrd w) (upto w w.heap.size) := fun b o v h => by
  unfold upto
  rw [if_pos (blk_lt h)]
  exact h
theorem upto_le {w0 w : World} {B : Nat} (hb : Below B w0 w) : Rd.le (upto w0 B) (wrd w) := fun b o v h => by
  unfold upto at h
  split at h
  · rename_i hlt
    exact (hb.cell (p := ⟨b, o, none⟩) hlt).trans h
  · cases h
theorem upto_but {w0 w : World} {B : Nat} (hb : Below B w0 w) {g : Option Nat} (hg : ∀ k, g = some k → B ≤ k) : Rd.le (upto w0 B) (but w g) := fun b o v h => by
  unfold upto at h
  split at h
  · rename_i hlt
    unfold but
    rw [if_neg (fun e => by have := hg b e.symm; omega)]
    exact (hb.cell (p := ⟨b, o, none⟩) hlt).trans h
  · cases h
theorem wrd_but {w : World} {g : Option Nat} {w' : World} (hb : Below w.heap.size w w') (hg : ∀ k, g = some k → w.heap.size ≤ k) : Rd.le (wrd w) (but w' g) :=
  Rd.le_trans (upto_top w) (upto_but hb hg)
theorem but_below {w w' : World} (hb : Below w.heap.size w w') (g : Option Nat) : Rd.le (but w g) (but w' g) := fun b o v h => by
  unfold but at h ⊢
  split at h
  · cases h
  · rename_i hn
    rw [if_neg hn]
    have := blk_lt h
    exact (hb.cell (p := ⟨b, o, none⟩) this).trans h
theorem but_grown {w w' : World} {g g' : Option Nat} (hg : w.grownBy w' g) (h' : g' = g ∨ g' = some w.heap.size) : Rd.le (but w g) (but w' g') := fun b o v h => by
  unfold but at h ⊢
  split at h
  · cases h
  · rename_i hn
    have hlt := blk_lt h
    have hn' : ¬ some b = g' := by
      rcases h' with e | e
      · rw [e]; exact hn
      · rw [e]; intro e2; injection e2 with e2; omega
    rw [if_neg hn']
    exact (World.cell?_of_block (w := w) (a := ⟨b, o, none⟩) (hg.block b hlt hn)).trans h

/-- one thing of some cells -/
abbrev CR (α : Type) := Rd → List Value → α → Prop
def MonoR {α : Type} (R : CR α) : Prop := ∀ r s cs x, Rd.le r s → R r cs x → R s cs x

def RowR {α : Type} (size : Nat) (R : CR α) (rd : Rd) : List Value → List α → Prop
  | xs, [] => xs = []
  | xs, x :: l => ∃ cs rest, xs = cs ++ rest ∧ cs.length = size ∧ R rd cs x ∧ RowR size R rd rest l

section
variable {α : Type} {size : Nat} {R : CR α} {rd : Rd}
theorem RowR.len : ∀ {l : List α} {xs : List Value}, RowR size R rd xs l → xs.length = l.length * size
  | [], _, h => by cases h; simp
  | x :: l, _, ⟨cs, rest, e, h1, _, h3⟩ => by
    subst e
    have := h3.len
    simp [h1, this, Nat.add_mul, Nat.add_comm]
theorem RowR.mono {rd' : Rd} (hm : MonoR R) (hle : Rd.le rd rd') : ∀ {l : List α} {xs : List Value}, RowR size R rd xs l → RowR size R rd' xs l
  | [], _, h => h
  | _ :: _, _, ⟨cs, rest, e, h1, h2, h3⟩ => ⟨cs, rest, e, h1, hm _ _ _ _ hle h2, h3.mono hm hle⟩
theorem RowR.append : ∀ {l m : List α} {xs ys : List Value}, RowR size R rd xs l → RowR size R rd ys m → RowR size R rd (xs ++ ys) (l ++ m)
  | [], _, _, _, h, k => by cases h; exact k
  | _ :: _, _, _, _, ⟨cs, rest, e, h1, h2, h3⟩, k => ⟨cs, rest ++ _, by rw [e, List.append_assoc], h1, h2, h3.append k⟩
theorem RowR.one {cs : List Value} {x : α} (h1 : cs.length = size) (h : R rd cs x) : RowR size R rd cs [x] := ⟨cs, [], by simp, h1, h, rfl⟩
theorem RowR.push {l : List α} {xs cs : List Value} {x : α} (h : RowR size R rd xs l) (h1 : cs.length = size) (hx : R rd cs x) : RowR size R rd (xs ++ cs) (l ++ [x]) := h.append (RowR.one h1 hx)
/-- a row's cells, place by place -/
theorem RowR.get : ∀ {l : List α} {xs : List Value} (k : Nat) {x : α}, RowR size R rd xs l → l[k]? = some x →
    ∃ cs, cs.length = size ∧ R rd cs x ∧ ∀ j u, cs[j]? = some u → xs[k * size + j]? = some u
  | [], _, k, x, _, hk => by simp at hk
  | y :: l, _, 0, x, ⟨cs, rest, e, h1, h2, h3⟩, hk => by
    simp at hk; subst hk; subst e
    refine ⟨cs, h1, h2, fun j u hu => ?_⟩
    have hj : j < cs.length := (List.getElem?_eq_some_iff.1 hu).1
    rw [Nat.zero_mul, Nat.zero_add, List.getElem?_append_left hj]
    exact hu
  | y :: l, _, k + 1, x, ⟨cs, rest, e, h1, h2, h3⟩, hk => by
    subst e
    obtain ⟨cs', a, b, c⟩ := h3.get k (by simpa using hk)
    refine ⟨cs', a, b, fun j u hu => ?_⟩
    rw [List.getElem?_append_right (by rw [h1, Nat.add_mul]; omega)]
    rw [← c j u hu]
    congr 1
    rw [h1, Nat.add_mul]
    omega
theorem RowR.drop : ∀ {l : List α} {xs : List Value} (k : Nat), k ≤ l.length → RowR size R rd xs l → RowR size R rd (xs.drop (k * size)) (l.drop k)
  | _, _, 0, _, h => by simpa using h
  | [], _, k + 1, hk, h => by simp at hk
  | y :: l, _, k + 1, hk, ⟨cs, rest, e, h1, h2, h3⟩ => by
    subst e
    have := h3.drop k (by simpa using hk)
    rw [List.drop_succ_cons, Nat.add_mul, Nat.add_comm (k * size), Nat.one_mul, ← List.drop_drop]
    rw [show (cs ++ rest).drop size = rest by rw [← h1]; simp]
    exact this
theorem RowR.take : ∀ {l : List α} {xs : List Value} (k : Nat), RowR size R rd xs l → RowR size R rd (xs.take (k * size)) (l.take k)
  | _, _, 0, h => by simp [RowR]
  | [], _, k + 1, h => by cases h; simp [RowR]
  | y :: l, _, k + 1, ⟨cs, rest, e, h1, h2, h3⟩ => by
    subst e
    have := h3.take k
    refine ⟨cs, rest.take (k * size), ?_, h1, h2, this⟩
    rw [Nat.add_mul, Nat.add_comm (k * size), Nat.one_mul, List.take_append, List.take_of_length_le (by omega), h1]
    simp
end

/-- a slice's value reads as a list -/
def SliceR {α : Type} (size : Nat) (R : CR α) (rd : Rd) (v : Value) (l : List α) : Prop :=
  ∃ A c xs, v = .slice A l.length c ∧ l.length ≤ c ∧ c ≤ maxLen ∧ RowR size R rd xs l ∧
    (l ≠ [] → ∃ b o, A = some ⟨b, o, none⟩ ∧ ∀ j u, xs[j]? = some u → rd b (o + j) = some u)

section
variable {α : Type} {size : Nat} {R : CR α} {rd : Rd}
theorem SliceR.mono {rd' : Rd} {v : Value} {l : List α} (h : SliceR size R rd v l) (hm : MonoR R) (hle : Rd.le rd rd') : SliceR size R rd' v l := by
  obtain ⟨A, c, xs, e, h1, h2, h3, h4⟩ := h
  refine ⟨A, c, xs, e, h1, h2, h3.mono hm hle, fun hl => ?_⟩
  obtain ⟨b, o, eA, hc⟩ := h4 hl
  exact ⟨b, o, eA, fun j u hu => hle _ _ _ (hc j u hu)⟩
theorem SliceR.len {A : Option Addr} {n c : Nat} {l : List α} (h : SliceR size R rd (.slice A n c) l) : n = l.length ∧ n ≤ c ∧ c ≤ maxLen := by
  obtain ⟨A', c', xs, e, h1, h2, _⟩ := h
  injection e with e1 e2 e3
  subst e2 e3
  exact ⟨rfl, h1, h2⟩
theorem SliceR.val {v : Value} {l : List α} (h : SliceR size R rd v l) : ∃ A c, v = .slice A l.length c ∧ l.length ≤ c ∧ c ≤ maxLen := by
  obtain ⟨A, c, xs, e, h1, h2, _⟩ := h
  exact ⟨A, c, e, h1, h2⟩
/-- element k: its address, its cells -/
theorem SliceR.get {A : Option Addr} {n c : Nat} {l : List α} {k : Nat} {x : α} (h : SliceR size R rd (.slice A n c) l) (hk : l[k]? = some x) :
    ∃ b o cs, A = some ⟨b, o, none⟩ ∧ cs.length = size ∧ R rd cs x ∧ ∀ j u, cs[j]? = some u → rd b (o + k * size + j) = some u := by
  obtain ⟨A', c', xs, e, h1, h2, h3, h4⟩ := h
  injection e with e1 e2 e3
  subst e1
  obtain ⟨b, o, eA, hc⟩ := h4 (by intro e; subst e; simp at hk)
  obtain ⟨cs, a1, a2, a3⟩ := h3.get k hk
  exact ⟨b, o, cs, eA, a1, a2, fun j u hu => by have := hc _ _ (a3 j u hu); rwa [← Nat.add_assoc] at this⟩
theorem SliceR.nil_ (rd : Rd) : SliceR size R rd (.slice none 0 0) ([] : List α) := ⟨none, 0, [], rfl, Nat.le_refl _, by simp [maxLen], rfl, fun h => absurd rfl h⟩
theorem SliceR.empty_ (rd : Rd) (A : Option Addr) (c : Nat) (hc : c ≤ maxLen) : SliceR size R rd (.slice A 0 c) ([] : List α) := ⟨A, c, [], rfl, Nat.zero_le _, hc, rfl, fun h => absurd rfl h⟩
end

def IntR : CR Int := fun _ cs n => cs = [.int .i64 n]
def BoolR : CR Bool := fun _ cs b => cs = [.bool b]
def ByteR : CR UInt8 := fun _ cs b => cs = [.int .u8 b.toNat]
/-- one cell that holds a slice -/
def SlC {α : Type} (size : Nat) (R : CR α) : CR (List α) := fun rd cs l => ∃ v, cs = [v] ∧ SliceR size R rd v l
theorem mono_int : MonoR IntR := fun _ _ _ _ _ h => h
theorem mono_bool : MonoR BoolR := fun _ _ _ _ _ h => h
theorem mono_byte : MonoR ByteR := fun _ _ _ _ _ h => h
theorem mono_sl {α : Type} {size : Nat} {R : CR α} (hm : MonoR R) : MonoR (SlC size R) := fun _ _ _ _ hle ⟨v, e, h⟩ => ⟨v, e, h.mono hm hle⟩
/-- a struct by value -/
def AggR {α : Type} (R : CR α) : Rd → Value → α → Prop := fun rd v x => ∃ cs, v = .agg cs.toArray ∧ R rd cs x

abbrev IntsR := SliceR 1 IntR
theorem IntsR.mono {rd rd' : Rd} {v : Value} {l : List Int} (h : IntsR rd v l) (hle : Rd.le rd rd') : IntsR rd' v l := SliceR.mono h mono_int hle
theorem IntsR.at_ {rd : Rd} {A : Option Addr} {n c : Nat} {l : List Int} (h : IntsR rd (.slice A n c) l) {k : Nat} (hk : k < l.length) :
    ∃ b o, A = some ⟨b, o, none⟩ ∧ rd b (o + k) = some (.int .i64 l[k]) := by
  obtain ⟨b, o, cs, e, h1, h2, h3⟩ := SliceR.get h (k := k) (x := l[k]) (by simp [hk])
  cases h2
  exact ⟨b, o, e, by simpa using h3 0 _ rfl⟩

theorem IntsR.cell {rd : Rd} {b o n c : Nat} {l : List Int} (h : IntsR rd (.slice (some ⟨b, o, none⟩) n c) l) {w : World} (hle : Rd.le rd (wrd w)) {k : Nat} (hk : k < l.length) : w.cell? ⟨b, o + k, none⟩ = some (.int .i64 l[k]) := by
  obtain ⟨b', o', e, hc⟩ := h.at_ hk
  cases e
  exact hle _ _ _ hc

/-- what the call owns and lets grow -/
def OwnR {α : Type} (size : Nat) (R : CR α) (base : Nat) (e : TypeId) (w : World) (rd : Rd) (v : Value) (l : List α) : Prop :=
  ∃ xs, w.ownsRow base e size v l.length xs ∧ RowR size R rd xs l

section
variable {α : Type} {size base : Nat} {R : CR α} {rd : Rd} {e : TypeId} {w : World} {v : Value} {l : List α}
theorem OwnR.nil_ : OwnR size R base e w rd (.slice none 0 0) ([] : List α) := ⟨[], World.ownsRow_nil w base e size, rfl⟩
theorem OwnR.block (h : OwnR size R base e w rd v l) : ∀ k, v.ownBlock = some k → base ≤ k ∧ k < w.heap.size := by
  obtain ⟨xs, h1, _⟩ := h
  exact h1.lt
theorem OwnR.base_le (h : OwnR size R base e w rd v l) : ∀ k, v.ownBlock = some k → base ≤ k := fun k hk => (h.block k hk).1
theorem OwnR.mono {rd' : Rd} (h : OwnR size R base e w rd v l) (hm : MonoR R) (hle : Rd.le rd rd') : OwnR size R base e w rd' v l := by
  obtain ⟨xs, h1, h2⟩ := h
  exact ⟨xs, h1, h2.mono hm hle⟩
theorem OwnR.weak {base' : Nat} (h : OwnR size R base e w rd v l) (hb : base' ≤ base) : OwnR size R base' e w rd v l := by
  obtain ⟨xs, ⟨h1, h2⟩, h3⟩ := h
  refine ⟨xs, ⟨h1, ?_⟩, h3⟩
  rcases h2 with h2 | ⟨g, cap, cur, a, b, r⟩
  · exact .inl h2
  · exact .inr ⟨g, cap, cur, a, Nat.le_trans hb b, r⟩
theorem OwnR.below {w' : World} (h : OwnR size R base e w rd v l) (hb : Below w.heap.size w w') : OwnR size R base e w' rd v l := by
  obtain ⟨xs, h1, h2⟩ := h
  exact ⟨xs, h1.kept (row := none) ⟨hb.os, hb.tape, hb.output, hb.size, fun k hk _ => hb.block k hk⟩ (by cases hv : v.ownBlock <;> simp), h2⟩
theorem OwnR.alloc (h : OwnR size R base e w rd v l) (o : Obj) : OwnR size R base e (w.alloc o) rd v l := h.below ((Below.refl _ _).alloc (Nat.le_refl _) o)
theorem OwnR.grown {w' : World} {row : Option Nat} (h : OwnR size R base e w rd v l) (hg : w.grownBy w' row) (hne : v.ownBlock = none ∨ v.ownBlock ≠ row) : OwnR size R base e w' rd v l := by
  obtain ⟨xs, h1, h2⟩ := h
  exact ⟨xs, h1.kept hg hne, h2⟩
theorem OwnR.slice (h : OwnR size R base e w rd v l) (hm : MonoR R) (hle : Rd.le rd (wrd w)) : SliceR size R (wrd w) v l := by
  obtain ⟨xs, h1, h2⟩ := h
  have hx := h1
  rcases h1.2 with ⟨rfl, hn⟩ | ⟨g, cap, cur, rfl, _, hh, hc, hm', _⟩
  · have : l = [] := List.eq_nil_of_length_eq_zero hn
    subst this
    exact SliceR.nil_ _
  · refine ⟨some ⟨g, 0, none⟩, cap, xs, rfl, hc, hm', h2.mono hm hle, fun _ => ⟨g, 0, rfl, fun j u hu => ?_⟩⟩
    have := hx.cells (g := g) rfl j u hu
    have e : (⟨g, 0, none⟩ : Addr).add j = ⟨g, j, none⟩ := by unfold Addr.add; split <;> simp_all
    rw [e] at this
    simpa [wrd] using this
theorem OwnR.val (h : OwnR size R base e w rd v l) : ∃ A c, v = .slice A l.length c ∧ l.length ≤ c ∧ c ≤ maxLen := by
  obtain ⟨xs, h1, h2⟩ := h
  rcases h1.2 with ⟨rfl, hn⟩ | ⟨g, cap, cur, rfl, _, hh, hc, hm', _⟩
  · exact ⟨none, 0, by rw [hn], by omega, by simp [maxLen]⟩
  · exact ⟨_, _, rfl, hc, hm'⟩
end

theorem below_grown {w w' : World} {base : Nat} {row : Option Nat} (hg : w.grownBy w' row) (hB : base ≤ w.heap.size) (hr : ∀ k, row = some k → base ≤ k) : Below base w w' :=
  (Below.refl _ _).grown hg hB hr

theorem alloc_cells (w : World) (cs : List Value) (e : TypeId) (f : Nat × Nat) : ∀ (j : Nat) (u : Value), cs[j]? = some u → (w.alloc (.cells cs.toArray e f)).cell? ⟨w.heap.size, j, none⟩ = some u := by
  intro j u hu
  rw [cell_of_row _ w.heap.size j cs.toArray e f (heap_alloc_new w _)]
  simpa using hu

/-- what append asks of a slice type t over e -/
structure ElemOk (P : Program) (t e : TypeId) (size bytes : Nat) : Prop where
  ex : ∃ (i : TypeInfo) (z : Value), P.underlying t = some (.slice e) ∧ P.info? e = some i ∧ i.zero = some z ∧ i.size = size ∧ i.bytes = bytes ∧ z.cells.size = size ∧ 0 < size

/-- append of one thing onto what the call owns -/
theorem wpList_push {α : Type} {P : Program} (w : World) {ops : Array Oper} {rest : List Oper} {o : Oper} {a : Act} {Q : Exit → Act → World → Prop} (hgd : o.guard = none) (s x : Operand) (t : TypeId)
    (ho : o.op = .call { callee := .builtin .append, args := #[s, x], argTypes := #[t, t] })
    {size : Nat} {R : CR α} (base : Nat) (e : TypeId) (bytes : Nat) (K : ElemOk P t e size bytes) (rd : Rd) (v : Value) (l : List α) (hs : a.eval s = v) (hown : OwnR size R base e w rd v l)
    (b : Nat) (c : Nat) (news : List Value) (y : α) (hx : a.eval x = .slice (some ⟨b, 0, none⟩) 1 c) (hl : news.length = size) (hnews : ∀ j u, news[j]? = some u → w.cell? ⟨b, j, none⟩ = some u) (h1 : ∀ u ∈ news, u.oneCell' = true)
    (hR : R rd news y) (hbytes : (l.length + 1) * bytes ≤ 140737488355328 ∧ l.length + 1 ≤ maxLen) (hbase : base ≤ w.heap.size)
    (h : ∀ v' w', OwnR size R base e w' rd v' (l ++ [y]) → Below base w w' → w.grownBy w' v.ownBlock → (v'.ownBlock = v.ownBlock ∨ v'.ownBlock = some w.heap.size) → wpList P ops Q rest (a.put o.dst v') w') : wpList P ops Q (o :: rest) a w := by
  obtain ⟨i, z, ht, hi, hz, hsize, hby, hzs, hsz⟩ := K.ex
  obtain ⟨xs, hrow, hrr⟩ := hown
  refine wpList_plain hgd fun _ hK => ?_
  obtain ⟨v', w', hrun, h2, h3, _, h4⟩ := run_append_own_at (P := P) w base t o.type e i z size bytes ht hi hz hsize hby hzs hsz v l.length xs hrow ⟨b, 0, none⟩ 1 c news (by simp [hl])
    (fun j u hu => by have := hnews j u hu; rw [show (⟨b, 0, none⟩ : Addr).add j = ⟨b, j, none⟩ by unfold Addr.add; split <;> simp_all]; exact this) h1 (by omega) hbytes.1 hbase
  unfold Oper.wp execOp
  simp only [ho, resolve, invoke, builtin, Sem.run_bind, Sem.run_pure, Result.andThen_ok, List.map_toArray, List.map_cons, List.map_nil, hs, hx, hrun]
  exact hK _ _ (h v' w' ⟨xs ++ news, by simpa using h2, hrr.push hl hR⟩ (below_grown h3 hbase fun k hk => (hrow.lt k hk).1) h3 h4)

def OneR {α : Type} (R : CR α) : Prop := ∀ rd cs x, R rd cs x → ∀ u ∈ cs, u.oneCell' = true
theorem one_int : OneR IntR := fun _ cs x h u hu => by cases h; rw [List.mem_singleton.1 hu]; rfl
theorem one_bool : OneR BoolR := fun _ cs x h u hu => by cases h; rw [List.mem_singleton.1 hu]; rfl
theorem one_byte : OneR ByteR := fun _ cs x h u hu => by cases h; rw [List.mem_singleton.1 hu]; rfl
theorem one_sl {α : Type} {size : Nat} {R : CR α} : OneR (SlC size R) := fun _ cs x ⟨v, e, A, c, xs, ev, _⟩ u hu => by
  subst e ev; rw [List.mem_singleton.1 hu]; rfl
theorem RowR.one_ {α : Type} {size : Nat} {R : CR α} {rd : Rd} (h1 : OneR R) : ∀ {l : List α} {xs : List Value}, RowR size R rd xs l → ∀ u ∈ xs, u.oneCell' = true
  | [], _, h, u, hu => by cases h; cases hu
  | _ :: _, _, ⟨cs, rest, e, _, h2, h3⟩, u, hu => by
    subst e
    rcases List.mem_append.1 hu with h | h
    · exact h1 _ _ _ h2 u h
    · exact h3.one_ h1 u h

theorem run_append_of_nil {P : Program} (w : World) (base : Nat) (t ty e : TypeId) (i : TypeInfo) (size : Nat) (ht : P.underlying t = some (.slice e)) (hi : P.info? e = some i)
    (v : Value) (n : Nat) (xs : List Value) (hown : w.ownsRow base e size v n xs) (c : Nat) : (Builtin.append_ #[t, t] ty #[v, .slice none 0 c]).run P w = .ok v w := by
  rcases hown.2 with ⟨rfl, rfl⟩ | ⟨g, cap, cur, rfl, _, _, hnc, _⟩
  · simp [Builtin.append_, run_underlying ht, sizeOf, typeInfo, hi, Builtin.lenOf, Builtin.firstCells]
  · simp [Builtin.append_, run_underlying ht, sizeOf, typeInfo, hi, Builtin.lenOf, Builtin.firstCells, hnc, storeCells]

/-- append of a whole slice onto what the call owns -/
theorem run_cat {α : Type} {P : Program} (w : World) (t ty : TypeId) {size : Nat} {R : CR α} (base : Nat) (e : TypeId) (bytes : Nat) (K : ElemOk P t e size bytes) (rd : Rd) (hle : Rd.le rd (wrd w)) (h1 : OneR R)
    (v u : Value) (l m : List α) (hown : OwnR size R base e w rd v l) (hu : SliceR size R rd u m) (hbytes : (l.length + m.length) * bytes ≤ 140737488355328 ∧ l.length + m.length ≤ maxLen) (hbase : base ≤ w.heap.size) :
    ∃ v' w', (Builtin.append_ #[t, t] ty #[v, u]).run P w = .ok v' w' ∧ OwnR size R base e w' rd v' (l ++ m) ∧ Below base w w' ∧ w.grownBy w' v.ownBlock ∧ (v'.ownBlock = v.ownBlock ∨ v'.ownBlock = some w.heap.size) := by
  obtain ⟨i, z, ht, hi, hz, hsize, hby, hzs, hsz⟩ := K.ex
  obtain ⟨xs, hrow, hrr⟩ := hown
  obtain ⟨A, c, ys, rfl, hc1, hc2, hys, hcell⟩ := hu
  rcases m with _ | ⟨y, m⟩
  · have hy0 : ys = [] := by simpa [RowR] using hys
    subst hy0
    rcases A with _ | ad
    · exact ⟨v, w, run_append_of_nil w base t ty e i size ht hi v _ xs hrow c, ⟨xs, by simpa using hrow, by simpa using hrr⟩, Below.refl _ _, World.grownBy.refl w _, .inl rfl⟩
    · obtain ⟨v', w', hrun, h2, h3, _, h4⟩ := run_append_own_at (P := P) w base t ty e i z size bytes ht hi hz hsize hby hzs hsz v l.length xs hrow ad 0 c [] (by simp) (by simp) (by simp) (by simpa using hbytes.2) (by simpa using hbytes.1) hbase
      exact ⟨v', w', hrun, ⟨xs, by simpa using h2, by simpa using hrr⟩, below_grown h3 hbase fun k hk => (hrow.lt k hk).1, h3, h4⟩
  · obtain ⟨b, o, rfl, hcl⟩ := hcell (by simp)
    obtain ⟨v', w', hrun, h2, h3, _, h4⟩ := run_append_own_at (P := P) w base t ty e i z size bytes ht hi hz hsize hby hzs hsz v l.length xs hrow ⟨b, o, none⟩ (y :: m).length c ys hys.len
      (fun j u hu => by have := hle _ _ _ (hcl j u hu); rw [show (⟨b, o, none⟩ : Addr).add j = ⟨b, o + j, none⟩ by unfold Addr.add; split <;> simp_all]; exact this) (hys.one_ h1) hbytes.2 hbytes.1 hbase
    exact ⟨v', w', hrun, ⟨xs ++ ys, by simpa using h2, hrr.append hys⟩, below_grown h3 hbase fun k hk => (hrow.lt k hk).1, h3, h4⟩

theorem append_types {P : Program} (w : World) {t t' ty e e' : TypeId} {i : TypeInfo} (ht : P.underlying t = some (.slice e)) (ht' : P.underlying t' = some (.slice e')) (hi : P.info? e = some i) (A : Option Addr) (n c : Nat) (u : Value) :
    (Builtin.append_ #[t, t'] ty #[.slice A n c, u]).run P w = (Builtin.append_ #[t, t] ty #[.slice A n c, u]).run P w := by
  simp [Builtin.append_, run_underlying ht, run_underlying ht', sizeOf, typeInfo, hi]

theorem wpList_cat2 {α : Type} {P : Program} (w : World) {ops : Array Oper} {rest : List Oper} {o : Oper} {a : Act} {Q : Exit → Act → World → Prop} (hgd : o.guard = none) (s x : Operand) (t t' e' : TypeId) (ht' : P.underlying t' = some (.slice e'))
    (ho : o.op = .call { callee := .builtin .append, args := #[s, x], argTypes := #[t, t'] })
    {size : Nat} {R : CR α} (base : Nat) (e : TypeId) (bytes : Nat) (K : ElemOk P t e size bytes) (rd : Rd) (hle : Rd.le rd (wrd w)) (h1 : OneR R)
    (v u : Value) (l m : List α) (hs : a.eval s = v) (hx : a.eval x = u) (hown : OwnR size R base e w rd v l) (hu : SliceR size R rd u m) (hbytes : (l.length + m.length) * bytes ≤ 140737488355328 ∧ l.length + m.length ≤ maxLen) (hbase : base ≤ w.heap.size)
    (h : ∀ v' w', OwnR size R base e w' rd v' (l ++ m) → Below base w w' → w.grownBy w' v.ownBlock → (v'.ownBlock = v.ownBlock ∨ v'.ownBlock = some w.heap.size) → wpList P ops Q rest (a.put o.dst v') w') : wpList P ops Q (o :: rest) a w := by
  refine wpList_plain hgd fun _ hK => ?_
  obtain ⟨v', w', hrun, h2, h3, h4, h5⟩ := run_cat (P := P) w t o.type base e bytes K rd hle h1 v u l m hown hu hbytes hbase
  obtain ⟨i, z, ht, hi, _⟩ := K.ex
  obtain ⟨A, c, ev, _⟩ := hown.val
  subst ev
  rw [← append_types w ht ht' hi] at hrun
  unfold Oper.wp execOp
  simp only [ho, resolve, invoke, builtin, Sem.run_bind, Sem.run_pure, Result.andThen_ok, List.map_toArray, List.map_cons, List.map_nil, hs, hx, hrun]
  exact hK _ _ (h v' w' h2 h3 h4 h5)

theorem wpList_cat {α : Type} {P : Program} (w : World) {ops : Array Oper} {rest : List Oper} {o : Oper} {a : Act} {Q : Exit → Act → World → Prop} (hgd : o.guard = none) (s x : Operand) (t : TypeId)
    (ho : o.op = .call { callee := .builtin .append, args := #[s, x], argTypes := #[t, t] })
    {size : Nat} {R : CR α} (base : Nat) (e : TypeId) (bytes : Nat) (K : ElemOk P t e size bytes) (rd : Rd) (hle : Rd.le rd (wrd w)) (h1 : OneR R)
    (v u : Value) (l m : List α) (hs : a.eval s = v) (hx : a.eval x = u) (hown : OwnR size R base e w rd v l) (hu : SliceR size R rd u m) (hbytes : (l.length + m.length) * bytes ≤ 140737488355328 ∧ l.length + m.length ≤ maxLen) (hbase : base ≤ w.heap.size)
    (h : ∀ v' w', OwnR size R base e w' rd v' (l ++ m) → Below base w w' → w.grownBy w' v.ownBlock → (v'.ownBlock = v.ownBlock ∨ v'.ownBlock = some w.heap.size) → wpList P ops Q rest (a.put o.dst v') w') : wpList P ops Q (o :: rest) a w := by
  refine wpList_plain hgd fun _ hK => ?_
  obtain ⟨v', w', hrun, h2, h3, h4, h5⟩ := run_cat (P := P) w t o.type base e bytes K rd hle h1 v u l m hown hu hbytes hbase
  unfold Oper.wp execOp
  simp only [ho, resolve, invoke, builtin, Sem.run_bind, Sem.run_pure, Result.andThen_ok, List.map_toArray, List.map_cons, List.map_nil, hs, hx, hrun]
  exact hK _ _ (h v' w' h2 h3 h4 h5)

/-- a new block without cells is owned -/
theorem own_empty {α : Type} {size : Nat} {R : CR α} {base : Nat} {e : TypeId} (w : World) (rd : Rd) (hb : base ≤ w.heap.size) : OwnR size R base e (w.alloc (.cells #[] e)) rd (.slice (some ⟨w.heap.size, 0, none⟩) 0 0) ([] : List α) :=
  ⟨[], World.ownsRow_made w #[] 0 hb (by simp [maxLen]) (by simp), rfl⟩

theorem RowR.set_ {α : Type} {size : Nat} {R : CR α} {rd : Rd} {j : Nat} {u : Value} (hj : j < size) : ∀ {l : List α} {xs : List Value} (k : Nat) {x y : α}, RowR size R rd xs l → l[k]? = some x →
    (∀ cs, cs.length = size → R rd cs x → R rd (cs.set j u) y) → RowR size R rd (xs.set (k * size + j) u) (l.set k y)
  | [], _, k, x, y, _, hk, _ => by simp at hk
  | z :: l, _, 0, x, y, ⟨cs, rest, e, h1, h2, h3⟩, hk, hR => by
    simp at hk; subst hk; subst e
    refine ⟨cs.set j u, rest, ?_, by simpa using h1, hR cs h1 h2, h3⟩
    rw [Nat.zero_mul, Nat.zero_add, List.set_append_left _ _ (by omega)]
  | z :: l, _, k + 1, x, y, ⟨cs, rest, e, h1, h2, h3⟩, hk, hR => by
    subst e
    refine ⟨cs, rest.set (k * size + j) u, ?_, h1, h2, h3.set_ hj k (by simpa using hk) hR⟩
    rw [List.set_append_right _ _ (by rw [h1, Nat.add_mul]; omega)]
    congr 2
    rw [h1, Nat.add_mul]
    omega

section
variable {α : Type} {size base : Nat} {R : CR α} {rd : Rd} {e : TypeId} {w : World} {v : Value} {l : List α}
/-- the block of what the call owns, where it has an entry -/
theorem OwnR.blk (h : OwnR size R base e w rd v l) {k : Nat} (hk : k < l.length) : ∃ g cap, v = .slice (some ⟨g, 0, none⟩) l.length cap ∧ base ≤ g ∧ g < w.heap.size ∧ l.length ≤ cap ∧ cap ≤ maxLen ∧ (∀ o, w.frozen? ⟨g, o, none⟩ = false) ∧
    ∃ cs, cs.length = size ∧ R rd cs l[k] ∧ ∀ j u, cs[j]? = some u → w.cell? ⟨g, k * size + j, none⟩ = some u := by
  obtain ⟨xs, h1, h2⟩ := h
  have hx := h1
  rcases h1.2 with ⟨rfl, hn⟩ | ⟨g, cap, cur, rfl, hb, hh, hc, hm', _⟩
  · omega
  · refine ⟨g, cap, rfl, hb, (hx.lt g rfl).2, hc, hm', fun o => by simp only [World.frozen?, hh]; simp, ?_⟩
    obtain ⟨cs, a1, a2, a3⟩ := h2.get k (x := l[k]) (by simp [hk])
    refine ⟨cs, a1, a2, fun j u hu => ?_⟩
    have := hx.cells (g := g) rfl _ u (a3 j u hu)
    rwa [show (⟨g, 0, none⟩ : Addr).add (k * size + j) = ⟨g, k * size + j, none⟩ by unfold Addr.add; split <;> simp_all] at this
theorem OwnR.set_ {g n cap k j : Nat} {u : Value} {x y : α} (h : OwnR size R base e w rd (.slice (some ⟨g, 0, none⟩) n cap) l) (hj : j < size) (hk : l[k]? = some x)
    (hR : ∀ cs, cs.length = size → R rd cs x → R rd (cs.set j u) y) : OwnR size R base e (w.setCell ⟨g, k * size + j, none⟩ u) rd (.slice (some ⟨g, 0, none⟩) n cap) (l.set k y) := by
  obtain ⟨xs, h1, h2⟩ := h
  refine ⟨xs.set (k * size + j) u, ⟨?_, ?_⟩, h2.set_ hj k hk hR⟩
  · simpa using h1.1
  · rcases h1.2 with ⟨e, _⟩ | ⟨g', cap', cur, e, hb, hh, hc, hm', hs, ht⟩
    · cases e
    · injection e with e1 e2 e3
      injection e1 with e1
      injection e1 with e1
      subst e1 e2 e3
      have hlt : k * size + j < l.length * size := by
        have h1 := (List.getElem?_eq_some_iff.1 hk).1
        have : (k + 1) * size ≤ l.length * size := Nat.mul_le_mul_right _ h1
        rw [Nat.add_mul] at this
        omega
      refine .inr ⟨g, cap, cur.setIfInBounds (k * size + j) u, by simp, hb, by simp [World.setCell, Array.getElem?_modify, hh], by simpa using hc, hm', by simpa using hs, ?_⟩
      rw [List.length_set, Array.toList_setIfInBounds, List.take_set, ht]
end

theorem OwnR.ints {base : Nat} {rd : Rd} {e : TypeId} {w : World} {v : Value} {l : List Int} (h : OwnR 1 IntR base e w rd v l) : IntsR (wrd w) v l := by
  obtain ⟨xs, h1, h2⟩ := h
  exact OwnR.slice (rd := fun _ _ => none) ⟨xs, h1, by
    clear h1
    induction l generalizing xs with
    | nil => exact h2
    | cons x l ih => obtain ⟨cs, rest, a, b, c, d⟩ := h2; exact ⟨cs, rest, a, b, c, ih _ d⟩⟩ mono_int (fun _ _ _ h => by cases h)
theorem below_next {W w w' : World} (h : Below W.heap.size W w) (k : Below w.heap.size w w') : Below W.heap.size W w' := h.trans (k.mono h.size)
theorem rowInts (rd : Rd) : ∀ l : List Int, RowR 1 IntR rd (l.map (Value.int .i64)) l
  | [] => rfl
  | x :: l => ⟨[.int .i64 x], l.map (Value.int .i64), rfl, rfl, rfl, rowInts rd l⟩
/-- a slice that was just built of numbers -/
theorem built_ints {w w' : World} (l : List Int) (e : TypeId) (g c : Nat) (hg : g = w.heap.size) (hc : c = l.length) (hm : l.length ≤ maxLen) (hb : Below (w.heap.size + 1) (w.alloc (.cells (l.map (Value.int .i64)).toArray e)) w') :
    IntsR (wrd w') (.slice (some ⟨g, 0, none⟩) c c) l := by
  subst hg hc
  refine ⟨_, _, _, rfl, Nat.le_refl _, hm, rowInts _ l, fun _ => ⟨_, 0, rfl, fun j u hu => ?_⟩⟩
  have h1 := alloc_cells w (l.map (Value.int .i64)) e (0, 0) j u hu
  rw [Nat.zero_add]
  exact (hb.cell (p := ⟨w.heap.size, j, none⟩) (by show w.heap.size < _; omega)).trans h1

/-- what the words ask of one thing's cells -/
class GoodR {α : Type} (R : CR α) : Prop where
  mono : MonoR R
  one : OneR R
instance : GoodR IntR := ⟨mono_int, one_int⟩
instance : GoodR BoolR := ⟨mono_bool, one_bool⟩
instance : GoodR ByteR := ⟨mono_byte, one_byte⟩
instance {α : Type} {size : Nat} {R : CR α} [GoodR R] : GoodR (SlC size R) := ⟨mono_sl GoodR.mono, one_sl⟩
theorem SliceR.up {α : Type} {size : Nat} {R : CR α} [GoodR R] {w w' : World} {v : Value} {l : List α} (h : SliceR size R (wrd w) v l) (k : Below w.heap.size w w') : SliceR size R (wrd w') v l :=
  h.mono GoodR.mono (le_below k (Nat.le_refl _))
theorem SliceR.top {α : Type} {size : Nat} {R : CR α} [GoodR R] {W : World} {v : Value} {l : List α} (h : SliceR size R (wrd W) v l) : SliceR size R (upto W W.heap.size) v l := h.mono GoodR.mono (upto_top W)
theorem SliceR.of_top {α : Type} {size : Nat} {R : CR α} [GoodR R] {W w : World} {v : Value} {l : List α} (h : SliceR size R (upto W W.heap.size) v l) (k : Below W.heap.size W w) : SliceR size R (wrd w) v l := h.mono GoodR.mono (upto_le k)
theorem AggR.up {α : Type} {R : CR α} [GoodR R] {w w' : World} {v : Value} {x : α} (h : AggR R (wrd w) v x) (k : Below w.heap.size w w') : AggR R (wrd w') v x := by
  obtain ⟨cs, e, h⟩ := h
  exact ⟨cs, e, GoodR.mono _ _ _ _ (le_below k (Nat.le_refl _)) h⟩
theorem AggR.top {α : Type} {R : CR α} [GoodR R] {W : World} {v : Value} {x : α} (h : AggR R (wrd W) v x) : AggR R (upto W W.heap.size) v x := by
  obtain ⟨cs, e, h⟩ := h
  exact ⟨cs, e, GoodR.mono _ _ _ _ (upto_top W) h⟩
theorem AggR.of_top {α : Type} {R : CR α} [GoodR R] {W w : World} {v : Value} {x : α} (h : AggR R (upto W W.heap.size) v x) (k : Below W.heap.size W w) : AggR R (wrd w) v x := by
  obtain ⟨cs, e, h⟩ := h
  exact ⟨cs, e, GoodR.mono _ _ _ _ (upto_le k) h⟩
theorem OwnR.slice_ {α : Type} {size base : Nat} {R : CR α} [GoodR R] {e : TypeId} {w : World} {v : Value} {l : List α} (h : OwnR size R base e w (wrd w) v l) : SliceR size R (wrd w) v l := h.slice GoodR.mono (Rd.le_refl _)
theorem below_alloc1 (w : World) (o : Obj) : Below w.heap.size w (w.alloc o) := (Below.refl _ _).alloc (Nat.le_refl _) o
theorem below_alloc2 (w : World) (o o' : Obj) : Below w.heap.size w ((w.alloc o).alloc o') := (below_alloc1 w o).trans ((below_alloc1 _ o').mono (by simp))
theorem below_alloc3 (w : World) (o o' o'' : Obj) : Below w.heap.size w (((w.alloc o).alloc o').alloc o'') := (below_alloc2 w o o').trans ((below_alloc1 _ o'').mono (by simp; omega))
/-- the step, told from the world ahead of a new block or a draw -/
theorem below_of_alloc {w w' : World} {o : Obj} (k : Below (w.alloc o).heap.size (w.alloc o) w') : Below w.heap.size w w' := (below_alloc1 w o).trans (k.mono (by simp))
theorem below_of_drew {w w' : World} (k : Below w.drew.heap.size w.drew w') : Below w.heap.size w w' := (⟨rfl, rfl, rfl, Nat.le_refl _, fun _ _ => rfl⟩ : Below w.heap.size w w.drew).trans k
theorem below_of_drewN {w w' : World} {n : Nat} (k : Below (w.drewN n).heap.size (w.drewN n) w') : Below w.heap.size w w' := (below_drewN _ w n).trans k

/-- behind a call: all older cells and marks read as before -/
theorem bcell {W w1 : World} (hb : Below W.heap.size W w1) : (∀ b o, b < W.heap.size → w1.cell? ⟨b, o, none⟩ = W.cell? ⟨b, o, none⟩) ∧ (∀ b o, b < W.heap.size → w1.frozen? ⟨b, o, none⟩ = W.frozen? ⟨b, o, none⟩) :=
  ⟨fun b o h => hb.cell (p := ⟨b, o, none⟩) h, fun b o h => hb.frozen (p := ⟨b, o, none⟩) h⟩

/-- a new block, later -/
theorem cells_of_new {w w1 : World} {cs : Array Value} {t : TypeId} {g : Nat} (hg : g = w.heap.size) (k : Below (g + 1) (w.alloc (.cells cs t)) w1) : ∀ j, w1.cell? ⟨g, j, none⟩ = cs[j]? := fun j => by
  subst hg
  rw [k.cell (p := ⟨w.heap.size, j, none⟩) (by show w.heap.size < _; omega), cell_of_row _ w.heap.size j cs t (0, 0) (heap_alloc_new w _)]
theorem free_of_new {w w1 : World} {cs : Array Value} {t : TypeId} {g : Nat} (hg : g = w.heap.size) (k : Below (g + 1) (w.alloc (.cells cs t)) w1) : ∀ j, w1.frozen? ⟨g, j, none⟩ = false := fun j => by
  subst hg
  rw [k.frozen (p := ⟨w.heap.size, j, none⟩) (by show w.heap.size < _; omega)]
  unfold World.frozen?
  rw [heap_alloc_new w (.cells cs t)]
  show (decide (0 ≤ j) && decide (j < 0)) = false
  simp

/-- a block that is known whole -/
def Blk (w : World) (g : Nat) (t : TypeId) (cs : Array Value) : Prop := w.heap[g]? = some (.cells cs t (0, 0))
theorem Blk.lt {w : World} {g : Nat} {t : TypeId} {cs : Array Value} (h : Blk w g t cs) : g < w.heap.size := by
  rcases Nat.lt_or_ge g w.heap.size with hlt | hge
  · exact hlt
  · unfold Blk at h; rw [Array.getElem?_eq_none hge] at h; cases h
theorem Blk.cell {w : World} {g : Nat} {t : TypeId} {cs : Array Value} (h : Blk w g t cs) (i : Nat) : w.cell? ⟨g, i, none⟩ = cs[i]? := cell_of_row w g i cs t (0, 0) h
theorem Blk.frozen {w : World} {g : Nat} {t : TypeId} {cs : Array Value} (h : Blk w g t cs) (i : Nat) : w.frozen? ⟨g, i, none⟩ = false := by
  unfold World.frozen?
  rw [show w.heap[(⟨g, i, none⟩ : Addr).block]? = some (.cells cs t (0, 0)) from h]
  show (decide (0 ≤ i) && decide (i < 0)) = false
  simp
theorem Blk.new_ (w : World) (t : TypeId) (cs : Array Value) : Blk (w.alloc (.cells cs t)) w.heap.size t cs := heap_alloc_new w _
theorem Blk.up {w w' : World} {g : Nat} {t : TypeId} {cs : Array Value} (h : Blk w g t cs) (k : Below w.heap.size w w') : Blk w' g t cs := (k.block g h.lt).trans h
theorem Blk.upB {w w' : World} {g B : Nat} {t : TypeId} {cs : Array Value} (h : Blk w g t cs) (k : Below B w w') (hg : g < B) : Blk w' g t cs := (k.block g hg).trans h
theorem Blk.set_ {w : World} {g : Nat} {t : TypeId} {cs : Array Value} (h : Blk w g t cs) (i : Nat) (u : Value) : Blk (w.setCell ⟨g, i, none⟩ u) g t (cs.setIfInBounds i u) := by
  unfold Blk at h ⊢
  simp [World.setCell, Array.getElem?_modify, h]
theorem Blk.far {w : World} {g : Nat} {t : TypeId} {cs : Array Value} (h : Blk w g t cs) {p : Addr} (hp : g ≠ p.block) (u : Value) : Blk (w.setCell p u) g t cs := (Below.heap_setCell w p u g hp).trans h
theorem Blk.grown {w w' : World} {g : Nat} {t : TypeId} {cs : Array Value} {row : Option Nat} (h : Blk w g t cs) (hg : w.grownBy w' row) (hr : some g ≠ row) : Blk w' g t cs := (hg.block g h.lt hr).trans h
theorem Blk.c1 {w : World} {g : Nat} {t : TypeId} {a0 : Value} (h : Blk w g t #[a0]) : w.cell? ⟨g, 0, none⟩ = some a0 ∧ w.frozen? ⟨g, 0, none⟩ = false :=
  ⟨h.cell 0, h.frozen 0⟩
theorem Blk.c2 {w : World} {g : Nat} {t : TypeId} {a0 a1 : Value} (h : Blk w g t #[a0, a1]) : w.cell? ⟨g, 0, none⟩ = some a0 ∧ w.cell? ⟨g, 1, none⟩ = some a1 ∧ w.frozen? ⟨g, 0, none⟩ = false ∧ w.frozen? ⟨g, 1, none⟩ = false :=
  ⟨h.cell 0, h.cell 1, h.frozen 0, h.frozen 1⟩
theorem Blk.c3 {w : World} {g : Nat} {t : TypeId} {a0 a1 a2 : Value} (h : Blk w g t #[a0, a1, a2]) : w.cell? ⟨g, 0, none⟩ = some a0 ∧ w.cell? ⟨g, 1, none⟩ = some a1 ∧ w.cell? ⟨g, 2, none⟩ = some a2 ∧ w.frozen? ⟨g, 0, none⟩ = false ∧ w.frozen? ⟨g, 1, none⟩ = false ∧ w.frozen? ⟨g, 2, none⟩ = false :=
  ⟨h.cell 0, h.cell 1, h.cell 2, h.frozen 0, h.frozen 1, h.frozen 2⟩
theorem Blk.c5 {w : World} {g : Nat} {t : TypeId} {a0 a1 a2 a3 a4 : Value} (h : Blk w g t #[a0, a1, a2, a3, a4]) : w.cell? ⟨g, 0, none⟩ = some a0 ∧ w.cell? ⟨g, 1, none⟩ = some a1 ∧ w.cell? ⟨g, 2, none⟩ = some a2 ∧ w.cell? ⟨g, 3, none⟩ = some a3 ∧ w.cell? ⟨g, 4, none⟩ = some a4 ∧ w.frozen? ⟨g, 0, none⟩ = false ∧ w.frozen? ⟨g, 1, none⟩ = false ∧ w.frozen? ⟨g, 2, none⟩ = false ∧ w.frozen? ⟨g, 3, none⟩ = false ∧ w.frozen? ⟨g, 4, none⟩ = false :=
  ⟨h.cell 0, h.cell 1, h.cell 2, h.cell 3, h.cell 4, h.frozen 0, h.frozen 1, h.frozen 2, h.frozen 3, h.frozen 4⟩
theorem Blk.c7 {w : World} {g : Nat} {t : TypeId} {a0 a1 a2 a3 a4 a5 a6 : Value} (h : Blk w g t #[a0, a1, a2, a3, a4, a5, a6]) : w.cell? ⟨g, 0, none⟩ = some a0 ∧ w.cell? ⟨g, 1, none⟩ = some a1 ∧ w.cell? ⟨g, 2, none⟩ = some a2 ∧ w.cell? ⟨g, 3, none⟩ = some a3 ∧ w.cell? ⟨g, 4, none⟩ = some a4 ∧ w.cell? ⟨g, 5, none⟩ = some a5 ∧ w.cell? ⟨g, 6, none⟩ = some a6 ∧ w.frozen? ⟨g, 0, none⟩ = false ∧ w.frozen? ⟨g, 1, none⟩ = false ∧ w.frozen? ⟨g, 2, none⟩ = false ∧ w.frozen? ⟨g, 3, none⟩ = false ∧ w.frozen? ⟨g, 4, none⟩ = false ∧ w.frozen? ⟨g, 5, none⟩ = false ∧ w.frozen? ⟨g, 6, none⟩ = false :=
  ⟨h.cell 0, h.cell 1, h.cell 2, h.cell 3, h.cell 4, h.cell 5, h.cell 6, h.frozen 0, h.frozen 1, h.frozen 2, h.frozen 3, h.frozen 4, h.frozen 5, h.frozen 6⟩

/-- what was made from block B on -/
def newer (w : World) (B : Nat) : Rd := fun b o => if B ≤ b then w.cell? ⟨b, o, none⟩ else none
theorem newer_weak {w : World} {B B' : Nat} (h : B' ≤ B) : Rd.le (newer w B) (newer w B') := fun b o v e => by
  unfold newer at e ⊢; split at e
  · rw [if_pos (by omega)]; exact e
  · cases e
theorem newer_set {w : World} {B : Nat} {p : Addr} (hp : p.block < B) (u : Value) : Rd.le (newer w B) (newer (w.setCell p u) B) := fun b o v e => by
  unfold newer at e ⊢; split at e
  · rename_i hb
    rw [if_pos hb, World.cell?_setCell_other w p ⟨b, o, none⟩ u (fun e => by subst e; exact absurd hp (by show ¬ b < B; omega))]; exact e
  · cases e
theorem newer_le (w : World) (B : Nat) : Rd.le (newer w B) (wrd w) := fun b o v h => by
  unfold newer at h; split at h
  · exact h
  · cases h
theorem newer_but {w : World} {B g : Nat} (hg : g < B) : Rd.le (newer w B) (but w (some g)) := fun b o v h => by
  unfold newer at h; split at h
  · rename_i hb
    unfold but
    rw [if_neg (fun e => by injection e with e; omega)]
    exact h
  · cases h
theorem newer_but_own {w : World} {B : Nat} {g : Option Nat} (hg : ∀ k, g = some k → k < B) : Rd.le (newer w B) (but w g) := by
  cases g with
  | none =>
    intro b o v h
    unfold but
    rw [if_neg (by simp)]
    exact newer_le w B b o v h
  | some g => exact newer_but (hg g rfl)
theorem newer_below {w w' : World} {B : Nat} (k : Below w.heap.size w w') : Rd.le (newer w B) (newer w' B) := fun b o v h => by
  unfold newer at h ⊢; split at h
  · rename_i hb
    rw [if_pos hb]
    have := blk_lt h
    exact (k.cell (p := ⟨b, o, none⟩) this).trans h
  · cases h
theorem newer_grown {w w' : World} {B : Nat} {row : Option Nat} (hg : w.grownBy w' row) (hr : ∀ k, row = some k → k < B) : Rd.le (newer w B) (newer w' B) := fun b o v h => by
  unfold newer at h ⊢; split at h
  · rename_i hb
    rw [if_pos hb]
    have hlt := blk_lt h
    exact (World.cell?_of_block (w := w) (a := ⟨b, o, none⟩) (hg.block b hlt (fun e => by have := hr b e.symm; omega))).trans h
  · cases h
theorem OwnR.newer {α : Type} {size base : Nat} {R : CR α} {rd : Rd} {e : TypeId} {w : World} {v : Value} {l : List α} (h : OwnR size R base e w rd v l) (hm : MonoR R) (hle : Rd.le rd (newer w base)) : SliceR size R (newer w base) v l := by
  obtain ⟨xs, h1, h2⟩ := h
  have hx := h1
  rcases h1.2 with ⟨rfl, hn⟩ | ⟨g, cap, cur, rfl, hg, hh, hc, hm', _⟩
  · have : l = [] := List.eq_nil_of_length_eq_zero hn
    subst this
    exact SliceR.nil_ _
  · refine ⟨some ⟨g, 0, none⟩, cap, xs, rfl, hc, hm', h2.mono hm hle, fun _ => ⟨g, 0, rfl, fun j u hu => ?_⟩⟩
    have := hx.cells (g := g) rfl j u hu
    have e : (⟨g, 0, none⟩ : Addr).add j = ⟨g, j, none⟩ := by unfold Addr.add; split <;> simp_all
    rw [e] at this
    unfold Proofs.Ytkjknlnhffmkkaa.newer
    rw [if_pos hg, Nat.zero_add]
    exact this
theorem OwnR.ints_newer {base : Nat} {rd : Rd} {e : TypeId} {w : World} {v : Value} {l : List Int} (h : OwnR 1 IntR base e w rd v l) : IntsR (Proofs.Ytkjknlnhffmkkaa.newer w base) v l := by
  obtain ⟨xs, h1, h2⟩ := h
  refine OwnR.newer (rd := fun _ _ => none) ⟨xs, h1, ?_⟩ mono_int (fun _ _ _ h => by cases h)
  clear h1
  induction l generalizing xs with
  | nil => exact h2
  | cons x l ih => obtain ⟨cs, rest, a, b, c, d⟩ := h2; exact ⟨cs, rest, a, b, c, ih _ d⟩
/-- what was made from block B on, without one block -/
def newb (w : World) (B : Nat) (g : Option Nat) : Rd := fun b o => if B ≤ b ∧ some b ≠ g then w.cell? ⟨b, o, none⟩ else none
theorem newb_newer (w : World) (B : Nat) (g : Option Nat) : Rd.le (newb w B g) (newer w B) := fun b o v h => by
  unfold newb at h; split at h
  · rename_i hb; unfold newer; rw [if_pos hb.1]; exact h
  · cases h
theorem newb_but (w : World) (B : Nat) (g : Option Nat) : Rd.le (newb w B g) (but w g) := fun b o v h => by
  unfold newb at h; split at h
  · rename_i hb; unfold but; rw [if_neg hb.2]; exact h
  · cases h
theorem newb_le (w : World) (B : Nat) (g : Option Nat) : Rd.le (newb w B g) (wrd w) := Rd.le_trans (newb_newer w B g) (newer_le w B)
theorem newb_below {w w' : World} {B : Nat} {g : Option Nat} (k : Below w.heap.size w w') : Rd.le (newb w B g) (newb w' B g) := fun b o v h => by
  unfold newb at h ⊢; split at h
  · rename_i hb
    rw [if_pos hb]
    exact (k.cell (p := ⟨b, o, none⟩) (blk_lt h)).trans h
  · cases h
theorem newb_grown {w w' : World} {B : Nat} {g g' : Option Nat} (hg : w.grownBy w' g) (h' : g' = g ∨ g' = some w.heap.size) : Rd.le (newb w B g) (newb w' B g') := fun b o v h => by
  unfold newb at h ⊢; split at h
  · rename_i hb
    have hlt := blk_lt h
    have hn' : some b ≠ g' := by
      rcases h' with e | e
      · rw [e]; exact hb.2
      · rw [e]; intro e2; injection e2 with e2; omega
    rw [if_pos ⟨hb.1, hn'⟩]
    exact (World.cell?_of_block (w := w) (a := ⟨b, o, none⟩) (hg.block b hlt hb.2)).trans h
  · cases h
theorem newer_newb {w : World} {B B' : Nat} {g : Option Nat} (hB : B ≤ B') (hg : ∀ k, g = some k → k < B') : Rd.le (newer w B') (newb w B g) := fun b o v h => by
  unfold newer at h; split at h
  · rename_i hb
    unfold newb
    rw [if_pos ⟨by omega, fun e => by have := hg b e.symm; omega⟩]
    exact h
  · cases h
theorem newb_nil (w : World) (B : Nat) : Rd.le (newer w B) (newb w B none) := newer_newb (Nat.le_refl _) (fun _ h => by cases h)
theorem OwnR.newer_ {α : Type} {size base : Nat} {R : CR α} [GoodR R] {e : TypeId} {w : World} {g : Option Nat} {v : Value} {l : List α} (h : OwnR size R base e w (newb w base g) v l) : SliceR size R (Proofs.Ytkjknlnhffmkkaa.newer w base) v l := h.newer GoodR.mono (newb_newer w base g)
theorem OwnR.up {α : Type} {size base : Nat} {R : CR α} [GoodR R] {e : TypeId} {w w' : World} {B : Nat} {g : Option Nat} {v : Value} {l : List α} (h : OwnR size R base e w (newb w B g) v l) (k : Below w.heap.size w w') : OwnR size R base e w' (newb w' B g) v l := (h.below k).mono GoodR.mono (newb_below k)
theorem OwnR.next {α : Type} {size base : Nat} {R : CR α} [GoodR R] {e : TypeId} {w w' : World} {B : Nat} {g g' : Option Nat} {v : Value} {l : List α} (h : OwnR size R base e w' (newb w B g) v l) (hg : w.grownBy w' g) (h' : g' = g ∨ g' = some w.heap.size) : OwnR size R base e w' (newb w' B g') v l := h.mono GoodR.mono (newb_grown hg h')
theorem OwnR.lt {α : Type} {size base : Nat} {R : CR α} {e : TypeId} {w : World} {rd : Rd} {v : Value} {l : List α} (h : OwnR size R base e w rd v l) : ∀ k, v.ownBlock = some k → k < w.heap.size := fun k hk => (h.block k hk).2

/-- a slice from k on -/
theorem SliceR.cut {α : Type} {size : Nat} {R : CR α} {rd : Rd} {b o n c k : Nat} {l : List α} (h : SliceR size R rd (.slice (some ⟨b, o, none⟩) n c) l) (hk : k ≤ l.length) : SliceR size R rd (.slice (some ⟨b, o + k * size, none⟩) (n - k) (c - k)) (l.drop k) := by
  obtain ⟨A, c', xs, e, h1, h2, h3, h4⟩ := h
  injection e with e1 e2 e3
  subst e1 e2 e3
  refine ⟨some ⟨b, o + k * size, none⟩, c - k, xs.drop (k * size), by simp, by simp; omega, by omega, h3.drop k hk, fun hne => ⟨b, o + k * size, rfl, fun j u hu => ?_⟩⟩
  obtain ⟨b', o', e, hc⟩ := h4 (by intro e; subst e; simp at hne)
  cases e
  rw [List.getElem?_drop] at hu
  have := hc _ _ hu
  rwa [← Nat.add_assoc] at this
/-- the first k of a slice -/
theorem SliceR.head_ {α : Type} {size : Nat} {R : CR α} {rd : Rd} {A : Option Addr} {n c k : Nat} {l : List α} (h : SliceR size R rd (.slice A n c) l) (hk : k ≤ l.length) : SliceR size R rd (.slice A k c) (l.take k) := by
  obtain ⟨A', c', xs, e, h1, h2, h3, h4⟩ := h
  injection e with e1 e2 e3
  subst e1 e2 e3
  refine ⟨A, c, xs.take (k * size), by simp; omega, by simp; omega, h2, h3.take k, fun hne => ?_⟩
  obtain ⟨b, o, e, hc⟩ := h4 (by intro e; subst e; simp at hne)
  refine ⟨b, o, e, fun j u hu => hc j u ?_⟩
  rw [List.getElem?_take] at hu
  split at hu
  · exact hu
  · cases hu

/-- a slice whose block is known whole -/
theorem slice_of_blk {α : Type} {size : Nat} {R : CR α} {w : World} {g c n : Nat} {t : TypeId} {xs : List Value} {l : List α} (hb : Blk w g t xs.toArray) (hr : RowR size R (wrd w) xs l) (hn : n = l.length) (hc : l.length ≤ c) (hm : c ≤ maxLen) :
    SliceR size R (wrd w) (.slice (some ⟨g, 0, none⟩) n c) l := by
  subst hn
  refine ⟨_, _, xs, rfl, hc, hm, hr, fun _ => ⟨g, 0, rfl, fun j u hu => ?_⟩⟩
  show w.cell? ⟨g, 0 + j, none⟩ = some u
  rw [Nat.zero_add, hb.cell j]; simpa using hu

theorem SliceR.nil_of {α : Type} {size : Nat} {R : CR α} {rd : Rd} {n c : Nat} {l : List α} (h : SliceR size R rd (.slice none n c) l) : l = [] := by
  obtain ⟨A', c', xs, e, h1, h2, h3, h4⟩ := h
  injection e with e1 e2 e3
  subst e1 e2 e3
  rcases l with _ | ⟨x, l⟩
  · rfl
  · obtain ⟨b, o, e, _⟩ := h4 (by simp)
    cases e
/-- a slice from k on, whatever its address -/
theorem SliceR.cutA {α : Type} {size : Nat} {R : CR α} {rd : Rd} {ad : Addr} {n c k : Nat} {l : List α} (h : SliceR size R rd (.slice (some ad) n c) l) (hk : k ≤ l.length) : SliceR size R rd (.slice (some (ad.add (k * size))) (n - k) (c - k)) (l.drop k) := by
  rcases Nat.eq_zero_or_pos l.length with h0 | h0
  · have : l = [] := List.eq_nil_of_length_eq_zero h0
    subst this
    obtain ⟨e1, e2, e3⟩ := h.len
    simp only [List.length_nil] at e1 hk
    have hk0 : k = 0 := by omega
    subst hk0 e1
    simpa using SliceR.empty_ rd (some (ad.add (0 * size))) (c - 0) (by omega)
  · have h' := h
    obtain ⟨A', c', xs, e, h1, h2, h3, h4⟩ := h'
    injection e with e1 e2 e3
    subst e1
    obtain ⟨b, o, e, hc⟩ := h4 (by intro e; subst e; simp at h0)
    injection e with e
    subst e
    have := SliceR.cut h hk
    rcases Nat.eq_zero_or_pos (k * size) with hz | hz
    · rw [hz] at this ⊢
      simpa [Addr.add] using this
    · rw [show (⟨b, o, none⟩ : Addr).add (k * size) = ⟨b, o + k * size, none⟩ by unfold Addr.add; rw [if_neg (by omega)]]
      exact this

/-- a pointer to a thing -/
def PtrR {α : Type} (R : CR α) (rd : Rd) (v : Value) (x : α) : Prop := ∃ b o cs, v = .pointer (some ⟨b, o, none⟩) ∧ R rd cs x ∧ ∀ j u, cs[j]? = some u → rd b (o + j) = some u

#print axioms wpList_push
#print axioms wpList_cat
end Go.Proofs.Ytkjknlnhffmkkaa
