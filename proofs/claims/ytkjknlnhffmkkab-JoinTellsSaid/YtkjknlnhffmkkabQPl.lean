/- Plain laws: clocks, updates, logs, states. No program in sight. -/
import Derived.WalkKit
import Derived.Maps.AppendAt
import Derived.Deep.AppendLies
import Derived.Deep.Draws
namespace Go.Proofs.Ytkjknlnhffmkkab
open Go.RowKit
set_option linter.unusedVariables false

theorem hid {p : Prop} (h : p) : Hid p := h
theorem ret_i {k : IntKind} {a b : Int} (h : a = b) : Ending.returned (.int k a) = .returned (.int k b) := by rw [h]
theorem ret_b {a b : Bool} (h : a = b) : Ending.returned (.bool a) = .returned (.bool b) := by rw [h]

/-- a reading of memory: block, place -/
abbrev Rd := Nat → Nat → Option Value
def wrd (w : World) : Rd := fun b o => w.cell? ⟨b, o, none⟩
/-- without one block -/
def but (w : World) (g : Option Nat) : Rd := fun b o => if some b = g then none else w.cell? ⟨b, o, none⟩
/-- below a block -/
def upto (w : World) (B : Nat) : Rd := fun b o => if b < B then w.cell? ⟨b, o, none⟩ else none
def Rd.le (r s : Rd) : Prop := ∀ b o v, r b o = some v → s b o = some v

theorem Rd.le_refl (r : Rd) : Rd.le r r := fun _ _ _ h => h
theorem Rd.le_trans {r s t : Rd} (h : Rd.le r s) (k : Rd.le s t) : Rd.le r t := fun b o v e => k b o v (h b o v e)
theorem below_drewN (B : Nat) (w : World) (n : Nat) : Below B w (w.drewN n) := ⟨rfl, rfl, rfl, Nat.le_refl _, fun _ _ => rfl⟩
theorem blk_lt {w : World} {b o : Nat} {v : Value} (h : w.cell? ⟨b, o, none⟩ = some v) : b < w.heap.size := World.block_lt_of_cell? w ⟨b, o, none⟩ h
theorem le_below {w w' : World} {B : Nat} (hb : Below B w w') (hB : w.heap.size ≤ B) : Rd.le (wrd w) (wrd w') := fun b o v h => by
  have := blk_lt h
  exact (hb.cell (p := ⟨b, o, none⟩) (by show b < B; omega)).trans h
theorem upto_top (w : World) : Rd.le (wrd w) (upto w w.heap.size) := fun b o v h => by
  unfold upto
  rw [if_pos (blk_lt h)]
  exact h
theorem upto_le {w0 w : World} {B : Nat} (hb : Below B w0 w) : Rd.le (upto w0 B) (wrd w) := fun b o v h => by
  unfold upto at h
  split at h
  · rename_i hlt
    exact (hb.cell (p := ⟨b, o, none⟩) hlt).trans h
  · cases h
/-- one thing of some cells -/
abbrev CR (α : Type) := Rd → List Value → α → Prop
def MonoR {α : Type} (R : CR α) : Prop := ∀ r s cs x, Rd.le r s → R r cs x → R s cs x

def RowR {α : Type} (size : Nat) (R : CR α) (rd : Rd) : List Value → List α → Prop
  | xs, [] => xs = []
  | xs, x :: l => ∃ cs rest, xs = cs ++ rest ∧ cs.length = size ∧ R rd cs x ∧ RowR size R rd rest l

section
variable {α : Type} {size : Nat} {R : CR α} {rd : Rd}
theorem RowR.len : ∀ {l : List α} {xs : List Value}, RowR size R rd xs l → xs.length = l.length * size
  | [], _, h => by cases h; simp
  | x :: l, _, ⟨cs, rest, e, h1, _, h3⟩ => by
    subst e
    have := h3.len
    simp [h1, this, Nat.add_mul, Nat.add_comm]
theorem RowR.mono {rd' : Rd} (hm : MonoR R) (hle : Rd.le rd rd') : ∀ {l : List α} {xs : List Value}, RowR size R rd xs l → RowR size R rd' xs l
  | [], _, h => h
  | _ :: _, _, ⟨cs, rest, e, h1, h2, h3⟩ => ⟨cs, rest, e, h1, hm _ _ _ _ hle h2, h3.mono hm hle⟩
theorem RowR.append : ∀ {l m : List α} {xs ys : List Value}, RowR size R rd xs l → RowR size R rd ys m → RowR size R rd (xs ++ ys) (l ++ m)
  | [], _, _, _, h, k => by cases h; exact k
  | _ :: _, _, _, _, ⟨cs, rest, e, h1, h2, h3⟩, k => ⟨cs, rest ++ _, by rw [e, List.append_assoc], h1, h2, h3.append k⟩
theorem RowR.one {cs : List Value} {x : α} (h1 : cs.length = size) (h : R rd cs x) : RowR size R rd cs [x] := ⟨cs, [], by simp, h1, h, rfl⟩
theorem RowR.push {l : List α} {xs cs : List Value} {x : α} (h : RowR size R rd xs l) (h1 : cs.length = size) (hx : R rd cs x) : RowR size R rd (xs ++ cs) (l ++ [x]) := h.append (RowR.one h1 hx)
/-- a row's cells, place by place -/
theorem RowR.get : ∀ {l : List α} {xs : List Value} (k : Nat) {x : α}, RowR size R rd xs l → l[k]? = some x →
    ∃ cs, cs.length = size ∧ R rd cs x ∧ ∀ j u, cs[j]? = some u → xs[k * size + j]? = some u
  | [], _, k, x, _, hk => by simp at hk
  | y :: l, _, 0, x, ⟨cs, rest, e, h1, h2, h3⟩, hk => by
    simp at hk; subst hk; subst e
    refine ⟨cs, h1, h2, fun j u hu => ?_⟩
    have hj : j < cs.length := (List.getElem?_eq_some_iff.1 hu).1
    rw [Nat.zero_mul, Nat.zero_add, List.getElem?_append_left hj]
    exact hu
  | y :: l, _, k + 1, x, ⟨cs, rest, e, h1, h2, h3⟩, hk => by
    subst e
    obtain ⟨cs', a, b, c⟩ := h3.get k (by simpa using hk)
    refine ⟨cs', a, b, fun j u hu => ?_⟩
    rw [List.getElem?_append_right (by rw [h1, Nat.add_mul]; omega)]
    rw [← c j u hu]
    congr 1
    rw [h1, Nat.add_mul]
    omega
end

/-- a slice's value reads as a list -/
def SliceR {α : Type} (size : Nat) (R : CR α) (rd : Rd) (v : Value) (l : List α) : Prop :=
  ∃ A c xs, v = .slice A l.length c ∧ l.length ≤ c ∧ c ≤ maxLen ∧ RowR size R rd xs l ∧
    (l ≠ [] → ∃ b o, A = some ⟨b, o, none⟩ ∧ ∀ j u, xs[j]? = some u → rd b (o + j) = some u)

section
variable {α : Type} {size : Nat} {R : CR α} {rd : Rd}
theorem SliceR.mono {rd' : Rd} {v : Value} {l : List α} (h : SliceR size R rd v l) (hm : MonoR R) (hle : Rd.le rd rd') : SliceR size R rd' v l := by
  obtain ⟨A, c, xs, e, h1, h2, h3, h4⟩ := h
  refine ⟨A, c, xs, e, h1, h2, h3.mono hm hle, fun hl => ?_⟩
  obtain ⟨b, o, eA, hc⟩ := h4 hl
  exact ⟨b, o, eA, fun j u hu => hle _ _ _ (hc j u hu)⟩
theorem SliceR.len {A : Option Addr} {n c : Nat} {l : List α} (h : SliceR size R rd (.slice A n c) l) : n = l.length ∧ n ≤ c ∧ c ≤ maxLen := by
  obtain ⟨A', c', xs, e, h1, h2, _⟩ := h
  injection e with e1 e2 e3
  subst e2 e3
  exact ⟨rfl, h1, h2⟩
theorem SliceR.val {v : Value} {l : List α} (h : SliceR size R rd v l) : ∃ A c, v = .slice A l.length c ∧ l.length ≤ c ∧ c ≤ maxLen := by
  obtain ⟨A, c, xs, e, h1, h2, _⟩ := h
  exact ⟨A, c, e, h1, h2⟩
/-- element k: its address, its cells -/
theorem SliceR.get {A : Option Addr} {n c : Nat} {l : List α} {k : Nat} {x : α} (h : SliceR size R rd (.slice A n c) l) (hk : l[k]? = some x) :
    ∃ b o cs, A = some ⟨b, o, none⟩ ∧ cs.length = size ∧ R rd cs x ∧ ∀ j u, cs[j]? = some u → rd b (o + k * size + j) = some u := by
  obtain ⟨A', c', xs, e, h1, h2, h3, h4⟩ := h
  injection e with e1 e2 e3
  subst e1
  obtain ⟨b, o, eA, hc⟩ := h4 (by intro e; subst e; simp at hk)
  obtain ⟨cs, a1, a2, a3⟩ := h3.get k hk
  exact ⟨b, o, cs, eA, a1, a2, fun j u hu => by have := hc _ _ (a3 j u hu); rwa [← Nat.add_assoc] at this⟩
theorem SliceR.nil_ (rd : Rd) : SliceR size R rd (.slice none 0 0) ([] : List α) := ⟨none, 0, [], rfl, Nat.le_refl _, by simp [maxLen], rfl, fun h => absurd rfl h⟩
theorem SliceR.empty_ (rd : Rd) (A : Option Addr) (c : Nat) (hc : c ≤ maxLen) : SliceR size R rd (.slice A 0 c) ([] : List α) := ⟨A, c, [], rfl, Nat.zero_le _, hc, rfl, fun h => absurd rfl h⟩
end

def IntR : CR Int := fun _ cs n => cs = [.int .i64 n]
def BoolR : CR Bool := fun _ cs b => cs = [.bool b]
/-- one cell that holds a slice -/
def SlC {α : Type} (size : Nat) (R : CR α) : CR (List α) := fun rd cs l => ∃ v, cs = [v] ∧ SliceR size R rd v l
theorem mono_int : MonoR IntR := fun _ _ _ _ _ h => h
/-- a struct by value -/
def AggR {α : Type} (R : CR α) : Rd → Value → α → Prop := fun rd v x => ∃ cs, v = .agg cs.toArray ∧ R rd cs x

abbrev IntsR := SliceR 1 IntR
theorem IntsR.mono {rd rd' : Rd} {v : Value} {l : List Int} (h : IntsR rd v l) (hle : Rd.le rd rd') : IntsR rd' v l := SliceR.mono h mono_int hle
theorem IntsR.at_ {rd : Rd} {A : Option Addr} {n c : Nat} {l : List Int} (h : IntsR rd (.slice A n c) l) {k : Nat} (hk : k < l.length) :
    ∃ b o, A = some ⟨b, o, none⟩ ∧ rd b (o + k) = some (.int .i64 l[k]) := by
  obtain ⟨b, o, cs, e, h1, h2, h3⟩ := SliceR.get h (k := k) (x := l[k]) (by simp [hk])
  cases h2
  exact ⟨b, o, e, by simpa using h3 0 _ rfl⟩

/-- what the call owns and lets grow -/
def OwnR {α : Type} (size : Nat) (R : CR α) (base : Nat) (e : TypeId) (w : World) (rd : Rd) (v : Value) (l : List α) : Prop :=
  ∃ xs, w.ownsRow base e size v l.length xs ∧ RowR size R rd xs l

section
variable {α : Type} {size base : Nat} {R : CR α} {rd : Rd} {e : TypeId} {w : World} {v : Value} {l : List α}
theorem OwnR.nil_ : OwnR size R base e w rd (.slice none 0 0) ([] : List α) := ⟨[], World.ownsRow_nil w base e size, rfl⟩
theorem OwnR.block (h : OwnR size R base e w rd v l) : ∀ k, v.ownBlock = some k → base ≤ k ∧ k < w.heap.size := by
  obtain ⟨xs, h1, _⟩ := h
  exact h1.lt
theorem OwnR.mono {rd' : Rd} (h : OwnR size R base e w rd v l) (hm : MonoR R) (hle : Rd.le rd rd') : OwnR size R base e w rd' v l := by
  obtain ⟨xs, h1, h2⟩ := h
  exact ⟨xs, h1, h2.mono hm hle⟩
theorem OwnR.below {w' : World} (h : OwnR size R base e w rd v l) (hb : Below w.heap.size w w') : OwnR size R base e w' rd v l := by
  obtain ⟨xs, h1, h2⟩ := h
  exact ⟨xs, h1.kept (row := none) ⟨hb.os, hb.tape, hb.output, hb.size, fun k hk _ => hb.block k hk⟩ (by cases hv : v.ownBlock <;> simp), h2⟩
theorem OwnR.alloc (h : OwnR size R base e w rd v l) (o : Obj) : OwnR size R base e (w.alloc o) rd v l := h.below ((Below.refl _ _).alloc (Nat.le_refl _) o)
theorem OwnR.slice (h : OwnR size R base e w rd v l) (hm : MonoR R) (hle : Rd.le rd (wrd w)) : SliceR size R (wrd w) v l := by
  obtain ⟨xs, h1, h2⟩ := h
  have hx := h1
  rcases h1.2 with ⟨rfl, hn⟩ | ⟨g, cap, cur, rfl, _, hh, hc, hm', _⟩
  · have : l = [] := List.eq_nil_of_length_eq_zero hn
    subst this
    exact SliceR.nil_ _
  · refine ⟨some ⟨g, 0, none⟩, cap, xs, rfl, hc, hm', h2.mono hm hle, fun _ => ⟨g, 0, rfl, fun j u hu => ?_⟩⟩
    have := hx.cells (g := g) rfl j u hu
    have e : (⟨g, 0, none⟩ : Addr).add j = ⟨g, j, none⟩ := by unfold Addr.add; split <;> simp_all
    rw [e] at this
    simpa [wrd] using this
end

theorem below_grown {w w' : World} {base : Nat} {row : Option Nat} (hg : w.grownBy w' row) (hB : base ≤ w.heap.size) (hr : ∀ k, row = some k → base ≤ k) : Below base w w' :=
  (Below.refl _ _).grown hg hB hr

theorem alloc_cells (w : World) (cs : List Value) (e : TypeId) (f : Nat × Nat) : ∀ (j : Nat) (u : Value), cs[j]? = some u → (w.alloc (.cells cs.toArray e f)).cell? ⟨w.heap.size, j, none⟩ = some u := by
  intro j u hu
  rw [cell_of_row _ w.heap.size j cs.toArray e f (heap_alloc_new w _)]
  simpa using hu

/-- what append asks of a slice type t over e -/
structure ElemOk (P : Program) (t e : TypeId) (size bytes : Nat) : Prop where
  ex : ∃ (i : TypeInfo) (z : Value), P.underlying t = some (.slice e) ∧ P.info? e = some i ∧ i.zero = some z ∧ i.size = size ∧ i.bytes = bytes ∧ z.cells.size = size ∧ 0 < size

/-- append of one thing onto what the call owns -/
theorem wpList_push {α : Type} {P : Program} (w : World) {ops : Array Oper} {rest : List Oper} {o : Oper} {a : Act} {Q : Exit → Act → World → Prop} (hgd : o.guard = none) (s x : Operand) (t : TypeId)
    (ho : o.op = .call { callee := .builtin .append, args := #[s, x], argTypes := #[t, t] })
    {size : Nat} {R : CR α} (base : Nat) (e : TypeId) (bytes : Nat) (K : ElemOk P t e size bytes) (rd : Rd) (v : Value) (l : List α) (hs : a.eval s = v) (hown : OwnR size R base e w rd v l)
    (b : Nat) (c : Nat) (news : List Value) (y : α) (hx : a.eval x = .slice (some ⟨b, 0, none⟩) 1 c) (hl : news.length = size) (hnews : ∀ j u, news[j]? = some u → w.cell? ⟨b, j, none⟩ = some u) (h1 : ∀ u ∈ news, u.oneCell' = true)
    (hR : R rd news y) (hbytes : (l.length + 1) * bytes ≤ 140737488355328 ∧ l.length + 1 ≤ maxLen) (hbase : base ≤ w.heap.size)
    (h : ∀ v' w', OwnR size R base e w' rd v' (l ++ [y]) → Below base w w' → w.grownBy w' v.ownBlock → (v'.ownBlock = v.ownBlock ∨ v'.ownBlock = some w.heap.size) → wpList P ops Q rest (a.put o.dst v') w') : wpList P ops Q (o :: rest) a w := by
  obtain ⟨i, z, ht, hi, hz, hsize, hby, hzs, hsz⟩ := K.ex
  obtain ⟨xs, hrow, hrr⟩ := hown
  refine wpList_plain hgd fun _ hK => ?_
  obtain ⟨v', w', hrun, h2, h3, _, h4⟩ := run_append_own_at (P := P) w base t o.type e i z size bytes ht hi hz hsize hby hzs hsz v l.length xs hrow ⟨b, 0, none⟩ 1 c news (by simp [hl])
    (fun j u hu => by have := hnews j u hu; rw [show (⟨b, 0, none⟩ : Addr).add j = ⟨b, j, none⟩ by unfold Addr.add; split <;> simp_all]; exact this) h1 (by omega) hbytes.1 hbase
  unfold Oper.wp execOp
  simp only [ho, resolve, invoke, builtin, Sem.run_bind, Sem.run_pure, Result.andThen_ok, List.map_toArray, List.map_cons, List.map_nil, hs, hx, hrun]
  exact hK _ _ (h v' w' ⟨xs ++ news, by simpa using h2, hrr.push hl hR⟩ (below_grown h3 hbase fun k hk => (hrow.lt k hk).1) h3 h4)

def OneR {α : Type} (R : CR α) : Prop := ∀ rd cs x, R rd cs x → ∀ u ∈ cs, u.oneCell' = true
theorem one_int : OneR IntR := fun _ cs x h u hu => by cases h; rw [List.mem_singleton.1 hu]; rfl
section
variable {α : Type} {size base : Nat} {R : CR α} {rd : Rd} {e : TypeId} {w : World} {v : Value} {l : List α}
end

theorem rowInts (rd : Rd) : ∀ l : List Int, RowR 1 IntR rd (l.map (Value.int .i64)) l
  | [] => rfl
  | x :: l => ⟨[.int .i64 x], l.map (Value.int .i64), rfl, rfl, rfl, rowInts rd l⟩
/-- what the words ask of one thing's cells -/
class GoodR {α : Type} (R : CR α) : Prop where
  mono : MonoR R
  one : OneR R
instance : GoodR IntR := ⟨mono_int, one_int⟩
theorem SliceR.up {α : Type} {size : Nat} {R : CR α} [GoodR R] {w w' : World} {v : Value} {l : List α} (h : SliceR size R (wrd w) v l) (k : Below w.heap.size w w') : SliceR size R (wrd w') v l :=
  h.mono GoodR.mono (le_below k (Nat.le_refl _))
theorem SliceR.top {α : Type} {size : Nat} {R : CR α} [GoodR R] {W : World} {v : Value} {l : List α} (h : SliceR size R (wrd W) v l) : SliceR size R (upto W W.heap.size) v l := h.mono GoodR.mono (upto_top W)
theorem SliceR.of_top {α : Type} {size : Nat} {R : CR α} [GoodR R] {W w : World} {v : Value} {l : List α} (h : SliceR size R (upto W W.heap.size) v l) (k : Below W.heap.size W w) : SliceR size R (wrd w) v l := h.mono GoodR.mono (upto_le k)
theorem AggR.up {α : Type} {R : CR α} [GoodR R] {w w' : World} {v : Value} {x : α} (h : AggR R (wrd w) v x) (k : Below w.heap.size w w') : AggR R (wrd w') v x := by
  obtain ⟨cs, e, h⟩ := h
  exact ⟨cs, e, GoodR.mono _ _ _ _ (le_below k (Nat.le_refl _)) h⟩
theorem below_alloc1 (w : World) (o : Obj) : Below w.heap.size w (w.alloc o) := (Below.refl _ _).alloc (Nat.le_refl _) o
theorem below_alloc2 (w : World) (o o' : Obj) : Below w.heap.size w ((w.alloc o).alloc o') := (below_alloc1 w o).trans ((below_alloc1 _ o').mono (by simp))
/-- a block that is known whole -/
def Blk (w : World) (g : Nat) (t : TypeId) (cs : Array Value) : Prop := w.heap[g]? = some (.cells cs t (0, 0))
theorem Blk.lt {w : World} {g : Nat} {t : TypeId} {cs : Array Value} (h : Blk w g t cs) : g < w.heap.size := by
  rcases Nat.lt_or_ge g w.heap.size with hlt | hge
  · exact hlt
  · unfold Blk at h; rw [Array.getElem?_eq_none hge] at h; cases h
theorem Blk.up {w w' : World} {g : Nat} {t : TypeId} {cs : Array Value} (h : Blk w g t cs) (k : Below w.heap.size w w') : Blk w' g t cs := (k.block g h.lt).trans h
/-- what was made from block B on -/
def newer (w : World) (B : Nat) : Rd := fun b o => if B ≤ b then w.cell? ⟨b, o, none⟩ else none
theorem OwnR.newer {α : Type} {size base : Nat} {R : CR α} {rd : Rd} {e : TypeId} {w : World} {v : Value} {l : List α} (h : OwnR size R base e w rd v l) (hm : MonoR R) (hle : Rd.le rd (newer w base)) : SliceR size R (newer w base) v l := by
  obtain ⟨xs, h1, h2⟩ := h
  have hx := h1
  rcases h1.2 with ⟨rfl, hn⟩ | ⟨g, cap, cur, rfl, hg, hh, hc, hm', _⟩
  · have : l = [] := List.eq_nil_of_length_eq_zero hn
    subst this
    exact SliceR.nil_ _
  · refine ⟨some ⟨g, 0, none⟩, cap, xs, rfl, hc, hm', h2.mono hm hle, fun _ => ⟨g, 0, rfl, fun j u hu => ?_⟩⟩
    have := hx.cells (g := g) rfl j u hu
    have e : (⟨g, 0, none⟩ : Addr).add j = ⟨g, j, none⟩ := by unfold Addr.add; split <;> simp_all
    rw [e] at this
    unfold Proofs.Ytkjknlnhffmkkab.newer
    rw [if_pos hg, Nat.zero_add]
    exact this
theorem OwnR.ints_newer {base : Nat} {rd : Rd} {e : TypeId} {w : World} {v : Value} {l : List Int} (h : OwnR 1 IntR base e w rd v l) : IntsR (Proofs.Ytkjknlnhffmkkab.newer w base) v l := by
  obtain ⟨xs, h1, h2⟩ := h
  refine OwnR.newer (rd := fun _ _ => none) ⟨xs, h1, ?_⟩ mono_int (fun _ _ _ h => by cases h)
  clear h1
  induction l generalizing xs with
  | nil => exact h2
  | cons x l ih => obtain ⟨cs, rest, a, b, c, d⟩ := h2; exact ⟨cs, rest, a, b, c, ih _ d⟩
/-- what was made from block B on, without one block -/
def newb (w : World) (B : Nat) (g : Option Nat) : Rd := fun b o => if B ≤ b ∧ some b ≠ g then w.cell? ⟨b, o, none⟩ else none
theorem newb_below {w w' : World} {B : Nat} {g : Option Nat} (k : Below w.heap.size w w') : Rd.le (newb w B g) (newb w' B g) := fun b o v h => by
  unfold newb at h ⊢; split at h
  · rename_i hb
    rw [if_pos hb]
    exact (k.cell (p := ⟨b, o, none⟩) (blk_lt h)).trans h
  · cases h
theorem OwnR.up {α : Type} {size base : Nat} {R : CR α} [GoodR R] {e : TypeId} {w w' : World} {B : Nat} {g : Option Nat} {v : Value} {l : List α} (h : OwnR size R base e w (newb w B g) v l) (k : Below w.heap.size w w') : OwnR size R base e w' (newb w' B g) v l := (h.below k).mono GoodR.mono (newb_below k)
theorem OwnR.lt {α : Type} {size base : Nat} {R : CR α} {e : TypeId} {w : World} {rd : Rd} {v : Value} {l : List α} (h : OwnR size R base e w rd v l) : ∀ k, v.ownBlock = some k → k < w.heap.size := fun k hk => (h.block k hk).2

end Go.Proofs.Ytkjknlnhffmkkab

namespace Go.Proofs.Ytkjknlnhffmkkab

def atI (l : List Int) (i : Nat) : Int := l.getD i 0
theorem atI_lt {l : List Int} {i : Nat} (h : i < l.length) : atI l i = l[i] := by simp [atI, h]
theorem atI_ge {l : List Int} {i : Nat} (h : l.length ≤ i) : atI l i = 0 := by simp [atI, List.getElem?_eq_none h]

def zipC (f : Int → Int → Int) (a b : List Int) : List Int := (List.range (max a.length b.length)).map fun i => f (atI a i) (atI b i)
theorem zipC_len (f : Int → Int → Int) (a b : List Int) : (zipC f a b).length = max a.length b.length := by simp [zipC]
theorem zipC_get (f : Int → Int → Int) (a b : List Int) {k : Nat} (hk : k < max a.length b.length) : (zipC f a b)[k]? = some (f (atI a k) (atI b k)) := by
  simp only [zipC, List.getElem?_map, List.getElem?_range hk, Option.map_some]
theorem take_snoc {α : Type} {l : List α} {k : Nat} {x : α} (h : l[k]? = some x) : l.take (k + 1) = l.take k ++ [x] := by rw [List.take_add_one, h]; rfl
def joinC (a b : List Int) : List Int := zipC max a b
def seesC (a b : List Int) : Bool := (List.range (max a.length b.length)).all fun i => decide (atI b i ≤ atI a i)
def okK (k : Int) : Bool := decide (0 ≤ k) && decide (k ≤ 1000)
/-- 5: too many, 3: out of range -/
def wrongC (c : List Int) (n : Int) : Int := if n < 1 ∨ 6 < n ∨ (c.length : Int) ≠ n then 5 else if c.all okK then 0 else 3
def hasC (c : List Int) (author seq : Int) : Bool := decide (0 ≤ author) && decide (author < c.length) && decide (seq ≤ atI c author.toNat)
def tickC (c : List Int) (author : Int) : List Int := if 0 ≤ author ∧ author < c.length then c.set author.toNat (RowKit.wrap64 (atI c author.toNat + 1)) else c

theorem seesC_iff {a b : List Int} : seesC a b = true ↔ ∀ k, atI b k ≤ atI a k := by
  unfold seesC
  rw [List.all_eq_true]
  constructor
  · intro h k
    rcases Nat.lt_or_ge k (max a.length b.length) with hk | hk
    · simpa using h k (List.mem_range.2 hk)
    · rw [atI_ge (show b.length ≤ k by omega), atI_ge (show a.length ≤ k by omega)]; exact Int.le_refl _
  · intro h k _
    simpa using h k
theorem seesC_trans {a b c : List Int} (h : seesC a b = true) (k : seesC b c = true) : seesC a c = true :=
  seesC_iff.2 fun i => Int.le_trans (seesC_iff.1 k i) (seesC_iff.1 h i)
theorem joinC_len (a b : List Int) : (joinC a b).length = max a.length b.length := zipC_len _ _ _
theorem zipC_at {f : Int → Int → Int} (hf : f 0 0 = 0) (a b : List Int) (k : Nat) : atI (zipC f a b) k = f (atI a k) (atI b k) := by
  rcases Nat.lt_or_ge k (max a.length b.length) with h | h
  · have := zipC_get f a b h
    unfold atI at this ⊢
    rw [List.getD, this]; rfl
  · rw [atI_ge (show (zipC f a b).length ≤ k by rw [zipC_len]; exact h), atI_ge (show a.length ≤ k by omega), atI_ge (show b.length ≤ k by omega), hf]
theorem joinC_at (a b : List Int) (k : Nat) : atI (joinC a b) k = max (atI a k) (atI b k) := zipC_at rfl a b k
theorem wrongC_ok {l : List Int} {n : Int} (h : wrongC l n = 0) : 1 ≤ n ∧ n ≤ 6 ∧ (l.length : Int) = n ∧ ∀ x ∈ l, 0 ≤ x ∧ x ≤ 1000 := by
  unfold wrongC at h
  split at h
  · cases h
  · rename_i hn
    split at h
    · rename_i ha
      refine ⟨by omega, by omega, by omega, fun x hx => ?_⟩
      have := List.all_eq_true.1 ha x hx
      simpa [okK] using this
    · cases h
/-- the first place where p holds, or -1 -/
def idxF {α : Type} (p : α → Bool) (l : List α) : Int := match l.findIdx? p with | some i => (i : Int) | none => -1
theorem idxF_hit {α : Type} {p : α → Bool} {l : List α} {k : Nat} {x : α} (hk : l[k]? = some x) (hp : p x = true) (hb : ∀ (j : Nat) (y : α), j < k → l[j]? = some y → p y = false) : idxF p l = k := by
  unfold idxF
  have : l.findIdx? p = some k := by
    rw [List.findIdx?_eq_some_iff_getElem]
    obtain ⟨hl, e⟩ := List.getElem?_eq_some_iff.1 hk
    refine ⟨hl, by rw [e]; exact hp, fun j hj => ?_⟩
    have := hb j l[j] hj (List.getElem?_eq_getElem (by omega))
    simp [this]
  rw [this]
theorem idxF_none {α : Type} {p : α → Bool} {l : List α} (hb : ∀ (j : Nat) (y : α), l[j]? = some y → p y = false) : idxF p l = -1 := by
  unfold idxF
  have : l.findIdx? p = none := by
    rw [List.findIdx?_eq_none_iff]
    intro x hx
    obtain ⟨j, hj⟩ := List.getElem?_of_mem hx
    exact hb j x hj
  rw [this]
theorem idxF_any {α : Type} (p : α → Bool) (l : List α) : decide (0 ≤ idxF p l) = l.any p := by
  unfold idxF
  cases h : l.findIdx? p with
  | none =>
    have := List.findIdx?_eq_none_iff.1 h
    have h' : l.any p = false := by
      rw [List.any_eq_false]
      intro x hx; simp [this x hx]
    simp [h']
  | some i =>
    obtain ⟨hl, e, _⟩ := List.findIdx?_eq_some_iff_getElem.1 h
    have h' : l.any p = true := List.any_eq_true.2 ⟨l[i], List.getElem_mem hl, e⟩
    simp [h']
theorem idxF_bd {α : Type} (p : α → Bool) (l : List α) : -1 ≤ idxF p l ∧ idxF p l < max 1 l.length := by
  unfold idxF
  cases h : l.findIdx? p with
  | none => constructor <;> simp; omega
  | some i =>
    obtain ⟨hl, _⟩ := List.findIdx?_eq_some_iff_getElem.1 h
    simp; omega
end Go.Proofs.Ytkjknlnhffmkkab

namespace Go.Proofs.Ytkjknlnhffmkkab
set_option linter.unusedVariables false

structure Upd where
  author : Int
  seen : List Int
  kind : Int
  key : Int
  item : Int
deriving DecidableEq

structure RightU (u : Upd) (n : Int) : Prop where
  c : wrongC u.seen n = 0
  a0 : 0 ≤ u.author
  a1 : u.author < n
  s : atI u.seen u.author.toNat < 1000
  k0 : 1 ≤ u.kind
  k1 : u.kind ≤ 5
  y0 : 0 ≤ u.key
  y1 : u.key ≤ 15
  i0 : -1000 ≤ u.item
  i1 : u.item ≤ 1000
  f : u.kind = 2 → u.item = 0
/-- which one of its author's -/
def seqU (u : Upd) : Int := RowKit.wrap64 (atI u.seen u.author.toNat + 1)
/-- does a clock have it? -/
def hasU (c : List Int) (u : Upd) : Bool := decide (0 ≤ u.author) && decide (u.author < c.length) && decide (u.author < u.seen.length) && decide (atI u.seen u.author.toNat < atI c u.author.toNat)
end Go.Proofs.Ytkjknlnhffmkkab

namespace Go.Proofs.Ytkjknlnhffmkkab

end Go.Proofs.Ytkjknlnhffmkkab

namespace Go.Proofs.Ytkjknlnhffmkkab

structure Live where
  set : Bool
  key : Int
  item : Int
  author : Int
  seq : Int
deriving DecidableEq
structure Tally where
  key : Int
  author : Int
  sum : Int
deriving DecidableEq
structure State where
  clock : List Int
  lives : List Live
  tallies : List Tally
deriving DecidableEq

def LiveR : CR Live := fun _ cs x => cs = [.bool x.set, .int .i64 x.key, .int .i64 x.item, .int .i64 x.author, .int .i64 x.seq]
def TallyR : CR Tally := fun _ cs x => cs = [.int .i64 x.key, .int .i64 x.author, .int .i64 x.sum]
instance : GoodR LiveR := ⟨fun _ _ _ _ _ h => h, fun _ _ _ h u hu => by
  cases h; simp only [List.mem_cons, List.not_mem_nil, or_false] at hu; rcases hu with h | h | h | h | h <;> subst h <;> rfl⟩
instance : GoodR TallyR := ⟨fun _ _ _ _ _ h => h, fun _ _ _ h u hu => by
  cases h; simp only [List.mem_cons, List.not_mem_nil, or_false] at hu; rcases hu with h | h | h <;> subst h <;> rfl⟩
def StateR : CR State := fun rd cs x => ∃ a b c, cs = [a, b, c] ∧ SliceR 1 IntR rd a x.clock ∧ SliceR 5 LiveR rd b x.lives ∧ SliceR 3 TallyR rd c x.tallies
instance : GoodR StateR := ⟨fun _ _ _ _ hle ⟨a, b, c, e, h1, h2, h3⟩ => ⟨a, b, c, e, h1.mono GoodR.mono hle, h2.mono GoodR.mono hle, h3.mono GoodR.mono hle⟩, fun _ _ _ ⟨a, b, c, e, h1, h2, h3⟩ u hu => by
  obtain ⟨A1, c1, e1, _⟩ := h1.val
  obtain ⟨A2, c2, e2, _⟩ := h2.val
  obtain ⟨A3, c3, e3, _⟩ := h3.val
  subst e e1 e2 e3
  simp only [List.mem_cons, List.not_mem_nil, or_false] at hu
  rcases hu with h | h | h <;> subst h <;> rfl⟩

def cmpI (x y : Int) : Int := if x < y then -1 else if y < x then 1 else 0
def orI : List Int → Int
  | [] => 0
  | x :: l => if x = 0 then orI l else x
def ordL (a b : Live) : Int := orI [if b.set = true ∧ a.set = false then -1 else if a.set = true ∧ b.set = false then 1 else 0, cmpI a.key b.key, cmpI a.item b.item, cmpI a.author b.author, cmpI a.seq b.seq]
def ordT (a b : Tally) : Int := orI [cmpI a.key b.key, cmpI a.author b.author]
theorem orI_drop {l : List Int} {k : Nat} {z : Int} (hz : l[k]? = some z) : orI (l.drop k) = if z = 0 then orI (l.drop (k + 1)) else z := by
  obtain ⟨hk, e⟩ := List.getElem?_eq_some_iff.1 hz
  rw [List.drop_eq_getElem_cons hk, e]; rfl

/-- what stays: the first that is wrong -/
def wrongL (c : List Int) (n : Int) : Option Live → List Live → Nat → Int × Int
  | _, [], _ => (0, 0)
  | p, l :: ls, i =>
    if l.author < 0 ∨ n ≤ l.author ∨ l.seq < 1 ∨ l.key < 0 ∨ 15 < l.key ∨ l.item < -1000 ∨ 1000 < l.item then (3, (i : Int))
    else if atI c l.author.toNat < l.seq then (8, (i : Int))
    else if (match p with | some q => decide (0 ≤ ordL q l) | none => false) = true then (2, (i : Int))
    else wrongL c n (some l) ls (i + 1)
def mostT (c : List Int) (n : Int) (t : Tally) : Int := if 0 ≤ t.author ∧ t.author < n then 1000 * atI c t.author.toNat else 0
def wrongT (c : List Int) (n : Int) : Option Tally → List Tally → Nat → Int × Int
  | _, [], _ => (0, 0)
  | p, t :: ts, i =>
    if t.author < 0 ∨ n ≤ t.author ∨ t.key < 0 ∨ 15 < t.key ∨ t.sum < -(mostT c n t) ∨ mostT c n t < t.sum ∨ t.sum = 0 then (3, (i : Int))
    else if (match p with | some q => decide (0 ≤ ordT q t) | none => false) = true then (2, (i : Int))
    else wrongT c n (some t) ts (i + 1)
/-- what is wrong with a state: the error, its place -/
def wrongS (s : State) (n : Int) : Int × Int :=
  if wrongC s.clock n ≠ 0 then (wrongC s.clock n, 0)
  else if (wrongL s.clock n none s.lives 0).1 ≠ 0 then wrongL s.clock n none s.lives 0
  else wrongT s.clock n none s.tallies 0
end Go.Proofs.Ytkjknlnhffmkkab

namespace Go.Proofs.Ytkjknlnhffmkkab

def prevO {α : Type} (l : List α) (k : Nat) : Option α := if k = 0 then none else l[k - 1]?
theorem prevO_succ {α : Type} (l : List α) (k : Nat) : prevO l (k + 1) = l[k]? := rfl
theorem prevO_pos {α : Type} {l : List α} {k : Nat} (h : 0 < k) {z : α} (hz : l[k - 1]? = some z) : prevO l k = some z := by unfold prevO; rw [if_neg (by omega), hz]
theorem wrongL_step {c : List Int} {n : Int} {p : Option Live} {l : List Live} {k : Nat} {z : Live} (hz : l[k]? = some z) : wrongL c n p (l.drop k) k =
    if z.author < 0 ∨ n ≤ z.author ∨ z.seq < 1 ∨ z.key < 0 ∨ 15 < z.key ∨ z.item < -1000 ∨ 1000 < z.item then (3, (k : Int))
    else if atI c z.author.toNat < z.seq then (8, (k : Int))
    else if (match p with | some q => decide (0 ≤ ordL q z) | none => false) = true then (2, (k : Int))
    else wrongL c n (some z) (l.drop (k + 1)) (k + 1) := by
  obtain ⟨hk, e⟩ := List.getElem?_eq_some_iff.1 hz
  rw [List.drop_eq_getElem_cons hk, e]; rfl
theorem wrongL_end {c : List Int} {n : Int} {p : Option Live} {l : List Live} {k : Nat} (h : l.length ≤ k) : wrongL c n p (l.drop k) k = (0, 0) := by rw [List.drop_eq_nil_of_le h]; rfl
theorem wrongT_step {c : List Int} {n : Int} {p : Option Tally} {l : List Tally} {k : Nat} {z : Tally} (hz : l[k]? = some z) : wrongT c n p (l.drop k) k =
    if z.author < 0 ∨ n ≤ z.author ∨ z.key < 0 ∨ 15 < z.key ∨ z.sum < -(mostT c n z) ∨ mostT c n z < z.sum ∨ z.sum = 0 then (3, (k : Int))
    else if (match p with | some q => decide (0 ≤ ordT q z) | none => false) = true then (2, (k : Int))
    else wrongT c n (some z) (l.drop (k + 1)) (k + 1) := by
  obtain ⟨hk, e⟩ := List.getElem?_eq_some_iff.1 hz
  rw [List.drop_eq_getElem_cons hk, e]; rfl
theorem wrongT_end {c : List Int} {n : Int} {p : Option Tally} {l : List Tally} {k : Nat} (h : l.length ≤ k) : wrongT c n p (l.drop k) k = (0, 0) := by rw [List.drop_eq_nil_of_le h]; rfl
theorem wrongS_C {s : State} {n : Int} (h : ¬ wrongC s.clock n = 0) : wrongS s n = (wrongC s.clock n, 0) := by unfold wrongS; rw [if_pos h]
theorem wrongS_L {s : State} {n : Int} {r : Int × Int} (h : wrongC s.clock n = 0) (hl : wrongL s.clock n none s.lives 0 = r) (hr : r.1 ≠ 0) : wrongS s n = r := by
  unfold wrongS; rw [if_neg (by omega), hl, if_pos hr]
theorem wrongS_T {s : State} {n : Int} {r : Int × Int} (h : wrongC s.clock n = 0) (hl : (wrongL s.clock n none s.lives 0).1 = 0) (ht : wrongT s.clock n none s.tallies 0 = r) : wrongS s n = r := by
  unfold wrongS; rw [if_neg (by omega), if_neg (by omega), ht]
theorem rfault {r : Int × Int} {a b : Int} (h : r = (a, b)) : Ending.returned (.agg #[.int .i64 a, .int .i64 b]) = .returned (.agg #[.int .i64 r.1, .int .i64 r.2]) := by rw [h]
end Go.Proofs.Ytkjknlnhffmkkab

namespace Go.Proofs.Ytkjknlnhffmkkab

/-- the order, as one of lists of numbers -/
def lexI : List Int → List Int → Int
  | x :: xs, y :: ys => if cmpI x y = 0 then lexI xs ys else cmpI x y
  | _, _ => 0
theorem cmpI_zero {x y : Int} : cmpI x y = 0 ↔ x = y := by unfold cmpI; split <;> (try split) <;> omega
theorem cmpI_neg {x y : Int} : cmpI x y < 0 ↔ x < y := by unfold cmpI; split <;> (try split) <;> omega
theorem lexI_cons {x y : Int} {xs ys : List Int} : lexI (x :: xs) (y :: ys) < 0 ↔ x < y ∨ (x = y ∧ lexI xs ys < 0) := by
  show (if cmpI x y = 0 then lexI xs ys else cmpI x y) < 0 ↔ _
  split
  · rename_i h; have := cmpI_zero.1 h
    constructor
    · intro h2; exact .inr ⟨this, h2⟩
    · intro h2; rcases h2 with h2 | h2
      · omega
      · exact h2.2
  · rename_i h
    have h' : ¬ x = y := fun e => h (cmpI_zero.2 e)
    rw [cmpI_neg]
    constructor
    · exact .inl
    · intro h2; rcases h2 with h2 | h2
      · exact h2
      · exact absurd h2.1 h'
theorem lexI_cons0 {x y : Int} {xs ys : List Int} : lexI (x :: xs) (y :: ys) = 0 ↔ x = y ∧ lexI xs ys = 0 := by
  show (if cmpI x y = 0 then lexI xs ys else cmpI x y) = 0 ↔ _
  split
  · rename_i h; have := cmpI_zero.1 h; simp [this]
  · rename_i h; have h' : ¬ x = y := fun e => h (cmpI_zero.2 e)
    simp [h, h']
theorem lexI_trans : ∀ {a b c : List Int}, lexI a b < 0 → lexI b c < 0 → lexI a c < 0
  | x :: xs, y :: ys, z :: zs, h1, h2 => by
    rw [lexI_cons] at *
    rcases h1 with h1 | ⟨rfl, h1⟩ <;> rcases h2 with h2 | ⟨rfl, h2⟩
    · exact .inl (by omega)
    · exact .inl h1
    · exact .inl h2
    · exact .inr ⟨rfl, lexI_trans h1 h2⟩
  | [], _, _, h1, _ => by cases h1
  | _ :: _, [], _, h1, _ => by cases h1
  | _ :: _, _ :: _, [], _, h2 => by cases h2
theorem lexI_swap : ∀ {a b : List Int}, lexI b a = - lexI a b
  | x :: xs, y :: ys => by
    show (if cmpI y x = 0 then lexI ys xs else cmpI y x) = - (if cmpI x y = 0 then lexI xs ys else cmpI x y)
    have e : cmpI y x = - cmpI x y := by unfold cmpI; repeat' split
                                         all_goals omega
    rw [lexI_swap (a := xs) (b := ys), e]
    split <;> split <;> omega
  | [], [] => rfl
  | [], _ :: _ => rfl
  | _ :: _, [] => rfl
theorem lexI_eq : ∀ {a b : List Int}, a.length = b.length → lexI a b = 0 → a = b
  | x :: xs, y :: ys, hl, h => by
    rw [lexI_cons0] at h
    rw [h.1, lexI_eq (by simpa using hl) h.2]
  | [], [], _, _ => rfl
  | [], _ :: _, hl, _ => by simp at hl
  | _ :: _, [], hl, _ => by simp at hl
def codeL (a : Live) : List Int := [if a.set = true then 1 else 0, a.key, a.item, a.author, a.seq]
def codeT (a : Tally) : List Int := [a.key, a.author]
theorem ordL_code (a b : Live) : ordL a b = lexI (codeL a) (codeL b) := by
  obtain ⟨s1, k1, i1, a1, q1⟩ := a
  obtain ⟨s2, k2, i2, a2, q2⟩ := b
  unfold ordL codeL
  cases s1 <;> cases s2 <;> simp [orI, lexI, cmpI]
theorem ordT_code (a b : Tally) : ordT a b = lexI (codeT a) (codeT b) := by
  unfold ordT codeT
  simp only [lexI, orI]
def SortedL (l : List Live) : Prop := l.Pairwise fun a b => ordL a b < 0
def SortedT (l : List Tally) : Prop := l.Pairwise fun a b => ordT a b < 0
theorem ordL_trans {a b c : Live} (h1 : ordL a b < 0) (h2 : ordL b c < 0) : ordL a c < 0 := by rw [ordL_code] at *; exact lexI_trans h1 h2
theorem ordT_trans {a b c : Tally} (h1 : ordT a b < 0) (h2 : ordT b c < 0) : ordT a c < 0 := by rw [ordT_code] at *; exact lexI_trans h1 h2
theorem mono_of {α : Type} {f : α → α → Int} (ht : ∀ {a b c}, f a b < 0 → f b c < 0 → f a c < 0) {l : List α} (h : l.Pairwise fun a b => f a b < 0) (t : α) : ∀ (a b : Nat) y z, a ≤ b → l[a]? = some y → l[b]? = some z → f z t < 0 → f y t < 0 := fun a b y z hab hy hz hlt => by
  obtain ⟨ha, rfl⟩ := List.getElem?_eq_some_iff.1 hy
  obtain ⟨hb, rfl⟩ := List.getElem?_eq_some_iff.1 hz
  rcases Nat.lt_or_eq_of_le hab with h' | rfl
  · exact ht (List.pairwise_iff_getElem.1 h a b ha hb h') hlt
  · exact hlt
/-- does u end l -/
def endsC (set : Bool) (u : Upd) (l : Live) : Bool := (l.set == set) && (l.key == u.key) && (!set || l.item == u.item) && hasC u.seen l.author l.seq
/-- the first place that is not behind -/
def idxO {α : Type} (f : α → Int) (l : List α) : Nat := l.findIdx fun y => decide (0 ≤ f y)
def insO {α : Type} (f : α → α → Int) (l : List α) (x : α) : List α := l.take (idxO (fun y => f y x) l) ++ [x] ++ l.drop (idxO (fun y => f y x) l)
def countL (l : List Tally) (t : Tally) : List Tally :=
  match l[idxO (fun y => ordT y t) l]? with
  | some z => if ordT z t = 0 then (if z.sum + t.sum = 0 then l.eraseIdx (idxO (fun y => ordT y t) l) else l.set (idxO (fun y => ordT y t) l) { z with sum := z.sum + t.sum }) else if t.sum = 0 then l else insO ordT l t
  | none => if t.sum = 0 then l else insO ordT l t
section
variable {l : List Tally} {t z : Tally} {i : Nat} (hi : i ≤ l.length) (ha : ∀ (a : Nat) y, a < i → l[a]? = some y → ordT y t < 0) (hb : ∀ (a : Nat) y, i ≤ a → l[a]? = some y → 0 ≤ ordT y t)
include hi ha hb
end
/-- what u does to s -/
def newL (set : Bool) (u : Upd) (seq : Int) : Live := ⟨set, u.key, u.item, u.author, seq⟩
def applyS (s : State) (u : Upd) : State :=
  let set := decide (u.kind = 3 ∨ u.kind = 4)
  let ls := if u.kind ≠ 5 ∧ u.kind ≠ 3 then s.lives.filter fun l => !endsC set u l else s.lives
  ⟨tickC s.clock u.author, if u.kind = 1 ∨ u.kind = 3 then insO ordL ls (newL set u (seqU u)) else ls, if u.kind = 5 then countL s.tallies ⟨u.key, u.author, u.item⟩ else s.tallies⟩
end Go.Proofs.Ytkjknlnhffmkkab

namespace Go.Proofs.Ytkjknlnhffmkkab
set_option linter.unusedVariables false

theorem wrongC_of {l : List Int} {n : Int} (h1 : 1 ≤ n) (h2 : n ≤ 6) (h3 : (l.length : Int) = n) (h4 : ∀ x ∈ l, 0 ≤ x ∧ x ≤ 1000) : wrongC l n = 0 := by
  unfold wrongC
  rw [if_neg (by omega), if_pos]
  rw [List.all_eq_true]
  intro x hx
  have := h4 x hx
  simp [okK, this.1, this.2]
theorem atI_bd {c : List Int} {n : Int} (h : wrongC c n = 0) (k : Nat) : 0 ≤ atI c k ∧ atI c k ≤ 1000 := by
  rcases Nat.lt_or_ge k c.length with hk | hk
  · rw [atI_lt hk]; exact (wrongC_ok h).2.2.2 _ (List.getElem_mem hk)
  · rw [atI_ge hk]; omega

/-- what a step that is not refused tells -/
structure StepOk (c : List Int) (u : Upd) (n : Int) : Prop where
  r : RightU u n
  eq : atI u.seen u.author.toNat = atI c u.author.toNat
  sees : seesC c u.seen = true
end Go.Proofs.Ytkjknlnhffmkkab

namespace Go.Proofs.Ytkjknlnhffmkkab
set_option linter.unusedVariables false

/-! ## orders -/
theorem codeL_inj {a b : Live} (h : codeL a = codeL b) : a = b := by
  obtain ⟨s1, k1, i1, a1, q1⟩ := a
  obtain ⟨s2, k2, i2, a2, q2⟩ := b
  cases s1 <;> cases s2 <;> simp [codeL] at h <;> simp [h]
theorem ordL_zero {a b : Live} : ordL a b = 0 ↔ a = b := by
  rw [ordL_code]
  constructor
  · intro h; exact codeL_inj (lexI_eq rfl h)
  · rintro rfl; simp [codeL, lexI, cmpI]
theorem ordT_zero {a b : Tally} : ordT a b = 0 ↔ a.key = b.key ∧ a.author = b.author := by
  rw [ordT_code]; unfold codeT
  rw [lexI_cons0, lexI_cons0]; simp [lexI]
theorem ordL_swap {a b : Live} : ordL b a = - ordL a b := by rw [ordL_code, ordL_code]; exact lexI_swap
theorem ordT_swap {a b : Tally} : ordT b a = - ordT a b := by rw [ordT_code, ordT_code]; exact lexI_swap
theorem sorted_ext {α : Type} {r : α → α → Prop} (hi : ∀ a, ¬ r a a) (hs : ∀ a b, r a b → r b a → False) : ∀ {l1 l2 : List α}, l1.Pairwise r → l2.Pairwise r → (∀ x, x ∈ l1 ↔ x ∈ l2) → l1 = l2
  | [], [], _, _, _ => rfl
  | [], b :: l2, _, _, h => by have := (h b).2 (by simp); cases this
  | a :: l1, [], _, _, h => by have := (h a).1 (by simp); cases this
  | a :: l1, b :: l2, h1, h2, h => by
    rw [List.pairwise_cons] at h1 h2
    have e : a = b := by
      have ha := (h a).1 (by simp)
      have hb := (h b).2 (by simp)
      rcases List.mem_cons.1 ha with e | ha
      · exact e
      · rcases List.mem_cons.1 hb with e | hb
        · exact e.symm
        · exact absurd (h1.1 b hb) (fun k => hs _ _ k (h2.1 a ha))
    subst e
    rw [sorted_ext hi hs h1.2 h2.2 fun x => ?_]
    have k := h x
    simp only [List.mem_cons] at k
    constructor
    · intro hx
      rcases k.1 (.inr hx) with e | hx'
      · subst e; exact absurd (h1.1 _ hx) (hi _)
      · exact hx'
    · intro hx
      rcases k.2 (.inr hx) with e | hx'
      · subst e; exact absurd (h2.1 _ hx) (hi _)
      · exact hx'
theorem sortedL_ext {l1 l2 : List Live} (h1 : SortedL l1) (h2 : SortedL l2) (h : ∀ x, x ∈ l1 ↔ x ∈ l2) : l1 = l2 :=
  sorted_ext (fun a h => by rw [ordL_zero.2 rfl] at h; omega) (fun a b h k => by rw [ordL_swap] at k; omega) h1 h2 h
theorem sortedT_ext {l1 l2 : List Tally} (h1 : SortedT l1) (h2 : SortedT l2) (h : ∀ x, x ∈ l1 ↔ x ∈ l2) : l1 = l2 :=
  sorted_ext (fun a h => by rw [ordT_zero.2 ⟨rfl, rfl⟩] at h; omega) (fun a b h k => by rw [ordT_swap] at k; omega) h1 h2 h
theorem incr_len {α : Type} {f : α → Nat} {N : Nat} : ∀ {l : List α} {m : Nat}, l.Pairwise (fun a b => f a < f b) → (∀ x ∈ l, m ≤ f x ∧ f x < N) → m ≤ N → m + l.length ≤ N
  | [], m, _, _, h => h
  | a :: l, m, hp, hb, hm => by
    rw [List.pairwise_cons] at hp
    have ha := hb a (by simp)
    have := incr_len (l := l) (m := f a + 1) hp.2 (fun x hx => ⟨hp.1 x hx, (hb x (by simp [hx])).2⟩) (by omega)
    simp only [List.length_cons]; omega
/-! ## the first place that is not behind -/
section
variable {α : Type} {f : α → Int} {l : List α}
theorem idxO_take {y : α} (h : y ∈ l.take (idxO f l)) : f y < 0 := by
  obtain ⟨j, hj, e⟩ := List.getElem_of_mem h
  rw [List.length_take] at hj
  have h2 := List.not_of_lt_findIdx (p := fun y => decide (0 ≤ f y)) (xs := l) (i := j) (by unfold idxO at hj; omega)
  rw [List.getElem_take] at e
  rw [e] at h2
  simp at h2
  omega
theorem idxO_drop {y : α} (hm : ∀ (a b : Nat) y z, a ≤ b → l[a]? = some y → l[b]? = some z → f z < 0 → f y < 0) (h : y ∈ l.drop (idxO f l)) : 0 ≤ f y := by
  obtain ⟨j, hj, e⟩ := List.getElem_of_mem h
  rw [List.length_drop] at hj
  rw [List.getElem_drop] at e
  have hi : idxO f l < l.length := by omega
  have h2 := List.findIdx_getElem (p := fun y => decide (0 ≤ f y)) (xs := l) (w := hi)
  have h2 : 0 ≤ f l[idxO f l] := of_decide_eq_true h2
  rcases Int.lt_or_le (f y) 0 with hlt | hle
  · have := hm (idxO f l) (idxO f l + j) l[idxO f l] y (by omega) (List.getElem?_eq_getElem hi) (by rw [List.getElem?_eq_getElem (by omega), e]) hlt
    omega
  · exact hle
end
theorem insO_mem {α : Type} {f : α → α → Int} {l : List α} {x y : α} : y ∈ insO f l x ↔ y ∈ l ∨ y = x := by
  unfold insO
  conv => rhs; rw [← List.take_append_drop (idxO (fun y => f y x) l) l]
  simp only [List.mem_append, List.mem_singleton]
  constructor
  · rintro ((h | h) | h)
    · exact .inl (.inl h)
    · exact .inr h
    · exact .inl (.inr h)
  · rintro ((h | h) | h)
    · exact .inl (.inl h)
    · exact .inr h
    · exact .inl (.inr h)
theorem insO_sorted {α : Type} {f : α → α → Int} (hs : ∀ a b, f b a = - f a b) (ht : ∀ {a b c}, f a b < 0 → f b c < 0 → f a c < 0) {l : List α} {x : α} (h : l.Pairwise fun a b => f a b < 0) (hn : ∀ y ∈ l, f y x ≠ 0) : (insO f l x).Pairwise fun a b => f a b < 0 := by
  have hm := mono_of (f := f) ht h x
  have h1 : ∀ y ∈ l.take (idxO (fun y => f y x) l), f y x < 0 := fun y hy => idxO_take (f := fun y => f y x) hy
  have h2 : ∀ y ∈ l.drop (idxO (fun y => f y x) l), f x y < 0 := fun y hy => by
    have := idxO_drop (f := fun y => f y x) hm hy
    have := hn y (List.mem_of_mem_drop hy)
    rw [hs]; omega
  unfold insO
  rw [← List.take_append_drop (idxO (fun y => f y x) l) l, List.pairwise_append] at h
  rw [List.append_assoc, List.pairwise_append, List.singleton_append, List.pairwise_cons]
  refine ⟨h.1, ⟨h2, h.2.1⟩, fun a ha b hb => ?_⟩
  rcases List.mem_cons.1 hb with e | hb
  · subst e; exact h1 a ha
  · exact h.2.2 a ha b hb
/-! ## right states -/
structure LiveOk (c : List Int) (n : Int) (x : Live) : Prop where
  a0 : 0 ≤ x.author
  a1 : x.author < n
  q0 : 1 ≤ x.seq
  q1 : x.seq ≤ atI c x.author.toNat
  k0 : 0 ≤ x.key
  k1 : x.key ≤ 15
  i0 : -1000 ≤ x.item
  i1 : x.item ≤ 1000
structure TallyOk (c : List Int) (n : Int) (x : Tally) : Prop where
  a0 : 0 ≤ x.author
  a1 : x.author < n
  k0 : 0 ≤ x.key
  k1 : x.key ≤ 15
  s0 : -(1000 * atI c x.author.toNat) ≤ x.sum
  s1 : x.sum ≤ 1000 * atI c x.author.toNat
  ne : x.sum ≠ 0
structure RightS (s : State) (n : Int) : Prop where
  c : wrongC s.clock n = 0
  l : ∀ x ∈ s.lives, LiveOk s.clock n x
  ls : SortedL s.lives
  t : ∀ x ∈ s.tallies, TallyOk s.clock n x
  ts : SortedT s.tallies
theorem chain_cons {α : Type} {f : α → α → Int} (ht : ∀ {a b c}, f a b < 0 → f b c < 0 → f a c < 0) {p : Option α} {x : α} {l : List α} : (p.toList ++ x :: l).Pairwise (fun a b => f a b < 0) ↔ (∀ q ∈ p, f q x < 0) ∧ (x :: l).Pairwise fun a b => f a b < 0 := by
  cases p with
  | none => simp
  | some q =>
    simp only [Option.toList_some, List.singleton_append, Option.mem_def, Option.some.injEq, forall_eq']
    rw [List.pairwise_cons]
    constructor
    · rintro ⟨h1, h2⟩; exact ⟨h1 x (by simp), h2⟩
    · rintro ⟨h1, h2⟩
      refine ⟨fun y hy => ?_, h2⟩
      rcases List.mem_cons.1 hy with e | hy
      · subst e; exact h1
      · exact ht h1 ((List.pairwise_cons.1 h2).1 y hy)
theorem wrongL_cons {c : List Int} {n : Int} {x : Live} {l : List Live} {p : Option Live} {i : Nat} : (wrongL c n p (x :: l) i).1 = 0 ↔ (¬ (x.author < 0 ∨ n ≤ x.author ∨ x.seq < 1 ∨ x.key < 0 ∨ 15 < x.key ∨ x.item < -1000 ∨ 1000 < x.item) ∧ ¬ atI c x.author.toNat < x.seq) ∧ (∀ q ∈ p, ordL q x < 0) ∧ (wrongL c n (some x) l (i + 1)).1 = 0 := by
  have e : wrongL c n p (x :: l) i = if x.author < 0 ∨ n ≤ x.author ∨ x.seq < 1 ∨ x.key < 0 ∨ 15 < x.key ∨ x.item < -1000 ∨ 1000 < x.item then (3, (i : Int))
    else if atI c x.author.toNat < x.seq then (8, (i : Int))
    else if (match p with | some q => decide (0 ≤ ordL q x) | none => false) = true then (2, (i : Int))
    else wrongL c n (some x) l (i + 1) := rfl
  rw [e]
  by_cases h1 : x.author < 0 ∨ n ≤ x.author ∨ x.seq < 1 ∨ x.key < 0 ∨ 15 < x.key ∨ x.item < -1000 ∨ 1000 < x.item
  · rw [if_pos h1]; constructor
    · intro h; cases h
    · intro h; exact absurd h1 h.1.1
  · rw [if_neg h1]
    by_cases h2 : atI c x.author.toNat < x.seq
    · rw [if_pos h2]; constructor
      · intro h; cases h
      · intro h; exact absurd h2 h.1.2
    · rw [if_neg h2]
      cases p with
      | none => simp [h1, h2]
      | some q =>
        by_cases h3 : 0 ≤ ordL q x
        · rw [if_pos (decide_eq_true h3)]; constructor
          · intro h; cases h
          · intro h; have := h.2.1 q rfl; omega
        · rw [if_neg (by simpa using h3)]
          exact ⟨fun h => ⟨⟨h1, h2⟩, fun q' hq => by injection hq with hq; subst hq; omega, h⟩, fun h => h.2.2⟩
theorem wrongT_cons {c : List Int} {n : Int} {x : Tally} {l : List Tally} {p : Option Tally} {i : Nat} : (wrongT c n p (x :: l) i).1 = 0 ↔ ¬ (x.author < 0 ∨ n ≤ x.author ∨ x.key < 0 ∨ 15 < x.key ∨ x.sum < -(mostT c n x) ∨ mostT c n x < x.sum ∨ x.sum = 0) ∧ (∀ q ∈ p, ordT q x < 0) ∧ (wrongT c n (some x) l (i + 1)).1 = 0 := by
  have e : wrongT c n p (x :: l) i = if x.author < 0 ∨ n ≤ x.author ∨ x.key < 0 ∨ 15 < x.key ∨ x.sum < -(mostT c n x) ∨ mostT c n x < x.sum ∨ x.sum = 0 then (3, (i : Int))
    else if (match p with | some q => decide (0 ≤ ordT q x) | none => false) = true then (2, (i : Int))
    else wrongT c n (some x) l (i + 1) := rfl
  rw [e]
  by_cases h1 : x.author < 0 ∨ n ≤ x.author ∨ x.key < 0 ∨ 15 < x.key ∨ x.sum < -(mostT c n x) ∨ mostT c n x < x.sum ∨ x.sum = 0
  · rw [if_pos h1]; constructor
    · intro h; cases h
    · intro h; exact absurd h1 h.1
  · rw [if_neg h1]
    cases p with
    | none => simp [h1]
    | some q =>
      by_cases h3 : 0 ≤ ordT q x
      · rw [if_pos (decide_eq_true h3)]; constructor
        · intro h; cases h
        · intro h; have := h.2.1 q rfl; omega
      · rw [if_neg (by simpa using h3)]
        exact ⟨fun h => ⟨h1, fun q' hq => by injection hq with hq; subst hq; omega, h⟩, fun h => h.2.2⟩
theorem wrongL_iff {c : List Int} {n : Int} : ∀ {l : List Live} {p : Option Live} {i : Nat}, (wrongL c n p l i).1 = 0 ↔ (∀ x ∈ l, LiveOk c n x) ∧ (l ≠ [] → SortedL (p.toList ++ l))
  | [], p, i => by simp [wrongL]
  | x :: l, p, i => by
    have ih := wrongL_iff (c := c) (n := n) (l := l) (p := some x) (i := i + 1)
    unfold SortedL at ih ⊢
    rw [wrongL_cons, chain_cons (f := ordL) ordL_trans, ih]
    constructor
    · rintro ⟨⟨h1, h2⟩, h3, a, b⟩
      refine ⟨fun y hy => ?_, fun _ => ⟨h3, ?_⟩⟩
      · rcases List.mem_cons.1 hy with e | hy
        · subst e; exact ⟨by omega, by omega, by omega, by omega, by omega, by omega, by omega, by omega⟩
        · exact a y hy
      · cases l with
        | nil => simp
        | cons z l => exact b (by simp)
    · rintro ⟨a, b⟩
      have hx := a x (by simp)
      obtain ⟨b1, b2⟩ := b (by simp)
      exact ⟨⟨by have := hx.a0; have := hx.a1; have := hx.q0; have := hx.k0; have := hx.k1; have := hx.i0; have := hx.i1; omega, by have := hx.q1; omega⟩, b1, fun y hy => a y (by simp [hy]), fun _ => b2⟩
theorem wrongT_iff {c : List Int} {n : Int} : ∀ {l : List Tally} {p : Option Tally} {i : Nat}, (wrongT c n p l i).1 = 0 ↔ (∀ x ∈ l, TallyOk c n x) ∧ (l ≠ [] → SortedT (p.toList ++ l))
  | [], p, i => by simp [wrongT]
  | x :: l, p, i => by
    have ih := wrongT_iff (c := c) (n := n) (l := l) (p := some x) (i := i + 1)
    unfold SortedT at ih ⊢
    rw [wrongT_cons, chain_cons (f := ordT) ordT_trans, ih]
    constructor
    · rintro ⟨h1, h3, a, b⟩
      refine ⟨fun y hy => ?_, fun _ => ⟨h3, ?_⟩⟩
      · rcases List.mem_cons.1 hy with e | hy
        · subst e
          have e : mostT c n y = 1000 * atI c y.author.toNat := by unfold mostT; rw [if_pos (by omega)]
          rw [e] at h1
          exact ⟨by omega, by omega, by omega, by omega, by omega, by omega, by omega⟩
        · exact a y hy
      · cases l with
        | nil => simp
        | cons z l => exact b (by simp)
    · rintro ⟨a, b⟩
      have hx := a x (by simp)
      obtain ⟨b1, b2⟩ := b (by simp)
      have e : mostT c n x = 1000 * atI c x.author.toNat := by unfold mostT; rw [if_pos ⟨hx.a0, hx.a1⟩]
      exact ⟨by rw [e]; have := hx.a0; have := hx.a1; have := hx.k0; have := hx.k1; have := hx.s0; have := hx.s1; have := hx.ne; omega, b1, fun y hy => a y (by simp [hy]), fun _ => b2⟩
theorem sorted_nil_or {α : Type} {l : List α} {r : α → α → Prop} (h : l ≠ [] → l.Pairwise r) : l.Pairwise r := by
  cases l with
  | nil => simp
  | cons x l => exact h (by simp)
theorem wrongS_iff {s : State} {n : Int} : (wrongS s n).1 = 0 ↔ RightS s n := by
  unfold wrongS
  constructor
  · intro h
    split at h
    · rename_i h1; exact absurd h h1
    · rename_i h1
      split at h
      · rename_i h2; exact absurd h h2
      · rename_i h2
        have e2 := wrongL_iff.1 (Classical.not_not.1 h2)
        have e3 := wrongT_iff.1 h
        exact ⟨Classical.not_not.1 h1, e2.1, sorted_nil_or e2.2, e3.1, sorted_nil_or e3.2⟩
  · intro h
    have e2 := wrongL_iff (i := 0) (p := none).2 ⟨h.l, fun _ => h.ls⟩
    have e3 := wrongT_iff (i := 0) (p := none).2 ⟨h.t, fun _ => h.ts⟩
    rw [if_neg (fun k => k h.c), if_neg (fun k => k e2), e3]
/-- how long a right state's lists may be -/
def numL (x : Live) : Nat := ((((if x.set then 1 else 0) * 16 + x.key.toNat) * 2001 + (x.item + 1000).toNat) * 6 + x.author.toNat) * 1001 + x.seq.toNat
theorem numL_lt {c : List Int} {n : Int} (hc : wrongC c n = 0) {a b : Live} (ha : LiveOk c n a) (hb : LiveOk c n b) (h : ordL a b < 0) : numL a < numL b := by
  have hn := wrongC_ok hc
  have q1 := atI_bd hc a.author.toNat
  have q2 := atI_bd hc b.author.toNat
  obtain ⟨a1, a2, a3, a4, a5, a6, a7, a8⟩ := ha
  obtain ⟨b1, b2, b3, b4, b5, b6, b7, b8⟩ := hb
  rw [ordL_code] at h
  unfold codeL at h
  simp only [lexI_cons] at h
  unfold numL
  obtain ⟨s1, k1, i1, u1, r1⟩ := a
  obtain ⟨s2, k2, i2, u2, r2⟩ := b
  dsimp only at *
  rcases h with h | ⟨h0, h | ⟨h1, h | ⟨h2, h | ⟨h3, h | ⟨h4, h⟩⟩⟩⟩⟩
  · cases s1 <;> cases s2 <;> simp at h ⊢ <;> omega
  · cases s1 <;> cases s2 <;> simp at h0 ⊢ <;> omega
  · subst h1; cases s1 <;> cases s2 <;> simp at h0 ⊢ <;> omega
  · subst h1 h2; cases s1 <;> cases s2 <;> simp at h0 ⊢ <;> omega
  · subst h1 h2 h3; cases s1 <;> cases s2 <;> simp at h0 ⊢ <;> omega
  · simp [lexI] at h
theorem numL_bd {c : List Int} {n : Int} (hc : wrongC c n = 0) {a : Live} (ha : LiveOk c n a) : numL a < 400000000 := by
  have hn := wrongC_ok hc
  have q1 := atI_bd hc a.author.toNat
  obtain ⟨a1, a2, a3, a4, a5, a6, a7, a8⟩ := ha
  unfold numL
  split <;> omega
def numT (x : Tally) : Nat := x.key.toNat * 6 + x.author.toNat
theorem RightS.lives_len {s : State} {n : Int} (h : RightS s n) : s.lives.length ≤ 400000000 := by
  have := incr_len (f := numL) (N := 400000000) (l := s.lives) (m := 0) (List.Pairwise.imp_of_mem (fun {a b} ha hb hab => numL_lt h.c (h.l a ha) (h.l b hb) hab) h.ls) (fun x hx => ⟨Nat.zero_le _, numL_bd h.c (h.l x hx)⟩) (by omega)
  omega
theorem RightS.tallies_len {s : State} {n : Int} (h : RightS s n) : s.tallies.length ≤ 96 := by
  have hn := wrongC_ok h.c
  have := incr_len (f := numT) (N := 96) (l := s.tallies) (m := 0) (List.Pairwise.imp_of_mem (fun {a b} ha hb hab => by
    have ⟨a1, a2, a3, a4, _, _, _⟩ := h.t a ha
    have ⟨b1, b2, b3, b4, _, _, _⟩ := h.t b hb
    rw [ordT_code] at hab
    unfold codeT at hab
    simp only [lexI_cons] at hab
    unfold numT
    rcases hab with h | ⟨h1, h | ⟨h2, h⟩⟩
    · omega
    · omega
    · simp [lexI] at h) h.ts) (fun x hx => ⟨Nat.zero_le _, by
      have ⟨a1, a2, a3, a4, _, _, _⟩ := h.t x hx
      unfold numT; omega⟩) (by omega)
  omega
theorem RightS.clock_len {s : State} {n : Int} (h : RightS s n) : s.clock.length ≤ 6 := by have := wrongC_ok h.c; omega
/-! ## what stays -/
def hitT (k a : Int) (t : Tally) : Bool := decide (t.key = k) && decide (t.author = a)
theorem hitT_iff {k a : Int} {t : Tally} : hitT k a t = true ↔ t.key = k ∧ t.author = a := by unfold hitT; simp
end Go.Proofs.Ytkjknlnhffmkkab

namespace Go.Proofs.Ytkjknlnhffmkkab
set_option linter.unusedVariables false

def playS (s : State) (l : List Upd) : State := l.foldl applyS s
end Go.Proofs.Ytkjknlnhffmkkab

namespace Go.Proofs.Ytkjknlnhffmkkab
set_option linter.unusedVariables false

def zeroS : State := ⟨[], [], []⟩
def lenI {α : Type} (l : List α) : Int := (l.length : Int)
end Go.Proofs.Ytkjknlnhffmkkab

namespace Go.Proofs.Ytkjknlnhffmkkab
set_option linter.unusedVariables false

structure Cell where
  key : Int
  items : List Int
deriving DecidableEq
structure Pair where
  key : Int
  sum : Int
deriving DecidableEq
def PairR : CR Pair := fun _ cs x => cs = [.int .i64 x.key, .int .i64 x.sum]
instance : GoodR PairR := ⟨fun _ _ _ _ _ h => h, fun _ _ _ h u hu => by
  cases h; simp only [List.mem_cons, List.not_mem_nil, or_false] at hu; rcases hu with h | h <;> subst h <;> rfl⟩
section
variable {set : Bool} {out F : List Cell} {x : Live} {key : Int} {its : List Int} {y : Int}
end
theorem foldl_take {α β : Type} {f : β → α → β} {b : β} {l : List α} {k : Nat} {x : α} (h : l[k]? = some x) : (l.take (k + 1)).foldl f b = f ((l.take k).foldl f b) x := by
  rw [take_snoc h, List.foldl_append]; rfl
section
variable {F : List Pair} {t : Tally} {key sum : Int}
end
end Go.Proofs.Ytkjknlnhffmkkab

namespace Go.Proofs.Ytkjknlnhffmkkab
set_option linter.unusedVariables false

end Go.Proofs.Ytkjknlnhffmkkab

namespace Go.Proofs.Ytkjknlnhffmkkab
set_option linter.unusedVariables false

def Fits (n : Int) : List Int → List Upd → Prop
  | _, [] => True
  | c, u :: l => StepOk c u n ∧ Fits n (tickC c u.author) l
end Go.Proofs.Ytkjknlnhffmkkab

namespace Go.Proofs.Ytkjknlnhffmkkab
set_option linter.unusedVariables false

/-! ## sorting -/
def sortL (l : List Live) : List Live := l.foldl (insO ordL) []
def sortT (l : List Tally) : List Tally := l.foldl (insO ordT) []
theorem sortL_aux : ∀ (l o : List Live), SortedL o → l.Nodup → (∀ x ∈ l, x ∉ o) → SortedL (l.foldl (insO ordL) o) ∧ ∀ x, x ∈ l.foldl (insO ordL) o ↔ x ∈ o ∨ x ∈ l
  | [], o, h, _, _ => ⟨h, by simp⟩
  | y :: l, o, h, hn, hd => by
    rw [List.nodup_cons] at hn
    have h1 : SortedL (insO ordL o y) := insO_sorted (f := ordL) (fun a b => ordL_swap) ordL_trans h fun z hz e => by
      rw [ordL_zero] at e; subst e; exact hd z (by simp) hz
    obtain ⟨a, b⟩ := sortL_aux l (insO ordL o y) h1 hn.2 fun x hx hx' => by
      rcases insO_mem.1 hx' with k | k
      · exact hd x (by simp [hx]) k
      · subst k; exact hn.1 hx
    refine ⟨a, fun x => ?_⟩
    rw [List.foldl_cons, b, insO_mem, List.mem_cons, or_assoc]
theorem sortL_ok {l : List Live} (h : l.Nodup) : SortedL (sortL l) ∧ ∀ x, x ∈ sortL l ↔ x ∈ l := by
  obtain ⟨a, b⟩ := sortL_aux l [] .nil h (by simp)
  exact ⟨a, fun x => by rw [sortL, b]; simp⟩
theorem sortL_eq {l r : List Live} (h : l.Nodup) (p : r.Perm l) (hs : r.Pairwise fun a b => ordL a b ≤ 0) : r = sortL l := by
  obtain ⟨a, b⟩ := sortL_ok h
  refine sortedL_ext ?_ a fun x => by rw [b, p.mem_iff]
  have hn : r.Nodup := p.symm.nodup h
  exact (List.pairwise_and_iff.2 ⟨hs, hn⟩).imp fun {x y} ⟨h1, h2⟩ => by
    have : ordL x y ≠ 0 := fun e => h2 (ordL_zero.1 e)
    omega
abbrev DistT (l : List Tally) : Prop := l.Pairwise fun a b => ordT a b ≠ 0
theorem sortT_aux : ∀ (l o : List Tally), SortedT o → DistT l → (∀ x ∈ l, ∀ y ∈ o, ordT y x ≠ 0) → SortedT (l.foldl (insO ordT) o) ∧ ∀ x, x ∈ l.foldl (insO ordT) o ↔ x ∈ o ∨ x ∈ l
  | [], o, h, _, _ => ⟨h, by simp⟩
  | y :: l, o, h, hn, hd => by
    unfold DistT at hn
    rw [List.pairwise_cons] at hn
    have h1 : SortedT (insO ordT o y) := insO_sorted (f := ordT) (fun a b => ordT_swap) ordT_trans h fun z hz => hd y (by simp) z hz
    obtain ⟨a, b⟩ := sortT_aux l (insO ordT o y) h1 hn.2 fun x hx z hz => by
      rcases insO_mem.1 hz with k | k
      · exact hd x (by simp [hx]) z k
      · subst k; exact hn.1 x hx
    refine ⟨a, fun x => ?_⟩
    rw [List.foldl_cons, b, insO_mem, List.mem_cons, or_assoc]
theorem sortT_ok {l : List Tally} (h : DistT l) : SortedT (sortT l) ∧ ∀ x, x ∈ sortT l ↔ x ∈ l := by
  obtain ⟨a, b⟩ := sortT_aux l [] .nil h (by simp)
  exact ⟨a, fun x => by rw [sortT, b]; simp⟩
theorem ordT_ne_swap {a b : Tally} (h : ordT a b ≠ 0) : ordT b a ≠ 0 := by rw [ordT_swap]; omega
theorem sortT_eq {l r : List Tally} (h : DistT l) (p : r.Perm l) (hs : r.Pairwise fun a b => ordT a b ≤ 0) : r = sortT l := by
  obtain ⟨a, b⟩ := sortT_ok h
  refine sortedT_ext ?_ a fun x => by rw [b, p.mem_iff]
  have hn : DistT r := (p.symm.pairwise_iff (fun {x y} => ordT_ne_swap)).1 h
  exact (List.pairwise_and_iff.2 ⟨hs, hn⟩).imp fun {x y} ⟨h1, h2⟩ => by omega
/-! ## joined -/
def staysL (o : State) (x : Live) : Bool := o.lives.contains x || !hasC o.clock x.author x.seq
def joinL (a b : State) : List Live := b.lives.foldl (fun out x => if (staysL a x && !out.contains x) = true then out ++ [x] else out) (a.lives.filter (staysL b))
def joinT (a b : State) : List Tally := (a.tallies.filter fun t => decide (atI b.clock t.author.toNat ≤ atI a.clock t.author.toNat)) ++ b.tallies.filter fun t => decide (atI a.clock t.author.toNat < atI b.clock t.author.toNat)
def joinS (a b : State) : State := ⟨joinC a.clock b.clock, sortL (joinL a b), sortT (joinT a b)⟩
def JoinS (a b : State) : State × Int :=
  if (wrongS a (lenI a.clock)).1 ≠ 0 then (zeroS, (wrongS a (lenI a.clock)).1)
  else if (wrongS b (lenI a.clock)).1 ≠ 0 then (zeroS, (wrongS b (lenI a.clock)).1)
  else (joinS a b, 0)
theorem joinL_aux {a : State} : ∀ (l o : List Live), o.Nodup → (l.foldl (fun out x => if (staysL a x && !out.contains x) = true then out ++ [x] else out) o).Nodup ∧ ∀ x, x ∈ l.foldl (fun out x => if (staysL a x && !out.contains x) = true then out ++ [x] else out) o ↔ x ∈ o ∨ (x ∈ l ∧ staysL a x = true)
  | [], o, h => ⟨h, by simp⟩
  | y :: l, o, h => by
    rw [List.foldl_cons]
    by_cases hy : (staysL a y && !o.contains y) = true
    · rw [if_pos hy]
      rw [Bool.and_eq_true, Bool.not_eq_true', List.contains_eq_mem, decide_eq_false_iff_not] at hy
      obtain ⟨p, q⟩ := joinL_aux l (o ++ [y]) (by
        rw [List.nodup_append]
        refine ⟨h, by simp, fun z hz w hw e => ?_⟩
        rw [List.mem_singleton] at hw; subst hw e; exact hy.2 hz)
      refine ⟨p, fun x => ?_⟩
      rw [q, List.mem_append, List.mem_singleton, List.mem_cons]
      constructor
      · rintro ((k | k) | k)
        · exact .inl k
        · subst k; exact .inr ⟨.inl rfl, hy.1⟩
        · exact .inr ⟨.inr k.1, k.2⟩
      · rintro (k | ⟨k | k, k2⟩)
        · exact .inl (.inl k)
        · exact .inl (.inr k)
        · exact .inr ⟨k, k2⟩
    · rw [if_neg hy]
      rw [Bool.and_eq_true, Bool.not_eq_true', List.contains_eq_mem, decide_eq_false_iff_not] at hy
      obtain ⟨p, q⟩ := joinL_aux l o h
      refine ⟨p, fun x => ?_⟩
      rw [q, List.mem_cons]
      constructor
      · rintro (k | k)
        · exact .inl k
        · exact .inr ⟨.inr k.1, k.2⟩
      · rintro (k | ⟨k | k, k2⟩)
        · exact .inl k
        · subst k; left; exact Classical.byContradiction fun hn => hy ⟨k2, hn⟩
        · exact .inr ⟨k, k2⟩
theorem sortedL_nodup {l : List Live} (h : SortedL l) : l.Nodup := h.imp fun {a b} h e => by subst e; rw [ordL_zero.2 rfl] at h; omega
theorem joinL_ok {a b : State} {n : Int} (ha : RightS a n) (hb : RightS b n) : (joinL a b).Nodup ∧ ∀ x, x ∈ joinL a b ↔ (x ∈ a.lives ∧ staysL b x = true) ∨ (x ∈ b.lives ∧ staysL a x = true) := by
  obtain ⟨p, q⟩ := joinL_aux (a := a) b.lives (a.lives.filter (staysL b)) ((sortedL_nodup ha.ls).filter _)
  exact ⟨p, fun x => by rw [joinL, q, List.mem_filter]⟩
theorem joinT_dist {a b : State} {n : Int} (ha : RightS a n) (hb : RightS b n) : DistT (joinT a b) := by
  unfold joinT DistT
  rw [List.pairwise_append]
  have key : ∀ {l : List Tally}, SortedT l → l.Pairwise fun a b => ordT a b ≠ 0 := fun h => h.imp fun h => by omega
  refine ⟨key (List.Pairwise.filter _ ha.ts), key (List.Pairwise.filter _ hb.ts), fun x hx y hy e => ?_⟩
  rw [List.mem_filter, decide_eq_true_eq] at hx hy
  have := (ordT_zero.1 e).2
  rw [this] at hx
  omega
theorem foldl_ins_perm {α : Type} {f : α → α → Int} : ∀ (l o : List α), (l.foldl (insO f) o).Perm (o ++ l)
  | [], o => by simp
  | y :: l, o => by
    rw [List.foldl_cons]
    refine (foldl_ins_perm l _).trans ?_
    have p1 : (insO f o y).Perm (o ++ [y]) := by
      unfold insO
      rw [List.append_assoc]
      have : (List.take (idxO (fun z => f z y) o) o ++ ([y] ++ List.drop (idxO (fun z => f z y) o) o)).Perm (List.take (idxO (fun z => f z y) o) o ++ (List.drop (idxO (fun z => f z y) o) o ++ [y])) := List.Perm.append_left _ List.perm_append_comm
      have e2 : List.take (idxO (fun z => f z y) o) o ++ (List.drop (idxO (fun z => f z y) o) o ++ [y]) = o ++ [y] := by rw [← List.append_assoc, List.take_append_drop]
      rw [e2] at this
      exact this
    have := p1.append_right l
    simpa using this
theorem joinS_mem {a b : State} {n : Int} (ha : RightS a n) (hb : RightS b n) {x : Live} : x ∈ (joinS a b).lives ↔ (x ∈ a.lives ∧ staysL b x = true) ∨ (x ∈ b.lives ∧ staysL a x = true) := by
  obtain ⟨p, q⟩ := joinL_ok ha hb
  show x ∈ sortL (joinL a b) ↔ _
  rw [(sortL_ok p).2, q]
theorem wrongC_at {c : List Int} {n : Int} (h1 : 1 ≤ n) (h2 : n ≤ 6) (h3 : (c.length : Int) = n) (h4 : ∀ k, 0 ≤ atI c k ∧ atI c k ≤ 1000) : wrongC c n = 0 :=
  wrongC_of h1 h2 h3 fun x hx => by
    obtain ⟨j, hj, e⟩ := List.getElem_of_mem hx
    rw [← e, ← atI_lt hj]; exact h4 j
theorem joinC_ok {a b : List Int} {n : Int} (ha : wrongC a n = 0) (hb : wrongC b n = 0) : wrongC (joinC a b) n = 0 := by
  have h1 := wrongC_ok ha; have h2 := wrongC_ok hb
  refine wrongC_at h1.1 h1.2.1 (by rw [joinC_len]; omega) fun k => ?_
  have := atI_bd ha k; have := atI_bd hb k
  rw [joinC_at]; omega
theorem joinS_right {a b : State} {n : Int} (ha : RightS a n) (hb : RightS b n) : RightS (joinS a b) n := by
  obtain ⟨p, q⟩ := joinL_ok ha hb
  have d := joinT_dist ha hb
  refine ⟨joinC_ok ha.c hb.c, fun x hx => ?_, (sortL_ok p).1, fun x hx => ?_, (sortT_ok d).1⟩
  · rcases (joinS_mem ha hb).1 hx with ⟨h, _⟩ | ⟨h, _⟩
    · obtain ⟨a1, a2, a3, a4, a5, a6, a7, a8⟩ := ha.l x h
      exact ⟨a1, a2, a3, by show _ ≤ atI (joinC _ _) _; rw [joinC_at]; omega, a5, a6, a7, a8⟩
    · obtain ⟨a1, a2, a3, a4, a5, a6, a7, a8⟩ := hb.l x h
      exact ⟨a1, a2, a3, by show _ ≤ atI (joinC _ _) _; rw [joinC_at]; omega, a5, a6, a7, a8⟩
  · have hx : x ∈ sortT (joinT a b) := hx
    rw [(sortT_ok d).2] at hx
    unfold joinT at hx
    rw [List.mem_append, List.mem_filter, List.mem_filter, decide_eq_true_eq, decide_eq_true_eq] at hx
    rcases hx with ⟨h, k⟩ | ⟨h, k⟩
    · obtain ⟨a1, a2, a3, a4, a5, a6, a7⟩ := ha.t x h
      exact ⟨a1, a2, a3, a4, by show _ ≤ _; show -(1000 * atI (joinC _ _) _) ≤ _; rw [joinC_at]; omega, by show _ ≤ 1000 * atI (joinC _ _) _; rw [joinC_at]; omega, a7⟩
    · obtain ⟨a1, a2, a3, a4, a5, a6, a7⟩ := hb.t x h
      exact ⟨a1, a2, a3, a4, by show -(1000 * atI (joinC _ _) _) ≤ _; rw [joinC_at]; omega, by show _ ≤ 1000 * atI (joinC _ _) _; rw [joinC_at]; omega, a7⟩
/-! ## the state of those updates that a clock has -/
def startS (n : Nat) : State := ⟨List.replicate n 0, [], []⟩
def mineU (A : List Int) (l : List Upd) : List Upd := l.filter (hasU A)
def ofS (n : Nat) (l : List Upd) (A : List Int) : State := playS (startS n) (mineU A l)
def Closed (A : List Int) (l : List Upd) : Prop := ∀ u ∈ l, hasU A u = true → seesC A u.seen = true
/-- a log from the beginning, and a clock that is closed over it -/
structure Part (n : Nat) (l : List Upd) (A : List Int) : Prop where
  n1 : 1 ≤ n
  n6 : n ≤ 6
  f : Fits n (List.replicate n 0) l
  a : wrongC A n = 0
  c : Closed A l
end Go.Proofs.Ytkjknlnhffmkkab

namespace Go.Proofs.Ytkjknlnhffmkkab
set_option linter.unusedVariables false

theorem JoinS_of {a b : State} {n : Int} (ha : RightS a n) (hb : RightS b n) : JoinS a b = (joinS a b, 0) := by
  have e : lenI a.clock = n := (wrongC_ok ha.c).2.2.1
  unfold JoinS
  rw [e, if_neg (fun k => k (wrongS_iff.2 ha)), if_neg (fun k => k (wrongS_iff.2 hb))]
end Go.Proofs.Ytkjknlnhffmkkab

namespace Go.Proofs.Ytkjknlnhffmkkab
set_option linter.unusedVariables false

def aheadL (a b : Live) : Bool := decide (ordL a b < 0)
def putStep (x : Live) (p : List Live × Bool) (y : Live) : List Live × Bool := if p.2 = false ∧ aheadL x y = true then (p.1 ++ [x] ++ [y], true) else (p.1 ++ [y], p.2)
def putEnd (x : Live) (p : List Live × Bool) : List Live := if p.2 = false then p.1 ++ [x] else p.1
def putL (l : List Live) (x : Live) : List Live := putEnd x (l.foldl (putStep x) ([], false))
theorem put_true (x : Live) : ∀ (l o : List Live), l.foldl (putStep x) (o, true) = (o ++ l, true)
  | [], o => by simp
  | y :: l, o => by
    rw [List.foldl_cons]
    have : putStep x (o, true) y = (o ++ [y], true) := by unfold putStep; rw [if_neg (by simp)]
    rw [this, put_true x l]; simp
theorem put_false {x : Live} : ∀ {l : List Live} {o : List Live}, x ∉ l → putEnd x (l.foldl (putStep x) (o, false)) = o ++ insO ordL l x
  | [], o, _ => by simp [putEnd, insO, idxO]
  | y :: l, o, h => by
    rw [List.foldl_cons]
    have hne : ¬ x = y := fun e => h (by simp [e])
    by_cases ha : aheadL x y = true
    · have e1 : putStep x (o, false) y = (o ++ [x] ++ [y], true) := by unfold putStep; rw [if_pos ⟨rfl, ha⟩]
      rw [e1, put_true]
      have h1 := of_decide_eq_true ha
      have h2 := ordL_swap (a := x) (b := y)
      have e2 : idxO (fun z => ordL z x) (y :: l) = 0 := by unfold idxO; rw [List.findIdx_cons, decide_eq_true (show 0 ≤ ordL y x by omega)]; rfl
      unfold putEnd insO
      rw [e2, if_neg (by simp)]; simp
    · have e1 : putStep x (o, false) y = (o ++ [y], false) := by unfold putStep; rw [if_neg (fun k => ha k.2)]
      rw [e1, put_false (fun k => h (List.mem_cons_of_mem _ k))]
      have h1 : ¬ ordL x y < 0 := fun k => ha (decide_eq_true k)
      have h2 := ordL_swap (a := x) (b := y)
      have h3 : ordL x y ≠ 0 := fun k => hne (ordL_zero.1 k)
      have e2 : idxO (fun z => ordL z x) (y :: l) = idxO (fun z => ordL z x) l + 1 := by unfold idxO; rw [List.findIdx_cons, decide_eq_false (show ¬ 0 ≤ ordL y x by omega)]; rfl
      unfold insO
      rw [e2]; simp
theorem put_ins {l : List Live} {x : Live} (h : x ∉ l) : putL l x = insO ordL l x := by unfold putL; rw [put_false h]; simp
theorem ins_sorted {l : List Live} {x : Live} (h : SortedL l) (hn : x ∉ l) : SortedL (insO ordL l x) :=
  insO_sorted (f := ordL) (fun a b => ordL_swap) ordL_trans h fun y hy e => hn (by rw [← ordL_zero.1 e]; exact hy)

/-! ## playing -/
theorem ordT_lt {a b : Tally} : ordT a b < 0 ↔ a.key < b.key ∨ (a.key = b.key ∧ a.author < b.author) := by
  rw [ordT_code]; unfold codeT
  rw [lexI_cons, lexI_cons]
  simp [lexI]
theorem grid_sorted {n : Nat} {f : Nat → Nat → List Tally} (h1 : ∀ k a, ∀ t ∈ f k a, t.key = k ∧ t.author = a) (h2 : ∀ k a, SortedT (f k a)) : SortedT ((List.range 16).flatMap fun key => (List.range n).flatMap fun a => f key a) := by
  refine List.pairwise_flatMap.2 ⟨fun k _ => List.pairwise_flatMap.2 ⟨fun a _ => h2 k a, ?_⟩, ?_⟩
  · refine List.pairwise_lt_range.imp fun {a b} hab x hx y hy => ordT_lt.2 ?_
    have := h1 _ _ x hx; have := h1 _ _ y hy; omega
  · refine List.pairwise_lt_range.imp fun {a b} hab x hx y hy => ordT_lt.2 ?_
    obtain ⟨i, _, hx⟩ := List.mem_flatMap.1 hx
    obtain ⟨j, _, hy⟩ := List.mem_flatMap.1 hy
    have := h1 _ _ x hx; have := h1 _ _ y hy; omega
theorem grid_mem {n : Nat} {f : Nat → Nat → List Tally} {t : Tally} : t ∈ ((List.range 16).flatMap fun key => (List.range n).flatMap fun a => f key a) ↔ ∃ k a, k < 16 ∧ a < n ∧ t ∈ f k a := by
  simp only [List.mem_flatMap, List.mem_range]
  constructor
  · rintro ⟨k, hk, a, ha, h⟩; exact ⟨k, a, hk, ha, h⟩
  · rintro ⟨k, a, hk, ha, h⟩; exact ⟨k, hk, a, ha, h⟩
def keepsR (o : State) (x : Live) : Bool := o.lives.contains x || decide (atI o.clock x.author.toNat < x.seq)
def bothStep (o : State) (out : List Live) (x : Live) : List Live := if out.contains x = true then out else if keepsR o x = true then putL out x else out
def bothR (a b : State) : List Live := b.lives.foldl (bothStep a) (a.lives.foldl (bothStep b) [])
theorem keepsR_stays {o : State} {x : Live} (h0 : 0 ≤ x.author) (h1 : x.author < o.clock.length) : keepsR o x = staysL o x := by
  unfold keepsR staysL hasC
  rw [decide_eq_true h0, decide_eq_true h1]
  simp only [Bool.true_and]
  congr 1
  rw [Bool.eq_iff_iff]; simp
theorem both_ok {o : State} : ∀ {ls out : List Live}, SortedL out → SortedL (ls.foldl (bothStep o) out) ∧ ∀ x, x ∈ ls.foldl (bothStep o) out ↔ x ∈ out ∨ (x ∈ ls ∧ keepsR o x = true)
  | [], out, h => ⟨h, by simp⟩
  | y :: ls, out, h => by
    rw [List.foldl_cons]
    by_cases hc : out.contains y = true
    · have e : bothStep o out y = out := by unfold bothStep; rw [if_pos hc]
      rw [e]
      obtain ⟨a, b⟩ := both_ok (o := o) (ls := ls) h
      refine ⟨a, fun x => ?_⟩
      rw [b]
      constructor
      · rintro (k | k)
        · exact .inl k
        · exact .inr ⟨by simp [k.1], k.2⟩
      · rintro (k | ⟨k, k2⟩)
        · exact .inl k
        · rcases List.mem_cons.1 k with rfl | k
          · exact .inl (List.contains_iff_mem.1 hc)
          · exact .inr ⟨k, k2⟩
    · by_cases hk : keepsR o y = true
      · have hno : y ∉ out := fun k => hc (List.contains_iff_mem.2 k)
        have e : bothStep o out y = insO ordL out y := by unfold bothStep; rw [if_neg hc, if_pos hk, put_ins hno]
        rw [e]
        obtain ⟨a, b⟩ := both_ok (o := o) (ls := ls) (ins_sorted h hno)
        refine ⟨a, fun x => ?_⟩
        rw [b, insO_mem]
        constructor
        · rintro ((k | rfl) | k)
          · exact .inl k
          · exact .inr ⟨by simp, hk⟩
          · exact .inr ⟨by simp [k.1], k.2⟩
        · rintro (k | ⟨k, k2⟩)
          · exact .inl (.inl k)
          · rcases List.mem_cons.1 k with rfl | k
            · exact .inl (.inr rfl)
            · exact .inr ⟨k, k2⟩
      · have e : bothStep o out y = out := by unfold bothStep; rw [if_neg hc, if_neg hk]
        rw [e]
        obtain ⟨a, b⟩ := both_ok (o := o) (ls := ls) h
        refine ⟨a, fun x => ?_⟩
        rw [b]
        constructor
        · rintro (k | k)
          · exact .inl k
          · exact .inr ⟨by simp [k.1], k.2⟩
        · rintro (k | ⟨k, k2⟩)
          · exact .inl k
          · rcases List.mem_cons.1 k with rfl | k
            · exact absurd k2 hk
            · exact .inr ⟨k, k2⟩
def fromR (a b : State) (i : Nat) : State := if atI a.clock i < atI b.clock i then b else a
def joinTR (a b : State) (n : Nat) : List Tally := (List.range 16).flatMap fun (key : Nat) => (List.range n).flatMap fun (i : Nat) => (fromR a b i).tallies.filter (hitT (key : Nat) (i : Nat))
theorem joinR_ok {a b : State} {n : Int} (ha : RightS a n) (hb : RightS b n) : JoinS a b = (⟨joinC a.clock b.clock, bothR a b, joinTR a b a.clock.length⟩, 0) := by
  rw [JoinS_of ha hb]
  have hr := joinS_right ha hb
  have hl := wrongC_ok ha.c; have hl2 := wrongC_ok hb.c
  have e1 : (joinS a b).lives = bothR a b := by
    obtain ⟨s1, m1⟩ := both_ok (o := b) (ls := a.lives) (out := []) .nil
    obtain ⟨s2, m2⟩ := both_ok (o := a) (ls := b.lives) s1
    refine sortedL_ext hr.ls s2 fun x => ?_
    unfold bothR
    rw [joinS_mem ha hb, m2, m1]
    constructor
    · rintro (⟨k1, k2⟩ | ⟨k1, k2⟩)
      · exact .inl (.inr ⟨k1, by rw [keepsR_stays (ha.l x k1).a0 (by have := (ha.l x k1).a1; omega)]; exact k2⟩)
      · exact .inr ⟨k1, by rw [keepsR_stays (hb.l x k1).a0 (by have := (hb.l x k1).a1; omega)]; exact k2⟩
    · rintro ((k | ⟨k1, k2⟩) | ⟨k1, k2⟩)
      · cases k
      · exact .inl ⟨k1, by rw [← keepsR_stays (ha.l x k1).a0 (by have := (ha.l x k1).a1; omega)]; exact k2⟩
      · exact .inr ⟨k1, by rw [← keepsR_stays (hb.l x k1).a0 (by have := (hb.l x k1).a1; omega)]; exact k2⟩
  have e2 : (joinS a b).tallies = joinTR a b a.clock.length := by
    refine sortedT_ext hr.ts (grid_sorted (f := fun key i => (fromR a b i).tallies.filter (hitT (key : Nat) (i : Nat))) (fun k i t ht => ?_) (fun k i => ?_)) fun x => ?_
    · exact hitT_iff.1 (List.mem_filter.1 ht).2
    · unfold fromR; split
      · exact hb.ts.sublist List.filter_sublist
      · exact ha.ts.sublist List.filter_sublist
    · have hm : x ∈ (joinS a b).tallies ↔ x ∈ joinT a b := (sortT_ok (joinT_dist ha hb)).2 x
      rw [hm]
      unfold joinTR
      rw [grid_mem]
      unfold joinT
      rw [List.mem_append, List.mem_filter, List.mem_filter]
      constructor
      · rintro (⟨k1, k2⟩ | ⟨k1, k2⟩)
        · have k2 := of_decide_eq_true k2
          have ok := ha.t x k1; have := ok.a0; have := ok.a1; have := ok.k0; have := ok.k1
          refine ⟨x.key.toNat, x.author.toNat, by omega, by omega, List.mem_filter.2 ⟨?_, hitT_iff.2 ⟨by omega, by omega⟩⟩⟩
          unfold fromR; rw [if_neg (by omega)]; exact k1
        · have k2 := of_decide_eq_true k2
          have ok := hb.t x k1; have := ok.a0; have := ok.a1; have := ok.k0; have := ok.k1
          refine ⟨x.key.toNat, x.author.toNat, by omega, by omega, List.mem_filter.2 ⟨?_, hitT_iff.2 ⟨by omega, by omega⟩⟩⟩
          unfold fromR; rw [if_pos (by omega)]; exact k1
      · rintro ⟨k, i, hk, hi, h⟩
        obtain ⟨h1, h2⟩ := List.mem_filter.1 h
        obtain ⟨h3, h4⟩ := hitT_iff.1 h2
        have h5 : x.author.toNat = i := by omega
        unfold fromR at h1
        split at h1
        · rename_i h6; exact .inr ⟨h1, decide_eq_true (by rw [h5]; exact h6)⟩
        · rename_i h6; exact .inl ⟨h1, decide_eq_true (by rw [h5]; omega)⟩
  rw [← e1, ← e2]
  rfl
end Go.Proofs.Ytkjknlnhffmkkab

namespace Go.Proofs.Ytkjknlnhffmkkab
set_option linter.unusedVariables false

structure Node where
  self : Int
  state : State
  base : List Int
  log : List Upd
  known : List (List Int)
deriving DecidableEq
structure Parcel where
  whole : Bool
  state : State
  updates : List Upd
  clock : List Int
deriving DecidableEq
def foldC (c : List Int) (l : List Upd) : List Int := l.foldl (fun c u => tickC c u.author) c
end Go.Proofs.Ytkjknlnhffmkkab

namespace Go.Proofs.Ytkjknlnhffmkkab
set_option linter.unusedVariables false

end Go.Proofs.Ytkjknlnhffmkkab

namespace Go.Proofs.Ytkjknlnhffmkkab
set_option linter.unusedVariables false

def zs (n : Nat) : List Int := List.replicate n 0
def full (n : Nat) (L : List Upd) : List Int := foldC (zs n) L
/-- a clock that is closed over a log, and has no more than that -/
structure Sub (n : Nat) (L : List Upd) (A : List Int) : Prop where
  p : Part n L A
  le : seesC (full n L) A = true
inductive Bears (n : Nat) (L : List Upd) (e : Node) (p : Parcel) : Prop
  | whole (h : p = ⟨true, ofS n L p.clock, [], p.clock⟩) (s : Sub n L p.clock)
  | part (K : List Int) (h : p = ⟨false, zeroS, p.updates, p.clock⟩) (k : wrongC K n = 0) (f : Fits n K p.updates) (c : foldC K p.updates = p.clock) (s : seesC e.state.clock K = true) (l : ∀ u ∈ p.updates, u ∈ L)
structure ParI (n : Nat) (L : List Upd) (d e : Node) (p : Parcel) : Prop where
  b : Bears n L e p
  w : wrongC p.clock n = 0
  s : seesC d.state.clock p.clock = true
theorem Bears.mono {n : Nat} {L : List Upd} {e e' : Node} {p : Parcel} (h : Bears n L e p) (hs : seesC e'.state.clock e.state.clock = true) : Bears n L e' p := by
  cases h with
  | whole h s => exact .whole h s
  | part K h k f c s l => exact .part K h k f c (seesC_trans hs s) l
theorem ParI.mono {n : Nat} {L : List Upd} {d d' e e' : Node} {p : Parcel} (h : ParI n L d e p) (h1 : seesC d'.state.clock d.state.clock = true) (h2 : seesC e'.state.clock e.state.clock = true) : ParI n L d' e' p := ⟨h.b.mono h2, h.w, seesC_trans h1 h.s⟩
end Go.Proofs.Ytkjknlnhffmkkab
