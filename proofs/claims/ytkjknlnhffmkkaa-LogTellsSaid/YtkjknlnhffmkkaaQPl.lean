/- Plain laws: clocks, updates, logs, states. No program in sight. -/
import Derived.WalkKit
import Derived.Maps.AppendAt
import Derived.Deep.AppendLies
import Derived.Deep.Draws
namespace Go.Proofs.Ytkjknlnhffmkkaa
open Go.RowKit
set_option linter.unusedVariables false

theorem hid {p : Prop} (h : p) : Hid p := h
theorem ret_i {k : IntKind} {a b : Int} (h : a = b) : Ending.returned (.int k a) = .returned (.int k b) := by rw [h]
theorem ret_b {a b : Bool} (h : a = b) : Ending.returned (.bool a) = .returned (.bool b) := by rw [h]

/-- a reading of memory: block, place -/
abbrev Rd := Nat → Nat → Option Value
def wrd (w : World) : Rd := fun b o => w.cell? ⟨b, o, none⟩
/-- without one block -/
def but (w : World) (g : Option Nat) : Rd := fun b o => if some b = g then none else w.cell? ⟨b, o, none⟩
/-- below a block -/
def upto (w : World) (B : Nat) : Rd := fun b o => if b < B then w.cell? ⟨b, o, none⟩ else none
def Rd.le (r s : Rd) : Prop := ∀ b o v, r b o = some v → s b o = some v

theorem Rd.le_refl (r : Rd) : Rd.le r r := fun _ _ _ h => h
theorem Rd.le_trans {r s t : Rd} (h : Rd.le r s) (k : Rd.le s t) : Rd.le r t := fun b o v e => k b o v (h b o v e)
theorem below_drewN (B : Nat) (w : World) (n : Nat) : Below B w (w.drewN n) := ⟨rfl, rfl, rfl, Nat.le_refl _, fun _ _ => rfl⟩
theorem blk_lt {w : World} {b o : Nat} {v : Value} (h : w.cell? ⟨b, o, none⟩ = some v) : b < w.heap.size := World.block_lt_of_cell? w ⟨b, o, none⟩ h
theorem le_below {w w' : World} {B : Nat} (hb : Below B w w') (hB : w.heap.size ≤ B) : Rd.le (wrd w) (wrd w') := fun b o v h => by
  have := blk_lt h
  exact (hb.cell (p := ⟨b, o, none⟩) (by show b < B; omega)).trans h
theorem le_alloc (w : World) (o : Obj) : Rd.le (wrd w) (wrd (w.alloc o)) := le_below ((Below.refl _ _).alloc (Nat.le_refl _) o) (Nat.le_refl _)
theorem upto_top (w : World) : Rd.le (wrd w) (upto w w.heap.size) := fun b o v h => by
  unfold upto
  rw [if_pos (blk_lt h)]
  exact h
theorem upto_le {w0 w : World} {B : Nat} (hb : Below B w0 w) : Rd.le (upto w0 B) (wrd w) := fun b o v h => by
  unfold upto at h
  split at h
  · rename_i hlt
    exact (hb.cell (p := ⟨b, o, none⟩) hlt).trans h
  · cases h
/-- one thing of some cells -/
abbrev CR (α : Type) := Rd → List Value → α → Prop
def MonoR {α : Type} (R : CR α) : Prop := ∀ r s cs x, Rd.le r s → R r cs x → R s cs x

def RowR {α : Type} (size : Nat) (R : CR α) (rd : Rd) : List Value → List α → Prop
  | xs, [] => xs = []
  | xs, x :: l => ∃ cs rest, xs = cs ++ rest ∧ cs.length = size ∧ R rd cs x ∧ RowR size R rd rest l

section
variable {α : Type} {size : Nat} {R : CR α} {rd : Rd}
theorem RowR.len : ∀ {l : List α} {xs : List Value}, RowR size R rd xs l → xs.length = l.length * size
  | [], _, h => by cases h; simp
  | x :: l, _, ⟨cs, rest, e, h1, _, h3⟩ => by
    subst e
    have := h3.len
    simp [h1, this, Nat.add_mul, Nat.add_comm]
theorem RowR.mono {rd' : Rd} (hm : MonoR R) (hle : Rd.le rd rd') : ∀ {l : List α} {xs : List Value}, RowR size R rd xs l → RowR size R rd' xs l
  | [], _, h => h
  | _ :: _, _, ⟨cs, rest, e, h1, h2, h3⟩ => ⟨cs, rest, e, h1, hm _ _ _ _ hle h2, h3.mono hm hle⟩
theorem RowR.append : ∀ {l m : List α} {xs ys : List Value}, RowR size R rd xs l → RowR size R rd ys m → RowR size R rd (xs ++ ys) (l ++ m)
  | [], _, _, _, h, k => by cases h; exact k
  | _ :: _, _, _, _, ⟨cs, rest, e, h1, h2, h3⟩, k => ⟨cs, rest ++ _, by rw [e, List.append_assoc], h1, h2, h3.append k⟩
theorem RowR.one {cs : List Value} {x : α} (h1 : cs.length = size) (h : R rd cs x) : RowR size R rd cs [x] := ⟨cs, [], by simp, h1, h, rfl⟩
theorem RowR.push {l : List α} {xs cs : List Value} {x : α} (h : RowR size R rd xs l) (h1 : cs.length = size) (hx : R rd cs x) : RowR size R rd (xs ++ cs) (l ++ [x]) := h.append (RowR.one h1 hx)
/-- a row's cells, place by place -/
theorem RowR.get : ∀ {l : List α} {xs : List Value} (k : Nat) {x : α}, RowR size R rd xs l → l[k]? = some x →
    ∃ cs, cs.length = size ∧ R rd cs x ∧ ∀ j u, cs[j]? = some u → xs[k * size + j]? = some u
  | [], _, k, x, _, hk => by simp at hk
  | y :: l, _, 0, x, ⟨cs, rest, e, h1, h2, h3⟩, hk => by
    simp at hk; subst hk; subst e
    refine ⟨cs, h1, h2, fun j u hu => ?_⟩
    have hj : j < cs.length := (List.getElem?_eq_some_iff.1 hu).1
    rw [Nat.zero_mul, Nat.zero_add, List.getElem?_append_left hj]
    exact hu
  | y :: l, _, k + 1, x, ⟨cs, rest, e, h1, h2, h3⟩, hk => by
    subst e
    obtain ⟨cs', a, b, c⟩ := h3.get k (by simpa using hk)
    refine ⟨cs', a, b, fun j u hu => ?_⟩
    rw [List.getElem?_append_right (by rw [h1, Nat.add_mul]; omega)]
    rw [← c j u hu]
    congr 1
    rw [h1, Nat.add_mul]
    omega
theorem RowR.drop : ∀ {l : List α} {xs : List Value} (k : Nat), k ≤ l.length → RowR size R rd xs l → RowR size R rd (xs.drop (k * size)) (l.drop k)
  | _, _, 0, _, h => by simpa using h
  | [], _, k + 1, hk, h => by simp at hk
  | y :: l, _, k + 1, hk, ⟨cs, rest, e, h1, h2, h3⟩ => by
    subst e
    have := h3.drop k (by simpa using hk)
    rw [List.drop_succ_cons, Nat.add_mul, Nat.add_comm (k * size), Nat.one_mul, ← List.drop_drop]
    rw [show (cs ++ rest).drop size = rest by rw [← h1]; simp]
    exact this
theorem RowR.take : ∀ {l : List α} {xs : List Value} (k : Nat), RowR size R rd xs l → RowR size R rd (xs.take (k * size)) (l.take k)
  | _, _, 0, h => by simp [RowR]
  | [], _, k + 1, h => by cases h; simp [RowR]
  | y :: l, _, k + 1, ⟨cs, rest, e, h1, h2, h3⟩ => by
    subst e
    have := h3.take k
    refine ⟨cs, rest.take (k * size), ?_, h1, h2, this⟩
    rw [Nat.add_mul, Nat.add_comm (k * size), Nat.one_mul, List.take_append, List.take_of_length_le (by omega), h1]
    simp
end

/-- a slice's value reads as a list -/
def SliceR {α : Type} (size : Nat) (R : CR α) (rd : Rd) (v : Value) (l : List α) : Prop :=
  ∃ A c xs, v = .slice A l.length c ∧ l.length ≤ c ∧ c ≤ maxLen ∧ RowR size R rd xs l ∧
    (l ≠ [] → ∃ b o, A = some ⟨b, o, none⟩ ∧ ∀ j u, xs[j]? = some u → rd b (o + j) = some u)

section
variable {α : Type} {size : Nat} {R : CR α} {rd : Rd}
theorem SliceR.mono {rd' : Rd} {v : Value} {l : List α} (h : SliceR size R rd v l) (hm : MonoR R) (hle : Rd.le rd rd') : SliceR size R rd' v l := by
  obtain ⟨A, c, xs, e, h1, h2, h3, h4⟩ := h
  refine ⟨A, c, xs, e, h1, h2, h3.mono hm hle, fun hl => ?_⟩
  obtain ⟨b, o, eA, hc⟩ := h4 hl
  exact ⟨b, o, eA, fun j u hu => hle _ _ _ (hc j u hu)⟩
theorem SliceR.len {A : Option Addr} {n c : Nat} {l : List α} (h : SliceR size R rd (.slice A n c) l) : n = l.length ∧ n ≤ c ∧ c ≤ maxLen := by
  obtain ⟨A', c', xs, e, h1, h2, _⟩ := h
  injection e with e1 e2 e3
  subst e2 e3
  exact ⟨rfl, h1, h2⟩
theorem SliceR.val {v : Value} {l : List α} (h : SliceR size R rd v l) : ∃ A c, v = .slice A l.length c ∧ l.length ≤ c ∧ c ≤ maxLen := by
  obtain ⟨A, c, xs, e, h1, h2, _⟩ := h
  exact ⟨A, c, e, h1, h2⟩
/-- element k: its address, its cells -/
theorem SliceR.get {A : Option Addr} {n c : Nat} {l : List α} {k : Nat} {x : α} (h : SliceR size R rd (.slice A n c) l) (hk : l[k]? = some x) :
    ∃ b o cs, A = some ⟨b, o, none⟩ ∧ cs.length = size ∧ R rd cs x ∧ ∀ j u, cs[j]? = some u → rd b (o + k * size + j) = some u := by
  obtain ⟨A', c', xs, e, h1, h2, h3, h4⟩ := h
  injection e with e1 e2 e3
  subst e1
  obtain ⟨b, o, eA, hc⟩ := h4 (by intro e; subst e; simp at hk)
  obtain ⟨cs, a1, a2, a3⟩ := h3.get k hk
  exact ⟨b, o, cs, eA, a1, a2, fun j u hu => by have := hc _ _ (a3 j u hu); rwa [← Nat.add_assoc] at this⟩
theorem SliceR.nil_ (rd : Rd) : SliceR size R rd (.slice none 0 0) ([] : List α) := ⟨none, 0, [], rfl, Nat.le_refl _, by simp [maxLen], rfl, fun h => absurd rfl h⟩
theorem SliceR.empty_ (rd : Rd) (A : Option Addr) (c : Nat) (hc : c ≤ maxLen) : SliceR size R rd (.slice A 0 c) ([] : List α) := ⟨A, c, [], rfl, Nat.zero_le _, hc, rfl, fun h => absurd rfl h⟩
end

def IntR : CR Int := fun _ cs n => cs = [.int .i64 n]
/-- one cell that holds a slice -/
def SlC {α : Type} (size : Nat) (R : CR α) : CR (List α) := fun rd cs l => ∃ v, cs = [v] ∧ SliceR size R rd v l
theorem mono_int : MonoR IntR := fun _ _ _ _ _ h => h
/-- a struct by value -/
def AggR {α : Type} (R : CR α) : Rd → Value → α → Prop := fun rd v x => ∃ cs, v = .agg cs.toArray ∧ R rd cs x

abbrev IntsR := SliceR 1 IntR
theorem IntsR.mono {rd rd' : Rd} {v : Value} {l : List Int} (h : IntsR rd v l) (hle : Rd.le rd rd') : IntsR rd' v l := SliceR.mono h mono_int hle
theorem IntsR.at_ {rd : Rd} {A : Option Addr} {n c : Nat} {l : List Int} (h : IntsR rd (.slice A n c) l) {k : Nat} (hk : k < l.length) :
    ∃ b o, A = some ⟨b, o, none⟩ ∧ rd b (o + k) = some (.int .i64 l[k]) := by
  obtain ⟨b, o, cs, e, h1, h2, h3⟩ := SliceR.get h (k := k) (x := l[k]) (by simp [hk])
  cases h2
  exact ⟨b, o, e, by simpa using h3 0 _ rfl⟩

theorem IntsR.cell {rd : Rd} {b o n c : Nat} {l : List Int} (h : IntsR rd (.slice (some ⟨b, o, none⟩) n c) l) {w : World} (hle : Rd.le rd (wrd w)) {k : Nat} (hk : k < l.length) : w.cell? ⟨b, o + k, none⟩ = some (.int .i64 l[k]) := by
  obtain ⟨b', o', e, hc⟩ := h.at_ hk
  cases e
  exact hle _ _ _ hc

/-- what the call owns and lets grow -/
def OwnR {α : Type} (size : Nat) (R : CR α) (base : Nat) (e : TypeId) (w : World) (rd : Rd) (v : Value) (l : List α) : Prop :=
  ∃ xs, w.ownsRow base e size v l.length xs ∧ RowR size R rd xs l

section
variable {α : Type} {size base : Nat} {R : CR α} {rd : Rd} {e : TypeId} {w : World} {v : Value} {l : List α}
theorem OwnR.nil_ : OwnR size R base e w rd (.slice none 0 0) ([] : List α) := ⟨[], World.ownsRow_nil w base e size, rfl⟩
theorem OwnR.block (h : OwnR size R base e w rd v l) : ∀ k, v.ownBlock = some k → base ≤ k ∧ k < w.heap.size := by
  obtain ⟨xs, h1, _⟩ := h
  exact h1.lt
theorem OwnR.mono {rd' : Rd} (h : OwnR size R base e w rd v l) (hm : MonoR R) (hle : Rd.le rd rd') : OwnR size R base e w rd' v l := by
  obtain ⟨xs, h1, h2⟩ := h
  exact ⟨xs, h1, h2.mono hm hle⟩
theorem OwnR.below {w' : World} (h : OwnR size R base e w rd v l) (hb : Below w.heap.size w w') : OwnR size R base e w' rd v l := by
  obtain ⟨xs, h1, h2⟩ := h
  exact ⟨xs, h1.kept (row := none) ⟨hb.os, hb.tape, hb.output, hb.size, fun k hk _ => hb.block k hk⟩ (by cases hv : v.ownBlock <;> simp), h2⟩
theorem OwnR.alloc (h : OwnR size R base e w rd v l) (o : Obj) : OwnR size R base e (w.alloc o) rd v l := h.below ((Below.refl _ _).alloc (Nat.le_refl _) o)
theorem OwnR.slice (h : OwnR size R base e w rd v l) (hm : MonoR R) (hle : Rd.le rd (wrd w)) : SliceR size R (wrd w) v l := by
  obtain ⟨xs, h1, h2⟩ := h
  have hx := h1
  rcases h1.2 with ⟨rfl, hn⟩ | ⟨g, cap, cur, rfl, _, hh, hc, hm', _⟩
  · have : l = [] := List.eq_nil_of_length_eq_zero hn
    subst this
    exact SliceR.nil_ _
  · refine ⟨some ⟨g, 0, none⟩, cap, xs, rfl, hc, hm', h2.mono hm hle, fun _ => ⟨g, 0, rfl, fun j u hu => ?_⟩⟩
    have := hx.cells (g := g) rfl j u hu
    have e : (⟨g, 0, none⟩ : Addr).add j = ⟨g, j, none⟩ := by unfold Addr.add; split <;> simp_all
    rw [e] at this
    simpa [wrd] using this
theorem OwnR.val (h : OwnR size R base e w rd v l) : ∃ A c, v = .slice A l.length c ∧ l.length ≤ c ∧ c ≤ maxLen := by
  obtain ⟨xs, h1, h2⟩ := h
  rcases h1.2 with ⟨rfl, hn⟩ | ⟨g, cap, cur, rfl, _, hh, hc, hm', _⟩
  · exact ⟨none, 0, by rw [hn], by omega, by simp [maxLen]⟩
  · exact ⟨_, _, rfl, hc, hm'⟩
end

theorem below_grown {w w' : World} {base : Nat} {row : Option Nat} (hg : w.grownBy w' row) (hB : base ≤ w.heap.size) (hr : ∀ k, row = some k → base ≤ k) : Below base w w' :=
  (Below.refl _ _).grown hg hB hr

theorem alloc_cells (w : World) (cs : List Value) (e : TypeId) (f : Nat × Nat) : ∀ (j : Nat) (u : Value), cs[j]? = some u → (w.alloc (.cells cs.toArray e f)).cell? ⟨w.heap.size, j, none⟩ = some u := by
  intro j u hu
  rw [cell_of_row _ w.heap.size j cs.toArray e f (heap_alloc_new w _)]
  simpa using hu

/-- what append asks of a slice type t over e -/
structure ElemOk (P : Program) (t e : TypeId) (size bytes : Nat) : Prop where
  ex : ∃ (i : TypeInfo) (z : Value), P.underlying t = some (.slice e) ∧ P.info? e = some i ∧ i.zero = some z ∧ i.size = size ∧ i.bytes = bytes ∧ z.cells.size = size ∧ 0 < size

/-- append of one thing onto what the call owns -/
theorem wpList_push {α : Type} {P : Program} (w : World) {ops : Array Oper} {rest : List Oper} {o : Oper} {a : Act} {Q : Exit → Act → World → Prop} (hgd : o.guard = none) (s x : Operand) (t : TypeId)
    (ho : o.op = .call { callee := .builtin .append, args := #[s, x], argTypes := #[t, t] })
    {size : Nat} {R : CR α} (base : Nat) (e : TypeId) (bytes : Nat) (K : ElemOk P t e size bytes) (rd : Rd) (v : Value) (l : List α) (hs : a.eval s = v) (hown : OwnR size R base e w rd v l)
    (b : Nat) (c : Nat) (news : List Value) (y : α) (hx : a.eval x = .slice (some ⟨b, 0, none⟩) 1 c) (hl : news.length = size) (hnews : ∀ j u, news[j]? = some u → w.cell? ⟨b, j, none⟩ = some u) (h1 : ∀ u ∈ news, u.oneCell' = true)
    (hR : R rd news y) (hbytes : (l.length + 1) * bytes ≤ 140737488355328 ∧ l.length + 1 ≤ maxLen) (hbase : base ≤ w.heap.size)
    (h : ∀ v' w', OwnR size R base e w' rd v' (l ++ [y]) → Below base w w' → w.grownBy w' v.ownBlock → (v'.ownBlock = v.ownBlock ∨ v'.ownBlock = some w.heap.size) → wpList P ops Q rest (a.put o.dst v') w') : wpList P ops Q (o :: rest) a w := by
  obtain ⟨i, z, ht, hi, hz, hsize, hby, hzs, hsz⟩ := K.ex
  obtain ⟨xs, hrow, hrr⟩ := hown
  refine wpList_plain hgd fun _ hK => ?_
  obtain ⟨v', w', hrun, h2, h3, _, h4⟩ := run_append_own_at (P := P) w base t o.type e i z size bytes ht hi hz hsize hby hzs hsz v l.length xs hrow ⟨b, 0, none⟩ 1 c news (by simp [hl])
    (fun j u hu => by have := hnews j u hu; rw [show (⟨b, 0, none⟩ : Addr).add j = ⟨b, j, none⟩ by unfold Addr.add; split <;> simp_all]; exact this) h1 (by omega) hbytes.1 hbase
  unfold Oper.wp execOp
  simp only [ho, resolve, invoke, builtin, Sem.run_bind, Sem.run_pure, Result.andThen_ok, List.map_toArray, List.map_cons, List.map_nil, hs, hx, hrun]
  exact hK _ _ (h v' w' ⟨xs ++ news, by simpa using h2, hrr.push hl hR⟩ (below_grown h3 hbase fun k hk => (hrow.lt k hk).1) h3 h4)

def OneR {α : Type} (R : CR α) : Prop := ∀ rd cs x, R rd cs x → ∀ u ∈ cs, u.oneCell' = true
theorem one_int : OneR IntR := fun _ cs x h u hu => by cases h; rw [List.mem_singleton.1 hu]; rfl
theorem RowR.one_ {α : Type} {size : Nat} {R : CR α} {rd : Rd} (h1 : OneR R) : ∀ {l : List α} {xs : List Value}, RowR size R rd xs l → ∀ u ∈ xs, u.oneCell' = true
  | [], _, h, u, hu => by cases h; cases hu
  | _ :: _, _, ⟨cs, rest, e, _, h2, h3⟩, u, hu => by
    subst e
    rcases List.mem_append.1 hu with h | h
    · exact h1 _ _ _ h2 u h
    · exact h3.one_ h1 u h

theorem run_append_of_nil {P : Program} (w : World) (base : Nat) (t ty e : TypeId) (i : TypeInfo) (size : Nat) (ht : P.underlying t = some (.slice e)) (hi : P.info? e = some i)
    (v : Value) (n : Nat) (xs : List Value) (hown : w.ownsRow base e size v n xs) (c : Nat) : (Builtin.append_ #[t, t] ty #[v, .slice none 0 c]).run P w = .ok v w := by
  rcases hown.2 with ⟨rfl, rfl⟩ | ⟨g, cap, cur, rfl, _, _, hnc, _⟩
  · simp [Builtin.append_, run_underlying ht, sizeOf, typeInfo, hi, Builtin.lenOf, Builtin.firstCells]
  · simp [Builtin.append_, run_underlying ht, sizeOf, typeInfo, hi, Builtin.lenOf, Builtin.firstCells, hnc, storeCells]

/-- append of a whole slice onto what the call owns -/
theorem run_cat {α : Type} {P : Program} (w : World) (t ty : TypeId) {size : Nat} {R : CR α} (base : Nat) (e : TypeId) (bytes : Nat) (K : ElemOk P t e size bytes) (rd : Rd) (hle : Rd.le rd (wrd w)) (h1 : OneR R)
    (v u : Value) (l m : List α) (hown : OwnR size R base e w rd v l) (hu : SliceR size R rd u m) (hbytes : (l.length + m.length) * bytes ≤ 140737488355328 ∧ l.length + m.length ≤ maxLen) (hbase : base ≤ w.heap.size) :
    ∃ v' w', (Builtin.append_ #[t, t] ty #[v, u]).run P w = .ok v' w' ∧ OwnR size R base e w' rd v' (l ++ m) ∧ Below base w w' ∧ w.grownBy w' v.ownBlock ∧ (v'.ownBlock = v.ownBlock ∨ v'.ownBlock = some w.heap.size) := by
  obtain ⟨i, z, ht, hi, hz, hsize, hby, hzs, hsz⟩ := K.ex
  obtain ⟨xs, hrow, hrr⟩ := hown
  obtain ⟨A, c, ys, rfl, hc1, hc2, hys, hcell⟩ := hu
  rcases m with _ | ⟨y, m⟩
  · have hy0 : ys = [] := by simpa [RowR] using hys
    subst hy0
    rcases A with _ | ad
    · exact ⟨v, w, run_append_of_nil w base t ty e i size ht hi v _ xs hrow c, ⟨xs, by simpa using hrow, by simpa using hrr⟩, Below.refl _ _, World.grownBy.refl w _, .inl rfl⟩
    · obtain ⟨v', w', hrun, h2, h3, _, h4⟩ := run_append_own_at (P := P) w base t ty e i z size bytes ht hi hz hsize hby hzs hsz v l.length xs hrow ad 0 c [] (by simp) (by simp) (by simp) (by simpa using hbytes.2) (by simpa using hbytes.1) hbase
      exact ⟨v', w', hrun, ⟨xs, by simpa using h2, by simpa using hrr⟩, below_grown h3 hbase fun k hk => (hrow.lt k hk).1, h3, h4⟩
  · obtain ⟨b, o, rfl, hcl⟩ := hcell (by simp)
    obtain ⟨v', w', hrun, h2, h3, _, h4⟩ := run_append_own_at (P := P) w base t ty e i z size bytes ht hi hz hsize hby hzs hsz v l.length xs hrow ⟨b, o, none⟩ (y :: m).length c ys hys.len
      (fun j u hu => by have := hle _ _ _ (hcl j u hu); rw [show (⟨b, o, none⟩ : Addr).add j = ⟨b, o + j, none⟩ by unfold Addr.add; split <;> simp_all]; exact this) (hys.one_ h1) hbytes.2 hbytes.1 hbase
    exact ⟨v', w', hrun, ⟨xs ++ ys, by simpa using h2, hrr.append hys⟩, below_grown h3 hbase fun k hk => (hrow.lt k hk).1, h3, h4⟩

theorem append_types {P : Program} (w : World) {t t' ty e e' : TypeId} {i : TypeInfo} (ht : P.underlying t = some (.slice e)) (ht' : P.underlying t' = some (.slice e')) (hi : P.info? e = some i) (A : Option Addr) (n c : Nat) (u : Value) :
    (Builtin.append_ #[t, t'] ty #[.slice A n c, u]).run P w = (Builtin.append_ #[t, t] ty #[.slice A n c, u]).run P w := by
  simp [Builtin.append_, run_underlying ht, run_underlying ht', sizeOf, typeInfo, hi]

theorem wpList_cat {α : Type} {P : Program} (w : World) {ops : Array Oper} {rest : List Oper} {o : Oper} {a : Act} {Q : Exit → Act → World → Prop} (hgd : o.guard = none) (s x : Operand) (t : TypeId)
    (ho : o.op = .call { callee := .builtin .append, args := #[s, x], argTypes := #[t, t] })
    {size : Nat} {R : CR α} (base : Nat) (e : TypeId) (bytes : Nat) (K : ElemOk P t e size bytes) (rd : Rd) (hle : Rd.le rd (wrd w)) (h1 : OneR R)
    (v u : Value) (l m : List α) (hs : a.eval s = v) (hx : a.eval x = u) (hown : OwnR size R base e w rd v l) (hu : SliceR size R rd u m) (hbytes : (l.length + m.length) * bytes ≤ 140737488355328 ∧ l.length + m.length ≤ maxLen) (hbase : base ≤ w.heap.size)
    (h : ∀ v' w', OwnR size R base e w' rd v' (l ++ m) → Below base w w' → w.grownBy w' v.ownBlock → (v'.ownBlock = v.ownBlock ∨ v'.ownBlock = some w.heap.size) → wpList P ops Q rest (a.put o.dst v') w') : wpList P ops Q (o :: rest) a w := by
  refine wpList_plain hgd fun _ hK => ?_
  obtain ⟨v', w', hrun, h2, h3, h4, h5⟩ := run_cat (P := P) w t o.type base e bytes K rd hle h1 v u l m hown hu hbytes hbase
  unfold Oper.wp execOp
  simp only [ho, resolve, invoke, builtin, Sem.run_bind, Sem.run_pure, Result.andThen_ok, List.map_toArray, List.map_cons, List.map_nil, hs, hx, hrun]
  exact hK _ _ (h v' w' h2 h3 h4 h5)

/-- a new block without cells is owned -/
theorem own_empty {α : Type} {size : Nat} {R : CR α} {base : Nat} {e : TypeId} (w : World) (rd : Rd) (hb : base ≤ w.heap.size) : OwnR size R base e (w.alloc (.cells #[] e)) rd (.slice (some ⟨w.heap.size, 0, none⟩) 0 0) ([] : List α) :=
  ⟨[], World.ownsRow_made w #[] 0 hb (by simp [maxLen]) (by simp), rfl⟩

theorem RowR.set_ {α : Type} {size : Nat} {R : CR α} {rd : Rd} {j : Nat} {u : Value} (hj : j < size) : ∀ {l : List α} {xs : List Value} (k : Nat) {x y : α}, RowR size R rd xs l → l[k]? = some x →
    (∀ cs, cs.length = size → R rd cs x → R rd (cs.set j u) y) → RowR size R rd (xs.set (k * size + j) u) (l.set k y)
  | [], _, k, x, y, _, hk, _ => by simp at hk
  | z :: l, _, 0, x, y, ⟨cs, rest, e, h1, h2, h3⟩, hk, hR => by
    simp at hk; subst hk; subst e
    refine ⟨cs.set j u, rest, ?_, by simpa using h1, hR cs h1 h2, h3⟩
    rw [Nat.zero_mul, Nat.zero_add, List.set_append_left _ _ (by omega)]
  | z :: l, _, k + 1, x, y, ⟨cs, rest, e, h1, h2, h3⟩, hk, hR => by
    subst e
    refine ⟨cs, rest.set (k * size + j) u, ?_, h1, h2, h3.set_ hj k (by simpa using hk) hR⟩
    rw [List.set_append_right _ _ (by rw [h1, Nat.add_mul]; omega)]
    congr 2
    rw [h1, Nat.add_mul]
    omega

section
variable {α : Type} {size base : Nat} {R : CR α} {rd : Rd} {e : TypeId} {w : World} {v : Value} {l : List α}
/-- the block of what the call owns, where it has an entry -/
theorem OwnR.blk (h : OwnR size R base e w rd v l) {k : Nat} (hk : k < l.length) : ∃ g cap, v = .slice (some ⟨g, 0, none⟩) l.length cap ∧ base ≤ g ∧ g < w.heap.size ∧ l.length ≤ cap ∧ cap ≤ maxLen ∧ (∀ o, w.frozen? ⟨g, o, none⟩ = false) ∧
    ∃ cs, cs.length = size ∧ R rd cs l[k] ∧ ∀ j u, cs[j]? = some u → w.cell? ⟨g, k * size + j, none⟩ = some u := by
  obtain ⟨xs, h1, h2⟩ := h
  have hx := h1
  rcases h1.2 with ⟨rfl, hn⟩ | ⟨g, cap, cur, rfl, hb, hh, hc, hm', _⟩
  · omega
  · refine ⟨g, cap, rfl, hb, (hx.lt g rfl).2, hc, hm', fun o => by simp only [World.frozen?, hh]; simp, ?_⟩
    obtain ⟨cs, a1, a2, a3⟩ := h2.get k (x := l[k]) (by simp [hk])
    refine ⟨cs, a1, a2, fun j u hu => ?_⟩
    have := hx.cells (g := g) rfl _ u (a3 j u hu)
    rwa [show (⟨g, 0, none⟩ : Addr).add (k * size + j) = ⟨g, k * size + j, none⟩ by unfold Addr.add; split <;> simp_all] at this
theorem OwnR.set_ {g n cap k j : Nat} {u : Value} {x y : α} (h : OwnR size R base e w rd (.slice (some ⟨g, 0, none⟩) n cap) l) (hj : j < size) (hk : l[k]? = some x)
    (hR : ∀ cs, cs.length = size → R rd cs x → R rd (cs.set j u) y) : OwnR size R base e (w.setCell ⟨g, k * size + j, none⟩ u) rd (.slice (some ⟨g, 0, none⟩) n cap) (l.set k y) := by
  obtain ⟨xs, h1, h2⟩ := h
  refine ⟨xs.set (k * size + j) u, ⟨?_, ?_⟩, h2.set_ hj k hk hR⟩
  · simpa using h1.1
  · rcases h1.2 with ⟨e, _⟩ | ⟨g', cap', cur, e, hb, hh, hc, hm', hs, ht⟩
    · cases e
    · injection e with e1 e2 e3
      injection e1 with e1
      injection e1 with e1
      subst e1 e2 e3
      have hlt : k * size + j < l.length * size := by
        have h1 := (List.getElem?_eq_some_iff.1 hk).1
        have : (k + 1) * size ≤ l.length * size := Nat.mul_le_mul_right _ h1
        rw [Nat.add_mul] at this
        omega
      refine .inr ⟨g, cap, cur.setIfInBounds (k * size + j) u, by simp, hb, by simp [World.setCell, Array.getElem?_modify, hh], by simpa using hc, hm', by simpa using hs, ?_⟩
      rw [List.length_set, Array.toList_setIfInBounds, List.take_set, ht]
end

theorem below_next {W w w' : World} (h : Below W.heap.size W w) (k : Below w.heap.size w w') : Below W.heap.size W w' := h.trans (k.mono h.size)
/-- what the words ask of one thing's cells -/
class GoodR {α : Type} (R : CR α) : Prop where
  mono : MonoR R
  one : OneR R
instance : GoodR IntR := ⟨mono_int, one_int⟩
theorem SliceR.up {α : Type} {size : Nat} {R : CR α} [GoodR R] {w w' : World} {v : Value} {l : List α} (h : SliceR size R (wrd w) v l) (k : Below w.heap.size w w') : SliceR size R (wrd w') v l :=
  h.mono GoodR.mono (le_below k (Nat.le_refl _))
theorem SliceR.top {α : Type} {size : Nat} {R : CR α} [GoodR R] {W : World} {v : Value} {l : List α} (h : SliceR size R (wrd W) v l) : SliceR size R (upto W W.heap.size) v l := h.mono GoodR.mono (upto_top W)
theorem SliceR.of_top {α : Type} {size : Nat} {R : CR α} [GoodR R] {W w : World} {v : Value} {l : List α} (h : SliceR size R (upto W W.heap.size) v l) (k : Below W.heap.size W w) : SliceR size R (wrd w) v l := h.mono GoodR.mono (upto_le k)
theorem AggR.up {α : Type} {R : CR α} [GoodR R] {w w' : World} {v : Value} {x : α} (h : AggR R (wrd w) v x) (k : Below w.heap.size w w') : AggR R (wrd w') v x := by
  obtain ⟨cs, e, h⟩ := h
  exact ⟨cs, e, GoodR.mono _ _ _ _ (le_below k (Nat.le_refl _)) h⟩
theorem below_alloc1 (w : World) (o : Obj) : Below w.heap.size w (w.alloc o) := (Below.refl _ _).alloc (Nat.le_refl _) o
theorem below_alloc2 (w : World) (o o' : Obj) : Below w.heap.size w ((w.alloc o).alloc o') := (below_alloc1 w o).trans ((below_alloc1 _ o').mono (by simp))
/-- the step, told from the world ahead of a new block or a draw -/
theorem below_of_alloc {w w' : World} {o : Obj} (k : Below (w.alloc o).heap.size (w.alloc o) w') : Below w.heap.size w w' := (below_alloc1 w o).trans (k.mono (by simp))
theorem below_of_drewN {w w' : World} {n : Nat} (k : Below (w.drewN n).heap.size (w.drewN n) w') : Below w.heap.size w w' := (below_drewN _ w n).trans k

/-- a new block, later -/
theorem cells_of_new {w w1 : World} {cs : Array Value} {t : TypeId} {g : Nat} (hg : g = w.heap.size) (k : Below (g + 1) (w.alloc (.cells cs t)) w1) : ∀ j, w1.cell? ⟨g, j, none⟩ = cs[j]? := fun j => by
  subst hg
  rw [k.cell (p := ⟨w.heap.size, j, none⟩) (by show w.heap.size < _; omega), cell_of_row _ w.heap.size j cs t (0, 0) (heap_alloc_new w _)]
theorem free_of_new {w w1 : World} {cs : Array Value} {t : TypeId} {g : Nat} (hg : g = w.heap.size) (k : Below (g + 1) (w.alloc (.cells cs t)) w1) : ∀ j, w1.frozen? ⟨g, j, none⟩ = false := fun j => by
  subst hg
  rw [k.frozen (p := ⟨w.heap.size, j, none⟩) (by show w.heap.size < _; omega)]
  unfold World.frozen?
  rw [heap_alloc_new w (.cells cs t)]
  show (decide (0 ≤ j) && decide (j < 0)) = false
  simp

/-- a block that is known whole -/
def Blk (w : World) (g : Nat) (t : TypeId) (cs : Array Value) : Prop := w.heap[g]? = some (.cells cs t (0, 0))
theorem Blk.lt {w : World} {g : Nat} {t : TypeId} {cs : Array Value} (h : Blk w g t cs) : g < w.heap.size := by
  rcases Nat.lt_or_ge g w.heap.size with hlt | hge
  · exact hlt
  · unfold Blk at h; rw [Array.getElem?_eq_none hge] at h; cases h
theorem Blk.cell {w : World} {g : Nat} {t : TypeId} {cs : Array Value} (h : Blk w g t cs) (i : Nat) : w.cell? ⟨g, i, none⟩ = cs[i]? := cell_of_row w g i cs t (0, 0) h
theorem Blk.frozen {w : World} {g : Nat} {t : TypeId} {cs : Array Value} (h : Blk w g t cs) (i : Nat) : w.frozen? ⟨g, i, none⟩ = false := by
  unfold World.frozen?
  rw [show w.heap[(⟨g, i, none⟩ : Addr).block]? = some (.cells cs t (0, 0)) from h]
  show (decide (0 ≤ i) && decide (i < 0)) = false
  simp
theorem Blk.new_ (w : World) (t : TypeId) (cs : Array Value) : Blk (w.alloc (.cells cs t)) w.heap.size t cs := heap_alloc_new w _
theorem Blk.up {w w' : World} {g : Nat} {t : TypeId} {cs : Array Value} (h : Blk w g t cs) (k : Below w.heap.size w w') : Blk w' g t cs := (k.block g h.lt).trans h
theorem Blk.upB {w w' : World} {g B : Nat} {t : TypeId} {cs : Array Value} (h : Blk w g t cs) (k : Below B w w') (hg : g < B) : Blk w' g t cs := (k.block g hg).trans h
theorem Blk.c2 {w : World} {g : Nat} {t : TypeId} {a0 a1 : Value} (h : Blk w g t #[a0, a1]) : w.cell? ⟨g, 0, none⟩ = some a0 ∧ w.cell? ⟨g, 1, none⟩ = some a1 ∧ w.frozen? ⟨g, 0, none⟩ = false ∧ w.frozen? ⟨g, 1, none⟩ = false :=
  ⟨h.cell 0, h.cell 1, h.frozen 0, h.frozen 1⟩
theorem Blk.c5 {w : World} {g : Nat} {t : TypeId} {a0 a1 a2 a3 a4 : Value} (h : Blk w g t #[a0, a1, a2, a3, a4]) : w.cell? ⟨g, 0, none⟩ = some a0 ∧ w.cell? ⟨g, 1, none⟩ = some a1 ∧ w.cell? ⟨g, 2, none⟩ = some a2 ∧ w.cell? ⟨g, 3, none⟩ = some a3 ∧ w.cell? ⟨g, 4, none⟩ = some a4 ∧ w.frozen? ⟨g, 0, none⟩ = false ∧ w.frozen? ⟨g, 1, none⟩ = false ∧ w.frozen? ⟨g, 2, none⟩ = false ∧ w.frozen? ⟨g, 3, none⟩ = false ∧ w.frozen? ⟨g, 4, none⟩ = false :=
  ⟨h.cell 0, h.cell 1, h.cell 2, h.cell 3, h.cell 4, h.frozen 0, h.frozen 1, h.frozen 2, h.frozen 3, h.frozen 4⟩
/-- what was made from block B on -/
def newer (w : World) (B : Nat) : Rd := fun b o => if B ≤ b then w.cell? ⟨b, o, none⟩ else none
theorem newer_weak {w : World} {B B' : Nat} (h : B' ≤ B) : Rd.le (newer w B) (newer w B') := fun b o v e => by
  unfold newer at e ⊢; split at e
  · rw [if_pos (by omega)]; exact e
  · cases e
theorem newer_set {w : World} {B : Nat} {p : Addr} (hp : p.block < B) (u : Value) : Rd.le (newer w B) (newer (w.setCell p u) B) := fun b o v e => by
  unfold newer at e ⊢; split at e
  · rename_i hb
    rw [if_pos hb, World.cell?_setCell_other w p ⟨b, o, none⟩ u (fun e => by subst e; exact absurd hp (by show ¬ b < B; omega))]; exact e
  · cases e
theorem newer_le (w : World) (B : Nat) : Rd.le (newer w B) (wrd w) := fun b o v h => by
  unfold newer at h; split at h
  · exact h
  · cases h
theorem OwnR.newer {α : Type} {size base : Nat} {R : CR α} {rd : Rd} {e : TypeId} {w : World} {v : Value} {l : List α} (h : OwnR size R base e w rd v l) (hm : MonoR R) (hle : Rd.le rd (newer w base)) : SliceR size R (newer w base) v l := by
  obtain ⟨xs, h1, h2⟩ := h
  have hx := h1
  rcases h1.2 with ⟨rfl, hn⟩ | ⟨g, cap, cur, rfl, hg, hh, hc, hm', _⟩
  · have : l = [] := List.eq_nil_of_length_eq_zero hn
    subst this
    exact SliceR.nil_ _
  · refine ⟨some ⟨g, 0, none⟩, cap, xs, rfl, hc, hm', h2.mono hm hle, fun _ => ⟨g, 0, rfl, fun j u hu => ?_⟩⟩
    have := hx.cells (g := g) rfl j u hu
    have e : (⟨g, 0, none⟩ : Addr).add j = ⟨g, j, none⟩ := by unfold Addr.add; split <;> simp_all
    rw [e] at this
    unfold Proofs.Ytkjknlnhffmkkaa.newer
    rw [if_pos hg, Nat.zero_add]
    exact this
theorem OwnR.ints_newer {base : Nat} {rd : Rd} {e : TypeId} {w : World} {v : Value} {l : List Int} (h : OwnR 1 IntR base e w rd v l) : IntsR (Proofs.Ytkjknlnhffmkkaa.newer w base) v l := by
  obtain ⟨xs, h1, h2⟩ := h
  refine OwnR.newer (rd := fun _ _ => none) ⟨xs, h1, ?_⟩ mono_int (fun _ _ _ h => by cases h)
  clear h1
  induction l generalizing xs with
  | nil => exact h2
  | cons x l ih => obtain ⟨cs, rest, a, b, c, d⟩ := h2; exact ⟨cs, rest, a, b, c, ih _ d⟩
/-- what was made from block B on, without one block -/
def newb (w : World) (B : Nat) (g : Option Nat) : Rd := fun b o => if B ≤ b ∧ some b ≠ g then w.cell? ⟨b, o, none⟩ else none
theorem newb_newer (w : World) (B : Nat) (g : Option Nat) : Rd.le (newb w B g) (newer w B) := fun b o v h => by
  unfold newb at h; split at h
  · rename_i hb; unfold newer; rw [if_pos hb.1]; exact h
  · cases h
theorem newb_below {w w' : World} {B : Nat} {g : Option Nat} (k : Below w.heap.size w w') : Rd.le (newb w B g) (newb w' B g) := fun b o v h => by
  unfold newb at h ⊢; split at h
  · rename_i hb
    rw [if_pos hb]
    exact (k.cell (p := ⟨b, o, none⟩) (blk_lt h)).trans h
  · cases h
theorem newb_grown {w w' : World} {B : Nat} {g g' : Option Nat} (hg : w.grownBy w' g) (h' : g' = g ∨ g' = some w.heap.size) : Rd.le (newb w B g) (newb w' B g') := fun b o v h => by
  unfold newb at h ⊢; split at h
  · rename_i hb
    have hlt := blk_lt h
    have hn' : some b ≠ g' := by
      rcases h' with e | e
      · rw [e]; exact hb.2
      · rw [e]; intro e2; injection e2 with e2; omega
    rw [if_pos ⟨hb.1, hn'⟩]
    exact (World.cell?_of_block (w := w) (a := ⟨b, o, none⟩) (hg.block b hlt hb.2)).trans h
  · cases h
theorem newer_newb {w : World} {B B' : Nat} {g : Option Nat} (hB : B ≤ B') (hg : ∀ k, g = some k → k < B') : Rd.le (newer w B') (newb w B g) := fun b o v h => by
  unfold newer at h; split at h
  · rename_i hb
    unfold newb
    rw [if_pos ⟨by omega, fun e => by have := hg b e.symm; omega⟩]
    exact h
  · cases h
theorem OwnR.newer_ {α : Type} {size base : Nat} {R : CR α} [GoodR R] {e : TypeId} {w : World} {g : Option Nat} {v : Value} {l : List α} (h : OwnR size R base e w (newb w base g) v l) : SliceR size R (Proofs.Ytkjknlnhffmkkaa.newer w base) v l := h.newer GoodR.mono (newb_newer w base g)
theorem OwnR.up {α : Type} {size base : Nat} {R : CR α} [GoodR R] {e : TypeId} {w w' : World} {B : Nat} {g : Option Nat} {v : Value} {l : List α} (h : OwnR size R base e w (newb w B g) v l) (k : Below w.heap.size w w') : OwnR size R base e w' (newb w' B g) v l := (h.below k).mono GoodR.mono (newb_below k)
theorem OwnR.next {α : Type} {size base : Nat} {R : CR α} [GoodR R] {e : TypeId} {w w' : World} {B : Nat} {g g' : Option Nat} {v : Value} {l : List α} (h : OwnR size R base e w' (newb w B g) v l) (hg : w.grownBy w' g) (h' : g' = g ∨ g' = some w.heap.size) : OwnR size R base e w' (newb w' B g') v l := h.mono GoodR.mono (newb_grown hg h')
theorem OwnR.lt {α : Type} {size base : Nat} {R : CR α} {e : TypeId} {w : World} {rd : Rd} {v : Value} {l : List α} (h : OwnR size R base e w rd v l) : ∀ k, v.ownBlock = some k → k < w.heap.size := fun k hk => (h.block k hk).2

/-- a slice from k on -/
theorem SliceR.cut {α : Type} {size : Nat} {R : CR α} {rd : Rd} {b o n c k : Nat} {l : List α} (h : SliceR size R rd (.slice (some ⟨b, o, none⟩) n c) l) (hk : k ≤ l.length) : SliceR size R rd (.slice (some ⟨b, o + k * size, none⟩) (n - k) (c - k)) (l.drop k) := by
  obtain ⟨A, c', xs, e, h1, h2, h3, h4⟩ := h
  injection e with e1 e2 e3
  subst e1 e2 e3
  refine ⟨some ⟨b, o + k * size, none⟩, c - k, xs.drop (k * size), by simp, by simp; omega, by omega, h3.drop k hk, fun hne => ⟨b, o + k * size, rfl, fun j u hu => ?_⟩⟩
  obtain ⟨b', o', e, hc⟩ := h4 (by intro e; subst e; simp at hne)
  cases e
  rw [List.getElem?_drop] at hu
  have := hc _ _ hu
  rwa [← Nat.add_assoc] at this
/-- the first k of a slice -/
theorem SliceR.head_ {α : Type} {size : Nat} {R : CR α} {rd : Rd} {A : Option Addr} {n c k : Nat} {l : List α} (h : SliceR size R rd (.slice A n c) l) (hk : k ≤ l.length) : SliceR size R rd (.slice A k c) (l.take k) := by
  obtain ⟨A', c', xs, e, h1, h2, h3, h4⟩ := h
  injection e with e1 e2 e3
  subst e1 e2 e3
  refine ⟨A, c, xs.take (k * size), by simp; omega, by simp; omega, h2, h3.take k, fun hne => ?_⟩
  obtain ⟨b, o, e, hc⟩ := h4 (by intro e; subst e; simp at hne)
  refine ⟨b, o, e, fun j u hu => hc j u ?_⟩
  rw [List.getElem?_take] at hu
  split at hu
  · exact hu
  · cases hu

theorem SliceR.nil_of {α : Type} {size : Nat} {R : CR α} {rd : Rd} {n c : Nat} {l : List α} (h : SliceR size R rd (.slice none n c) l) : l = [] := by
  obtain ⟨A', c', xs, e, h1, h2, h3, h4⟩ := h
  injection e with e1 e2 e3
  subst e1 e2 e3
  rcases l with _ | ⟨x, l⟩
  · rfl
  · obtain ⟨b, o, e, _⟩ := h4 (by simp)
    cases e
/-- a slice from k on, whatever its address -/
theorem SliceR.cutA {α : Type} {size : Nat} {R : CR α} {rd : Rd} {ad : Addr} {n c k : Nat} {l : List α} (h : SliceR size R rd (.slice (some ad) n c) l) (hk : k ≤ l.length) : SliceR size R rd (.slice (some (ad.add (k * size))) (n - k) (c - k)) (l.drop k) := by
  rcases Nat.eq_zero_or_pos l.length with h0 | h0
  · have : l = [] := List.eq_nil_of_length_eq_zero h0
    subst this
    obtain ⟨e1, e2, e3⟩ := h.len
    simp only [List.length_nil] at e1 hk
    have hk0 : k = 0 := by omega
    subst hk0 e1
    simpa using SliceR.empty_ rd (some (ad.add (0 * size))) (c - 0) (by omega)
  · have h' := h
    obtain ⟨A', c', xs, e, h1, h2, h3, h4⟩ := h'
    injection e with e1 e2 e3
    subst e1
    obtain ⟨b, o, e, hc⟩ := h4 (by intro e; subst e; simp at h0)
    injection e with e
    subst e
    have := SliceR.cut h hk
    rcases Nat.eq_zero_or_pos (k * size) with hz | hz
    · rw [hz] at this ⊢
      simpa [Addr.add] using this
    · rw [show (⟨b, o, none⟩ : Addr).add (k * size) = ⟨b, o + k * size, none⟩ by unfold Addr.add; rw [if_neg (by omega)]]
      exact this

/-- a pointer to a thing -/
def PtrR {α : Type} (R : CR α) (rd : Rd) (v : Value) (x : α) : Prop := ∃ b o cs, v = .pointer (some ⟨b, o, none⟩) ∧ R rd cs x ∧ ∀ j u, cs[j]? = some u → rd b (o + j) = some u

#print axioms wpList_push
#print axioms wpList_cat
end Go.Proofs.Ytkjknlnhffmkkaa

namespace Go.Proofs.Ytkjknlnhffmkkaa

def atI (l : List Int) (i : Nat) : Int := l.getD i 0
theorem atI_lt {l : List Int} {i : Nat} (h : i < l.length) : atI l i = l[i] := by simp [atI, h]
theorem atI_ge {l : List Int} {i : Nat} (h : l.length ≤ i) : atI l i = 0 := by simp [atI, List.getElem?_eq_none h]

def zipC (f : Int → Int → Int) (a b : List Int) : List Int := (List.range (max a.length b.length)).map fun i => f (atI a i) (atI b i)
theorem zipC_len (f : Int → Int → Int) (a b : List Int) : (zipC f a b).length = max a.length b.length := by simp [zipC]
theorem zipC_get (f : Int → Int → Int) (a b : List Int) {k : Nat} (hk : k < max a.length b.length) : (zipC f a b)[k]? = some (f (atI a k) (atI b k)) := by
  simp only [zipC, List.getElem?_map, List.getElem?_range hk, Option.map_some]
theorem take_snoc {α : Type} {l : List α} {k : Nat} {x : α} (h : l[k]? = some x) : l.take (k + 1) = l.take k ++ [x] := by rw [List.take_add_one, h]; rfl
def seesC (a b : List Int) : Bool := (List.range (max a.length b.length)).all fun i => decide (atI b i ≤ atI a i)
def okK (k : Int) : Bool := decide (0 ≤ k) && decide (k ≤ 1000)
/-- 5: too many, 3: out of range -/
def wrongC (c : List Int) (n : Int) : Int := if n < 1 ∨ 6 < n ∨ (c.length : Int) ≠ n then 5 else if c.all okK then 0 else 3
def hasC (c : List Int) (author seq : Int) : Bool := decide (0 ≤ author) && decide (author < c.length) && decide (seq ≤ atI c author.toNat)
def tickC (c : List Int) (author : Int) : List Int := if 0 ≤ author ∧ author < c.length then c.set author.toNat (RowKit.wrap64 (atI c author.toNat + 1)) else c

theorem seesC_iff {a b : List Int} : seesC a b = true ↔ ∀ k, atI b k ≤ atI a k := by
  unfold seesC
  rw [List.all_eq_true]
  constructor
  · intro h k
    rcases Nat.lt_or_ge k (max a.length b.length) with hk | hk
    · simpa using h k (List.mem_range.2 hk)
    · rw [atI_ge (show b.length ≤ k by omega), atI_ge (show a.length ≤ k by omega)]; exact Int.le_refl _
  · intro h k _
    simpa using h k
theorem seesC_refl (a : List Int) : seesC a a = true := seesC_iff.2 fun _ => Int.le_refl _
theorem seesC_trans {a b c : List Int} (h : seesC a b = true) (k : seesC b c = true) : seesC a c = true :=
  seesC_iff.2 fun i => Int.le_trans (seesC_iff.1 k i) (seesC_iff.1 h i)
theorem atI_ext {a b : List Int} (hl : a.length = b.length) (h : ∀ k, atI a k = atI b k) : a = b := by
  refine List.ext_getElem hl fun i h1 h2 => ?_
  have := h i
  rwa [atI_lt h1, atI_lt h2] at this
theorem tickC_in {a : List Int} {k : Nat} (hk : k < a.length) : tickC a k = a.set k (RowKit.wrap64 (a[k] + 1)) := by
  unfold tickC; rw [if_pos (by omega), Int.toNat_natCast, atI_lt hk]
theorem tickC_len (a : List Int) (n : Int) : (tickC a n).length = a.length := by unfold tickC; split <;> simp
theorem wrap_small {x : Int} (h : 0 ≤ x) (h' : x ≤ 1000000) : RowKit.wrap64 x = x := by
  simp only [RowKit.wrap64]; omega
theorem set_at {a : List Int} {k : Nat} {x : Int} (hk : k < a.length) (j : Nat) : atI (a.set k x) j = if j = k then x else atI a j := by
  unfold atI
  rw [List.getD, List.getD, List.getElem?_set]
  by_cases e : j = k
  · subst e; simp [hk]
  · rw [if_neg (fun h => e h.symm), if_neg e]
theorem wrongC_ok {l : List Int} {n : Int} (h : wrongC l n = 0) : 1 ≤ n ∧ n ≤ 6 ∧ (l.length : Int) = n ∧ ∀ x ∈ l, 0 ≤ x ∧ x ≤ 1000 := by
  unfold wrongC at h
  split at h
  · cases h
  · rename_i hn
    split at h
    · rename_i ha
      refine ⟨by omega, by omega, by omega, fun x hx => ?_⟩
      have := List.all_eq_true.1 ha x hx
      simpa [okK] using this
    · cases h
theorem ne_b {x y : Int} (h : x ≠ y) : (x != y) = true ∧ (x == y) = false := by simp [h]
theorem eq_b {x y : Int} (h : x = y) : (x != y) = false ∧ (x == y) = true := by simp [h]

/-- the first place where p holds, or -1 -/
def idxF {α : Type} (p : α → Bool) (l : List α) : Int := match l.findIdx? p with | some i => (i : Int) | none => -1
theorem idxF_hit {α : Type} {p : α → Bool} {l : List α} {k : Nat} {x : α} (hk : l[k]? = some x) (hp : p x = true) (hb : ∀ (j : Nat) (y : α), j < k → l[j]? = some y → p y = false) : idxF p l = k := by
  unfold idxF
  have : l.findIdx? p = some k := by
    rw [List.findIdx?_eq_some_iff_getElem]
    obtain ⟨hl, e⟩ := List.getElem?_eq_some_iff.1 hk
    refine ⟨hl, by rw [e]; exact hp, fun j hj => ?_⟩
    have := hb j l[j] hj (List.getElem?_eq_getElem (by omega))
    simp [this]
  rw [this]
theorem idxF_none {α : Type} {p : α → Bool} {l : List α} (hb : ∀ (j : Nat) (y : α), l[j]? = some y → p y = false) : idxF p l = -1 := by
  unfold idxF
  have : l.findIdx? p = none := by
    rw [List.findIdx?_eq_none_iff]
    intro x hx
    obtain ⟨j, hj⟩ := List.getElem?_of_mem hx
    exact hb j x hj
  rw [this]
theorem idxF_any {α : Type} (p : α → Bool) (l : List α) : decide (0 ≤ idxF p l) = l.any p := by
  unfold idxF
  cases h : l.findIdx? p with
  | none =>
    have := List.findIdx?_eq_none_iff.1 h
    have h' : l.any p = false := by
      rw [List.any_eq_false]
      intro x hx; simp [this x hx]
    simp [h']
  | some i =>
    obtain ⟨hl, e, _⟩ := List.findIdx?_eq_some_iff_getElem.1 h
    have h' : l.any p = true := List.any_eq_true.2 ⟨l[i], List.getElem_mem hl, e⟩
    simp [h']
theorem idxF_bd {α : Type} (p : α → Bool) (l : List α) : -1 ≤ idxF p l ∧ idxF p l < max 1 l.length := by
  unfold idxF
  cases h : l.findIdx? p with
  | none => constructor <;> simp; omega
  | some i =>
    obtain ⟨hl, _⟩ := List.findIdx?_eq_some_iff_getElem.1 h
    simp; omega
end Go.Proofs.Ytkjknlnhffmkkaa

namespace Go.Proofs.Ytkjknlnhffmkkaa
set_option linter.unusedVariables false

structure Upd where
  author : Int
  seen : List Int
  kind : Int
  key : Int
  item : Int
deriving DecidableEq

def UpdR : CR Upd := fun rd cs u => ∃ sv, cs = [.int .i64 u.author, sv, .int .i64 u.kind, .int .i64 u.key, .int .i64 u.item] ∧ IntsR rd sv u.seen
instance : GoodR UpdR := ⟨fun _ _ _ _ hle ⟨sv, e, h⟩ => ⟨sv, e, IntsR.mono h hle⟩, fun _ _ _ ⟨sv, e, h⟩ u hu => by
  obtain ⟨A, c, e2, _⟩ := h.val
  subst e e2
  simp only [List.mem_cons, List.not_mem_nil, or_false] at hu
  rcases hu with h | h | h | h | h <;> subst h <;> rfl⟩
abbrev UpdsR := SliceR 5 UpdR
/-- the cells of update k -/
theorem upds_at {rd : Rd} {A : Option Addr} {m c k : Nat} {l : List Upd} (h : SliceR 5 UpdR rd (.slice A m c) l) (hk : k < l.length) : ∃ b o sv, A = some ⟨b, o, none⟩ ∧ IntsR rd sv l[k].seen ∧
    ∀ w : World, Rd.le rd (wrd w) → w.cell? ⟨b, o + k * 5, none⟩ = some (.int .i64 l[k].author) ∧ w.cell? ⟨b, o + k * 5 + 1, none⟩ = some sv ∧ w.cell? ⟨b, o + k * 5 + 2, none⟩ = some (.int .i64 l[k].kind) ∧
      w.cell? ⟨b, o + k * 5 + 3, none⟩ = some (.int .i64 l[k].key) ∧ w.cell? ⟨b, o + k * 5 + 4, none⟩ = some (.int .i64 l[k].item) := by
  obtain ⟨b, o, cs, e, h1, ⟨sv, h2, h3⟩, h4⟩ := SliceR.get h (k := k) (x := l[k]) (by simp [hk])
  subst h2
  refine ⟨b, o, sv, e, h3, fun w hle => ⟨hle _ _ _ (h4 0 _ rfl), hle _ _ _ (h4 1 _ rfl), hle _ _ _ (h4 2 _ rfl), hle _ _ _ (h4 3 _ rfl), hle _ _ _ (h4 4 _ rfl)⟩⟩
theorem upd_agg {rd : Rd} {sv : Value} {u : Upd} (h : IntsR rd sv u.seen) : AggR UpdR rd (.agg #[.int .i64 u.author, sv, .int .i64 u.kind, .int .i64 u.key, .int .i64 u.item]) u := ⟨_, rfl, sv, rfl, h⟩
theorem upd_ptr {w : World} {g : Nat} {t : TypeId} {sv : Value} {u : Upd} (hb : Blk w g t #[.int .i64 u.author, sv, .int .i64 u.kind, .int .i64 u.key, .int .i64 u.item]) (h : IntsR (wrd w) sv u.seen) : PtrR UpdR (wrd w) (.pointer (some ⟨g, 0, none⟩)) u :=
  ⟨g, 0, _, rfl, ⟨sv, rfl, h⟩, fun j x hx => by
    show w.cell? ⟨g, 0 + j, none⟩ = some x
    rw [Nat.zero_add, hb.cell j]; simpa using hx⟩
/-- what is wrong with an update -/
def wrongU (u : Upd) (n : Int) : Int :=
  if wrongC u.seen n ≠ 0 then wrongC u.seen n
  else if u.author < 0 ∨ n ≤ u.author ∨ 1000 ≤ atI u.seen u.author.toNat then 3
  else if u.kind < 1 ∨ 5 < u.kind then 1
  else if u.key < 0 ∨ 15 < u.key ∨ u.item < -1000 ∨ 1000 < u.item then 3
  else if u.kind = 2 ∧ u.item ≠ 0 then 2
  else 0

structure RightU (u : Upd) (n : Int) : Prop where
  c : wrongC u.seen n = 0
  a0 : 0 ≤ u.author
  a1 : u.author < n
  s : atI u.seen u.author.toNat < 1000
  k0 : 1 ≤ u.kind
  k1 : u.kind ≤ 5
  y0 : 0 ≤ u.key
  y1 : u.key ≤ 15
  i0 : -1000 ≤ u.item
  i1 : u.item ≤ 1000
  f : u.kind = 2 → u.item = 0
theorem wrongU_iff {u : Upd} {n : Int} : wrongU u n = 0 ↔ RightU u n := by
  unfold wrongU
  constructor
  · intro h
    split at h
    · exact absurd h ‹_›
    · split at h
      · cases h
      · split at h
        · cases h
        · split at h
          · cases h
          · split at h
            · cases h
            · exact ⟨by omega, by omega, by omega, by omega, by omega, by omega, by omega, by omega, by omega, by omega, by omega⟩
  · rintro ⟨c, a0, a1, s, k0, k1, y0, y1, i0, i1, f⟩
    rw [if_neg (by omega), if_neg (by omega), if_neg (by omega), if_neg (by omega), if_neg (by omega)]
theorem RightU.len {u : Upd} {n : Int} (h : RightU u n) : 1 ≤ n ∧ n ≤ 6 ∧ (u.seen.length : Int) = n := by have := wrongC_ok h.c; omega
/-- which one of its author's -/
def seqU (u : Upd) : Int := RowKit.wrap64 (atI u.seen u.author.toNat + 1)
/-- does a clock have it? -/
def hasU (c : List Int) (u : Upd) : Bool := decide (0 ≤ u.author) && decide (u.author < c.length) && decide (u.author < u.seen.length) && decide (atI u.seen u.author.toNat < atI c u.author.toNat)
def sameU (a b : Upd) : Bool := decide (a = b)
theorem hasU_in {c se : List Int} {k : Nat} {ki ke it : Int} (h1 : k < c.length) (h2 : k < se.length) : hasU c ⟨k, se, ki, ke, it⟩ = decide (se[k] < c[k]) := by
  unfold hasU; simp only; rw [Int.toNat_natCast, atI_lt h1, atI_lt h2]; simp [h1, h2]
end Go.Proofs.Ytkjknlnhffmkkaa

namespace Go.Proofs.Ytkjknlnhffmkkaa

/-- what a log's next update is refused for -/
def stepE (c : List Int) (u : Upd) (n : Int) : Int := if wrongU u n ≠ 0 then wrongU u n else if hasU c u = true then 7 else if seesC c u.seen = false then 8 else 0
def logC (n : Int) : List Int → List Upd → Nat → List Int × Int × Int
  | c, [], _ => (c, 0, 0)
  | c, u :: l, i => if stepE c u n ≠ 0 then ([], stepE c u n, (i : Int)) else logC n (tickC c u.author) l (i + 1)
/-- what a log comes to: the clock, the error, its place -/
def clockL (base : List Int) (l : List Upd) (n : Int) : List Int × Int × Int :=
  if wrongC base n ≠ 0 then ([], wrongC base n, 0) else if 300 < l.length then ([], 5, 0) else logC n base l 0

theorem drop_cons {α : Type} {l : List α} {k : Nat} (hk : k < l.length) : l.drop k = l[k] :: l.drop (k + 1) := List.drop_eq_getElem_cons hk
theorem logC_bad {n : Int} {c : List Int} {l : List Upd} {k : Nat} {e : Int} (hk : k < l.length) (he : stepE c l[k] n = e) (h0 : e ≠ 0) : logC n c (l.drop k) k = ([], e, (k : Int)) := by
  rw [drop_cons hk]; unfold logC; rw [he, if_pos h0]
theorem logC_good {n : Int} {c : List Int} {l : List Upd} {k : Nat} (hk : k < l.length) (he : stepE c l[k] n = 0) : logC n c (l.drop k) k = logC n (tickC c l[k].author) (l.drop (k + 1)) (k + 1) := by
  rw [drop_cons hk]; rw [logC.eq_2, he, if_neg (by simp)]
theorem logC_end {n : Int} {c : List Int} {l : List Upd} {k : Nat} (hk : l.length ≤ k) : logC n c (l.drop k) k = (c, 0, 0) := by
  rw [List.drop_eq_nil_of_le hk]; rfl

/-- what a clock lacks of a log -/
def lacksU (l : List Upd) (c : List Int) : List Upd := l.filter fun u => !hasU c u
theorem lacksU_len (l : List Upd) (c : List Int) : (lacksU l c).length ≤ l.length := List.length_filter_le _ _
theorem lacksU_has {l : List Upd} {c : List Int} {k : Nat} (hk : k < l.length) (h : hasU c l[k] = true) : lacksU (l.take (k + 1)) c = lacksU (l.take k) c := by
  unfold lacksU; rw [take_snoc (List.getElem?_eq_getElem hk), List.filter_append]; simp [h]
theorem lacksU_not {l : List Upd} {c : List Int} {k : Nat} (hk : k < l.length) (h : hasU c l[k] = false) : lacksU (l.take (k + 1)) c = lacksU (l.take k) c ++ [l[k]] := by
  unfold lacksU; rw [take_snoc (List.getElem?_eq_getElem hk), List.filter_append]; simp [h]

/-- is an update one that none behind it has seen? -/
def headAt (l : List Upd) (i : Nat) (u : Upd) : Bool := decide (0 ≤ u.author) && decide (u.author < u.seen.length) && !(l.drop (i + 1)).any fun v => hasU v.seen u
def headsTo (l : List Upd) : Nat → List Int
  | 0 => []
  | k + 1 => headsTo l k ++ (match l[k]? with | some u => if headAt l k u then [(k : Int)] else [] | none => [])
def headsU (l : List Upd) : List Int := headsTo l l.length
theorem headsTo_len (l : List Upd) : ∀ k, (headsTo l k).length ≤ k
  | 0 => Nat.le_refl _
  | k + 1 => by
    have := headsTo_len l k
    unfold headsTo
    rw [List.length_append]
    have : (match l[k]? with | some u => if headAt l k u then [(k : Int)] else [] | none => []).length ≤ 1 := by
      split
      · split <;> simp
      · simp
    omega
theorem headsTo_yes {l : List Upd} {k : Nat} (hk : k < l.length) (h : headAt l k l[k] = true) : headsTo l (k + 1) = headsTo l k ++ [(k : Int)] := by
  conv => lhs; unfold headsTo
  rw [List.getElem?_eq_getElem hk]; simp [h]
theorem headsTo_no {l : List Upd} {k : Nat} (hk : k < l.length) (h : headAt l k l[k] = false) : headsTo l (k + 1) = headsTo l k := by
  conv => lhs; unfold headsTo
  rw [List.getElem?_eq_getElem hk]; simp [h]
end Go.Proofs.Ytkjknlnhffmkkaa

namespace Go.Proofs.Ytkjknlnhffmkkaa

structure Live where
  set : Bool
  key : Int
  item : Int
  author : Int
  seq : Int
deriving DecidableEq
structure Tally where
  key : Int
  author : Int
  sum : Int
deriving DecidableEq
structure State where
  clock : List Int
  lives : List Live
  tallies : List Tally
deriving DecidableEq

def cmpI (x y : Int) : Int := if x < y then -1 else if y < x then 1 else 0
def orI : List Int → Int
  | [] => 0
  | x :: l => if x = 0 then orI l else x
def ordL (a b : Live) : Int := orI [if b.set = true ∧ a.set = false then -1 else if a.set = true ∧ b.set = false then 1 else 0, cmpI a.key b.key, cmpI a.item b.item, cmpI a.author b.author, cmpI a.seq b.seq]
def ordT (a b : Tally) : Int := orI [cmpI a.key b.key, cmpI a.author b.author]
end Go.Proofs.Ytkjknlnhffmkkaa

namespace Go.Proofs.Ytkjknlnhffmkkaa

end Go.Proofs.Ytkjknlnhffmkkaa

namespace Go.Proofs.Ytkjknlnhffmkkaa

/-- does u end l -/
def endsC (set : Bool) (u : Upd) (l : Live) : Bool := (l.set == set) && (l.key == u.key) && (!set || l.item == u.item) && hasC u.seen l.author l.seq
/-- the first place that is not behind -/
def idxO {α : Type} (f : α → Int) (l : List α) : Nat := l.findIdx fun y => decide (0 ≤ f y)
def insO {α : Type} (f : α → α → Int) (l : List α) (x : α) : List α := l.take (idxO (fun y => f y x) l) ++ [x] ++ l.drop (idxO (fun y => f y x) l)
def countL (l : List Tally) (t : Tally) : List Tally :=
  match l[idxO (fun y => ordT y t) l]? with
  | some z => if ordT z t = 0 then (if z.sum + t.sum = 0 then l.eraseIdx (idxO (fun y => ordT y t) l) else l.set (idxO (fun y => ordT y t) l) { z with sum := z.sum + t.sum }) else if t.sum = 0 then l else insO ordT l t
  | none => if t.sum = 0 then l else insO ordT l t
section
variable {l : List Tally} {t z : Tally} {i : Nat} (hi : i ≤ l.length) (ha : ∀ (a : Nat) y, a < i → l[a]? = some y → ordT y t < 0) (hb : ∀ (a : Nat) y, i ≤ a → l[a]? = some y → 0 ≤ ordT y t)
include hi ha hb
end
/-- what u does to s -/
def newL (set : Bool) (u : Upd) (seq : Int) : Live := ⟨set, u.key, u.item, u.author, seq⟩
def applyS (s : State) (u : Upd) : State :=
  let set := decide (u.kind = 3 ∨ u.kind = 4)
  let ls := if u.kind ≠ 5 ∧ u.kind ≠ 3 then s.lives.filter fun l => !endsC set u l else s.lives
  ⟨tickC s.clock u.author, if u.kind = 1 ∨ u.kind = 3 then insO ordL ls (newL set u (seqU u)) else ls, if u.kind = 5 then countL s.tallies ⟨u.key, u.author, u.item⟩ else s.tallies⟩
end Go.Proofs.Ytkjknlnhffmkkaa

namespace Go.Proofs.Ytkjknlnhffmkkaa
set_option linter.unusedVariables false

theorem wrongC_of {l : List Int} {n : Int} (h1 : 1 ≤ n) (h2 : n ≤ 6) (h3 : (l.length : Int) = n) (h4 : ∀ x ∈ l, 0 ≤ x ∧ x ≤ 1000) : wrongC l n = 0 := by
  unfold wrongC
  rw [if_neg (by omega), if_pos]
  rw [List.all_eq_true]
  intro x hx
  have := h4 x hx
  simp [okK, this.1, this.2]
theorem atI_bd {c : List Int} {n : Int} (h : wrongC c n = 0) (k : Nat) : 0 ≤ atI c k ∧ atI c k ≤ 1000 := by
  rcases Nat.lt_or_ge k c.length with hk | hk
  · rw [atI_lt hk]; exact (wrongC_ok h).2.2.2 _ (List.getElem_mem hk)
  · rw [atI_ge hk]; omega

/-- what a step that is not refused tells -/
structure StepOk (c : List Int) (u : Upd) (n : Int) : Prop where
  r : RightU u n
  eq : atI u.seen u.author.toNat = atI c u.author.toNat
  sees : seesC c u.seen = true
theorem stepE_ok {c : List Int} {u : Upd} {n : Int} (hc : wrongC c n = 0) (h : stepE c u n = 0) : StepOk c u n := by
  unfold stepE at h
  split at h
  · rename_i h1; exact absurd h h1
  · rename_i h1
    have hr := wrongU_iff.1 (Classical.not_not.1 h1)
    split at h
    · cases h
    · rename_i h2
      split at h
      · cases h
      · rename_i h3
        have hs : seesC c u.seen = true := by simpa using h3
        refine ⟨hr, ?_, hs⟩
        have e1 := seesC_iff.1 hs u.author.toNat
        have hl := hr.len
        have hcl := wrongC_ok hc
        have ha := hr.a0
        have hb := hr.a1
        have e2 : ¬ atI u.seen u.author.toNat < atI c u.author.toNat := by
          intro hlt
          refine h2 ?_
          unfold hasU
          simp only [Bool.and_eq_true, decide_eq_true_eq]
          omega
        omega
theorem stepE_of {c : List Int} {u : Upd} {n : Int} (h : StepOk c u n) : stepE c u n = 0 := by
  unfold stepE
  have h1 := wrongU_iff.2 h.r
  have h2 : hasU c u = false := by
    rw [Bool.eq_false_iff]; intro hh
    unfold hasU at hh
    simp only [Bool.and_eq_true, decide_eq_true_eq] at hh
    have := h.eq
    omega
  rw [if_neg (by omega), if_neg (by simp [h2]), if_neg (by simp [h.sees])]
theorem tick_at {c : List Int} {u : Upd} {n : Int} (hc : wrongC c n = 0) (h : StepOk c u n) (j : Nat) : atI (tickC c u.author) j = if j = u.author.toNat then atI c u.author.toNat + 1 else atI c j := by
  have hl := h.r.len
  have hcl := wrongC_ok hc
  have ha := h.r.a0
  have hb := h.r.a1
  obtain ⟨k, hk⟩ := Int.eq_ofNat_of_zero_le ha
  rw [hk] at hb ⊢
  rw [tickC_in (by omega), set_at (by omega), Int.toNat_natCast]
  have := atI_bd hc k
  rw [wrap_small (by rw [← atI_lt (by omega)]; omega) (by rw [← atI_lt (by omega)]; omega), ← atI_lt (by omega)]
theorem tick_ok {c : List Int} {u : Upd} {n : Int} (hc : wrongC c n = 0) (h : StepOk c u n) : wrongC (tickC c u.author) n = 0 := by
  have hcl := wrongC_ok hc
  refine wrongC_of hcl.1 hcl.2.1 (by rw [tickC_len]; exact hcl.2.2.1) fun x hx => ?_
  obtain ⟨j, hj, e⟩ := List.getElem_of_mem hx
  rw [← e, ← atI_lt hj, tick_at hc h j]
  have b1 := atI_bd hc j
  have b2 := atI_bd hc u.author.toNat
  have := h.eq
  have := h.r.s
  split <;> omega
theorem tick_sees {c : List Int} {u : Upd} {n : Int} (hc : wrongC c n = 0) (h : StepOk c u n) : seesC (tickC c u.author) c = true := seesC_iff.2 fun k => by
  rw [tick_at hc h k]; split
  · rename_i e; subst e; omega
  · omega

theorem logC_app {n : Int} : ∀ (l1 : List Upd) (c : List Int) (i : Nat) (l2 : List Upd), (logC n c l1 i).2.1 = 0 → logC n c (l1 ++ l2) i = logC n (logC n c l1 i).1 l2 (i + l1.length)
  | [], c, i, l2, _ => by simp [logC]
  | u :: l1, c, i, l2, h => by
    rw [List.cons_append, logC.eq_2, logC.eq_2]
    rw [logC.eq_2] at h
    by_cases he : stepE c u n = 0
    · rw [if_neg (by omega)] at h ⊢
      rw [if_neg (by omega), logC_app l1 _ _ _ h]
      congr 1
      simp only [List.length_cons]; omega
    · rw [if_pos he] at h; exact absurd h he
/-- a log that is taken: a right clock that sees the base; each of its updates is behind the base -/
theorem logC_ok {n : Int} : ∀ (l : List Upd) (c : List Int) (i : Nat), wrongC c n = 0 → (logC n c l i).2.1 = 0 →
    wrongC (logC n c l i).1 n = 0 ∧ seesC (logC n c l i).1 c = true ∧ ∀ u ∈ l, RightU u n ∧ atI c u.author.toNat ≤ atI u.seen u.author.toNat
  | [], c, i, hc, _ => ⟨hc, seesC_refl c, by simp⟩
  | u :: l, c, i, hc, h => by
    rw [logC.eq_2] at h ⊢
    by_cases he : stepE c u n = 0
    · rw [if_neg (by omega)] at h ⊢
      have hs := stepE_ok hc he
      obtain ⟨a1, a2, a3⟩ := logC_ok l (tickC c u.author) (i + 1) (tick_ok hc hs) h
      refine ⟨a1, seesC_trans a2 (tick_sees hc hs), fun v hv => ?_⟩
      rcases List.mem_cons.1 hv with e | hv
      · subst e; exact ⟨hs.r, by rw [hs.eq]; exact Int.le_refl _⟩
      · refine ⟨(a3 v hv).1, Int.le_trans ?_ (a3 v hv).2⟩
        exact seesC_iff.1 (tick_sees hc hs) _
    · rw [if_pos he] at h; exact absurd h he

theorem clockL_log {base : List Int} {l : List Upd} {n : Int} (h : wrongC base n = 0) (hl : l.length ≤ 300) : clockL base l n = logC n base l 0 := by
  unfold clockL; rw [if_neg (by omega), if_neg (by omega)]
theorem clockL_ok {base : List Int} {l : List Upd} {n : Int} (h : (clockL base l n).2.1 = 0) : wrongC base n = 0 ∧ l.length ≤ 300 ∧ clockL base l n = logC n base l 0 := by
  unfold clockL at h ⊢
  split at h
  · rename_i h1; exact absurd h h1
  · rename_i h1
    split at h
    · cases h
    · rename_i h2
      exact ⟨by omega, by omega, by rw [if_neg h1, if_neg h2]⟩
end Go.Proofs.Ytkjknlnhffmkkaa

namespace Go.Proofs.Ytkjknlnhffmkkaa
set_option linter.unusedVariables false

/-! ## orders -/
section
variable {α : Type} {f : α → Int} {l : List α}
end
end Go.Proofs.Ytkjknlnhffmkkaa

namespace Go.Proofs.Ytkjknlnhffmkkaa
set_option linter.unusedVariables false

def playS (s : State) (l : List Upd) : State := l.foldl applyS s
end Go.Proofs.Ytkjknlnhffmkkaa

namespace Go.Proofs.Ytkjknlnhffmkkaa
set_option linter.unusedVariables false

def zeroS : State := ⟨[], [], []⟩
end Go.Proofs.Ytkjknlnhffmkkaa

namespace Go.Proofs.Ytkjknlnhffmkkaa
set_option linter.unusedVariables false

def Fits (n : Int) : List Int → List Upd → Prop
  | _, [] => True
  | c, u :: l => StepOk c u n ∧ Fits n (tickC c u.author) l
theorem fits_iff {n : Int} : ∀ {l : List Upd} {c : List Int} {i : Nat}, wrongC c n = 0 → ((logC n c l i).2.1 = 0 ↔ Fits n c l)
  | [], c, i, hc => by simp [logC, Fits]
  | u :: l, c, i, hc => by
    rw [logC.eq_2]
    unfold Fits
    by_cases he : stepE c u n = 0
    · have h := stepE_ok hc he
      rw [if_neg (by omega), fits_iff (l := l) (tick_ok hc h)]
      exact ⟨fun k => ⟨h, k⟩, fun k => k.2⟩
    · rw [if_pos he]
      exact ⟨fun k => absurd k he, fun k => absurd (stepE_of k.1) he⟩
theorem fits_later {n : Int} {l : List Upd} {c : List Int} (hc : wrongC c n = 0) (h : Fits n c l) {u : Upd} (hu : u ∈ l) : RightU u n ∧ atI c u.author.toNat ≤ atI u.seen u.author.toNat :=
  (logC_ok l c 0 hc ((fits_iff (i := 0) hc).2 h)).2.2 u hu
theorem tick_comm {n : Int} {c : List Int} {u v : Upd} (hc : wrongC c n = 0) (hu : StepOk c u n) (hv : StepOk c v n) (hu' : StepOk (tickC c v.author) u n) (hv' : StepOk (tickC c u.author) v n) (hne : u.author.toNat ≠ v.author.toNat) : tickC (tickC c u.author) v.author = tickC (tickC c v.author) u.author := by
  refine atI_ext (by simp only [tickC_len]) fun j => ?_
  have e1 := tick_at hc hu
  have e2 := tick_at hc hv
  rw [tick_at (tick_ok hc hu) hv', tick_at (tick_ok hc hv) hu', e1, e1, e2, e2]
  by_cases h1 : j = u.author.toNat
  · subst h1
    rw [if_neg hne, if_pos rfl, if_pos rfl, if_neg hne]
  · by_cases h2 : j = v.author.toNat
    · subst h2
      rw [if_pos rfl, if_neg h1, if_neg h1, if_pos rfl]
    · rw [if_neg h2, if_neg h1, if_neg h1, if_neg h2]
theorem step_other {n : Int} {c : List Int} {u v : Upd} (hc : wrongC c n = 0) (hu : StepOk c u n) (hv : StepOk c v n) (hne : u.author.toNat ≠ v.author.toNat) : StepOk (tickC c v.author) u n := by
  refine ⟨hu.r, ?_, seesC_trans (tick_sees hc hv) hu.sees⟩
  rw [hu.eq, tick_at hc hv, if_neg hne]
theorem fits_front {n : Int} {u : Upd} {m2 : List Upd} : ∀ {m1 : List Upd} {c : List Int}, wrongC c n = 0 → Fits n c (m1 ++ u :: m2) → StepOk c u n → Fits n c (u :: (m1 ++ m2))
  | [], c, hc, h, k => h
  | v :: m1, c, hc, h, k => by
    obtain ⟨hv, h⟩ := h
    have hc' := tick_ok hc hv
    have hne : u.author.toNat ≠ v.author.toNat := fun e => by
      have := (fits_later hc' h (u := u) (by simp)).2
      rw [tick_at hc hv, if_pos e, k.eq, e] at this
      omega
    have hu' := step_other hc k hv hne
    have hv' := step_other hc hv k (fun e => hne e.symm)
    obtain ⟨a, b⟩ := fits_front (m1 := m1) hc' h hu'
    refine ⟨k, hv', ?_⟩
    show Fits n (tickC (tickC c u.author) v.author) (m1 ++ m2)
    rw [tick_comm hc k hv hu' hv' hne]
    exact b
/-! ## the order -/
def readyU (c : List Int) (u : Upd) : Bool := seesC c u.seen && decide (seqU u = RowKit.wrap64 (atI c u.author.toNat + 1))
theorem ready_step {n : Int} {c : List Int} {u : Upd} (h : StepOk c u n) : readyU c u = true := by
  unfold readyU seqU; rw [h.sees, h.eq]; simp
theorem step_ready {n : Int} {c : List Int} {u : Upd} (hc : wrongC c n = 0) (hr : RightU u n) (h : readyU c u = true) : StepOk c u n := by
  unfold readyU seqU at h
  simp only [Bool.and_eq_true, decide_eq_true_eq] at h
  have b1 := atI_bd hr.c u.author.toNat
  have b2 := atI_bd hc u.author.toNat
  rw [wrap_small (by omega) (by omega), wrap_small (by omega) (by omega)] at h
  exact ⟨hr, by omega, h.1⟩
theorem ready_unique {n : Int} : ∀ {m : List Upd} {c : List Int} {u v : Upd}, wrongC c n = 0 → Fits n c m → u ∈ m → v ∈ m → StepOk c u n → StepOk c v n → u.author.toNat = v.author.toNat → u = v
  | [], c, u, v, hc, h, hu, hv, ku, kv, e => by cases hu
  | w :: m, c, u, v, hc, h, hu, hv, ku, kv, e => by
    obtain ⟨hw, h⟩ := h
    have hc' := tick_ok hc hw
    have key : ∀ x : Upd, x ∈ m → StepOk c x n → x.author.toNat ≠ w.author.toNat := fun x hx kx ex => by
      have := (fits_later hc' h hx).2
      rw [tick_at hc hw, if_pos ex, kx.eq, ex] at this
      omega
    rcases List.mem_cons.1 hu with eu | hu
    · rcases List.mem_cons.1 hv with ev | hv
      · rw [eu, ev]
      · exact absurd (by rw [← e, eu]) (key v hv kv)
    · rcases List.mem_cons.1 hv with ev | hv
      · exact absurd (by rw [e, ev]) (key u hu ku)
      · exact ready_unique hc' h hu hv (step_other hc ku hw (key u hu ku)) (step_other hc kv hw (key v hv kv)) e
/-- the best of the first k -/
def betterU (l : List Upd) (o : Option Nat) (u : Upd) : Bool := match o with | none => true | some b => match l[b]? with | some v => decide (u.author < v.author) | none => false
theorem better_some {l : List Upd} {b : Nat} {u v : Upd} (h : l[b]? = some v) : betterU l (some b) u = decide (u.author < v.author) := by unfold betterU; dsimp only; rw [h]
def bestTo (c : List Int) (l : List Upd) : Nat → Option Nat
  | 0 => none
  | k + 1 => match l[k]? with
    | none => bestTo c l k
    | some u => if readyU c u = true ∧ betterU l (bestTo c l k) u = true then some k else bestTo c l k
structure Best (c : List Int) (l : List Upd) (k b : Nat) (u : Upd) : Prop where
  lt : b < k
  at_ : l[b]? = some u
  r : readyU c u = true
  m : ∀ (j : Nat) v, j < k → l[j]? = some v → readyU c v = true → u.author ≤ v.author
theorem best_none {c : List Int} {l : List Upd} : ∀ {k : Nat}, bestTo c l k = none → ∀ (j : Nat) v, j < k → l[j]? = some v → readyU c v = false
  | 0, _, j, v, hj, _ => by omega
  | k + 1, h, j, v, hj, hv => by
    unfold bestTo at h
    cases hk : l[k]? with
    | none =>
      rw [hk] at h; dsimp only at h
      rcases Nat.lt_or_eq_of_le (Nat.lt_succ_iff.1 hj) with hj | rfl
      · exact best_none h j v hj hv
      · rw [hk] at hv; cases hv
    | some u =>
      rw [hk] at h; dsimp only at h
      split at h
      · cases h
      · rename_i hn
        rw [h] at hn
        rcases Nat.lt_or_eq_of_le (Nat.lt_succ_iff.1 hj) with hj | rfl
        · exact best_none h j v hj hv
        · rw [hk] at hv; injection hv with hv; subst hv
          simpa [betterU] using hn
theorem best_some {c : List Int} {l : List Upd} : ∀ {k b : Nat}, bestTo c l k = some b → ∃ u, Best c l k b u
  | 0, b, h => by cases h
  | k + 1, b, h => by
    unfold bestTo at h
    cases hk : l[k]? with
    | none =>
      rw [hk] at h; dsimp only at h
      obtain ⟨u, a1, a2, a3, a4⟩ := best_some h
      refine ⟨u, by omega, a2, a3, fun j v hj hv hr => ?_⟩
      rcases Nat.lt_or_eq_of_le (Nat.lt_succ_iff.1 hj) with hj | rfl
      · exact a4 j v hj hv hr
      · rw [hk] at hv; cases hv
    | some u =>
      rw [hk] at h; dsimp only at h
      split at h
      · rename_i hn
        injection h with h; subst h
        refine ⟨u, by omega, hk, hn.1, fun j v hj hv hr => ?_⟩
        rcases Nat.lt_or_eq_of_le (Nat.lt_succ_iff.1 hj) with hj | rfl
        · cases hb : bestTo c l k with
          | none => rw [best_none hb j v hj hv] at hr; cases hr
          | some b =>
            obtain ⟨z, a1, a2, a3, a4⟩ := best_some hb
            have hn := hn.2
            rw [hb, better_some a2] at hn
            have := of_decide_eq_true hn
            have := a4 j v hj hv hr
            omega
        · rw [hk] at hv; injection hv with hv; subst hv; exact Int.le_refl _
      · rename_i hn
        obtain ⟨z, a1, a2, a3, a4⟩ := best_some h
        refine ⟨z, by omega, a2, a3, fun j v hj hv hr => ?_⟩
        rcases Nat.lt_or_eq_of_le (Nat.lt_succ_iff.1 hj) with hj | rfl
        · exact a4 j v hj hv hr
        · rw [hk] at hv; injection hv with hv; subst hv
          rw [h, better_some a2] at hn
          have : ¬ u.author < z.author := fun q => hn ⟨hr, decide_eq_true q⟩
          omega
def sortU : Nat → List Int → List Upd → List Upd
  | 0, _, _ => []
  | k + 1, c, l => match bestTo c l l.length with
    | none => []
    | some b => match l[b]? with
      | none => []
      | some u => u :: sortU k (tickC c u.author) (l.eraseIdx b)
theorem erase_perm {l : List Upd} {b : Nat} {u : Upd} (h : l[b]? = some u) : (u :: l.eraseIdx b).Perm l := by
  obtain ⟨hb, e⟩ := List.getElem?_eq_some_iff.1 h
  subst e
  have e : l = l.take b ++ l[b] :: l.drop (b + 1) := by conv => lhs; rw [← List.take_append_drop b l, List.drop_eq_getElem_cons hb]
  have e2 : l.eraseIdx b = l.take b ++ l.drop (b + 1) := List.eraseIdx_eq_take_drop_succ ..
  rw [e2]
  conv => rhs; rw [e]
  exact List.perm_middle.symm
/-- a step of the order: there is a best one; it fits; the rest fits behind it -/
theorem sort_step {n : Int} {c : List Int} {l m : List Upd} (hc : wrongC c n = 0) (hp : m.Perm l) (hm : Fits n c m) (hl : l ≠ []) : ∃ b u m', bestTo c l l.length = some b ∧ Best c l l.length b u ∧ StepOk c u n ∧ m'.Perm (l.eraseIdx b) ∧ Fits n (tickC c u.author) m' ∧ u ∈ m := by
  cases hb : bestTo c l l.length with
  | none =>
    cases m with
    | nil => exact absurd (List.Perm.nil_eq hp).symm hl
    | cons v m =>
      obtain ⟨j, hj⟩ := List.getElem?_of_mem (hp.mem_iff.1 (List.mem_cons_self))
      have := best_none hb j v (List.getElem?_eq_some_iff.1 hj).1 hj
      rw [ready_step hm.1] at this; cases this
  | some b =>
    obtain ⟨u, B⟩ := best_some hb
    have hu : u ∈ m := hp.mem_iff.2 (List.mem_of_getElem? B.at_)
    have hs := step_ready hc (fits_later hc hm hu).1 B.r
    obtain ⟨m1, m2, e⟩ := List.append_of_mem hu
    subst e
    have hf := fits_front hc hm hs
    refine ⟨b, u, m1 ++ m2, rfl, B, hs, ?_, hf.2, hu⟩
    have p1 : (u :: (m1 ++ m2)).Perm (m1 ++ u :: m2) := List.perm_middle.symm
    exact (List.perm_cons u).1 ((p1.trans hp).trans (erase_perm B.at_).symm)
end Go.Proofs.Ytkjknlnhffmkkaa

namespace Go.Proofs.Ytkjknlnhffmkkaa
set_option linter.unusedVariables false

/-! ## sorting -/
def startS (n : Nat) : State := ⟨List.replicate n 0, [], []⟩
def mineU (A : List Int) (l : List Upd) : List Upd := l.filter (hasU A)
def ofS (n : Nat) (l : List Upd) (A : List Int) : State := playS (startS n) (mineU A l)
def Closed (A : List Int) (l : List Upd) : Prop := ∀ u ∈ l, hasU A u = true → seesC A u.seen = true
/-- a log from the beginning, and a clock that is closed over it -/
structure Part (n : Nat) (l : List Upd) (A : List Int) : Prop where
  n1 : 1 ≤ n
  n6 : n ≤ 6
  f : Fits n (List.replicate n 0) l
  a : wrongC A n = 0
  c : Closed A l
end Go.Proofs.Ytkjknlnhffmkkaa

namespace Go.Proofs.Ytkjknlnhffmkkaa
set_option linter.unusedVariables false

end Go.Proofs.Ytkjknlnhffmkkaa

namespace Go.Proofs.Ytkjknlnhffmkkaa
set_option linter.unusedVariables false

structure Node where
  self : Int
  state : State
  base : List Int
  log : List Upd
  known : List (List Int)
deriving DecidableEq
structure Parcel where
  whole : Bool
  state : State
  updates : List Upd
  clock : List Int
deriving DecidableEq
def foldC (c : List Int) (l : List Upd) : List Int := l.foldl (fun c u => tickC c u.author) c
end Go.Proofs.Ytkjknlnhffmkkaa

namespace Go.Proofs.Ytkjknlnhffmkkaa
set_option linter.unusedVariables false

end Go.Proofs.Ytkjknlnhffmkkaa

namespace Go.Proofs.Ytkjknlnhffmkkaa
set_option linter.unusedVariables false

def zs (n : Nat) : List Int := List.replicate n 0
def full (n : Nat) (L : List Upd) : List Int := foldC (zs n) L
/-- a clock that is closed over a log, and has no more than that -/
structure Sub (n : Nat) (L : List Upd) (A : List Int) : Prop where
  p : Part n L A
  le : seesC (full n L) A = true
inductive Bears (n : Nat) (L : List Upd) (e : Node) (p : Parcel) : Prop
  | whole (h : p = ⟨true, ofS n L p.clock, [], p.clock⟩) (s : Sub n L p.clock)
  | part (K : List Int) (h : p = ⟨false, zeroS, p.updates, p.clock⟩) (k : wrongC K n = 0) (f : Fits n K p.updates) (c : foldC K p.updates = p.clock) (s : seesC e.state.clock K = true) (l : ∀ u ∈ p.updates, u ∈ L)
structure ParI (n : Nat) (L : List Upd) (d e : Node) (p : Parcel) : Prop where
  b : Bears n L e p
  w : wrongC p.clock n = 0
  s : seesC d.state.clock p.clock = true
theorem Bears.mono {n : Nat} {L : List Upd} {e e' : Node} {p : Parcel} (h : Bears n L e p) (hs : seesC e'.state.clock e.state.clock = true) : Bears n L e' p := by
  cases h with
  | whole h s => exact .whole h s
  | part K h k f c s l => exact .part K h k f c (seesC_trans hs s) l
theorem ParI.mono {n : Nat} {L : List Upd} {d d' e e' : Node} {p : Parcel} (h : ParI n L d e p) (h1 : seesC d'.state.clock d.state.clock = true) (h2 : seesC e'.state.clock e.state.clock = true) : ParI n L d' e' p := ⟨h.b.mono h2, h.w, seesC_trans h1 h.s⟩
end Go.Proofs.Ytkjknlnhffmkkaa

namespace Go.Proofs.Ytkjknlnhffmkkaa
set_option linter.unusedVariables false

def SortL (base : List Int) (l : List Upd) (n : Int) : List Upd × Int × Int := if (clockL base l n).2.1 ≠ 0 then ([], (clockL base l n).2) else (sortU l.length base l, 0, 0)
theorem SortL_1 {base : List Int} {l : List Upd} {n : Int} (h : (clockL base l n).2.1 ≠ 0) : SortL base l n = ([], (clockL base l n).2) := by unfold SortL; rw [if_pos h]
theorem SortL_2 {base : List Int} {l : List Upd} {n : Int} (h : (clockL base l n).2.1 = 0) : SortL base l n = (sortU l.length base l, 0, 0) := by unfold SortL; rw [if_neg (fun k => k h)]
theorem sort_pre {base : List Int} {l : List Upd} {n : Int} (h : (clockL base l n).2.1 = 0) : wrongC base n = 0 ∧ l.length ≤ 300 ∧ Fits n base l := by
  obtain ⟨a, b, c⟩ := clockL_ok h
  exact ⟨a, b, (fits_iff (i := 0) a).1 (c ▸ h)⟩
def bestI (c : List Int) (r : List Upd) (k : Nat) : Int := match bestTo c r k with | none => -1 | some b => (b : Int)
section
variable {c : List Int} {r : List Upd} {k : Nat} {z z2 : Upd} {bI : Int} {n : Int}
theorem bestI_zero : (-1 : Int) = bestI c r 0 := rfl
theorem bestTo_step (hz : r[k]? = some z) : bestTo c r (k + 1) = if readyU c z = true ∧ betterU r (bestTo c r k) z = true then some k else bestTo c r k := by
  show (match r[k]? with | none => bestTo c r k | some u => if readyU c u = true ∧ betterU r (bestTo c r k) u = true then some k else bestTo c r k) = _
  rw [hz]
theorem bestI_no1 (hz : r[k]? = some z) (hr : readyU c z = false) (hb : bI = bestI c r k) : bI = bestI c r (k + 1) := by
  rw [hb]; unfold bestI; rw [bestTo_step hz, if_neg (by simp [hr])]
theorem bestI_yes0 (hz : r[k]? = some z) (hr : readyU c z = true) (hb : bI = bestI c r k) (h : bI < 0) : (k : Int) = bestI c r (k + 1) := by
  unfold bestI at hb ⊢
  cases hk : bestTo c r k with
  | none => rw [bestTo_step hz, hk, if_pos ⟨hr, rfl⟩]
  | some b => rw [hk] at hb; dsimp only at hb; omega
theorem bestI_yes1 (hz : r[k]? = some z) (hr : readyU c z = true) (hb : bI = bestI c r k) (h0 : ¬ bI < 0) (hz2 : r[bI.toNat]? = some z2) (h : z.author < z2.author) : (k : Int) = bestI c r (k + 1) := by
  unfold bestI at hb ⊢
  cases hk : bestTo c r k with
  | none => rw [hk] at hb; dsimp only at hb; omega
  | some b =>
    rw [hk] at hb; dsimp only at hb
    subst hb
    rw [Int.toNat_natCast] at hz2
    rw [bestTo_step hz, hk, if_pos ⟨hr, by rw [better_some hz2]; exact decide_eq_true h⟩]
theorem bestI_no2 (hz : r[k]? = some z) (hb : bI = bestI c r k) (h0 : ¬ bI < 0) (hz2 : r[bI.toNat]? = some z2) (h : ¬ z.author < z2.author) : bI = bestI c r (k + 1) := by
  have hb' := hb
  unfold bestI at hb ⊢
  cases hk : bestTo c r k with
  | none => rw [hk] at hb; dsimp only at hb; omega
  | some b =>
    rw [hk] at hb; dsimp only at hb
    subst hb
    rw [Int.toNat_natCast] at hz2
    rw [bestTo_step hz, hk, if_neg (by rw [better_some hz2]; simp [h])]
theorem ready_T {y : Int} (hc : wrongC c n = 0) (ha : atI c z.author.toNat = y) (h1 : seesC c z.seen = true) (h2 : seqU z = y + 1) : readyU c z = true := by
  have := atI_bd hc z.author.toNat
  unfold readyU; rw [h1, h2, ← ha, wrap_small (by omega) (by omega)]; simp
theorem ready_F1 (h1 : seesC c z.seen = false) : readyU c z = false := by unfold readyU; rw [h1]; rfl
theorem ready_F2 {y : Int} (hc : wrongC c n = 0) (ha : atI c z.author.toNat = y) (h2 : ¬ seqU z = y + 1) : readyU c z = false := by
  have := atI_bd hc z.author.toNat
  unfold readyU; rw [wrap_small (by omega) (by omega), ha]; simp [h2]
end
structure SortI (n : Int) (base : List Int) (l : List Upd) (c : List Int) (r o : List Upd) : Prop where
  w : wrongC c n = 0
  f : ∃ m, m.Perm r ∧ Fits n c m
  e : o ++ sortU r.length c r = sortU l.length base l
  n : o.length + r.length = l.length
section
variable {n : Int} {base c : List Int} {l r o : List Upd}
theorem SortI.right (h : SortI n base l c r o) {z : Upd} {k : Nat} (hz : r[k]? = some z) : RightU z n := by
  obtain ⟨m, hp, hf⟩ := h.f
  exact (fits_later h.w hf (hp.mem_iff.2 (List.mem_of_getElem? hz))).1
theorem SortI.step (h : SortI n base l c r o) (hr : 0 < r.length) : ∃ b u, bestTo c r r.length = some b ∧ Best c r r.length b u ∧ StepOk c u n ∧ SortI n base l (tickC c u.author) (r.eraseIdx b) (o ++ [u]) := by
  obtain ⟨m, hp, hf⟩ := h.f
  obtain ⟨b, u, m', h1, B, hs, hp', hf', _⟩ := sort_step h.w hp hf (by rintro rfl; cases hr)
  have hlen : r.length = (r.eraseIdx b).length + 1 := by rw [List.length_eraseIdx, if_pos B.lt]; omega
  refine ⟨b, u, h1, B, hs, tick_ok h.w hs, ⟨m', hp', hf'⟩, ?_, ?_⟩
  · have e := h.e
    generalize sortU l.length base l = X at e ⊢
    rw [hlen] at e
    unfold sortU at e
    rw [h1] at e; dsimp only at e; rw [B.at_] at e
    rw [← e]; simp
  · have := h.n; simp; omega
theorem SortI.fin (h : SortI n base l c r o) (hr : r.length = 0) : sortU l.length base l = o := by
  have : r = [] := List.eq_nil_of_length_eq_zero hr
  subst this
  rw [← h.e]; simp [sortU]
end
/-! ## the laws -/
end Go.Proofs.Ytkjknlnhffmkkaa

namespace Go.Proofs.Ytkjknlnhffmkkaa
set_option linter.unusedVariables false
def ReadyR (c : List Int) (u : Upd) : Prop := atI u.seen u.author.toNat = atI c u.author.toNat ∧ seesC c u.seen = true
structure SortR (n : Int) (base : List Int) (l : List Upd) (c : List Int) (r o : List Upd) : Prop where
  i : SortI n base l c r o
  p : (o ++ r).Perm l
  d : ∀ v ∈ o, atI v.seen v.author.toNat < atI c v.author.toNat
  a : ∀ v ∈ l, RightU v n
section
variable {n : Int} {base c : List Int} {l r o : List Upd}
theorem SortR.start (hw : wrongC base n = 0) (hf : Fits n base l) : SortR n base l base l [] :=
  ⟨⟨hw, ⟨l, List.Perm.refl _, hf⟩, rfl, by simp⟩, List.Perm.refl _, by simp, fun v hv => (fits_later hw hf hv).1⟩
theorem SortR.rest (h : SortR n base l c r o) {u : Upd} (hu : u ∈ l) (hr : ReadyR c u) : u ∈ r := by
  have := h.p.mem_iff.2 hu
  rcases List.mem_append.1 this with k | k
  · have := h.d u k; have := hr.1; omega
  · exact k
theorem SortR.step (h : SortR n base l c r o) {u : Upd} (hu : u ∈ l) (hr : ReadyR c u) : StepOk c u n := ⟨h.a u hu, hr.1, hr.2⟩
theorem SortR.some (h : SortR n base l c r o) (hl : o.length < l.length) : ∃ u ∈ l, ReadyR c u ∧ 0 ≤ u.author ∧ u.author < n := by
  have := h.i.n
  obtain ⟨b, u, h1, B, hs, _⟩ := h.i.step (by omega)
  exact ⟨u, h.p.mem_iff.1 (List.mem_append_right _ (List.mem_of_getElem? B.at_)), ⟨hs.eq, hs.sees⟩, hs.r.a0, hs.r.a1⟩
theorem SortR.found (h : SortR n base l c r o) {u : Upd} (hu : u ∈ l) (hr : ReadyR c u) (hm : ∀ v ∈ l, v.author < u.author → ¬ ReadyR c v) : ∃ r', SortR n base l (tickC c u.author) r' (o ++ [u]) := by
  have hur := h.rest hu hr
  have hsu := h.step hu hr
  obtain ⟨b, v, h1, B, hs, hI⟩ := h.i.step (List.length_pos_of_mem hur)
  have hvr : v ∈ r := List.mem_of_getElem? B.at_
  have hvl : v ∈ l := h.p.mem_iff.1 (List.mem_append_right _ hvr)
  obtain ⟨j, hj⟩ := List.getElem?_of_mem hur
  have hle : v.author ≤ u.author := B.m j u (List.getElem?_eq_some_iff.1 hj).1 hj (ready_step hsu)
  have hge : ¬ v.author < u.author := fun k => hm v hvl k ⟨hs.eq, hs.sees⟩
  obtain ⟨m, hp, hf⟩ := h.i.f
  have e : u = v := ready_unique h.i.w hf (hp.mem_iff.2 hur) (hp.mem_iff.2 hvr) hsu hs (by congr 1; omega)
  subst e
  refine ⟨_, hI, ?_, fun w hw => ?_, h.a⟩
  · have := erase_perm B.at_
    rw [List.append_assoc, List.singleton_append]
    exact (List.Perm.append_left _ this).trans h.p
  · rw [tick_at h.i.w hsu]
    rcases List.mem_append.1 hw with hw | hw
    · have := h.d w hw
      split
      · rename_i k; rw [k] at this ⊢; omega
      · exact this
    · rw [List.mem_singleton] at hw; subst hw
      rw [if_pos rfl]; have := hr.1; omega
theorem SortR.fin (h : SortR n base l c r o) (hl : ¬ o.length < l.length) : sortU l.length base l = o := h.i.fin (by have := h.i.n; omega)
end
end Go.Proofs.Ytkjknlnhffmkkaa
