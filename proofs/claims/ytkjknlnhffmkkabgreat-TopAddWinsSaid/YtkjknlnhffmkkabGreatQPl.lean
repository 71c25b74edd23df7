/- Plain laws: clocks, updates, logs, states. No program in sight. -/
import Derived.WalkKit
import Derived.Maps.AppendAt
import Derived.Deep.AppendLies
import Derived.Deep.Draws
namespace Go.Proofs.YtkjknlnhffmkkabGreat
open Go.RowKit
set_option linter.unusedVariables false

theorem hid {p : Prop} (h : p) : Hid p := h
theorem ret_i {k : IntKind} {a b : Int} (h : a = b) : Ending.returned (.int k a) = .returned (.int k b) := by rw [h]
theorem ret_b {a b : Bool} (h : a = b) : Ending.returned (.bool a) = .returned (.bool b) := by rw [h]

/-- a reading of memory: block, place -/
abbrev Rd := Nat → Nat → Option Value
def wrd (w : World) : Rd := fun b o => w.cell? ⟨b, o, none⟩
/-- without one block -/
def but (w : World) (g : Option Nat) : Rd := fun b o => if some b = g then none else w.cell? ⟨b, o, none⟩
/-- below a block -/
def upto (w : World) (B : Nat) : Rd := fun b o => if b < B then w.cell? ⟨b, o, none⟩ else none
def Rd.le (r s : Rd) : Prop := ∀ b o v, r b o = some v → s b o = some v

theorem Rd.le_refl (r : Rd) : Rd.le r r := fun _ _ _ h => h
theorem Rd.le_trans {r s t : Rd} (h : Rd.le r s) (k : Rd.le s t) : Rd.le r t := fun b o v e => k b o v (h b o v e)
theorem below_drewN (B : Nat) (w : World) (n : Nat) : Below B w (w.drewN n) := ⟨rfl, rfl, rfl, Nat.le_refl _, fun _ _ => rfl⟩
theorem blk_lt {w : World} {b o : Nat} {v : Value} (h : w.cell? ⟨b, o, none⟩ = some v) : b < w.heap.size := World.block_lt_of_cell? w ⟨b, o, none⟩ h
theorem le_below {w w' : World} {B : Nat} (hb : Below B w w') (hB : w.heap.size ≤ B) : Rd.le (wrd w) (wrd w') := fun b o v h => by
  have := blk_lt h
  exact (hb.cell (p := ⟨b, o, none⟩) (by show b < B; omega)).trans h
theorem le_alloc (w : World) (o : Obj) : Rd.le (wrd w) (wrd (w.alloc o)) := le_below ((Below.refl _ _).alloc (Nat.le_refl _) o) (Nat.le_refl _)
theorem upto_top (w : World) : Rd.le (wrd w) (upto w w.heap.size) := fun b o v h => by
  unfold upto
  rw [if_pos (blk_lt h)]
  exact h
theorem upto_le {w0 w : World} {B : Nat} (hb : Below B w0 w) : Rd.le (upto w0 B) (wrd w) := fun b o v h => by
  unfold upto at h
  split at h
  · rename_i hlt
    exact (hb.cell (p := ⟨b, o, none⟩) hlt).trans h
  · cases h
/-- one thing of some cells -/
abbrev CR (α : Type) := Rd → List Value → α → Prop
def MonoR {α : Type} (R : CR α) : Prop := ∀ r s cs x, Rd.le r s → R r cs x → R s cs x

def RowR {α : Type} (size : Nat) (R : CR α) (rd : Rd) : List Value → List α → Prop
  | xs, [] => xs = []
  | xs, x :: l => ∃ cs rest, xs = cs ++ rest ∧ cs.length = size ∧ R rd cs x ∧ RowR size R rd rest l

section
variable {α : Type} {size : Nat} {R : CR α} {rd : Rd}
theorem RowR.len : ∀ {l : List α} {xs : List Value}, RowR size R rd xs l → xs.length = l.length * size
  | [], _, h => by cases h; simp
  | x :: l, _, ⟨cs, rest, e, h1, _, h3⟩ => by
    subst e
    have := h3.len
    simp [h1, this, Nat.add_mul, Nat.add_comm]
theorem RowR.mono {rd' : Rd} (hm : MonoR R) (hle : Rd.le rd rd') : ∀ {l : List α} {xs : List Value}, RowR size R rd xs l → RowR size R rd' xs l
  | [], _, h => h
  | _ :: _, _, ⟨cs, rest, e, h1, h2, h3⟩ => ⟨cs, rest, e, h1, hm _ _ _ _ hle h2, h3.mono hm hle⟩
theorem RowR.append : ∀ {l m : List α} {xs ys : List Value}, RowR size R rd xs l → RowR size R rd ys m → RowR size R rd (xs ++ ys) (l ++ m)
  | [], _, _, _, h, k => by cases h; exact k
  | _ :: _, _, _, _, ⟨cs, rest, e, h1, h2, h3⟩, k => ⟨cs, rest ++ _, by rw [e, List.append_assoc], h1, h2, h3.append k⟩
theorem RowR.one {cs : List Value} {x : α} (h1 : cs.length = size) (h : R rd cs x) : RowR size R rd cs [x] := ⟨cs, [], by simp, h1, h, rfl⟩
theorem RowR.push {l : List α} {xs cs : List Value} {x : α} (h : RowR size R rd xs l) (h1 : cs.length = size) (hx : R rd cs x) : RowR size R rd (xs ++ cs) (l ++ [x]) := h.append (RowR.one h1 hx)
/-- a row's cells, place by place -/
theorem RowR.get : ∀ {l : List α} {xs : List Value} (k : Nat) {x : α}, RowR size R rd xs l → l[k]? = some x →
    ∃ cs, cs.length = size ∧ R rd cs x ∧ ∀ j u, cs[j]? = some u → xs[k * size + j]? = some u
  | [], _, k, x, _, hk => by simp at hk
  | y :: l, _, 0, x, ⟨cs, rest, e, h1, h2, h3⟩, hk => by
    simp at hk; subst hk; subst e
    refine ⟨cs, h1, h2, fun j u hu => ?_⟩
    have hj : j < cs.length := (List.getElem?_eq_some_iff.1 hu).1
    rw [Nat.zero_mul, Nat.zero_add, List.getElem?_append_left hj]
    exact hu
  | y :: l, _, k + 1, x, ⟨cs, rest, e, h1, h2, h3⟩, hk => by
    subst e
    obtain ⟨cs', a, b, c⟩ := h3.get k (by simpa using hk)
    refine ⟨cs', a, b, fun j u hu => ?_⟩
    rw [List.getElem?_append_right (by rw [h1, Nat.add_mul]; omega)]
    rw [← c j u hu]
    congr 1
    rw [h1, Nat.add_mul]
    omega
theorem RowR.drop : ∀ {l : List α} {xs : List Value} (k : Nat), k ≤ l.length → RowR size R rd xs l → RowR size R rd (xs.drop (k * size)) (l.drop k)
  | _, _, 0, _, h => by simpa using h
  | [], _, k + 1, hk, h => by simp at hk
  | y :: l, _, k + 1, hk, ⟨cs, rest, e, h1, h2, h3⟩ => by
    subst e
    have := h3.drop k (by simpa using hk)
    rw [List.drop_succ_cons, Nat.add_mul, Nat.add_comm (k * size), Nat.one_mul, ← List.drop_drop]
    rw [show (cs ++ rest).drop size = rest by rw [← h1]; simp]
    exact this
theorem RowR.take : ∀ {l : List α} {xs : List Value} (k : Nat), RowR size R rd xs l → RowR size R rd (xs.take (k * size)) (l.take k)
  | _, _, 0, h => by simp [RowR]
  | [], _, k + 1, h => by cases h; simp [RowR]
  | y :: l, _, k + 1, ⟨cs, rest, e, h1, h2, h3⟩ => by
    subst e
    have := h3.take k
    refine ⟨cs, rest.take (k * size), ?_, h1, h2, this⟩
    rw [Nat.add_mul, Nat.add_comm (k * size), Nat.one_mul, List.take_append, List.take_of_length_le (by omega), h1]
    simp
end

/-- a slice's value reads as a list -/
def SliceR {α : Type} (size : Nat) (R : CR α) (rd : Rd) (v : Value) (l : List α) : Prop :=
  ∃ A c xs, v = .slice A l.length c ∧ l.length ≤ c ∧ c ≤ maxLen ∧ RowR size R rd xs l ∧
    (l ≠ [] → ∃ b o, A = some ⟨b, o, none⟩ ∧ ∀ j u, xs[j]? = some u → rd b (o + j) = some u)

section
variable {α : Type} {size : Nat} {R : CR α} {rd : Rd}
theorem SliceR.mono {rd' : Rd} {v : Value} {l : List α} (h : SliceR size R rd v l) (hm : MonoR R) (hle : Rd.le rd rd') : SliceR size R rd' v l := by
  obtain ⟨A, c, xs, e, h1, h2, h3, h4⟩ := h
  refine ⟨A, c, xs, e, h1, h2, h3.mono hm hle, fun hl => ?_⟩
  obtain ⟨b, o, eA, hc⟩ := h4 hl
  exact ⟨b, o, eA, fun j u hu => hle _ _ _ (hc j u hu)⟩
theorem SliceR.len {A : Option Addr} {n c : Nat} {l : List α} (h : SliceR size R rd (.slice A n c) l) : n = l.length ∧ n ≤ c ∧ c ≤ maxLen := by
  obtain ⟨A', c', xs, e, h1, h2, _⟩ := h
  injection e with e1 e2 e3
  subst e2 e3
  exact ⟨rfl, h1, h2⟩
theorem SliceR.val {v : Value} {l : List α} (h : SliceR size R rd v l) : ∃ A c, v = .slice A l.length c ∧ l.length ≤ c ∧ c ≤ maxLen := by
  obtain ⟨A, c, xs, e, h1, h2, _⟩ := h
  exact ⟨A, c, e, h1, h2⟩
/-- element k: its address, its cells -/
theorem SliceR.get {A : Option Addr} {n c : Nat} {l : List α} {k : Nat} {x : α} (h : SliceR size R rd (.slice A n c) l) (hk : l[k]? = some x) :
    ∃ b o cs, A = some ⟨b, o, none⟩ ∧ cs.length = size ∧ R rd cs x ∧ ∀ j u, cs[j]? = some u → rd b (o + k * size + j) = some u := by
  obtain ⟨A', c', xs, e, h1, h2, h3, h4⟩ := h
  injection e with e1 e2 e3
  subst e1
  obtain ⟨b, o, eA, hc⟩ := h4 (by intro e; subst e; simp at hk)
  obtain ⟨cs, a1, a2, a3⟩ := h3.get k hk
  exact ⟨b, o, cs, eA, a1, a2, fun j u hu => by have := hc _ _ (a3 j u hu); rwa [← Nat.add_assoc] at this⟩
theorem SliceR.nil_ (rd : Rd) : SliceR size R rd (.slice none 0 0) ([] : List α) := ⟨none, 0, [], rfl, Nat.le_refl _, by simp [maxLen], rfl, fun h => absurd rfl h⟩
end

def IntR : CR Int := fun _ cs n => cs = [.int .i64 n]
/-- one cell that holds a slice -/
def SlC {α : Type} (size : Nat) (R : CR α) : CR (List α) := fun rd cs l => ∃ v, cs = [v] ∧ SliceR size R rd v l
theorem mono_int : MonoR IntR := fun _ _ _ _ _ h => h
theorem mono_sl {α : Type} {size : Nat} {R : CR α} (hm : MonoR R) : MonoR (SlC size R) := fun _ _ _ _ hle ⟨v, e, h⟩ => ⟨v, e, h.mono hm hle⟩
/-- a struct by value -/
def AggR {α : Type} (R : CR α) : Rd → Value → α → Prop := fun rd v x => ∃ cs, v = .agg cs.toArray ∧ R rd cs x

abbrev IntsR := SliceR 1 IntR
theorem IntsR.mono {rd rd' : Rd} {v : Value} {l : List Int} (h : IntsR rd v l) (hle : Rd.le rd rd') : IntsR rd' v l := SliceR.mono h mono_int hle
theorem IntsR.at_ {rd : Rd} {A : Option Addr} {n c : Nat} {l : List Int} (h : IntsR rd (.slice A n c) l) {k : Nat} (hk : k < l.length) :
    ∃ b o, A = some ⟨b, o, none⟩ ∧ rd b (o + k) = some (.int .i64 l[k]) := by
  obtain ⟨b, o, cs, e, h1, h2, h3⟩ := SliceR.get h (k := k) (x := l[k]) (by simp [hk])
  cases h2
  exact ⟨b, o, e, by simpa using h3 0 _ rfl⟩

theorem IntsR.cell {rd : Rd} {b o n c : Nat} {l : List Int} (h : IntsR rd (.slice (some ⟨b, o, none⟩) n c) l) {w : World} (hle : Rd.le rd (wrd w)) {k : Nat} (hk : k < l.length) : w.cell? ⟨b, o + k, none⟩ = some (.int .i64 l[k]) := by
  obtain ⟨b', o', e, hc⟩ := h.at_ hk
  cases e
  exact hle _ _ _ hc

/-- what the call owns and lets grow -/
def OwnR {α : Type} (size : Nat) (R : CR α) (base : Nat) (e : TypeId) (w : World) (rd : Rd) (v : Value) (l : List α) : Prop :=
  ∃ xs, w.ownsRow base e size v l.length xs ∧ RowR size R rd xs l

section
variable {α : Type} {size base : Nat} {R : CR α} {rd : Rd} {e : TypeId} {w : World} {v : Value} {l : List α}
theorem OwnR.nil_ : OwnR size R base e w rd (.slice none 0 0) ([] : List α) := ⟨[], World.ownsRow_nil w base e size, rfl⟩
theorem OwnR.block (h : OwnR size R base e w rd v l) : ∀ k, v.ownBlock = some k → base ≤ k ∧ k < w.heap.size := by
  obtain ⟨xs, h1, _⟩ := h
  exact h1.lt
theorem OwnR.mono {rd' : Rd} (h : OwnR size R base e w rd v l) (hm : MonoR R) (hle : Rd.le rd rd') : OwnR size R base e w rd' v l := by
  obtain ⟨xs, h1, h2⟩ := h
  exact ⟨xs, h1, h2.mono hm hle⟩
theorem OwnR.below {w' : World} (h : OwnR size R base e w rd v l) (hb : Below w.heap.size w w') : OwnR size R base e w' rd v l := by
  obtain ⟨xs, h1, h2⟩ := h
  exact ⟨xs, h1.kept (row := none) ⟨hb.os, hb.tape, hb.output, hb.size, fun k hk _ => hb.block k hk⟩ (by cases hv : v.ownBlock <;> simp), h2⟩
theorem OwnR.alloc (h : OwnR size R base e w rd v l) (o : Obj) : OwnR size R base e (w.alloc o) rd v l := h.below ((Below.refl _ _).alloc (Nat.le_refl _) o)
theorem OwnR.slice (h : OwnR size R base e w rd v l) (hm : MonoR R) (hle : Rd.le rd (wrd w)) : SliceR size R (wrd w) v l := by
  obtain ⟨xs, h1, h2⟩ := h
  have hx := h1
  rcases h1.2 with ⟨rfl, hn⟩ | ⟨g, cap, cur, rfl, _, hh, hc, hm', _⟩
  · have : l = [] := List.eq_nil_of_length_eq_zero hn
    subst this
    exact SliceR.nil_ _
  · refine ⟨some ⟨g, 0, none⟩, cap, xs, rfl, hc, hm', h2.mono hm hle, fun _ => ⟨g, 0, rfl, fun j u hu => ?_⟩⟩
    have := hx.cells (g := g) rfl j u hu
    have e : (⟨g, 0, none⟩ : Addr).add j = ⟨g, j, none⟩ := by unfold Addr.add; split <;> simp_all
    rw [e] at this
    simpa [wrd] using this
theorem OwnR.val (h : OwnR size R base e w rd v l) : ∃ A c, v = .slice A l.length c ∧ l.length ≤ c ∧ c ≤ maxLen := by
  obtain ⟨xs, h1, h2⟩ := h
  rcases h1.2 with ⟨rfl, hn⟩ | ⟨g, cap, cur, rfl, _, hh, hc, hm', _⟩
  · exact ⟨none, 0, by rw [hn], by omega, by simp [maxLen]⟩
  · exact ⟨_, _, rfl, hc, hm'⟩
end

theorem below_grown {w w' : World} {base : Nat} {row : Option Nat} (hg : w.grownBy w' row) (hB : base ≤ w.heap.size) (hr : ∀ k, row = some k → base ≤ k) : Below base w w' :=
  (Below.refl _ _).grown hg hB hr

theorem alloc_cells (w : World) (cs : List Value) (e : TypeId) (f : Nat × Nat) : ∀ (j : Nat) (u : Value), cs[j]? = some u → (w.alloc (.cells cs.toArray e f)).cell? ⟨w.heap.size, j, none⟩ = some u := by
  intro j u hu
  rw [cell_of_row _ w.heap.size j cs.toArray e f (heap_alloc_new w _)]
  simpa using hu

/-- what append asks of a slice type t over e -/
structure ElemOk (P : Program) (t e : TypeId) (size bytes : Nat) : Prop where
  ex : ∃ (i : TypeInfo) (z : Value), P.underlying t = some (.slice e) ∧ P.info? e = some i ∧ i.zero = some z ∧ i.size = size ∧ i.bytes = bytes ∧ z.cells.size = size ∧ 0 < size

/-- append of one thing onto what the call owns -/
theorem wpList_push {α : Type} {P : Program} (w : World) {ops : Array Oper} {rest : List Oper} {o : Oper} {a : Act} {Q : Exit → Act → World → Prop} (hgd : o.guard = none) (s x : Operand) (t : TypeId)
    (ho : o.op = .call { callee := .builtin .append, args := #[s, x], argTypes := #[t, t] })
    {size : Nat} {R : CR α} (base : Nat) (e : TypeId) (bytes : Nat) (K : ElemOk P t e size bytes) (rd : Rd) (v : Value) (l : List α) (hs : a.eval s = v) (hown : OwnR size R base e w rd v l)
    (b : Nat) (c : Nat) (news : List Value) (y : α) (hx : a.eval x = .slice (some ⟨b, 0, none⟩) 1 c) (hl : news.length = size) (hnews : ∀ j u, news[j]? = some u → w.cell? ⟨b, j, none⟩ = some u) (h1 : ∀ u ∈ news, u.oneCell' = true)
    (hR : R rd news y) (hbytes : (l.length + 1) * bytes ≤ 140737488355328 ∧ l.length + 1 ≤ maxLen) (hbase : base ≤ w.heap.size)
    (h : ∀ v' w', OwnR size R base e w' rd v' (l ++ [y]) → Below base w w' → w.grownBy w' v.ownBlock → (v'.ownBlock = v.ownBlock ∨ v'.ownBlock = some w.heap.size) → wpList P ops Q rest (a.put o.dst v') w') : wpList P ops Q (o :: rest) a w := by
  obtain ⟨i, z, ht, hi, hz, hsize, hby, hzs, hsz⟩ := K.ex
  obtain ⟨xs, hrow, hrr⟩ := hown
  refine wpList_plain hgd fun _ hK => ?_
  obtain ⟨v', w', hrun, h2, h3, _, h4⟩ := run_append_own_at (P := P) w base t o.type e i z size bytes ht hi hz hsize hby hzs hsz v l.length xs hrow ⟨b, 0, none⟩ 1 c news (by simp [hl])
    (fun j u hu => by have := hnews j u hu; rw [show (⟨b, 0, none⟩ : Addr).add j = ⟨b, j, none⟩ by unfold Addr.add; split <;> simp_all]; exact this) h1 (by omega) hbytes.1 hbase
  unfold Oper.wp execOp
  simp only [ho, resolve, invoke, builtin, Sem.run_bind, Sem.run_pure, Result.andThen_ok, List.map_toArray, List.map_cons, List.map_nil, hs, hx, hrun]
  exact hK _ _ (h v' w' ⟨xs ++ news, by simpa using h2, hrr.push hl hR⟩ (below_grown h3 hbase fun k hk => (hrow.lt k hk).1) h3 h4)

def OneR {α : Type} (R : CR α) : Prop := ∀ rd cs x, R rd cs x → ∀ u ∈ cs, u.oneCell' = true
theorem one_int : OneR IntR := fun _ cs x h u hu => by cases h; rw [List.mem_singleton.1 hu]; rfl
theorem one_sl {α : Type} {size : Nat} {R : CR α} : OneR (SlC size R) := fun _ cs x ⟨v, e, A, c, xs, ev, _⟩ u hu => by
  subst e ev; rw [List.mem_singleton.1 hu]; rfl
theorem RowR.one_ {α : Type} {size : Nat} {R : CR α} {rd : Rd} (h1 : OneR R) : ∀ {l : List α} {xs : List Value}, RowR size R rd xs l → ∀ u ∈ xs, u.oneCell' = true
  | [], _, h, u, hu => by cases h; cases hu
  | _ :: _, _, ⟨cs, rest, e, _, h2, h3⟩, u, hu => by
    subst e
    rcases List.mem_append.1 hu with h | h
    · exact h1 _ _ _ h2 u h
    · exact h3.one_ h1 u h

theorem run_append_of_nil {P : Program} (w : World) (base : Nat) (t ty e : TypeId) (i : TypeInfo) (size : Nat) (ht : P.underlying t = some (.slice e)) (hi : P.info? e = some i)
    (v : Value) (n : Nat) (xs : List Value) (hown : w.ownsRow base e size v n xs) (c : Nat) : (Builtin.append_ #[t, t] ty #[v, .slice none 0 c]).run P w = .ok v w := by
  rcases hown.2 with ⟨rfl, rfl⟩ | ⟨g, cap, cur, rfl, _, _, hnc, _⟩
  · simp [Builtin.append_, run_underlying ht, sizeOf, typeInfo, hi, Builtin.lenOf, Builtin.firstCells]
  · simp [Builtin.append_, run_underlying ht, sizeOf, typeInfo, hi, Builtin.lenOf, Builtin.firstCells, hnc, storeCells]

/-- append of a whole slice onto what the call owns -/
theorem run_cat {α : Type} {P : Program} (w : World) (t ty : TypeId) {size : Nat} {R : CR α} (base : Nat) (e : TypeId) (bytes : Nat) (K : ElemOk P t e size bytes) (rd : Rd) (hle : Rd.le rd (wrd w)) (h1 : OneR R)
    (v u : Value) (l m : List α) (hown : OwnR size R base e w rd v l) (hu : SliceR size R rd u m) (hbytes : (l.length + m.length) * bytes ≤ 140737488355328 ∧ l.length + m.length ≤ maxLen) (hbase : base ≤ w.heap.size) :
    ∃ v' w', (Builtin.append_ #[t, t] ty #[v, u]).run P w = .ok v' w' ∧ OwnR size R base e w' rd v' (l ++ m) ∧ Below base w w' ∧ w.grownBy w' v.ownBlock ∧ (v'.ownBlock = v.ownBlock ∨ v'.ownBlock = some w.heap.size) := by
  obtain ⟨i, z, ht, hi, hz, hsize, hby, hzs, hsz⟩ := K.ex
  obtain ⟨xs, hrow, hrr⟩ := hown
  obtain ⟨A, c, ys, rfl, hc1, hc2, hys, hcell⟩ := hu
  rcases m with _ | ⟨y, m⟩
  · have hy0 : ys = [] := by simpa [RowR] using hys
    subst hy0
    rcases A with _ | ad
    · exact ⟨v, w, run_append_of_nil w base t ty e i size ht hi v _ xs hrow c, ⟨xs, by simpa using hrow, by simpa using hrr⟩, Below.refl _ _, World.grownBy.refl w _, .inl rfl⟩
    · obtain ⟨v', w', hrun, h2, h3, _, h4⟩ := run_append_own_at (P := P) w base t ty e i z size bytes ht hi hz hsize hby hzs hsz v l.length xs hrow ad 0 c [] (by simp) (by simp) (by simp) (by simpa using hbytes.2) (by simpa using hbytes.1) hbase
      exact ⟨v', w', hrun, ⟨xs, by simpa using h2, by simpa using hrr⟩, below_grown h3 hbase fun k hk => (hrow.lt k hk).1, h3, h4⟩
  · obtain ⟨b, o, rfl, hcl⟩ := hcell (by simp)
    obtain ⟨v', w', hrun, h2, h3, _, h4⟩ := run_append_own_at (P := P) w base t ty e i z size bytes ht hi hz hsize hby hzs hsz v l.length xs hrow ⟨b, o, none⟩ (y :: m).length c ys hys.len
      (fun j u hu => by have := hle _ _ _ (hcl j u hu); rw [show (⟨b, o, none⟩ : Addr).add j = ⟨b, o + j, none⟩ by unfold Addr.add; split <;> simp_all]; exact this) (hys.one_ h1) hbytes.2 hbytes.1 hbase
    exact ⟨v', w', hrun, ⟨xs ++ ys, by simpa using h2, hrr.append hys⟩, below_grown h3 hbase fun k hk => (hrow.lt k hk).1, h3, h4⟩

theorem append_types {P : Program} (w : World) {t t' ty e e' : TypeId} {i : TypeInfo} (ht : P.underlying t = some (.slice e)) (ht' : P.underlying t' = some (.slice e')) (hi : P.info? e = some i) (A : Option Addr) (n c : Nat) (u : Value) :
    (Builtin.append_ #[t, t'] ty #[.slice A n c, u]).run P w = (Builtin.append_ #[t, t] ty #[.slice A n c, u]).run P w := by
  simp [Builtin.append_, run_underlying ht, run_underlying ht', sizeOf, typeInfo, hi]

theorem wpList_cat {α : Type} {P : Program} (w : World) {ops : Array Oper} {rest : List Oper} {o : Oper} {a : Act} {Q : Exit → Act → World → Prop} (hgd : o.guard = none) (s x : Operand) (t : TypeId)
    (ho : o.op = .call { callee := .builtin .append, args := #[s, x], argTypes := #[t, t] })
    {size : Nat} {R : CR α} (base : Nat) (e : TypeId) (bytes : Nat) (K : ElemOk P t e size bytes) (rd : Rd) (hle : Rd.le rd (wrd w)) (h1 : OneR R)
    (v u : Value) (l m : List α) (hs : a.eval s = v) (hx : a.eval x = u) (hown : OwnR size R base e w rd v l) (hu : SliceR size R rd u m) (hbytes : (l.length + m.length) * bytes ≤ 140737488355328 ∧ l.length + m.length ≤ maxLen) (hbase : base ≤ w.heap.size)
    (h : ∀ v' w', OwnR size R base e w' rd v' (l ++ m) → Below base w w' → w.grownBy w' v.ownBlock → (v'.ownBlock = v.ownBlock ∨ v'.ownBlock = some w.heap.size) → wpList P ops Q rest (a.put o.dst v') w') : wpList P ops Q (o :: rest) a w := by
  refine wpList_plain hgd fun _ hK => ?_
  obtain ⟨v', w', hrun, h2, h3, h4, h5⟩ := run_cat (P := P) w t o.type base e bytes K rd hle h1 v u l m hown hu hbytes hbase
  unfold Oper.wp execOp
  simp only [ho, resolve, invoke, builtin, Sem.run_bind, Sem.run_pure, Result.andThen_ok, List.map_toArray, List.map_cons, List.map_nil, hs, hx, hrun]
  exact hK _ _ (h v' w' h2 h3 h4 h5)

/-- a new block without cells is owned -/
theorem own_empty {α : Type} {size : Nat} {R : CR α} {base : Nat} {e : TypeId} (w : World) (rd : Rd) (hb : base ≤ w.heap.size) : OwnR size R base e (w.alloc (.cells #[] e)) rd (.slice (some ⟨w.heap.size, 0, none⟩) 0 0) ([] : List α) :=
  ⟨[], World.ownsRow_made w #[] 0 hb (by simp [maxLen]) (by simp), rfl⟩

theorem RowR.set_ {α : Type} {size : Nat} {R : CR α} {rd : Rd} {j : Nat} {u : Value} (hj : j < size) : ∀ {l : List α} {xs : List Value} (k : Nat) {x y : α}, RowR size R rd xs l → l[k]? = some x →
    (∀ cs, cs.length = size → R rd cs x → R rd (cs.set j u) y) → RowR size R rd (xs.set (k * size + j) u) (l.set k y)
  | [], _, k, x, y, _, hk, _ => by simp at hk
  | z :: l, _, 0, x, y, ⟨cs, rest, e, h1, h2, h3⟩, hk, hR => by
    simp at hk; subst hk; subst e
    refine ⟨cs.set j u, rest, ?_, by simpa using h1, hR cs h1 h2, h3⟩
    rw [Nat.zero_mul, Nat.zero_add, List.set_append_left _ _ (by omega)]
  | z :: l, _, k + 1, x, y, ⟨cs, rest, e, h1, h2, h3⟩, hk, hR => by
    subst e
    refine ⟨cs, rest.set (k * size + j) u, ?_, h1, h2, h3.set_ hj k (by simpa using hk) hR⟩
    rw [List.set_append_right _ _ (by rw [h1, Nat.add_mul]; omega)]
    congr 2
    rw [h1, Nat.add_mul]
    omega

section
variable {α : Type} {size base : Nat} {R : CR α} {rd : Rd} {e : TypeId} {w : World} {v : Value} {l : List α}
/-- the block of what the call owns, where it has an entry -/
theorem OwnR.blk (h : OwnR size R base e w rd v l) {k : Nat} (hk : k < l.length) : ∃ g cap, v = .slice (some ⟨g, 0, none⟩) l.length cap ∧ base ≤ g ∧ g < w.heap.size ∧ l.length ≤ cap ∧ cap ≤ maxLen ∧ (∀ o, w.frozen? ⟨g, o, none⟩ = false) ∧
    ∃ cs, cs.length = size ∧ R rd cs l[k] ∧ ∀ j u, cs[j]? = some u → w.cell? ⟨g, k * size + j, none⟩ = some u := by
  obtain ⟨xs, h1, h2⟩ := h
  have hx := h1
  rcases h1.2 with ⟨rfl, hn⟩ | ⟨g, cap, cur, rfl, hb, hh, hc, hm', _⟩
  · omega
  · refine ⟨g, cap, rfl, hb, (hx.lt g rfl).2, hc, hm', fun o => by simp only [World.frozen?, hh]; simp, ?_⟩
    obtain ⟨cs, a1, a2, a3⟩ := h2.get k (x := l[k]) (by simp [hk])
    refine ⟨cs, a1, a2, fun j u hu => ?_⟩
    have := hx.cells (g := g) rfl _ u (a3 j u hu)
    rwa [show (⟨g, 0, none⟩ : Addr).add (k * size + j) = ⟨g, k * size + j, none⟩ by unfold Addr.add; split <;> simp_all] at this
theorem OwnR.set_ {g n cap k j : Nat} {u : Value} {x y : α} (h : OwnR size R base e w rd (.slice (some ⟨g, 0, none⟩) n cap) l) (hj : j < size) (hk : l[k]? = some x)
    (hR : ∀ cs, cs.length = size → R rd cs x → R rd (cs.set j u) y) : OwnR size R base e (w.setCell ⟨g, k * size + j, none⟩ u) rd (.slice (some ⟨g, 0, none⟩) n cap) (l.set k y) := by
  obtain ⟨xs, h1, h2⟩ := h
  refine ⟨xs.set (k * size + j) u, ⟨?_, ?_⟩, h2.set_ hj k hk hR⟩
  · simpa using h1.1
  · rcases h1.2 with ⟨e, _⟩ | ⟨g', cap', cur, e, hb, hh, hc, hm', hs, ht⟩
    · cases e
    · injection e with e1 e2 e3
      injection e1 with e1
      injection e1 with e1
      subst e1 e2 e3
      have hlt : k * size + j < l.length * size := by
        have h1 := (List.getElem?_eq_some_iff.1 hk).1
        have : (k + 1) * size ≤ l.length * size := Nat.mul_le_mul_right _ h1
        rw [Nat.add_mul] at this
        omega
      refine .inr ⟨g, cap, cur.setIfInBounds (k * size + j) u, by simp, hb, by simp [World.setCell, Array.getElem?_modify, hh], by simpa using hc, hm', by simpa using hs, ?_⟩
      rw [List.length_set, Array.toList_setIfInBounds, List.take_set, ht]
end

theorem below_next {W w w' : World} (h : Below W.heap.size W w) (k : Below w.heap.size w w') : Below W.heap.size W w' := h.trans (k.mono h.size)
theorem rowInts (rd : Rd) : ∀ l : List Int, RowR 1 IntR rd (l.map (Value.int .i64)) l
  | [] => rfl
  | x :: l => ⟨[.int .i64 x], l.map (Value.int .i64), rfl, rfl, rfl, rowInts rd l⟩
/-- what the words ask of one thing's cells -/
class GoodR {α : Type} (R : CR α) : Prop where
  mono : MonoR R
  one : OneR R
instance : GoodR IntR := ⟨mono_int, one_int⟩
instance {α : Type} {size : Nat} {R : CR α} [GoodR R] : GoodR (SlC size R) := ⟨mono_sl GoodR.mono, one_sl⟩
theorem SliceR.up {α : Type} {size : Nat} {R : CR α} [GoodR R] {w w' : World} {v : Value} {l : List α} (h : SliceR size R (wrd w) v l) (k : Below w.heap.size w w') : SliceR size R (wrd w') v l :=
  h.mono GoodR.mono (le_below k (Nat.le_refl _))
theorem SliceR.top {α : Type} {size : Nat} {R : CR α} [GoodR R] {W : World} {v : Value} {l : List α} (h : SliceR size R (wrd W) v l) : SliceR size R (upto W W.heap.size) v l := h.mono GoodR.mono (upto_top W)
theorem SliceR.of_top {α : Type} {size : Nat} {R : CR α} [GoodR R] {W w : World} {v : Value} {l : List α} (h : SliceR size R (upto W W.heap.size) v l) (k : Below W.heap.size W w) : SliceR size R (wrd w) v l := h.mono GoodR.mono (upto_le k)
theorem AggR.up {α : Type} {R : CR α} [GoodR R] {w w' : World} {v : Value} {x : α} (h : AggR R (wrd w) v x) (k : Below w.heap.size w w') : AggR R (wrd w') v x := by
  obtain ⟨cs, e, h⟩ := h
  exact ⟨cs, e, GoodR.mono _ _ _ _ (le_below k (Nat.le_refl _)) h⟩
theorem below_alloc1 (w : World) (o : Obj) : Below w.heap.size w (w.alloc o) := (Below.refl _ _).alloc (Nat.le_refl _) o
theorem below_alloc2 (w : World) (o o' : Obj) : Below w.heap.size w ((w.alloc o).alloc o') := (below_alloc1 w o).trans ((below_alloc1 _ o').mono (by simp))
/-- the step, told from the world ahead of a new block or a draw -/
theorem below_of_alloc {w w' : World} {o : Obj} (k : Below (w.alloc o).heap.size (w.alloc o) w') : Below w.heap.size w w' := (below_alloc1 w o).trans (k.mono (by simp))
theorem below_of_drewN {w w' : World} {n : Nat} (k : Below (w.drewN n).heap.size (w.drewN n) w') : Below w.heap.size w w' := (below_drewN _ w n).trans k

/-- a new block, later -/
theorem cells_of_new {w w1 : World} {cs : Array Value} {t : TypeId} {g : Nat} (hg : g = w.heap.size) (k : Below (g + 1) (w.alloc (.cells cs t)) w1) : ∀ j, w1.cell? ⟨g, j, none⟩ = cs[j]? := fun j => by
  subst hg
  rw [k.cell (p := ⟨w.heap.size, j, none⟩) (by show w.heap.size < _; omega), cell_of_row _ w.heap.size j cs t (0, 0) (heap_alloc_new w _)]
theorem free_of_new {w w1 : World} {cs : Array Value} {t : TypeId} {g : Nat} (hg : g = w.heap.size) (k : Below (g + 1) (w.alloc (.cells cs t)) w1) : ∀ j, w1.frozen? ⟨g, j, none⟩ = false := fun j => by
  subst hg
  rw [k.frozen (p := ⟨w.heap.size, j, none⟩) (by show w.heap.size < _; omega)]
  unfold World.frozen?
  rw [heap_alloc_new w (.cells cs t)]
  show (decide (0 ≤ j) && decide (j < 0)) = false
  simp

/-- a block that is known whole -/
def Blk (w : World) (g : Nat) (t : TypeId) (cs : Array Value) : Prop := w.heap[g]? = some (.cells cs t (0, 0))
theorem Blk.lt {w : World} {g : Nat} {t : TypeId} {cs : Array Value} (h : Blk w g t cs) : g < w.heap.size := by
  rcases Nat.lt_or_ge g w.heap.size with hlt | hge
  · exact hlt
  · unfold Blk at h; rw [Array.getElem?_eq_none hge] at h; cases h
theorem Blk.cell {w : World} {g : Nat} {t : TypeId} {cs : Array Value} (h : Blk w g t cs) (i : Nat) : w.cell? ⟨g, i, none⟩ = cs[i]? := cell_of_row w g i cs t (0, 0) h
theorem Blk.frozen {w : World} {g : Nat} {t : TypeId} {cs : Array Value} (h : Blk w g t cs) (i : Nat) : w.frozen? ⟨g, i, none⟩ = false := by
  unfold World.frozen?
  rw [show w.heap[(⟨g, i, none⟩ : Addr).block]? = some (.cells cs t (0, 0)) from h]
  show (decide (0 ≤ i) && decide (i < 0)) = false
  simp
theorem Blk.new_ (w : World) (t : TypeId) (cs : Array Value) : Blk (w.alloc (.cells cs t)) w.heap.size t cs := heap_alloc_new w _
theorem Blk.up {w w' : World} {g : Nat} {t : TypeId} {cs : Array Value} (h : Blk w g t cs) (k : Below w.heap.size w w') : Blk w' g t cs := (k.block g h.lt).trans h
theorem Blk.upB {w w' : World} {g B : Nat} {t : TypeId} {cs : Array Value} (h : Blk w g t cs) (k : Below B w w') (hg : g < B) : Blk w' g t cs := (k.block g hg).trans h
theorem Blk.c2 {w : World} {g : Nat} {t : TypeId} {a0 a1 : Value} (h : Blk w g t #[a0, a1]) : w.cell? ⟨g, 0, none⟩ = some a0 ∧ w.cell? ⟨g, 1, none⟩ = some a1 ∧ w.frozen? ⟨g, 0, none⟩ = false ∧ w.frozen? ⟨g, 1, none⟩ = false :=
  ⟨h.cell 0, h.cell 1, h.frozen 0, h.frozen 1⟩
theorem Blk.c5 {w : World} {g : Nat} {t : TypeId} {a0 a1 a2 a3 a4 : Value} (h : Blk w g t #[a0, a1, a2, a3, a4]) : w.cell? ⟨g, 0, none⟩ = some a0 ∧ w.cell? ⟨g, 1, none⟩ = some a1 ∧ w.cell? ⟨g, 2, none⟩ = some a2 ∧ w.cell? ⟨g, 3, none⟩ = some a3 ∧ w.cell? ⟨g, 4, none⟩ = some a4 ∧ w.frozen? ⟨g, 0, none⟩ = false ∧ w.frozen? ⟨g, 1, none⟩ = false ∧ w.frozen? ⟨g, 2, none⟩ = false ∧ w.frozen? ⟨g, 3, none⟩ = false ∧ w.frozen? ⟨g, 4, none⟩ = false :=
  ⟨h.cell 0, h.cell 1, h.cell 2, h.cell 3, h.cell 4, h.frozen 0, h.frozen 1, h.frozen 2, h.frozen 3, h.frozen 4⟩
/-- what was made from block B on -/
def newer (w : World) (B : Nat) : Rd := fun b o => if B ≤ b then w.cell? ⟨b, o, none⟩ else none
theorem newer_weak {w : World} {B B' : Nat} (h : B' ≤ B) : Rd.le (newer w B) (newer w B') := fun b o v e => by
  unfold newer at e ⊢; split at e
  · rw [if_pos (by omega)]; exact e
  · cases e
theorem newer_set {w : World} {B : Nat} {p : Addr} (hp : p.block < B) (u : Value) : Rd.le (newer w B) (newer (w.setCell p u) B) := fun b o v e => by
  unfold newer at e ⊢; split at e
  · rename_i hb
    rw [if_pos hb, World.cell?_setCell_other w p ⟨b, o, none⟩ u (fun e => by subst e; exact absurd hp (by show ¬ b < B; omega))]; exact e
  · cases e
theorem newer_le (w : World) (B : Nat) : Rd.le (newer w B) (wrd w) := fun b o v h => by
  unfold newer at h; split at h
  · exact h
  · cases h
theorem OwnR.newer {α : Type} {size base : Nat} {R : CR α} {rd : Rd} {e : TypeId} {w : World} {v : Value} {l : List α} (h : OwnR size R base e w rd v l) (hm : MonoR R) (hle : Rd.le rd (newer w base)) : SliceR size R (newer w base) v l := by
  obtain ⟨xs, h1, h2⟩ := h
  have hx := h1
  rcases h1.2 with ⟨rfl, hn⟩ | ⟨g, cap, cur, rfl, hg, hh, hc, hm', _⟩
  · have : l = [] := List.eq_nil_of_length_eq_zero hn
    subst this
    exact SliceR.nil_ _
  · refine ⟨some ⟨g, 0, none⟩, cap, xs, rfl, hc, hm', h2.mono hm hle, fun _ => ⟨g, 0, rfl, fun j u hu => ?_⟩⟩
    have := hx.cells (g := g) rfl j u hu
    have e : (⟨g, 0, none⟩ : Addr).add j = ⟨g, j, none⟩ := by unfold Addr.add; split <;> simp_all
    rw [e] at this
    unfold Proofs.YtkjknlnhffmkkabGreat.newer
    rw [if_pos hg, Nat.zero_add]
    exact this
theorem OwnR.ints_newer {base : Nat} {rd : Rd} {e : TypeId} {w : World} {v : Value} {l : List Int} (h : OwnR 1 IntR base e w rd v l) : IntsR (Proofs.YtkjknlnhffmkkabGreat.newer w base) v l := by
  obtain ⟨xs, h1, h2⟩ := h
  refine OwnR.newer (rd := fun _ _ => none) ⟨xs, h1, ?_⟩ mono_int (fun _ _ _ h => by cases h)
  clear h1
  induction l generalizing xs with
  | nil => exact h2
  | cons x l ih => obtain ⟨cs, rest, a, b, c, d⟩ := h2; exact ⟨cs, rest, a, b, c, ih _ d⟩
/-- what was made from block B on, without one block -/
def newb (w : World) (B : Nat) (g : Option Nat) : Rd := fun b o => if B ≤ b ∧ some b ≠ g then w.cell? ⟨b, o, none⟩ else none
theorem newb_newer (w : World) (B : Nat) (g : Option Nat) : Rd.le (newb w B g) (newer w B) := fun b o v h => by
  unfold newb at h; split at h
  · rename_i hb; unfold newer; rw [if_pos hb.1]; exact h
  · cases h
theorem newb_below {w w' : World} {B : Nat} {g : Option Nat} (k : Below w.heap.size w w') : Rd.le (newb w B g) (newb w' B g) := fun b o v h => by
  unfold newb at h ⊢; split at h
  · rename_i hb
    rw [if_pos hb]
    exact (k.cell (p := ⟨b, o, none⟩) (blk_lt h)).trans h
  · cases h
theorem newb_grown {w w' : World} {B : Nat} {g g' : Option Nat} (hg : w.grownBy w' g) (h' : g' = g ∨ g' = some w.heap.size) : Rd.le (newb w B g) (newb w' B g') := fun b o v h => by
  unfold newb at h ⊢; split at h
  · rename_i hb
    have hlt := blk_lt h
    have hn' : some b ≠ g' := by
      rcases h' with e | e
      · rw [e]; exact hb.2
      · rw [e]; intro e2; injection e2 with e2; omega
    rw [if_pos ⟨hb.1, hn'⟩]
    exact (World.cell?_of_block (w := w) (a := ⟨b, o, none⟩) (hg.block b hlt hb.2)).trans h
  · cases h
theorem newer_newb {w : World} {B B' : Nat} {g : Option Nat} (hB : B ≤ B') (hg : ∀ k, g = some k → k < B') : Rd.le (newer w B') (newb w B g) := fun b o v h => by
  unfold newer at h; split at h
  · rename_i hb
    unfold newb
    rw [if_pos ⟨by omega, fun e => by have := hg b e.symm; omega⟩]
    exact h
  · cases h
theorem OwnR.newer_ {α : Type} {size base : Nat} {R : CR α} [GoodR R] {e : TypeId} {w : World} {g : Option Nat} {v : Value} {l : List α} (h : OwnR size R base e w (newb w base g) v l) : SliceR size R (Proofs.YtkjknlnhffmkkabGreat.newer w base) v l := h.newer GoodR.mono (newb_newer w base g)
theorem OwnR.up {α : Type} {size base : Nat} {R : CR α} [GoodR R] {e : TypeId} {w w' : World} {B : Nat} {g : Option Nat} {v : Value} {l : List α} (h : OwnR size R base e w (newb w B g) v l) (k : Below w.heap.size w w') : OwnR size R base e w' (newb w' B g) v l := (h.below k).mono GoodR.mono (newb_below k)
theorem OwnR.next {α : Type} {size base : Nat} {R : CR α} [GoodR R] {e : TypeId} {w w' : World} {B : Nat} {g g' : Option Nat} {v : Value} {l : List α} (h : OwnR size R base e w' (newb w B g) v l) (hg : w.grownBy w' g) (h' : g' = g ∨ g' = some w.heap.size) : OwnR size R base e w' (newb w' B g') v l := h.mono GoodR.mono (newb_grown hg h')
theorem OwnR.lt {α : Type} {size base : Nat} {R : CR α} {e : TypeId} {w : World} {rd : Rd} {v : Value} {l : List α} (h : OwnR size R base e w rd v l) : ∀ k, v.ownBlock = some k → k < w.heap.size := fun k hk => (h.block k hk).2

theorem SliceR.nil_of {α : Type} {size : Nat} {R : CR α} {rd : Rd} {n c : Nat} {l : List α} (h : SliceR size R rd (.slice none n c) l) : l = [] := by
  obtain ⟨A', c', xs, e, h1, h2, h3, h4⟩ := h
  injection e with e1 e2 e3
  subst e1 e2 e3
  rcases l with _ | ⟨x, l⟩
  · rfl
  · obtain ⟨b, o, e, _⟩ := h4 (by simp)
    cases e
/-- a pointer to a thing -/
def PtrR {α : Type} (R : CR α) (rd : Rd) (v : Value) (x : α) : Prop := ∃ b o cs, v = .pointer (some ⟨b, o, none⟩) ∧ R rd cs x ∧ ∀ j u, cs[j]? = some u → rd b (o + j) = some u

#print axioms wpList_push
#print axioms wpList_cat
end Go.Proofs.YtkjknlnhffmkkabGreat

namespace Go.Proofs.YtkjknlnhffmkkabGreat

def atI (l : List Int) (i : Nat) : Int := l.getD i 0
theorem atI_lt {l : List Int} {i : Nat} (h : i < l.length) : atI l i = l[i] := by simp [atI, h]
theorem atI_ge {l : List Int} {i : Nat} (h : l.length ≤ i) : atI l i = 0 := by simp [atI, List.getElem?_eq_none h]

def zipC (f : Int → Int → Int) (a b : List Int) : List Int := (List.range (max a.length b.length)).map fun i => f (atI a i) (atI b i)
theorem zipC_len (f : Int → Int → Int) (a b : List Int) : (zipC f a b).length = max a.length b.length := by simp [zipC]
theorem zipC_get (f : Int → Int → Int) (a b : List Int) {k : Nat} (hk : k < max a.length b.length) : (zipC f a b)[k]? = some (f (atI a k) (atI b k)) := by
  simp only [zipC, List.getElem?_map, List.getElem?_range hk, Option.map_some]
theorem take_snoc {α : Type} {l : List α} {k : Nat} {x : α} (h : l[k]? = some x) : l.take (k + 1) = l.take k ++ [x] := by rw [List.take_add_one, h]; rfl
def joinC (a b : List Int) : List Int := zipC max a b
def meetC (a b : List Int) : List Int := zipC min a b
def seesC (a b : List Int) : Bool := (List.range (max a.length b.length)).all fun i => decide (atI b i ≤ atI a i)
def okK (k : Int) : Bool := decide (0 ≤ k) && decide (k ≤ 1000)
/-- 5: too many, 3: out of range -/
def wrongC (c : List Int) (n : Int) : Int := if n < 1 ∨ 6 < n ∨ (c.length : Int) ≠ n then 5 else if c.all okK then 0 else 3
def hasC (c : List Int) (author seq : Int) : Bool := decide (0 ≤ author) && decide (author < c.length) && decide (seq ≤ atI c author.toNat)
def tickC (c : List Int) (author : Int) : List Int := if 0 ≤ author ∧ author < c.length then c.set author.toNat (RowKit.wrap64 (atI c author.toNat + 1)) else c

theorem seesC_iff {a b : List Int} : seesC a b = true ↔ ∀ k, atI b k ≤ atI a k := by
  unfold seesC
  rw [List.all_eq_true]
  constructor
  · intro h k
    rcases Nat.lt_or_ge k (max a.length b.length) with hk | hk
    · simpa using h k (List.mem_range.2 hk)
    · rw [atI_ge (show b.length ≤ k by omega), atI_ge (show a.length ≤ k by omega)]; exact Int.le_refl _
  · intro h k _
    simpa using h k
theorem seesC_refl (a : List Int) : seesC a a = true := seesC_iff.2 fun _ => Int.le_refl _
theorem seesC_trans {a b c : List Int} (h : seesC a b = true) (k : seesC b c = true) : seesC a c = true :=
  seesC_iff.2 fun i => Int.le_trans (seesC_iff.1 k i) (seesC_iff.1 h i)
theorem joinC_len (a b : List Int) : (joinC a b).length = max a.length b.length := zipC_len _ _ _
theorem meetC_len (a b : List Int) : (meetC a b).length = max a.length b.length := zipC_len _ _ _
theorem zipC_at {f : Int → Int → Int} (hf : f 0 0 = 0) (a b : List Int) (k : Nat) : atI (zipC f a b) k = f (atI a k) (atI b k) := by
  rcases Nat.lt_or_ge k (max a.length b.length) with h | h
  · have := zipC_get f a b h
    unfold atI at this ⊢
    rw [List.getD, this]; rfl
  · rw [atI_ge (show (zipC f a b).length ≤ k by rw [zipC_len]; exact h), atI_ge (show a.length ≤ k by omega), atI_ge (show b.length ≤ k by omega), hf]
theorem joinC_at (a b : List Int) (k : Nat) : atI (joinC a b) k = max (atI a k) (atI b k) := zipC_at rfl a b k
theorem meetC_at (a b : List Int) (k : Nat) : atI (meetC a b) k = min (atI a k) (atI b k) := zipC_at rfl a b k
theorem atI_ext {a b : List Int} (hl : a.length = b.length) (h : ∀ k, atI a k = atI b k) : a = b := by
  refine List.ext_getElem hl fun i h1 h2 => ?_
  have := h i
  rwa [atI_lt h1, atI_lt h2] at this
theorem sees_joinl (a b : List Int) : seesC (joinC a b) a = true := seesC_iff.2 fun k => by rw [joinC_at]; omega
theorem sees_joinr (a b : List Int) : seesC (joinC a b) b = true := seesC_iff.2 fun k => by rw [joinC_at]; omega
theorem sees_meetl (a b : List Int) : seesC a (meetC a b) = true := seesC_iff.2 fun k => by rw [meetC_at]; omega
theorem sees_meetr (a b : List Int) : seesC b (meetC a b) = true := seesC_iff.2 fun k => by rw [meetC_at]; omega
theorem sees_join (c a b : List Int) : seesC c (joinC a b) = (seesC c a && seesC c b) := by
  rw [Bool.eq_iff_iff, Bool.and_eq_true, seesC_iff, seesC_iff, seesC_iff]
  constructor
  · intro h
    exact ⟨fun k => by have := h k; rw [joinC_at] at this; omega, fun k => by have := h k; rw [joinC_at] at this; omega⟩
  · rintro ⟨h1, h2⟩ k
    have := h1 k; have := h2 k
    rw [joinC_at]; omega
theorem meet_sees (a b c : List Int) : seesC (meetC a b) c = (seesC a c && seesC b c) := by
  rw [Bool.eq_iff_iff, Bool.and_eq_true, seesC_iff, seesC_iff, seesC_iff]
  constructor
  · intro h
    exact ⟨fun k => by have := h k; rw [meetC_at] at this; omega, fun k => by have := h k; rw [meetC_at] at this; omega⟩
  · rintro ⟨h1, h2⟩ k
    have := h1 k; have := h2 k
    rw [meetC_at]; omega
theorem joinC_comm (a b : List Int) : joinC a b = joinC b a := atI_ext (by simp only [joinC_len]; omega) fun k => by simp only [joinC_at]; omega
theorem tickC_in {a : List Int} {k : Nat} (hk : k < a.length) : tickC a k = a.set k (RowKit.wrap64 (a[k] + 1)) := by
  unfold tickC; rw [if_pos (by omega), Int.toNat_natCast, atI_lt hk]
theorem tickC_len (a : List Int) (n : Int) : (tickC a n).length = a.length := by unfold tickC; split <;> simp
theorem wrap_small {x : Int} (h : 0 ≤ x) (h' : x ≤ 1000000) : RowKit.wrap64 x = x := by
  simp only [RowKit.wrap64]; omega
theorem set_at {a : List Int} {k : Nat} {x : Int} (hk : k < a.length) (j : Nat) : atI (a.set k x) j = if j = k then x else atI a j := by
  unfold atI
  rw [List.getD, List.getD, List.getElem?_set]
  by_cases e : j = k
  · subst e; simp [hk]
  · rw [if_neg (fun h => e h.symm), if_neg e]
theorem sees_set_up {a : List Int} {k : Nat} {x : Int} (hk : k < a.length) (hx : atI a k ≤ x) : seesC (a.set k x) a = true := seesC_iff.2 fun j => by
  rw [set_at hk]; split
  · rename_i e; subst e; exact hx
  · exact Int.le_refl _
theorem wrongC_ok {l : List Int} {n : Int} (h : wrongC l n = 0) : 1 ≤ n ∧ n ≤ 6 ∧ (l.length : Int) = n ∧ ∀ x ∈ l, 0 ≤ x ∧ x ≤ 1000 := by
  unfold wrongC at h
  split at h
  · cases h
  · rename_i hn
    split at h
    · rename_i ha
      refine ⟨by omega, by omega, by omega, fun x hx => ?_⟩
      have := List.all_eq_true.1 ha x hx
      simpa [okK] using this
    · cases h
theorem ne_b {x y : Int} (h : x ≠ y) : (x != y) = true ∧ (x == y) = false := by simp [h]
theorem eq_b {x y : Int} (h : x = y) : (x != y) = false ∧ (x == y) = true := by simp [h]

/-- the first place where p holds, or -1 -/
def idxF {α : Type} (p : α → Bool) (l : List α) : Int := match l.findIdx? p with | some i => (i : Int) | none => -1
theorem idxF_hit {α : Type} {p : α → Bool} {l : List α} {k : Nat} {x : α} (hk : l[k]? = some x) (hp : p x = true) (hb : ∀ (j : Nat) (y : α), j < k → l[j]? = some y → p y = false) : idxF p l = k := by
  unfold idxF
  have : l.findIdx? p = some k := by
    rw [List.findIdx?_eq_some_iff_getElem]
    obtain ⟨hl, e⟩ := List.getElem?_eq_some_iff.1 hk
    refine ⟨hl, by rw [e]; exact hp, fun j hj => ?_⟩
    have := hb j l[j] hj (List.getElem?_eq_getElem (by omega))
    simp [this]
  rw [this]
theorem idxF_none {α : Type} {p : α → Bool} {l : List α} (hb : ∀ (j : Nat) (y : α), l[j]? = some y → p y = false) : idxF p l = -1 := by
  unfold idxF
  have : l.findIdx? p = none := by
    rw [List.findIdx?_eq_none_iff]
    intro x hx
    obtain ⟨j, hj⟩ := List.getElem?_of_mem hx
    exact hb j x hj
  rw [this]
theorem idxF_any {α : Type} (p : α → Bool) (l : List α) : decide (0 ≤ idxF p l) = l.any p := by
  unfold idxF
  cases h : l.findIdx? p with
  | none =>
    have := List.findIdx?_eq_none_iff.1 h
    have h' : l.any p = false := by
      rw [List.any_eq_false]
      intro x hx; simp [this x hx]
    simp [h']
  | some i =>
    obtain ⟨hl, e, _⟩ := List.findIdx?_eq_some_iff_getElem.1 h
    have h' : l.any p = true := List.any_eq_true.2 ⟨l[i], List.getElem_mem hl, e⟩
    simp [h']
theorem idxF_bd {α : Type} (p : α → Bool) (l : List α) : -1 ≤ idxF p l ∧ idxF p l < max 1 l.length := by
  unfold idxF
  cases h : l.findIdx? p with
  | none => constructor <;> simp; omega
  | some i =>
    obtain ⟨hl, _⟩ := List.findIdx?_eq_some_iff_getElem.1 h
    simp; omega
end Go.Proofs.YtkjknlnhffmkkabGreat

namespace Go.Proofs.YtkjknlnhffmkkabGreat
set_option linter.unusedVariables false

structure Upd where
  author : Int
  seen : List Int
  kind : Int
  key : Int
  item : Int
deriving DecidableEq

def UpdR : CR Upd := fun rd cs u => ∃ sv, cs = [.int .i64 u.author, sv, .int .i64 u.kind, .int .i64 u.key, .int .i64 u.item] ∧ IntsR rd sv u.seen
instance : GoodR UpdR := ⟨fun _ _ _ _ hle ⟨sv, e, h⟩ => ⟨sv, e, IntsR.mono h hle⟩, fun _ _ _ ⟨sv, e, h⟩ u hu => by
  obtain ⟨A, c, e2, _⟩ := h.val
  subst e e2
  simp only [List.mem_cons, List.not_mem_nil, or_false] at hu
  rcases hu with h | h | h | h | h <;> subst h <;> rfl⟩
abbrev UpdsR := SliceR 5 UpdR
/-- the cells of update k -/
theorem upds_at {rd : Rd} {A : Option Addr} {m c k : Nat} {l : List Upd} (h : SliceR 5 UpdR rd (.slice A m c) l) (hk : k < l.length) : ∃ b o sv, A = some ⟨b, o, none⟩ ∧ IntsR rd sv l[k].seen ∧
    ∀ w : World, Rd.le rd (wrd w) → w.cell? ⟨b, o + k * 5, none⟩ = some (.int .i64 l[k].author) ∧ w.cell? ⟨b, o + k * 5 + 1, none⟩ = some sv ∧ w.cell? ⟨b, o + k * 5 + 2, none⟩ = some (.int .i64 l[k].kind) ∧
      w.cell? ⟨b, o + k * 5 + 3, none⟩ = some (.int .i64 l[k].key) ∧ w.cell? ⟨b, o + k * 5 + 4, none⟩ = some (.int .i64 l[k].item) := by
  obtain ⟨b, o, cs, e, h1, ⟨sv, h2, h3⟩, h4⟩ := SliceR.get h (k := k) (x := l[k]) (by simp [hk])
  subst h2
  refine ⟨b, o, sv, e, h3, fun w hle => ⟨hle _ _ _ (h4 0 _ rfl), hle _ _ _ (h4 1 _ rfl), hle _ _ _ (h4 2 _ rfl), hle _ _ _ (h4 3 _ rfl), hle _ _ _ (h4 4 _ rfl)⟩⟩
theorem upd_agg {rd : Rd} {sv : Value} {u : Upd} (h : IntsR rd sv u.seen) : AggR UpdR rd (.agg #[.int .i64 u.author, sv, .int .i64 u.kind, .int .i64 u.key, .int .i64 u.item]) u := ⟨_, rfl, sv, rfl, h⟩
theorem upd_ptr {w : World} {g : Nat} {t : TypeId} {sv : Value} {u : Upd} (hb : Blk w g t #[.int .i64 u.author, sv, .int .i64 u.kind, .int .i64 u.key, .int .i64 u.item]) (h : IntsR (wrd w) sv u.seen) : PtrR UpdR (wrd w) (.pointer (some ⟨g, 0, none⟩)) u :=
  ⟨g, 0, _, rfl, ⟨sv, rfl, h⟩, fun j x hx => by
    show w.cell? ⟨g, 0 + j, none⟩ = some x
    rw [Nat.zero_add, hb.cell j]; simpa using hx⟩
def u0 : Upd := ⟨0, [], 0, 0, 0⟩

/-- what is wrong with an update -/
def wrongU (u : Upd) (n : Int) : Int :=
  if wrongC u.seen n ≠ 0 then wrongC u.seen n
  else if u.author < 0 ∨ n ≤ u.author ∨ 1000 ≤ atI u.seen u.author.toNat then 3
  else if u.kind < 1 ∨ 5 < u.kind then 1
  else if u.key < 0 ∨ 15 < u.key ∨ u.item < -1000 ∨ 1000 < u.item then 3
  else if u.kind = 2 ∧ u.item ≠ 0 then 2
  else 0

structure RightU (u : Upd) (n : Int) : Prop where
  c : wrongC u.seen n = 0
  a0 : 0 ≤ u.author
  a1 : u.author < n
  s : atI u.seen u.author.toNat < 1000
  k0 : 1 ≤ u.kind
  k1 : u.kind ≤ 5
  y0 : 0 ≤ u.key
  y1 : u.key ≤ 15
  i0 : -1000 ≤ u.item
  i1 : u.item ≤ 1000
  f : u.kind = 2 → u.item = 0
theorem wrongU_iff {u : Upd} {n : Int} : wrongU u n = 0 ↔ RightU u n := by
  unfold wrongU
  constructor
  · intro h
    split at h
    · exact absurd h ‹_›
    · split at h
      · cases h
      · split at h
        · cases h
        · split at h
          · cases h
          · split at h
            · cases h
            · exact ⟨by omega, by omega, by omega, by omega, by omega, by omega, by omega, by omega, by omega, by omega, by omega⟩
  · rintro ⟨c, a0, a1, s, k0, k1, y0, y1, i0, i1, f⟩
    rw [if_neg (by omega), if_neg (by omega), if_neg (by omega), if_neg (by omega), if_neg (by omega)]
theorem RightU.len {u : Upd} {n : Int} (h : RightU u n) : 1 ≤ n ∧ n ≤ 6 ∧ (u.seen.length : Int) = n := by have := wrongC_ok h.c; omega
/-- which one of its author's -/
def seqU (u : Upd) : Int := RowKit.wrap64 (atI u.seen u.author.toNat + 1)
/-- does a clock have it? -/
def hasU (c : List Int) (u : Upd) : Bool := decide (0 ≤ u.author) && decide (u.author < c.length) && decide (u.author < u.seen.length) && decide (atI u.seen u.author.toNat < atI c u.author.toNat)
theorem hasU_in {c se : List Int} {k : Nat} {ki ke it : Int} (h1 : k < c.length) (h2 : k < se.length) : hasU c ⟨k, se, ki, ke, it⟩ = decide (se[k] < c[k]) := by
  unfold hasU; simp only; rw [Int.toNat_natCast, atI_lt h1, atI_lt h2]; simp [h1, h2]
end Go.Proofs.YtkjknlnhffmkkabGreat

namespace Go.Proofs.YtkjknlnhffmkkabGreat

/-- what a log's next update is refused for -/
def stepE (c : List Int) (u : Upd) (n : Int) : Int := if wrongU u n ≠ 0 then wrongU u n else if hasU c u = true then 7 else if seesC c u.seen = false then 8 else 0
def logC (n : Int) : List Int → List Upd → Nat → List Int × Int × Int
  | c, [], _ => (c, 0, 0)
  | c, u :: l, i => if stepE c u n ≠ 0 then ([], stepE c u n, (i : Int)) else logC n (tickC c u.author) l (i + 1)
/-- what a log comes to: the clock, the error, its place -/
def clockL (base : List Int) (l : List Upd) (n : Int) : List Int × Int × Int :=
  if wrongC base n ≠ 0 then ([], wrongC base n, 0) else if 300 < l.length then ([], 5, 0) else logC n base l 0

theorem drop_cons {α : Type} {l : List α} {k : Nat} (hk : k < l.length) : l.drop k = l[k] :: l.drop (k + 1) := List.drop_eq_getElem_cons hk
theorem logC_bad {n : Int} {c : List Int} {l : List Upd} {k : Nat} {e : Int} (hk : k < l.length) (he : stepE c l[k] n = e) (h0 : e ≠ 0) : logC n c (l.drop k) k = ([], e, (k : Int)) := by
  rw [drop_cons hk]; unfold logC; rw [he, if_pos h0]
theorem logC_good {n : Int} {c : List Int} {l : List Upd} {k : Nat} (hk : k < l.length) (he : stepE c l[k] n = 0) : logC n c (l.drop k) k = logC n (tickC c l[k].author) (l.drop (k + 1)) (k + 1) := by
  rw [drop_cons hk]; rw [logC.eq_2, he, if_neg (by simp)]
theorem logC_end {n : Int} {c : List Int} {l : List Upd} {k : Nat} (hk : l.length ≤ k) : logC n c (l.drop k) k = (c, 0, 0) := by
  rw [List.drop_eq_nil_of_le hk]; rfl

/-- what a clock lacks of a log -/
def lacksU (l : List Upd) (c : List Int) : List Upd := l.filter fun u => !hasU c u
theorem lacksU_len (l : List Upd) (c : List Int) : (lacksU l c).length ≤ l.length := List.length_filter_le _ _
theorem lacksU_has {l : List Upd} {c : List Int} {k : Nat} (hk : k < l.length) (h : hasU c l[k] = true) : lacksU (l.take (k + 1)) c = lacksU (l.take k) c := by
  unfold lacksU; rw [take_snoc (List.getElem?_eq_getElem hk), List.filter_append]; simp [h]
theorem lacksU_not {l : List Upd} {c : List Int} {k : Nat} (hk : k < l.length) (h : hasU c l[k] = false) : lacksU (l.take (k + 1)) c = lacksU (l.take k) c ++ [l[k]] := by
  unfold lacksU; rw [take_snoc (List.getElem?_eq_getElem hk), List.filter_append]; simp [h]

end Go.Proofs.YtkjknlnhffmkkabGreat

namespace Go.Proofs.YtkjknlnhffmkkabGreat

structure Live where
  set : Bool
  key : Int
  item : Int
  author : Int
  seq : Int
deriving DecidableEq
structure Tally where
  key : Int
  author : Int
  sum : Int
deriving DecidableEq
structure State where
  clock : List Int
  lives : List Live
  tallies : List Tally
deriving DecidableEq

def LiveR : CR Live := fun _ cs x => cs = [.bool x.set, .int .i64 x.key, .int .i64 x.item, .int .i64 x.author, .int .i64 x.seq]
def TallyR : CR Tally := fun _ cs x => cs = [.int .i64 x.key, .int .i64 x.author, .int .i64 x.sum]
instance : GoodR LiveR := ⟨fun _ _ _ _ _ h => h, fun _ _ _ h u hu => by
  cases h; simp only [List.mem_cons, List.not_mem_nil, or_false] at hu; rcases hu with h | h | h | h | h <;> subst h <;> rfl⟩
instance : GoodR TallyR := ⟨fun _ _ _ _ _ h => h, fun _ _ _ h u hu => by
  cases h; simp only [List.mem_cons, List.not_mem_nil, or_false] at hu; rcases hu with h | h | h <;> subst h <;> rfl⟩
def StateR : CR State := fun rd cs x => ∃ a b c, cs = [a, b, c] ∧ SliceR 1 IntR rd a x.clock ∧ SliceR 5 LiveR rd b x.lives ∧ SliceR 3 TallyR rd c x.tallies
instance : GoodR StateR := ⟨fun _ _ _ _ hle ⟨a, b, c, e, h1, h2, h3⟩ => ⟨a, b, c, e, h1.mono GoodR.mono hle, h2.mono GoodR.mono hle, h3.mono GoodR.mono hle⟩, fun _ _ _ ⟨a, b, c, e, h1, h2, h3⟩ u hu => by
  obtain ⟨A1, c1, e1, _⟩ := h1.val
  obtain ⟨A2, c2, e2, _⟩ := h2.val
  obtain ⟨A3, c3, e3, _⟩ := h3.val
  subst e e1 e2 e3
  simp only [List.mem_cons, List.not_mem_nil, or_false] at hu
  rcases hu with h | h | h <;> subst h <;> rfl⟩

def cmpI (x y : Int) : Int := if x < y then -1 else if y < x then 1 else 0
def orI : List Int → Int
  | [] => 0
  | x :: l => if x = 0 then orI l else x
def ordL (a b : Live) : Int := orI [if b.set = true ∧ a.set = false then -1 else if a.set = true ∧ b.set = false then 1 else 0, cmpI a.key b.key, cmpI a.item b.item, cmpI a.author b.author, cmpI a.seq b.seq]
def ordT (a b : Tally) : Int := orI [cmpI a.key b.key, cmpI a.author b.author]
theorem orI_drop {l : List Int} {k : Nat} {z : Int} (hz : l[k]? = some z) : orI (l.drop k) = if z = 0 then orI (l.drop (k + 1)) else z := by
  obtain ⟨hk, e⟩ := List.getElem?_eq_some_iff.1 hz
  rw [List.drop_eq_getElem_cons hk, e]; rfl

/-- what stays: the first that is wrong -/
def wrongL (c : List Int) (n : Int) : Option Live → List Live → Nat → Int × Int
  | _, [], _ => (0, 0)
  | p, l :: ls, i =>
    if l.author < 0 ∨ n ≤ l.author ∨ l.seq < 1 ∨ l.key < 0 ∨ 15 < l.key ∨ l.item < -1000 ∨ 1000 < l.item then (3, (i : Int))
    else if atI c l.author.toNat < l.seq then (8, (i : Int))
    else if (match p with | some q => decide (0 ≤ ordL q l) | none => false) = true then (2, (i : Int))
    else wrongL c n (some l) ls (i + 1)
def mostT (c : List Int) (n : Int) (t : Tally) : Int := if 0 ≤ t.author ∧ t.author < n then 1000 * atI c t.author.toNat else 0
def wrongT (c : List Int) (n : Int) : Option Tally → List Tally → Nat → Int × Int
  | _, [], _ => (0, 0)
  | p, t :: ts, i =>
    if t.author < 0 ∨ n ≤ t.author ∨ t.key < 0 ∨ 15 < t.key ∨ t.sum < -(mostT c n t) ∨ mostT c n t < t.sum ∨ t.sum = 0 then (3, (i : Int))
    else if (match p with | some q => decide (0 ≤ ordT q t) | none => false) = true then (2, (i : Int))
    else wrongT c n (some t) ts (i + 1)
/-- what is wrong with a state: the error, its place -/
def wrongS (s : State) (n : Int) : Int × Int :=
  if wrongC s.clock n ≠ 0 then (wrongC s.clock n, 0)
  else if (wrongL s.clock n none s.lives 0).1 ≠ 0 then wrongL s.clock n none s.lives 0
  else wrongT s.clock n none s.tallies 0
end Go.Proofs.YtkjknlnhffmkkabGreat

namespace Go.Proofs.YtkjknlnhffmkkabGreat

def prevO {α : Type} (l : List α) (k : Nat) : Option α := if k = 0 then none else l[k - 1]?
theorem prevO_succ {α : Type} (l : List α) (k : Nat) : prevO l (k + 1) = l[k]? := rfl
theorem prevO_pos {α : Type} {l : List α} {k : Nat} (h : 0 < k) {z : α} (hz : l[k - 1]? = some z) : prevO l k = some z := by unfold prevO; rw [if_neg (by omega), hz]
theorem wrongL_step {c : List Int} {n : Int} {p : Option Live} {l : List Live} {k : Nat} {z : Live} (hz : l[k]? = some z) : wrongL c n p (l.drop k) k =
    if z.author < 0 ∨ n ≤ z.author ∨ z.seq < 1 ∨ z.key < 0 ∨ 15 < z.key ∨ z.item < -1000 ∨ 1000 < z.item then (3, (k : Int))
    else if atI c z.author.toNat < z.seq then (8, (k : Int))
    else if (match p with | some q => decide (0 ≤ ordL q z) | none => false) = true then (2, (k : Int))
    else wrongL c n (some z) (l.drop (k + 1)) (k + 1) := by
  obtain ⟨hk, e⟩ := List.getElem?_eq_some_iff.1 hz
  rw [List.drop_eq_getElem_cons hk, e]; rfl
theorem wrongL_end {c : List Int} {n : Int} {p : Option Live} {l : List Live} {k : Nat} (h : l.length ≤ k) : wrongL c n p (l.drop k) k = (0, 0) := by rw [List.drop_eq_nil_of_le h]; rfl
theorem wrongT_step {c : List Int} {n : Int} {p : Option Tally} {l : List Tally} {k : Nat} {z : Tally} (hz : l[k]? = some z) : wrongT c n p (l.drop k) k =
    if z.author < 0 ∨ n ≤ z.author ∨ z.key < 0 ∨ 15 < z.key ∨ z.sum < -(mostT c n z) ∨ mostT c n z < z.sum ∨ z.sum = 0 then (3, (k : Int))
    else if (match p with | some q => decide (0 ≤ ordT q z) | none => false) = true then (2, (k : Int))
    else wrongT c n (some z) (l.drop (k + 1)) (k + 1) := by
  obtain ⟨hk, e⟩ := List.getElem?_eq_some_iff.1 hz
  rw [List.drop_eq_getElem_cons hk, e]; rfl
theorem wrongT_end {c : List Int} {n : Int} {p : Option Tally} {l : List Tally} {k : Nat} (h : l.length ≤ k) : wrongT c n p (l.drop k) k = (0, 0) := by rw [List.drop_eq_nil_of_le h]; rfl
theorem wrongS_C {s : State} {n : Int} (h : ¬ wrongC s.clock n = 0) : wrongS s n = (wrongC s.clock n, 0) := by unfold wrongS; rw [if_pos h]
theorem wrongS_L {s : State} {n : Int} {r : Int × Int} (h : wrongC s.clock n = 0) (hl : wrongL s.clock n none s.lives 0 = r) (hr : r.1 ≠ 0) : wrongS s n = r := by
  unfold wrongS; rw [if_neg (by omega), hl, if_pos hr]
theorem wrongS_T {s : State} {n : Int} {r : Int × Int} (h : wrongC s.clock n = 0) (hl : (wrongL s.clock n none s.lives 0).1 = 0) (ht : wrongT s.clock n none s.tallies 0 = r) : wrongS s n = r := by
  unfold wrongS; rw [if_neg (by omega), if_neg (by omega), ht]
theorem rfault {r : Int × Int} {a b : Int} (h : r = (a, b)) : Ending.returned (.agg #[.int .i64 a, .int .i64 b]) = .returned (.agg #[.int .i64 r.1, .int .i64 r.2]) := by rw [h]
end Go.Proofs.YtkjknlnhffmkkabGreat

namespace Go.Proofs.YtkjknlnhffmkkabGreat

/-- the order, as one of lists of numbers -/
def lexI : List Int → List Int → Int
  | x :: xs, y :: ys => if cmpI x y = 0 then lexI xs ys else cmpI x y
  | _, _ => 0
theorem cmpI_zero {x y : Int} : cmpI x y = 0 ↔ x = y := by unfold cmpI; split <;> (try split) <;> omega
theorem cmpI_neg {x y : Int} : cmpI x y < 0 ↔ x < y := by unfold cmpI; split <;> (try split) <;> omega
theorem lexI_cons {x y : Int} {xs ys : List Int} : lexI (x :: xs) (y :: ys) < 0 ↔ x < y ∨ (x = y ∧ lexI xs ys < 0) := by
  show (if cmpI x y = 0 then lexI xs ys else cmpI x y) < 0 ↔ _
  split
  · rename_i h; have := cmpI_zero.1 h
    constructor
    · intro h2; exact .inr ⟨this, h2⟩
    · intro h2; rcases h2 with h2 | h2
      · omega
      · exact h2.2
  · rename_i h
    have h' : ¬ x = y := fun e => h (cmpI_zero.2 e)
    rw [cmpI_neg]
    constructor
    · exact .inl
    · intro h2; rcases h2 with h2 | h2
      · exact h2
      · exact absurd h2.1 h'
theorem lexI_cons0 {x y : Int} {xs ys : List Int} : lexI (x :: xs) (y :: ys) = 0 ↔ x = y ∧ lexI xs ys = 0 := by
  show (if cmpI x y = 0 then lexI xs ys else cmpI x y) = 0 ↔ _
  split
  · rename_i h; have := cmpI_zero.1 h; simp [this]
  · rename_i h; have h' : ¬ x = y := fun e => h (cmpI_zero.2 e)
    simp [h, h']
theorem lexI_trans : ∀ {a b c : List Int}, lexI a b < 0 → lexI b c < 0 → lexI a c < 0
  | x :: xs, y :: ys, z :: zs, h1, h2 => by
    rw [lexI_cons] at *
    rcases h1 with h1 | ⟨rfl, h1⟩ <;> rcases h2 with h2 | ⟨rfl, h2⟩
    · exact .inl (by omega)
    · exact .inl h1
    · exact .inl h2
    · exact .inr ⟨rfl, lexI_trans h1 h2⟩
  | [], _, _, h1, _ => by cases h1
  | _ :: _, [], _, h1, _ => by cases h1
  | _ :: _, _ :: _, [], _, h2 => by cases h2
theorem lexI_swap : ∀ {a b : List Int}, lexI b a = - lexI a b
  | x :: xs, y :: ys => by
    show (if cmpI y x = 0 then lexI ys xs else cmpI y x) = - (if cmpI x y = 0 then lexI xs ys else cmpI x y)
    have e : cmpI y x = - cmpI x y := by unfold cmpI; repeat' split
                                         all_goals omega
    rw [lexI_swap (a := xs) (b := ys), e]
    split <;> split <;> omega
  | [], [] => rfl
  | [], _ :: _ => rfl
  | _ :: _, [] => rfl
theorem lexI_eq : ∀ {a b : List Int}, a.length = b.length → lexI a b = 0 → a = b
  | x :: xs, y :: ys, hl, h => by
    rw [lexI_cons0] at h
    rw [h.1, lexI_eq (by simpa using hl) h.2]
  | [], [], _, _ => rfl
  | [], _ :: _, hl, _ => by simp at hl
  | _ :: _, [], hl, _ => by simp at hl
def codeL (a : Live) : List Int := [if a.set = true then 1 else 0, a.key, a.item, a.author, a.seq]
def codeT (a : Tally) : List Int := [a.key, a.author]
theorem ordL_code (a b : Live) : ordL a b = lexI (codeL a) (codeL b) := by
  obtain ⟨s1, k1, i1, a1, q1⟩ := a
  obtain ⟨s2, k2, i2, a2, q2⟩ := b
  unfold ordL codeL
  cases s1 <;> cases s2 <;> simp [orI, lexI, cmpI]
theorem ordT_code (a b : Tally) : ordT a b = lexI (codeT a) (codeT b) := by
  unfold ordT codeT
  simp only [lexI, orI]
def SortedL (l : List Live) : Prop := l.Pairwise fun a b => ordL a b < 0
def SortedT (l : List Tally) : Prop := l.Pairwise fun a b => ordT a b < 0
theorem ordL_trans {a b c : Live} (h1 : ordL a b < 0) (h2 : ordL b c < 0) : ordL a c < 0 := by rw [ordL_code] at *; exact lexI_trans h1 h2
theorem ordT_trans {a b c : Tally} (h1 : ordT a b < 0) (h2 : ordT b c < 0) : ordT a c < 0 := by rw [ordT_code] at *; exact lexI_trans h1 h2
theorem mono_of {α : Type} {f : α → α → Int} (ht : ∀ {a b c}, f a b < 0 → f b c < 0 → f a c < 0) {l : List α} (h : l.Pairwise fun a b => f a b < 0) (t : α) : ∀ (a b : Nat) y z, a ≤ b → l[a]? = some y → l[b]? = some z → f z t < 0 → f y t < 0 := fun a b y z hab hy hz hlt => by
  obtain ⟨ha, rfl⟩ := List.getElem?_eq_some_iff.1 hy
  obtain ⟨hb, rfl⟩ := List.getElem?_eq_some_iff.1 hz
  rcases Nat.lt_or_eq_of_le hab with h' | rfl
  · exact ht (List.pairwise_iff_getElem.1 h a b ha hb h') hlt
  · exact hlt
theorem mono_L {l : List Live} (h : SortedL l) (t : Live) : ∀ (a b : Nat) y z, a ≤ b → l[a]? = some y → l[b]? = some z → ordL z t < 0 → ordL y t < 0 := mono_of (f := ordL) ordL_trans h t
theorem mono_T {l : List Tally} (h : SortedT l) (t : Tally) : ∀ (a b : Nat) y z, a ≤ b → l[a]? = some y → l[b]? = some z → ordT z t < 0 → ordT y t < 0 := mono_of (f := ordT) ordT_trans h t
/-- does u end l -/
def endsC (set : Bool) (u : Upd) (l : Live) : Bool := (l.set == set) && (l.key == u.key) && (!set || l.item == u.item) && hasC u.seen l.author l.seq
/-- the first place that is not behind -/
def idxO {α : Type} (f : α → Int) (l : List α) : Nat := l.findIdx fun y => decide (0 ≤ f y)
theorem idxO_eq {α : Type} {f : α → Int} {l : List α} {i : Nat} (hi : i ≤ l.length) (ha : ∀ (a : Nat) y, a < i → l[a]? = some y → f y < 0) (hb : ∀ (a : Nat) y, i ≤ a → l[a]? = some y → 0 ≤ f y) : i = idxO f l := by
  unfold idxO
  symm
  rcases Nat.lt_or_ge i l.length with h | h
  · rw [List.findIdx_eq h]
    refine ⟨?_, fun j hj => ?_⟩
    · simpa using hb i l[i] (Nat.le_refl _) (List.getElem?_eq_getElem h)
    · have := ha j l[j] hj (List.getElem?_eq_getElem (by omega))
      simp; omega
  · have e : i = l.length := by omega
    rw [e, List.findIdx_eq_length]
    intro y hy
    obtain ⟨j, hj, rfl⟩ := List.getElem_of_mem hy
    have := ha j l[j] (by omega) (List.getElem?_eq_getElem hj)
    simp; omega
def insO {α : Type} (f : α → α → Int) (l : List α) (x : α) : List α := l.take (idxO (fun y => f y x) l) ++ [x] ++ l.drop (idxO (fun y => f y x) l)
theorem insO_len {α : Type} (f : α → α → Int) (l : List α) (x : α) : (insO f l x).length = l.length + 1 := by
  have : idxO (fun y => f y x) l ≤ l.length := List.findIdx_le_length
  unfold insO; simp; omega
def countL (l : List Tally) (t : Tally) : List Tally :=
  match l[idxO (fun y => ordT y t) l]? with
  | some z => if ordT z t = 0 then (if z.sum + t.sum = 0 then l.eraseIdx (idxO (fun y => ordT y t) l) else l.set (idxO (fun y => ordT y t) l) { z with sum := z.sum + t.sum }) else if t.sum = 0 then l else insO ordT l t
  | none => if t.sum = 0 then l else insO ordT l t
section
variable {l : List Tally} {t z : Tally} {i : Nat} (hi : i ≤ l.length) (ha : ∀ (a : Nat) y, a < i → l[a]? = some y → ordT y t < 0) (hb : ∀ (a : Nat) y, i ≤ a → l[a]? = some y → 0 ≤ ordT y t)
include hi ha hb
theorem count_del (hz : l[i]? = some z) (h0 : ordT z t = 0) (hs : z.sum + t.sum = 0) : l.eraseIdx i = countL l t := by
  have e := idxO_eq (f := fun y => ordT y t) hi ha hb
  unfold countL
  rw [← e, hz]; simp [h0, hs]
theorem count_set (hz : l[i]? = some z) (h0 : ordT z t = 0) (hs : ¬ z.sum + t.sum = 0) : l.set i { z with sum := z.sum + t.sum } = countL l t := by
  have e := idxO_eq (f := fun y => ordT y t) hi ha hb
  unfold countL
  rw [← e, hz]; simp [h0, hs]
theorem count_same (hf : ∀ z, l[i]? = some z → ordT z t ≠ 0) (hs : t.sum = 0) : l = countL l t := by
  have e := idxO_eq (f := fun y => ordT y t) hi ha hb
  unfold countL
  rw [← e]
  split
  · rename_i z hz; rw [if_neg (hf z hz), if_pos hs]
  · rw [if_pos hs]
theorem count_ins (hf : ∀ z, l[i]? = some z → ordT z t ≠ 0) (hs : ¬ t.sum = 0) : l.take i ++ [t] ++ l.drop i = countL l t := by
  have e := idxO_eq (f := fun y => ordT y t) hi ha hb
  unfold countL
  rw [← e]
  split
  · rename_i z hz; rw [if_neg (hf z hz), if_neg hs]; unfold insO; rw [← e]
  · rw [if_neg hs]; unfold insO; rw [← e]
end
/-- what u does to s -/
def newL (set : Bool) (u : Upd) (seq : Int) : Live := ⟨set, u.key, u.item, u.author, seq⟩
def applyS (s : State) (u : Upd) : State :=
  let set := decide (u.kind = 3 ∨ u.kind = 4)
  let ls := if u.kind ≠ 5 ∧ u.kind ≠ 3 then s.lives.filter fun l => !endsC set u l else s.lives
  ⟨tickC s.clock u.author, if u.kind = 1 ∨ u.kind = 3 then insO ordL ls (newL set u (seqU u)) else ls, if u.kind = 5 then countL s.tallies ⟨u.key, u.author, u.item⟩ else s.tallies⟩
end Go.Proofs.YtkjknlnhffmkkabGreat

namespace Go.Proofs.YtkjknlnhffmkkabGreat
set_option linter.unusedVariables false

theorem wrongC_of {l : List Int} {n : Int} (h1 : 1 ≤ n) (h2 : n ≤ 6) (h3 : (l.length : Int) = n) (h4 : ∀ x ∈ l, 0 ≤ x ∧ x ≤ 1000) : wrongC l n = 0 := by
  unfold wrongC
  rw [if_neg (by omega), if_pos]
  rw [List.all_eq_true]
  intro x hx
  have := h4 x hx
  simp [okK, this.1, this.2]
theorem atI_bd {c : List Int} {n : Int} (h : wrongC c n = 0) (k : Nat) : 0 ≤ atI c k ∧ atI c k ≤ 1000 := by
  rcases Nat.lt_or_ge k c.length with hk | hk
  · rw [atI_lt hk]; exact (wrongC_ok h).2.2.2 _ (List.getElem_mem hk)
  · rw [atI_ge hk]; omega

/-- what a step that is not refused tells -/
structure StepOk (c : List Int) (u : Upd) (n : Int) : Prop where
  r : RightU u n
  eq : atI u.seen u.author.toNat = atI c u.author.toNat
  sees : seesC c u.seen = true
theorem stepE_ok {c : List Int} {u : Upd} {n : Int} (hc : wrongC c n = 0) (h : stepE c u n = 0) : StepOk c u n := by
  unfold stepE at h
  split at h
  · rename_i h1; exact absurd h h1
  · rename_i h1
    have hr := wrongU_iff.1 (Classical.not_not.1 h1)
    split at h
    · cases h
    · rename_i h2
      split at h
      · cases h
      · rename_i h3
        have hs : seesC c u.seen = true := by simpa using h3
        refine ⟨hr, ?_, hs⟩
        have e1 := seesC_iff.1 hs u.author.toNat
        have hl := hr.len
        have hcl := wrongC_ok hc
        have ha := hr.a0
        have hb := hr.a1
        have e2 : ¬ atI u.seen u.author.toNat < atI c u.author.toNat := by
          intro hlt
          refine h2 ?_
          unfold hasU
          simp only [Bool.and_eq_true, decide_eq_true_eq]
          omega
        omega
theorem stepE_of {c : List Int} {u : Upd} {n : Int} (h : StepOk c u n) : stepE c u n = 0 := by
  unfold stepE
  have h1 := wrongU_iff.2 h.r
  have h2 : hasU c u = false := by
    rw [Bool.eq_false_iff]; intro hh
    unfold hasU at hh
    simp only [Bool.and_eq_true, decide_eq_true_eq] at hh
    have := h.eq
    omega
  rw [if_neg (by omega), if_neg (by simp [h2]), if_neg (by simp [h.sees])]
theorem tick_at {c : List Int} {u : Upd} {n : Int} (hc : wrongC c n = 0) (h : StepOk c u n) (j : Nat) : atI (tickC c u.author) j = if j = u.author.toNat then atI c u.author.toNat + 1 else atI c j := by
  have hl := h.r.len
  have hcl := wrongC_ok hc
  have ha := h.r.a0
  have hb := h.r.a1
  obtain ⟨k, hk⟩ := Int.eq_ofNat_of_zero_le ha
  rw [hk] at hb ⊢
  rw [tickC_in (by omega), set_at (by omega), Int.toNat_natCast]
  have := atI_bd hc k
  rw [wrap_small (by rw [← atI_lt (by omega)]; omega) (by rw [← atI_lt (by omega)]; omega), ← atI_lt (by omega)]
theorem tick_ok {c : List Int} {u : Upd} {n : Int} (hc : wrongC c n = 0) (h : StepOk c u n) : wrongC (tickC c u.author) n = 0 := by
  have hcl := wrongC_ok hc
  refine wrongC_of hcl.1 hcl.2.1 (by rw [tickC_len]; exact hcl.2.2.1) fun x hx => ?_
  obtain ⟨j, hj, e⟩ := List.getElem_of_mem hx
  rw [← e, ← atI_lt hj, tick_at hc h j]
  have b1 := atI_bd hc j
  have b2 := atI_bd hc u.author.toNat
  have := h.eq
  have := h.r.s
  split <;> omega
theorem tick_sees {c : List Int} {u : Upd} {n : Int} (hc : wrongC c n = 0) (h : StepOk c u n) : seesC (tickC c u.author) c = true := seesC_iff.2 fun k => by
  rw [tick_at hc h k]; split
  · rename_i e; subst e; omega
  · omega

theorem logC_app {n : Int} : ∀ (l1 : List Upd) (c : List Int) (i : Nat) (l2 : List Upd), (logC n c l1 i).2.1 = 0 → logC n c (l1 ++ l2) i = logC n (logC n c l1 i).1 l2 (i + l1.length)
  | [], c, i, l2, _ => by simp [logC]
  | u :: l1, c, i, l2, h => by
    rw [List.cons_append, logC.eq_2, logC.eq_2]
    rw [logC.eq_2] at h
    by_cases he : stepE c u n = 0
    · rw [if_neg (by omega)] at h ⊢
      rw [if_neg (by omega), logC_app l1 _ _ _ h]
      congr 1
      simp only [List.length_cons]; omega
    · rw [if_pos he] at h; exact absurd h he
theorem logC_app_bad {n : Int} : ∀ (l1 : List Upd) (c : List Int) (i : Nat) (l2 : List Upd), (logC n c l1 i).2.1 ≠ 0 → logC n c (l1 ++ l2) i = logC n c l1 i
  | [], c, i, l2, h => by simp [logC] at h
  | u :: l1, c, i, l2, h => by
    rw [List.cons_append, logC.eq_2, logC.eq_2]
    rw [logC.eq_2] at h
    by_cases he : stepE c u n = 0
    · rw [if_neg (by omega)] at h ⊢
      rw [if_neg (by omega), logC_app_bad l1 _ _ _ h]
    · rw [if_pos he, if_pos he]
/-- a log that is taken: a right clock that sees the base; each of its updates is behind the base -/
theorem logC_ok {n : Int} : ∀ (l : List Upd) (c : List Int) (i : Nat), wrongC c n = 0 → (logC n c l i).2.1 = 0 →
    wrongC (logC n c l i).1 n = 0 ∧ seesC (logC n c l i).1 c = true ∧ ∀ u ∈ l, RightU u n ∧ atI c u.author.toNat ≤ atI u.seen u.author.toNat
  | [], c, i, hc, _ => ⟨hc, seesC_refl c, by simp⟩
  | u :: l, c, i, hc, h => by
    rw [logC.eq_2] at h ⊢
    by_cases he : stepE c u n = 0
    · rw [if_neg (by omega)] at h ⊢
      have hs := stepE_ok hc he
      obtain ⟨a1, a2, a3⟩ := logC_ok l (tickC c u.author) (i + 1) (tick_ok hc hs) h
      refine ⟨a1, seesC_trans a2 (tick_sees hc hs), fun v hv => ?_⟩
      rcases List.mem_cons.1 hv with e | hv
      · subst e; exact ⟨hs.r, by rw [hs.eq]; exact Int.le_refl _⟩
      · refine ⟨(a3 v hv).1, Int.le_trans ?_ (a3 v hv).2⟩
        exact seesC_iff.1 (tick_sees hc hs) _
    · rw [if_pos he] at h; exact absurd h he

theorem clockL_log {base : List Int} {l : List Upd} {n : Int} (h : wrongC base n = 0) (hl : l.length ≤ 300) : clockL base l n = logC n base l 0 := by
  unfold clockL; rw [if_neg (by omega), if_neg (by omega)]
theorem clockL_ok {base : List Int} {l : List Upd} {n : Int} (h : (clockL base l n).2.1 = 0) : wrongC base n = 0 ∧ l.length ≤ 300 ∧ clockL base l n = logC n base l 0 := by
  unfold clockL at h ⊢
  split at h
  · rename_i h1; exact absurd h h1
  · rename_i h1
    split at h
    · cases h
    · rename_i h2
      exact ⟨by omega, by omega, by rw [if_neg h1, if_neg h2]⟩
end Go.Proofs.YtkjknlnhffmkkabGreat

namespace Go.Proofs.YtkjknlnhffmkkabGreat
set_option linter.unusedVariables false

/-! ## orders -/
theorem codeL_inj {a b : Live} (h : codeL a = codeL b) : a = b := by
  obtain ⟨s1, k1, i1, a1, q1⟩ := a
  obtain ⟨s2, k2, i2, a2, q2⟩ := b
  cases s1 <;> cases s2 <;> simp [codeL] at h <;> simp [h]
theorem ordL_zero {a b : Live} : ordL a b = 0 ↔ a = b := by
  rw [ordL_code]
  constructor
  · intro h; exact codeL_inj (lexI_eq rfl h)
  · rintro rfl; simp [codeL, lexI, cmpI]
theorem ordT_zero {a b : Tally} : ordT a b = 0 ↔ a.key = b.key ∧ a.author = b.author := by
  rw [ordT_code]; unfold codeT
  rw [lexI_cons0, lexI_cons0]; simp [lexI]
theorem ordL_swap {a b : Live} : ordL b a = - ordL a b := by rw [ordL_code, ordL_code]; exact lexI_swap
theorem ordT_swap {a b : Tally} : ordT b a = - ordT a b := by rw [ordT_code, ordT_code]; exact lexI_swap
theorem sorted_ext {α : Type} {r : α → α → Prop} (hi : ∀ a, ¬ r a a) (hs : ∀ a b, r a b → r b a → False) : ∀ {l1 l2 : List α}, l1.Pairwise r → l2.Pairwise r → (∀ x, x ∈ l1 ↔ x ∈ l2) → l1 = l2
  | [], [], _, _, _ => rfl
  | [], b :: l2, _, _, h => by have := (h b).2 (by simp); cases this
  | a :: l1, [], _, _, h => by have := (h a).1 (by simp); cases this
  | a :: l1, b :: l2, h1, h2, h => by
    rw [List.pairwise_cons] at h1 h2
    have e : a = b := by
      have ha := (h a).1 (by simp)
      have hb := (h b).2 (by simp)
      rcases List.mem_cons.1 ha with e | ha
      · exact e
      · rcases List.mem_cons.1 hb with e | hb
        · exact e.symm
        · exact absurd (h1.1 b hb) (fun k => hs _ _ k (h2.1 a ha))
    subst e
    rw [sorted_ext hi hs h1.2 h2.2 fun x => ?_]
    have k := h x
    simp only [List.mem_cons] at k
    constructor
    · intro hx
      rcases k.1 (.inr hx) with e | hx'
      · subst e; exact absurd (h1.1 _ hx) (hi _)
      · exact hx'
    · intro hx
      rcases k.2 (.inr hx) with e | hx'
      · subst e; exact absurd (h2.1 _ hx) (hi _)
      · exact hx'
theorem sortedL_ext {l1 l2 : List Live} (h1 : SortedL l1) (h2 : SortedL l2) (h : ∀ x, x ∈ l1 ↔ x ∈ l2) : l1 = l2 :=
  sorted_ext (fun a h => by rw [ordL_zero.2 rfl] at h; omega) (fun a b h k => by rw [ordL_swap] at k; omega) h1 h2 h
theorem sortedT_ext {l1 l2 : List Tally} (h1 : SortedT l1) (h2 : SortedT l2) (h : ∀ x, x ∈ l1 ↔ x ∈ l2) : l1 = l2 :=
  sorted_ext (fun a h => by rw [ordT_zero.2 ⟨rfl, rfl⟩] at h; omega) (fun a b h k => by rw [ordT_swap] at k; omega) h1 h2 h
theorem incr_len {α : Type} {f : α → Nat} {N : Nat} : ∀ {l : List α} {m : Nat}, l.Pairwise (fun a b => f a < f b) → (∀ x ∈ l, m ≤ f x ∧ f x < N) → m ≤ N → m + l.length ≤ N
  | [], m, _, _, h => h
  | a :: l, m, hp, hb, hm => by
    rw [List.pairwise_cons] at hp
    have ha := hb a (by simp)
    have := incr_len (l := l) (m := f a + 1) hp.2 (fun x hx => ⟨hp.1 x hx, (hb x (by simp [hx])).2⟩) (by omega)
    simp only [List.length_cons]; omega
/-! ## the first place that is not behind -/
section
variable {α : Type} {f : α → Int} {l : List α}
theorem idxO_take {y : α} (h : y ∈ l.take (idxO f l)) : f y < 0 := by
  obtain ⟨j, hj, e⟩ := List.getElem_of_mem h
  rw [List.length_take] at hj
  have h2 := List.not_of_lt_findIdx (p := fun y => decide (0 ≤ f y)) (xs := l) (i := j) (by unfold idxO at hj; omega)
  rw [List.getElem_take] at e
  rw [e] at h2
  simp at h2
  omega
theorem idxO_drop {y : α} (hm : ∀ (a b : Nat) y z, a ≤ b → l[a]? = some y → l[b]? = some z → f z < 0 → f y < 0) (h : y ∈ l.drop (idxO f l)) : 0 ≤ f y := by
  obtain ⟨j, hj, e⟩ := List.getElem_of_mem h
  rw [List.length_drop] at hj
  rw [List.getElem_drop] at e
  have hi : idxO f l < l.length := by omega
  have h2 := List.findIdx_getElem (p := fun y => decide (0 ≤ f y)) (xs := l) (w := hi)
  have h2 : 0 ≤ f l[idxO f l] := of_decide_eq_true h2
  rcases Int.lt_or_le (f y) 0 with hlt | hle
  · have := hm (idxO f l) (idxO f l + j) l[idxO f l] y (by omega) (List.getElem?_eq_getElem hi) (by rw [List.getElem?_eq_getElem (by omega), e]) hlt
    omega
  · exact hle
end
theorem insO_mem {α : Type} {f : α → α → Int} {l : List α} {x y : α} : y ∈ insO f l x ↔ y ∈ l ∨ y = x := by
  unfold insO
  conv => rhs; rw [← List.take_append_drop (idxO (fun y => f y x) l) l]
  simp only [List.mem_append, List.mem_singleton]
  constructor
  · rintro ((h | h) | h)
    · exact .inl (.inl h)
    · exact .inr h
    · exact .inl (.inr h)
  · rintro ((h | h) | h)
    · exact .inl (.inl h)
    · exact .inr h
    · exact .inl (.inr h)
theorem insO_sorted {α : Type} {f : α → α → Int} (hs : ∀ a b, f b a = - f a b) (ht : ∀ {a b c}, f a b < 0 → f b c < 0 → f a c < 0) {l : List α} {x : α} (h : l.Pairwise fun a b => f a b < 0) (hn : ∀ y ∈ l, f y x ≠ 0) : (insO f l x).Pairwise fun a b => f a b < 0 := by
  have hm := mono_of (f := f) ht h x
  have h1 : ∀ y ∈ l.take (idxO (fun y => f y x) l), f y x < 0 := fun y hy => idxO_take (f := fun y => f y x) hy
  have h2 : ∀ y ∈ l.drop (idxO (fun y => f y x) l), f x y < 0 := fun y hy => by
    have := idxO_drop (f := fun y => f y x) hm hy
    have := hn y (List.mem_of_mem_drop hy)
    rw [hs]; omega
  unfold insO
  rw [← List.take_append_drop (idxO (fun y => f y x) l) l, List.pairwise_append] at h
  rw [List.append_assoc, List.pairwise_append, List.singleton_append, List.pairwise_cons]
  refine ⟨h.1, ⟨h2, h.2.1⟩, fun a ha b hb => ?_⟩
  rcases List.mem_cons.1 hb with e | hb
  · subst e; exact h1 a ha
  · exact h.2.2 a ha b hb
/-! ## right states -/
structure LiveOk (c : List Int) (n : Int) (x : Live) : Prop where
  a0 : 0 ≤ x.author
  a1 : x.author < n
  q0 : 1 ≤ x.seq
  q1 : x.seq ≤ atI c x.author.toNat
  k0 : 0 ≤ x.key
  k1 : x.key ≤ 15
  i0 : -1000 ≤ x.item
  i1 : x.item ≤ 1000
structure TallyOk (c : List Int) (n : Int) (x : Tally) : Prop where
  a0 : 0 ≤ x.author
  a1 : x.author < n
  k0 : 0 ≤ x.key
  k1 : x.key ≤ 15
  s0 : -(1000 * atI c x.author.toNat) ≤ x.sum
  s1 : x.sum ≤ 1000 * atI c x.author.toNat
  ne : x.sum ≠ 0
structure RightS (s : State) (n : Int) : Prop where
  c : wrongC s.clock n = 0
  l : ∀ x ∈ s.lives, LiveOk s.clock n x
  ls : SortedL s.lives
  t : ∀ x ∈ s.tallies, TallyOk s.clock n x
  ts : SortedT s.tallies
theorem chain_cons {α : Type} {f : α → α → Int} (ht : ∀ {a b c}, f a b < 0 → f b c < 0 → f a c < 0) {p : Option α} {x : α} {l : List α} : (p.toList ++ x :: l).Pairwise (fun a b => f a b < 0) ↔ (∀ q ∈ p, f q x < 0) ∧ (x :: l).Pairwise fun a b => f a b < 0 := by
  cases p with
  | none => simp
  | some q =>
    simp only [Option.toList_some, List.singleton_append, Option.mem_def, Option.some.injEq, forall_eq']
    rw [List.pairwise_cons]
    constructor
    · rintro ⟨h1, h2⟩; exact ⟨h1 x (by simp), h2⟩
    · rintro ⟨h1, h2⟩
      refine ⟨fun y hy => ?_, h2⟩
      rcases List.mem_cons.1 hy with e | hy
      · subst e; exact h1
      · exact ht h1 ((List.pairwise_cons.1 h2).1 y hy)
theorem wrongL_cons {c : List Int} {n : Int} {x : Live} {l : List Live} {p : Option Live} {i : Nat} : (wrongL c n p (x :: l) i).1 = 0 ↔ (¬ (x.author < 0 ∨ n ≤ x.author ∨ x.seq < 1 ∨ x.key < 0 ∨ 15 < x.key ∨ x.item < -1000 ∨ 1000 < x.item) ∧ ¬ atI c x.author.toNat < x.seq) ∧ (∀ q ∈ p, ordL q x < 0) ∧ (wrongL c n (some x) l (i + 1)).1 = 0 := by
  have e : wrongL c n p (x :: l) i = if x.author < 0 ∨ n ≤ x.author ∨ x.seq < 1 ∨ x.key < 0 ∨ 15 < x.key ∨ x.item < -1000 ∨ 1000 < x.item then (3, (i : Int))
    else if atI c x.author.toNat < x.seq then (8, (i : Int))
    else if (match p with | some q => decide (0 ≤ ordL q x) | none => false) = true then (2, (i : Int))
    else wrongL c n (some x) l (i + 1) := rfl
  rw [e]
  by_cases h1 : x.author < 0 ∨ n ≤ x.author ∨ x.seq < 1 ∨ x.key < 0 ∨ 15 < x.key ∨ x.item < -1000 ∨ 1000 < x.item
  · rw [if_pos h1]; constructor
    · intro h; cases h
    · intro h; exact absurd h1 h.1.1
  · rw [if_neg h1]
    by_cases h2 : atI c x.author.toNat < x.seq
    · rw [if_pos h2]; constructor
      · intro h; cases h
      · intro h; exact absurd h2 h.1.2
    · rw [if_neg h2]
      cases p with
      | none => simp [h1, h2]
      | some q =>
        by_cases h3 : 0 ≤ ordL q x
        · rw [if_pos (decide_eq_true h3)]; constructor
          · intro h; cases h
          · intro h; have := h.2.1 q rfl; omega
        · rw [if_neg (by simpa using h3)]
          exact ⟨fun h => ⟨⟨h1, h2⟩, fun q' hq => by injection hq with hq; subst hq; omega, h⟩, fun h => h.2.2⟩
theorem wrongT_cons {c : List Int} {n : Int} {x : Tally} {l : List Tally} {p : Option Tally} {i : Nat} : (wrongT c n p (x :: l) i).1 = 0 ↔ ¬ (x.author < 0 ∨ n ≤ x.author ∨ x.key < 0 ∨ 15 < x.key ∨ x.sum < -(mostT c n x) ∨ mostT c n x < x.sum ∨ x.sum = 0) ∧ (∀ q ∈ p, ordT q x < 0) ∧ (wrongT c n (some x) l (i + 1)).1 = 0 := by
  have e : wrongT c n p (x :: l) i = if x.author < 0 ∨ n ≤ x.author ∨ x.key < 0 ∨ 15 < x.key ∨ x.sum < -(mostT c n x) ∨ mostT c n x < x.sum ∨ x.sum = 0 then (3, (i : Int))
    else if (match p with | some q => decide (0 ≤ ordT q x) | none => false) = true then (2, (i : Int))
    else wrongT c n (some x) l (i + 1) := rfl
  rw [e]
  by_cases h1 : x.author < 0 ∨ n ≤ x.author ∨ x.key < 0 ∨ 15 < x.key ∨ x.sum < -(mostT c n x) ∨ mostT c n x < x.sum ∨ x.sum = 0
  · rw [if_pos h1]; constructor
    · intro h; cases h
    · intro h; exact absurd h1 h.1
  · rw [if_neg h1]
    cases p with
    | none => simp [h1]
    | some q =>
      by_cases h3 : 0 ≤ ordT q x
      · rw [if_pos (decide_eq_true h3)]; constructor
        · intro h; cases h
        · intro h; have := h.2.1 q rfl; omega
      · rw [if_neg (by simpa using h3)]
        exact ⟨fun h => ⟨h1, fun q' hq => by injection hq with hq; subst hq; omega, h⟩, fun h => h.2.2⟩
theorem wrongL_iff {c : List Int} {n : Int} : ∀ {l : List Live} {p : Option Live} {i : Nat}, (wrongL c n p l i).1 = 0 ↔ (∀ x ∈ l, LiveOk c n x) ∧ (l ≠ [] → SortedL (p.toList ++ l))
  | [], p, i => by simp [wrongL]
  | x :: l, p, i => by
    have ih := wrongL_iff (c := c) (n := n) (l := l) (p := some x) (i := i + 1)
    unfold SortedL at ih ⊢
    rw [wrongL_cons, chain_cons (f := ordL) ordL_trans, ih]
    constructor
    · rintro ⟨⟨h1, h2⟩, h3, a, b⟩
      refine ⟨fun y hy => ?_, fun _ => ⟨h3, ?_⟩⟩
      · rcases List.mem_cons.1 hy with e | hy
        · subst e; exact ⟨by omega, by omega, by omega, by omega, by omega, by omega, by omega, by omega⟩
        · exact a y hy
      · cases l with
        | nil => simp
        | cons z l => exact b (by simp)
    · rintro ⟨a, b⟩
      have hx := a x (by simp)
      obtain ⟨b1, b2⟩ := b (by simp)
      exact ⟨⟨by have := hx.a0; have := hx.a1; have := hx.q0; have := hx.k0; have := hx.k1; have := hx.i0; have := hx.i1; omega, by have := hx.q1; omega⟩, b1, fun y hy => a y (by simp [hy]), fun _ => b2⟩
theorem wrongT_iff {c : List Int} {n : Int} : ∀ {l : List Tally} {p : Option Tally} {i : Nat}, (wrongT c n p l i).1 = 0 ↔ (∀ x ∈ l, TallyOk c n x) ∧ (l ≠ [] → SortedT (p.toList ++ l))
  | [], p, i => by simp [wrongT]
  | x :: l, p, i => by
    have ih := wrongT_iff (c := c) (n := n) (l := l) (p := some x) (i := i + 1)
    unfold SortedT at ih ⊢
    rw [wrongT_cons, chain_cons (f := ordT) ordT_trans, ih]
    constructor
    · rintro ⟨h1, h3, a, b⟩
      refine ⟨fun y hy => ?_, fun _ => ⟨h3, ?_⟩⟩
      · rcases List.mem_cons.1 hy with e | hy
        · subst e
          have e : mostT c n y = 1000 * atI c y.author.toNat := by unfold mostT; rw [if_pos (by omega)]
          rw [e] at h1
          exact ⟨by omega, by omega, by omega, by omega, by omega, by omega, by omega⟩
        · exact a y hy
      · cases l with
        | nil => simp
        | cons z l => exact b (by simp)
    · rintro ⟨a, b⟩
      have hx := a x (by simp)
      obtain ⟨b1, b2⟩ := b (by simp)
      have e : mostT c n x = 1000 * atI c x.author.toNat := by unfold mostT; rw [if_pos ⟨hx.a0, hx.a1⟩]
      exact ⟨by rw [e]; have := hx.a0; have := hx.a1; have := hx.k0; have := hx.k1; have := hx.s0; have := hx.s1; have := hx.ne; omega, b1, fun y hy => a y (by simp [hy]), fun _ => b2⟩
theorem sorted_nil_or {α : Type} {l : List α} {r : α → α → Prop} (h : l ≠ [] → l.Pairwise r) : l.Pairwise r := by
  cases l with
  | nil => simp
  | cons x l => exact h (by simp)
theorem wrongS_iff {s : State} {n : Int} : (wrongS s n).1 = 0 ↔ RightS s n := by
  unfold wrongS
  constructor
  · intro h
    split at h
    · rename_i h1; exact absurd h h1
    · rename_i h1
      split at h
      · rename_i h2; exact absurd h h2
      · rename_i h2
        have e2 := wrongL_iff.1 (Classical.not_not.1 h2)
        have e3 := wrongT_iff.1 h
        exact ⟨Classical.not_not.1 h1, e2.1, sorted_nil_or e2.2, e3.1, sorted_nil_or e3.2⟩
  · intro h
    have e2 := wrongL_iff (i := 0) (p := none).2 ⟨h.l, fun _ => h.ls⟩
    have e3 := wrongT_iff (i := 0) (p := none).2 ⟨h.t, fun _ => h.ts⟩
    rw [if_neg (fun k => k h.c), if_neg (fun k => k e2), e3]
/-- how long a right state's lists may be -/
def numL (x : Live) : Nat := ((((if x.set then 1 else 0) * 16 + x.key.toNat) * 2001 + (x.item + 1000).toNat) * 6 + x.author.toNat) * 1001 + x.seq.toNat
theorem numL_lt {c : List Int} {n : Int} (hc : wrongC c n = 0) {a b : Live} (ha : LiveOk c n a) (hb : LiveOk c n b) (h : ordL a b < 0) : numL a < numL b := by
  have hn := wrongC_ok hc
  have q1 := atI_bd hc a.author.toNat
  have q2 := atI_bd hc b.author.toNat
  obtain ⟨a1, a2, a3, a4, a5, a6, a7, a8⟩ := ha
  obtain ⟨b1, b2, b3, b4, b5, b6, b7, b8⟩ := hb
  rw [ordL_code] at h
  unfold codeL at h
  simp only [lexI_cons] at h
  unfold numL
  obtain ⟨s1, k1, i1, u1, r1⟩ := a
  obtain ⟨s2, k2, i2, u2, r2⟩ := b
  dsimp only at *
  rcases h with h | ⟨h0, h | ⟨h1, h | ⟨h2, h | ⟨h3, h | ⟨h4, h⟩⟩⟩⟩⟩
  · cases s1 <;> cases s2 <;> simp at h ⊢ <;> omega
  · cases s1 <;> cases s2 <;> simp at h0 ⊢ <;> omega
  · subst h1; cases s1 <;> cases s2 <;> simp at h0 ⊢ <;> omega
  · subst h1 h2; cases s1 <;> cases s2 <;> simp at h0 ⊢ <;> omega
  · subst h1 h2 h3; cases s1 <;> cases s2 <;> simp at h0 ⊢ <;> omega
  · simp [lexI] at h
theorem numL_bd {c : List Int} {n : Int} (hc : wrongC c n = 0) {a : Live} (ha : LiveOk c n a) : numL a < 400000000 := by
  have hn := wrongC_ok hc
  have q1 := atI_bd hc a.author.toNat
  obtain ⟨a1, a2, a3, a4, a5, a6, a7, a8⟩ := ha
  unfold numL
  split <;> omega
def numT (x : Tally) : Nat := x.key.toNat * 6 + x.author.toNat
theorem RightS.lives_len {s : State} {n : Int} (h : RightS s n) : s.lives.length ≤ 400000000 := by
  have := incr_len (f := numL) (N := 400000000) (l := s.lives) (m := 0) (List.Pairwise.imp_of_mem (fun {a b} ha hb hab => numL_lt h.c (h.l a ha) (h.l b hb) hab) h.ls) (fun x hx => ⟨Nat.zero_le _, numL_bd h.c (h.l x hx)⟩) (by omega)
  omega
theorem RightS.tallies_len {s : State} {n : Int} (h : RightS s n) : s.tallies.length ≤ 96 := by
  have hn := wrongC_ok h.c
  have := incr_len (f := numT) (N := 96) (l := s.tallies) (m := 0) (List.Pairwise.imp_of_mem (fun {a b} ha hb hab => by
    have ⟨a1, a2, a3, a4, _, _, _⟩ := h.t a ha
    have ⟨b1, b2, b3, b4, _, _, _⟩ := h.t b hb
    rw [ordT_code] at hab
    unfold codeT at hab
    simp only [lexI_cons] at hab
    unfold numT
    rcases hab with h | ⟨h1, h | ⟨h2, h⟩⟩
    · omega
    · omega
    · simp [lexI] at h) h.ts) (fun x hx => ⟨Nat.zero_le _, by
      have ⟨a1, a2, a3, a4, _, _, _⟩ := h.t x hx
      unfold numT; omega⟩) (by omega)
  omega
theorem RightS.clock_len {s : State} {n : Int} (h : RightS s n) : s.clock.length ≤ 6 := by have := wrongC_ok h.c; omega
/-! ## what stays -/
def ends (u : Upd) (x : Live) : Bool := decide (u.kind ≠ 5) && decide (u.kind ≠ 3) && endsC (decide (u.kind = 3 ∨ u.kind = 4)) u x
def liveOf (u : Upd) : Live := ⟨decide (u.kind = 3), u.key, u.item, u.author, atI u.seen u.author.toNat + 1⟩
def makes (u : Upd) : Bool := decide (u.kind = 1) || decide (u.kind = 3)
theorem seqU_right {u : Upd} {n : Int} (h : RightU u n) : seqU u = atI u.seen u.author.toNat + 1 := by
  unfold seqU
  have := atI_bd h.c u.author.toNat
  exact wrap_small (by omega) (by omega)
theorem newL_liveOf {u : Upd} {n : Int} (h : RightU u n) (hm : makes u = true) : newL (decide (u.kind = 3 ∨ u.kind = 4)) u (seqU u) = liveOf u := by
  unfold newL liveOf
  rw [seqU_right h]
  unfold makes at hm
  simp only [Bool.or_eq_true, decide_eq_true_eq] at hm
  rcases hm with e | e <;> rw [e] <;> rfl
theorem applyS_lives {s : State} {u : Upd} {n : Int} (h : RightU u n) : (applyS s u).lives = if makes u = true then insO ordL (s.lives.filter fun x => !ends u x) (liveOf u) else s.lives.filter fun x => !ends u x := by
  have e1 : (if u.kind ≠ 5 ∧ u.kind ≠ 3 then s.lives.filter fun l => !endsC (decide (u.kind = 3 ∨ u.kind = 4)) u l else s.lives) = s.lives.filter fun x => !ends u x := by
    unfold ends
    split
    · rename_i h1; simp [h1]
    · rename_i h1
      symm; rw [List.filter_eq_self]
      intro x _
      by_cases h5 : u.kind = 5 <;> by_cases h3 : u.kind = 3 <;> simp_all
  show (if u.kind = 1 ∨ u.kind = 3 then insO ordL (if u.kind ≠ 5 ∧ u.kind ≠ 3 then s.lives.filter fun l => !endsC (decide (u.kind = 3 ∨ u.kind = 4)) u l else s.lives) (newL (decide (u.kind = 3 ∨ u.kind = 4)) u (seqU u)) else (if u.kind ≠ 5 ∧ u.kind ≠ 3 then s.lives.filter fun l => !endsC (decide (u.kind = 3 ∨ u.kind = 4)) u l else s.lives)) = _
  rw [e1]
  by_cases hm : makes u = true
  · rw [if_pos hm, newL_liveOf h hm, if_pos (by unfold makes at hm; simpa using hm)]
  · rw [if_neg hm, if_neg (by unfold makes at hm; simpa using hm)]
theorem applyS_mem {s : State} {u : Upd} {n : Int} (h : RightU u n) {x : Live} : x ∈ (applyS s u).lives ↔ (x ∈ s.lives ∧ ends u x = false) ∨ (makes u = true ∧ x = liveOf u) := by
  rw [applyS_lives h]
  split
  · rename_i hm; rw [insO_mem]; simp [hm]
  · rename_i hm; simp [hm]
theorem ends_has {u : Upd} {x : Live} (h : ends u x = true) : hasC u.seen x.author x.seq = true := by
  unfold ends endsC at h
  simp only [Bool.and_eq_true] at h
  exact h.2.2
theorem has_le {c : List Int} {a q : Int} (h : hasC c a q = true) : 0 ≤ a ∧ a < c.length ∧ q ≤ atI c a.toNat := by
  unfold hasC at h
  simp only [Bool.and_eq_true, decide_eq_true_eq] at h
  exact ⟨h.1.1, h.1.2, h.2⟩
/-- who has not seen it does not end it -/
theorem ends_not {u : Upd} {x : Live} (h : atI u.seen x.author.toNat < x.seq) : ends u x = false := by
  rw [Bool.eq_false_iff]; intro k
  have := (has_le (ends_has k)).2.2
  omega
/-! ## tallies -/
def hitT (k a : Int) (t : Tally) : Bool := decide (t.key = k) && decide (t.author = a)
def sumT (k a : Int) : List Tally → Int
  | [] => 0
  | t :: l => (if hitT k a t = true then t.sum else 0) + sumT k a l
theorem sumT_app (k a : Int) : ∀ l1 l2 : List Tally, sumT k a (l1 ++ l2) = sumT k a l1 + sumT k a l2
  | [], l2 => by simp [sumT]
  | t :: l1, l2 => by simp only [List.cons_append, sumT, sumT_app k a l1 l2]; omega
theorem hitT_iff {k a : Int} {t : Tally} : hitT k a t = true ↔ t.key = k ∧ t.author = a := by unfold hitT; simp
theorem sumT_none {k a : Int} : ∀ {l : List Tally}, (∀ t ∈ l, hitT k a t = false) → sumT k a l = 0
  | [], _ => rfl
  | t :: l, h => by
    have h1 := h t (by simp)
    have := sumT_none (k := k) (a := a) (l := l) fun t ht => h t (by simp [ht])
    simp only [sumT, this, h1]; simp
theorem split_at {α : Type} {l : List α} {i : Nat} {z : α} (h : l[i]? = some z) : l = l.take i ++ z :: l.drop (i + 1) := by
  obtain ⟨hi, e⟩ := List.getElem?_eq_some_iff.1 h
  conv => lhs; rw [← List.take_append_drop i l, List.drop_eq_getElem_cons hi, e]
theorem sumT_mem {l : List Tally} (h : SortedT l) {t : Tally} (ht : t ∈ l) : sumT t.key t.author l = t.sum := by
  obtain ⟨i, hi⟩ := List.getElem?_of_mem ht
  have e := split_at hi
  unfold SortedT at h
  rw [e, List.pairwise_append, List.pairwise_cons] at h
  rw [e, sumT_app]
  simp only [sumT]
  rw [sumT_none (l := l.take i) fun y hy => ?_, sumT_none (l := l.drop (i + 1)) fun y hy => ?_, if_pos (hitT_iff.2 ⟨rfl, rfl⟩)]
  · omega
  · rw [Bool.eq_false_iff]; intro k
    obtain ⟨k1, k2⟩ := hitT_iff.1 k
    have := h.2.1.1 y hy
    rw [ordT_zero.2 ⟨k1.symm, k2.symm⟩] at this; omega
  · rw [Bool.eq_false_iff]; intro k
    obtain ⟨k1, k2⟩ := hitT_iff.1 k
    have := h.2.2 y hy t (by simp)
    rw [ordT_zero.2 ⟨k1, k2⟩] at this; omega
theorem sumT_find {k a : Int} {l : List Tally} (h : SortedT l) (hne : sumT k a l ≠ 0) : (⟨k, a, sumT k a l⟩ : Tally) ∈ l := by
  by_cases hx : ∃ t ∈ l, hitT k a t = true
  · obtain ⟨t, ht, hh⟩ := hx
    obtain ⟨rfl, rfl⟩ := hitT_iff.1 hh
    rw [sumT_mem h ht]; exact ht
  · exact absurd (sumT_none fun t ht => by rw [Bool.eq_false_iff]; exact fun k => hx ⟨t, ht, k⟩) hne
theorem tallies_ext {l1 l2 : List Tally} (h1 : SortedT l1) (h2 : SortedT l2) (n1 : ∀ t ∈ l1, t.sum ≠ 0) (n2 : ∀ t ∈ l2, t.sum ≠ 0) (h : ∀ k a, sumT k a l1 = sumT k a l2) : l1 = l2 := by
  refine sortedT_ext h1 h2 fun x => ⟨fun hx => ?_, fun hx => ?_⟩
  · have e := sumT_mem h1 hx
    have e2 := sumT_find (k := x.key) (a := x.author) h2 (by rw [← h, e]; exact n1 x hx)
    rw [← h, e] at e2; exact e2
  · have e := sumT_mem h2 hx
    have e2 := sumT_find (k := x.key) (a := x.author) h1 (by rw [h, e]; exact n2 x hx)
    rw [h, e] at e2; exact e2
theorem sumT_ins (k a : Int) (l : List Tally) (t : Tally) : sumT k a (insO ordT l t) = sumT k a l + (if hitT k a t = true then t.sum else 0) := by
  unfold insO
  rw [sumT_app, sumT_app]
  conv => rhs; rw [← List.take_append_drop (idxO (fun y => ordT y t) l) l, sumT_app]
  simp only [sumT]; omega
theorem hit_same {k a : Int} {z t : Tally} (h : ordT z t = 0) : hitT k a z = hitT k a t := by
  obtain ⟨h1, h2⟩ := ordT_zero.1 h
  unfold hitT; rw [h1, h2]
theorem sumT_count (k a : Int) (l : List Tally) (t : Tally) : sumT k a (countL l t) = sumT k a l + (if hitT k a t = true then t.sum else 0) := by
  unfold countL
  split
  · rename_i z hz
    split
    · rename_i h0
      have e := split_at hz
      have hh := hit_same (k := k) (a := a) h0
      split
      · rename_i hs
        have e2 : l.eraseIdx (idxO (fun y => ordT y t) l) = l.take (idxO (fun y => ordT y t) l) ++ l.drop (idxO (fun y => ordT y t) l + 1) := List.eraseIdx_eq_take_drop_succ ..
        rw [e2, sumT_app]
        conv => rhs; rw [e, sumT_app]
        simp only [sumT, hh]
        split <;> omega
      · have hi := (List.getElem?_eq_some_iff.1 hz).1
        have e2 : l.set (idxO (fun y => ordT y t) l) { z with sum := z.sum + t.sum } = l.take (idxO (fun y => ordT y t) l) ++ { z with sum := z.sum + t.sum } :: l.drop (idxO (fun y => ordT y t) l + 1) := List.set_eq_take_append_cons_drop .. |>.trans (if_pos hi)
        rw [e2, sumT_app]
        conv => rhs; rw [e, sumT_app]
        have hh2 : hitT k a { z with sum := z.sum + t.sum } = hitT k a t := hh
        simp only [sumT, hh, hh2]
        split <;> omega
    · split
      · rename_i h; rw [h]; simp
      · exact sumT_ins k a l t
  · split
    · rename_i h; rw [h]; simp
    · exact sumT_ins k a l t
theorem countL_ne {l : List Tally} {t : Tally} (h : ∀ z ∈ l, z.sum ≠ 0) : ∀ z ∈ countL l t, z.sum ≠ 0 := by
  unfold countL
  intro y hy
  split at hy
  · rename_i z hz
    split at hy
    · split at hy
      · exact h y (List.mem_of_mem_eraseIdx hy)
      · rename_i hs
        rcases List.mem_or_eq_of_mem_set hy with hy | e
        · exact h y hy
        · subst e; exact hs
    · split at hy
      · exact h y hy
      · rename_i hs
        rcases insO_mem.1 hy with hy | e
        · exact h y hy
        · subst e; exact hs
  · split at hy
    · exact h y hy
    · rename_i hs
      rcases insO_mem.1 hy with hy | e
      · exact h y hy
      · subst e; exact hs
theorem countL_sorted {l : List Tally} {t : Tally} (h : SortedT l) : SortedT (countL l t) := by
  have hm := mono_T h t
  have hins : (∀ z, l[idxO (fun y => ordT y t) l]? = some z → ordT z t ≠ 0) → SortedT (insO ordT l t) := fun hz => by
    refine insO_sorted (f := ordT) (fun a b => ordT_swap) ordT_trans h fun y hy e => ?_
    have hy' := hy
    rw [← List.take_append_drop (idxO (fun y => ordT y t) l) l] at hy'
    rcases List.mem_append.1 hy' with hy' | hy'
    · have := idxO_take (f := fun y => ordT y t) hy'; omega
    · obtain ⟨j, hj, ej⟩ := List.getElem_of_mem hy'
      rw [List.length_drop] at hj
      rw [List.getElem_drop] at ej
      have hi : idxO (fun y => ordT y t) l < l.length := by omega
      have h0 := hz _ (List.getElem?_eq_getElem hi)
      have h1 : 0 ≤ ordT l[idxO (fun y => ordT y t) l] t := idxO_drop (f := fun y => ordT y t) hm (by rw [List.drop_eq_getElem_cons hi]; exact List.mem_cons_self)
      cases j with
      | zero => simp only [Nat.add_zero] at ej; rw [ej] at h0; exact h0 e
      | succ j =>
        have h2 := List.pairwise_iff_getElem.1 h _ _ hi (by omega) (show idxO (fun y => ordT y t) l < idxO (fun y => ordT y t) l + (j + 1) by omega)
        rw [ej] at h2
        have h3 : ordT t l[idxO (fun y => ordT y t) l] < 0 := by rw [ordT_swap]; omega
        have h4 := ordT_trans h3 h2
        rw [ordT_swap] at h4; omega
  unfold countL
  split
  · rename_i z hz
    split
    · rename_i h0
      split
      · exact List.Pairwise.sublist (List.eraseIdx_sublist ..) h
      · exact pairwise_set2 h hz (fun y h => h) (fun y h => h)
    · rename_i h0
      split
      · exact h
      · exact hins fun y hy => by rw [hz] at hy; injection hy with hy; subst hy; exact h0
  · rename_i hz
    split
    · exact h
    · exact hins fun y hy => by rw [hz] at hy; cases hy
where
  pairwise_set2 {l : List Tally} {i : Nat} {z y : Tally} (h : SortedT l) (hz : l[i]? = some z) (h1 : ∀ x, ordT z x < 0 → ordT y x < 0) (h2 : ∀ x, ordT x z < 0 → ordT x y < 0) : SortedT (l.set i y) := by
    have hi := (List.getElem?_eq_some_iff.1 hz).1
    have e := split_at hz
    have e2 : l.set i y = l.take i ++ y :: l.drop (i + 1) := List.set_eq_take_append_cons_drop .. |>.trans (if_pos hi)
    unfold SortedT at h ⊢
    rw [e2]
    rw [e, List.pairwise_append, List.pairwise_cons] at h
    rw [List.pairwise_append, List.pairwise_cons]
    refine ⟨h.1, ⟨fun x hx => h1 x (h.2.1.1 x hx), h.2.1.2⟩, fun a ha b hb => ?_⟩
    rcases List.mem_cons.1 hb with e | hb
    · subst e; exact h2 a (h.2.2 a ha z (by simp))
    · exact h.2.2 a ha b (by simp [hb])
theorem applyS_tallies {s : State} {u : Upd} : (applyS s u).tallies = if u.kind = 5 then countL s.tallies ⟨u.key, u.author, u.item⟩ else s.tallies := rfl
theorem applyS_sum {s : State} {u : Upd} (k a : Int) : sumT k a (applyS s u).tallies = sumT k a s.tallies + (if u.kind = 5 ∧ u.key = k ∧ u.author = a then u.item else 0) := by
  rw [applyS_tallies]
  split
  · rename_i h; rw [sumT_count]
    by_cases h2 : u.key = k ∧ u.author = a
    · rw [if_pos (hitT_iff.2 h2), if_pos ⟨h, h2⟩]
    · rw [if_neg (fun k => h2 (hitT_iff.1 k)), if_neg (fun k => h2 k.2)]
  · rename_i h; rw [if_neg (fun k => h k.1)]; omega
theorem applyS_clock {s : State} {u : Upd} : (applyS s u).clock = tickC s.clock u.author := rfl
/-- a right state stays right -/
theorem applyS_right {s : State} {u : Upd} {n : Int} (h : RightS s n) (k : StepOk s.clock u n) : RightS (applyS s u) n := by
  have hn := wrongC_ok h.c
  have hr := k.r
  have tk := tick_at h.c k
  have up : ∀ j, atI s.clock j ≤ atI (tickC s.clock u.author) j := fun j => by rw [tk]; split <;> (try subst_vars) <;> omega
  have hnew : LiveOk (tickC s.clock u.author) n (liveOf u) := by
    have := atI_bd hr.c u.author.toNat
    refine ⟨hr.a0, hr.a1, ?_, ?_, hr.y0, hr.y1, hr.i0, hr.i1⟩
    · show 1 ≤ atI u.seen u.author.toNat + 1; omega
    · show atI u.seen u.author.toNat + 1 ≤ atI (tickC s.clock u.author) u.author.toNat
      rw [tk, if_pos rfl, k.eq]; exact Int.le_refl _
  refine ⟨tick_ok h.c k, fun x hx => ?_, ?_, fun x hx => ?_, ?_⟩
  · rcases (applyS_mem hr).1 hx with ⟨hx, _⟩ | ⟨_, rfl⟩
    · obtain ⟨a1, a2, a3, a4, a5, a6, a7, a8⟩ := h.l x hx
      exact ⟨a1, a2, a3, Int.le_trans a4 (up _), a5, a6, a7, a8⟩
    · exact hnew
  · rw [applyS_lives hr]
    have hf : SortedL (s.lives.filter fun x => !ends u x) := List.Pairwise.filter _ h.ls
    split
    · refine insO_sorted (f := ordL) (fun a b => ordL_swap) ordL_trans hf fun y hy e => ?_
      have e := ordL_zero.1 e
      subst e
      have := (h.l _ (List.mem_filter.1 hy).1).q1
      have : atI u.seen u.author.toNat + 1 ≤ atI s.clock u.author.toNat := this
      have := k.eq
      omega
    · exact hf
  · have hs : SortedT (applyS s u).tallies := by rw [applyS_tallies]; split; exact countL_sorted h.ts; exact h.ts
    have hne : ∀ z ∈ (applyS s u).tallies, z.sum ≠ 0 := by rw [applyS_tallies]; split; exact countL_ne fun z hz => (h.t z hz).ne; exact fun z hz => (h.t z hz).ne
    have e1 := sumT_mem hs hx
    rw [applyS_sum] at e1
    have hx0 := hne x hx
    by_cases hold : sumT x.key x.author s.tallies = 0
    · rw [hold] at e1
      split at e1
      · rename_i hk
        obtain ⟨k5, kk, ka⟩ := hk
        have := hr.a0; have := hr.a1; have := hr.y0; have := hr.y1; have := hr.i0; have := hr.i1
        have b := atI_bd h.c x.author.toNat
        refine ⟨by omega, by omega, by omega, by omega, ?_, ?_, hx0⟩ <;> (show _ ≤ _; rw [applyS_clock, tk, if_pos (by rw [ka])]; rw [← ka] at b; omega)
      · omega
    · have hf := h.t _ (sumT_find h.ts hold)
      obtain ⟨a1, a2, a3, a4, a5, a6, a7⟩ := hf
      dsimp only at a1 a2 a3 a4 a5 a6 a7
      refine ⟨a1, a2, a3, a4, ?_, ?_, hx0⟩
      · rw [applyS_clock, tk]
        split at e1
        · rename_i hk; have := hr.i0; have := hr.i1; rw [if_pos (by rw [hk.2.2]), hk.2.2]; omega
        · have := up x.author.toNat; rw [tk] at this; omega
      · rw [applyS_clock, tk]
        split at e1
        · rename_i hk; have := hr.i0; have := hr.i1; rw [if_pos (by rw [hk.2.2]), hk.2.2]; omega
        · have := up x.author.toNat; rw [tk] at this; omega
  · rw [applyS_tallies]; split
    · exact countL_sorted h.ts
    · exact h.ts
/-- two right states that agree on each thing asked are the same -/
theorem state_ext {s t : State} {n : Int} (h1 : RightS s n) (h2 : RightS t n) (hc : s.clock = t.clock) (hl : ∀ x, x ∈ s.lives ↔ x ∈ t.lives) (ht : ∀ k a, sumT k a s.tallies = sumT k a t.tallies) : s = t := by
  obtain ⟨c, l, m⟩ := s
  obtain ⟨c', l', m'⟩ := t
  dsimp only at hc hl ht
  subst hc
  have e1 : l = l' := sortedL_ext h1.ls h2.ls hl
  have e2 : m = m' := tallies_ext h1.ts h2.ts (fun z hz => (h1.t z hz).ne) (fun z hz => (h2.t z hz).ne) ht
  rw [e1, e2]
end Go.Proofs.YtkjknlnhffmkkabGreat

namespace Go.Proofs.YtkjknlnhffmkkabGreat
set_option linter.unusedVariables false

def playS (s : State) (l : List Upd) : State := l.foldl applyS s
theorem playS_cons (s : State) (u : Upd) (l : List Upd) : playS s (u :: l) = playS (applyS s u) l := rfl
theorem playS_app (s : State) (l m : List Upd) : playS s (l ++ m) = playS (playS s l) m := List.foldl_append
def sumU (k a : Int) : List Upd → Int
  | [] => 0
  | u :: l => (if u.kind = 5 ∧ u.key = k ∧ u.author = a then u.item else 0) + sumU k a l
def cntU (j : Nat) : List Upd → Int
  | [] => 0
  | u :: l => (if j = u.author.toNat then 1 else 0) + cntU j l
theorem logC_cons {n : Int} {c : List Int} {u : Upd} {l : List Upd} {i : Nat} (hc : wrongC c n = 0) (h : (logC n c (u :: l) i).2.1 = 0) : StepOk c u n ∧ logC n c (u :: l) i = logC n (tickC c u.author) l (i + 1) ∧ (logC n (tickC c u.author) l (i + 1)).2.1 = 0 := by
  rw [logC.eq_2] at h ⊢
  by_cases he : stepE c u n = 0
  · rw [if_neg (by omega)] at h ⊢
    exact ⟨stepE_ok hc he, rfl, h⟩
  · rw [if_pos he] at h; exact absurd h he
theorem logC_at {n : Int} : ∀ (l : List Upd) (c : List Int) (i : Nat), wrongC c n = 0 → (logC n c l i).2.1 = 0 → ∀ j, atI (logC n c l i).1 j = atI c j + cntU j l
  | [], c, i, hc, h, j => by simp [logC, cntU]
  | u :: l, c, i, hc, h, j => by
    obtain ⟨h1, h2, h3⟩ := logC_cons hc h
    rw [h2, logC_at l _ _ (tick_ok hc h1) h3 j, tick_at hc h1 j]
    simp only [cntU]
    split
    · rename_i e; subst e; omega
    · omega
structure Played (s t : State) (l : List Upd) (n : Int) : Prop where
  r : RightS t n
  m : ∀ x, x ∈ t.lives ↔ (x ∈ s.lives ∨ ∃ u ∈ l, makes u = true ∧ x = liveOf u) ∧ ∀ v ∈ l, ends v x = false
  s : ∀ k a, sumT k a t.tallies = sumT k a s.tallies + sumU k a l
theorem play_ok {n : Int} : ∀ (l : List Upd) (s : State) (i : Nat), RightS s n → (logC n s.clock l i).2.1 = 0 → Played s (playS s l) l n ∧ (playS s l).clock = (logC n s.clock l i).1
  | [], s, i, hs, h => ⟨⟨hs, fun x => by simp [playS], fun k a => by simp [playS, sumU]⟩, rfl⟩
  | u :: l, s, i, hs, h => by
    obtain ⟨h1, h2, h3⟩ := logC_cons hs.c h
    have hr := applyS_right hs h1
    obtain ⟨⟨r, m, t⟩, cc⟩ := play_ok l (applyS s u) (i + 1) hr h3
    rw [playS_cons, h2]
    refine ⟨⟨r, fun x => ?_, fun k a => ?_⟩, cc⟩
    · rw [m, applyS_mem h1.r]
      have hlater : ∀ w ∈ l, ends u (liveOf w) = false := fun w hw => by
        have e1 := (logC_ok l _ (i + 1) (tick_ok hs.c h1) h3).2.2 w hw
        refine ends_not ?_
        show atI u.seen w.author.toNat < atI w.seen w.author.toNat + 1
        have e2 := seesC_iff.1 h1.sees w.author.toNat
        have e3 := seesC_iff.1 (tick_sees hs.c h1) w.author.toNat
        have := e1.2
        omega
      have hself : ends u (liveOf u) = false := ends_not (by show atI u.seen u.author.toNat < atI u.seen u.author.toNat + 1; omega)
      simp only [List.mem_cons, forall_eq_or_imp]
      constructor
      · rintro ⟨(⟨a, b⟩ | ⟨a, b⟩) | ⟨w, a, b, c⟩, hv⟩
        · exact ⟨.inl a, b, hv⟩
        · subst b; exact ⟨.inr ⟨u, .inl rfl, a, rfl⟩, hself, hv⟩
        · subst c; exact ⟨.inr ⟨w, .inr a, b, rfl⟩, hlater w a, hv⟩
      · rintro ⟨a | ⟨w, a | a, b, c⟩, hu, hv⟩
        · exact ⟨.inl (.inl ⟨a, hu⟩), hv⟩
        · subst a; exact ⟨.inl (.inr ⟨b, c⟩), hv⟩
        · exact ⟨.inr ⟨w, a, b, c⟩, hv⟩
    · rw [t, applyS_sum]; simp only [sumU]; omega
theorem sumU_perm {k a : Int} {l m : List Upd} (h : l.Perm m) : sumU k a l = sumU k a m := by
  induction h with
  | nil => rfl
  | cons u _ ih => simp only [sumU, ih]
  | swap u v l => simp only [sumU]; omega
  | trans _ _ a b => exact a.trans b
theorem cntU_perm {j : Nat} {l m : List Upd} (h : l.Perm m) : cntU j l = cntU j m := by
  induction h with
  | nil => rfl
  | cons u _ ih => simp only [cntU, ih]
  | swap u v l => simp only [cntU]; omega
  | trans _ _ a b => exact a.trans b
theorem logC_len {n : Int} {l : List Upd} {c : List Int} {i : Nat} (hc : wrongC c n = 0) (h : (logC n c l i).2.1 = 0) : ((logC n c l i).1.length : Int) = n := (wrongC_ok (logC_ok l c i hc h).1).2.2.1
/-- in whatever order -/
theorem play_perm {n : Int} {l m : List Upd} {s : State} {i j : Nat} (hs : RightS s n) (h : (logC n s.clock l i).2.1 = 0) (k : (logC n s.clock m j).2.1 = 0) (p : l.Perm m) : playS s l = playS s m := by
  obtain ⟨a, ac⟩ := play_ok l s i hs h
  obtain ⟨b, bc⟩ := play_ok m s j hs k
  refine state_ext a.r b.r ?_ (fun x => ?_) (fun k' a' => ?_)
  · rw [ac, bc]
    refine atI_ext (by have := logC_len hs.c h; have := logC_len hs.c k; omega) fun q => ?_
    rw [logC_at l _ _ hs.c h, logC_at m _ _ hs.c k, cntU_perm p]
  · rw [a.m, b.m]
    constructor
    · rintro ⟨h1, h2⟩
      refine ⟨h1.imp id fun ⟨u, hu, r⟩ => ⟨u, p.mem_iff.1 hu, r⟩, fun v hv => h2 v (p.mem_iff.2 hv)⟩
    · rintro ⟨h1, h2⟩
      refine ⟨h1.imp id fun ⟨u, hu, r⟩ => ⟨u, p.mem_iff.2 hu, r⟩, fun v hv => h2 v (p.mem_iff.1 hv)⟩
  · rw [a.s, b.s, sumU_perm p]
end Go.Proofs.YtkjknlnhffmkkabGreat

namespace Go.Proofs.YtkjknlnhffmkkabGreat
set_option linter.unusedVariables false

def zeroS : State := ⟨[], [], []⟩
def lenI {α : Type} (l : List α) : Int := (l.length : Int)
/-- Apply: the state, the error -/
def ApplyS (s : State) (u : Upd) : State × Int :=
  if (wrongS s (lenI s.clock)).1 ≠ 0 then (zeroS, (wrongS s (lenI s.clock)).1)
  else if (clockL s.clock [u] (lenI s.clock)).2.1 ≠ 0 then (zeroS, (clockL s.clock [u] (lenI s.clock)).2.1)
  else (applyS s u, 0)
theorem ApplyS_1 {s : State} {u : Upd} (h : (wrongS s (lenI s.clock)).1 ≠ 0) : ApplyS s u = (zeroS, (wrongS s (lenI s.clock)).1) := by unfold ApplyS; rw [if_pos h]
theorem ApplyS_2 {s : State} {u : Upd} (h : (wrongS s (lenI s.clock)).1 = 0) (k : (clockL s.clock [u] (lenI s.clock)).2.1 ≠ 0) : ApplyS s u = (zeroS, (clockL s.clock [u] (lenI s.clock)).2.1) := by unfold ApplyS; rw [if_neg (fun e => e h), if_pos k]
theorem ApplyS_3 {s : State} {u : Upd} (h : (wrongS s (lenI s.clock)).1 = 0) (k : (clockL s.clock [u] (lenI s.clock)).2.1 = 0) : ApplyS s u = (applyS s u, 0) := by unfold ApplyS; rw [if_neg (fun e => e h), if_neg (fun e => e k)]
theorem ApplyS_ok {s : State} {u : Upd} (h : (ApplyS s u).2 = 0) : RightS s (lenI s.clock) ∧ StepOk s.clock u (lenI s.clock) ∧ ApplyS s u = (applyS s u, 0) := by
  by_cases h1 : (wrongS s (lenI s.clock)).1 = 0
  · by_cases h2 : (clockL s.clock [u] (lenI s.clock)).2.1 = 0
    · obtain ⟨a, b, c⟩ := clockL_ok h2
      exact ⟨wrongS_iff.1 h1, (logC_cons a (c ▸ h2)).1, ApplyS_3 h1 h2⟩
    · rw [ApplyS_2 h1 h2] at h; exact absurd h h2
  · rw [ApplyS_1 h1] at h; exact absurd h h1
theorem ApplyS_of {s : State} {u : Upd} {n : Int} (h1 : RightS s n) (h2 : StepOk s.clock u n) : ApplyS s u = (applyS s u, 0) := by
  have e := (wrongC_ok h1.c).2.2.1
  have e' : lenI s.clock = n := e
  refine ApplyS_3 (by rw [e']; exact wrongS_iff.2 h1) ?_
  rw [e', clockL_log h1.c (by simp), logC.eq_2, stepE_of h2, if_neg (by simp)]
  rfl
theorem clock1_ok {s : State} {u : Upd} {n : Int} (h1 : (wrongS s n).1 = 0) (h2 : (clockL s.clock [u] n).2.1 = 0) : RightS s n ∧ StepOk s.clock u n := by
  obtain ⟨a, b, c⟩ := clockL_ok h2
  exact ⟨wrongS_iff.1 h1, (logC_cons a (c ▸ h2)).1⟩
/-- the beginning, of so many -/
def startG (n : Int) : State := ⟨List.replicate (min (max n 0) 6).toNat 0, [], []⟩
/-! ## the laws -/
end Go.Proofs.YtkjknlnhffmkkabGreat

namespace Go.Proofs.YtkjknlnhffmkkabGreat
set_option linter.unusedVariables false

def Fits (n : Int) : List Int → List Upd → Prop
  | _, [] => True
  | c, u :: l => StepOk c u n ∧ Fits n (tickC c u.author) l
theorem fits_iff {n : Int} : ∀ {l : List Upd} {c : List Int} {i : Nat}, wrongC c n = 0 → ((logC n c l i).2.1 = 0 ↔ Fits n c l)
  | [], c, i, hc => by simp [logC, Fits]
  | u :: l, c, i, hc => by
    rw [logC.eq_2]
    unfold Fits
    by_cases he : stepE c u n = 0
    · have h := stepE_ok hc he
      rw [if_neg (by omega), fits_iff (l := l) (tick_ok hc h)]
      exact ⟨fun k => ⟨h, k⟩, fun k => k.2⟩
    · rw [if_pos he]
      exact ⟨fun k => absurd k he, fun k => absurd (stepE_of k.1) he⟩
theorem fits_later {n : Int} {l : List Upd} {c : List Int} (hc : wrongC c n = 0) (h : Fits n c l) {u : Upd} (hu : u ∈ l) : RightU u n ∧ atI c u.author.toNat ≤ atI u.seen u.author.toNat :=
  (logC_ok l c 0 hc ((fits_iff (i := 0) hc).2 h)).2.2 u hu
end Go.Proofs.YtkjknlnhffmkkabGreat

namespace Go.Proofs.YtkjknlnhffmkkabGreat
set_option linter.unusedVariables false

/-! ## sorting -/
def sortL (l : List Live) : List Live := l.foldl (insO ordL) []
def sortT (l : List Tally) : List Tally := l.foldl (insO ordT) []
theorem sortL_aux : ∀ (l o : List Live), SortedL o → l.Nodup → (∀ x ∈ l, x ∉ o) → SortedL (l.foldl (insO ordL) o) ∧ ∀ x, x ∈ l.foldl (insO ordL) o ↔ x ∈ o ∨ x ∈ l
  | [], o, h, _, _ => ⟨h, by simp⟩
  | y :: l, o, h, hn, hd => by
    rw [List.nodup_cons] at hn
    have h1 : SortedL (insO ordL o y) := insO_sorted (f := ordL) (fun a b => ordL_swap) ordL_trans h fun z hz e => by
      rw [ordL_zero] at e; subst e; exact hd z (by simp) hz
    obtain ⟨a, b⟩ := sortL_aux l (insO ordL o y) h1 hn.2 fun x hx hx' => by
      rcases insO_mem.1 hx' with k | k
      · exact hd x (by simp [hx]) k
      · subst k; exact hn.1 hx
    refine ⟨a, fun x => ?_⟩
    rw [List.foldl_cons, b, insO_mem, List.mem_cons, or_assoc]
theorem sortL_ok {l : List Live} (h : l.Nodup) : SortedL (sortL l) ∧ ∀ x, x ∈ sortL l ↔ x ∈ l := by
  obtain ⟨a, b⟩ := sortL_aux l [] .nil h (by simp)
  exact ⟨a, fun x => by rw [sortL, b]; simp⟩
theorem sortL_eq {l r : List Live} (h : l.Nodup) (p : r.Perm l) (hs : r.Pairwise fun a b => ordL a b ≤ 0) : r = sortL l := by
  obtain ⟨a, b⟩ := sortL_ok h
  refine sortedL_ext ?_ a fun x => by rw [b, p.mem_iff]
  have hn : r.Nodup := p.symm.nodup h
  exact (List.pairwise_and_iff.2 ⟨hs, hn⟩).imp fun {x y} ⟨h1, h2⟩ => by
    have : ordL x y ≠ 0 := fun e => h2 (ordL_zero.1 e)
    omega
abbrev DistT (l : List Tally) : Prop := l.Pairwise fun a b => ordT a b ≠ 0
theorem sortT_aux : ∀ (l o : List Tally), SortedT o → DistT l → (∀ x ∈ l, ∀ y ∈ o, ordT y x ≠ 0) → SortedT (l.foldl (insO ordT) o) ∧ ∀ x, x ∈ l.foldl (insO ordT) o ↔ x ∈ o ∨ x ∈ l
  | [], o, h, _, _ => ⟨h, by simp⟩
  | y :: l, o, h, hn, hd => by
    unfold DistT at hn
    rw [List.pairwise_cons] at hn
    have h1 : SortedT (insO ordT o y) := insO_sorted (f := ordT) (fun a b => ordT_swap) ordT_trans h fun z hz => hd y (by simp) z hz
    obtain ⟨a, b⟩ := sortT_aux l (insO ordT o y) h1 hn.2 fun x hx z hz => by
      rcases insO_mem.1 hz with k | k
      · exact hd x (by simp [hx]) z k
      · subst k; exact hn.1 x hx
    refine ⟨a, fun x => ?_⟩
    rw [List.foldl_cons, b, insO_mem, List.mem_cons, or_assoc]
theorem sortT_ok {l : List Tally} (h : DistT l) : SortedT (sortT l) ∧ ∀ x, x ∈ sortT l ↔ x ∈ l := by
  obtain ⟨a, b⟩ := sortT_aux l [] .nil h (by simp)
  exact ⟨a, fun x => by rw [sortT, b]; simp⟩
theorem ordT_ne_swap {a b : Tally} (h : ordT a b ≠ 0) : ordT b a ≠ 0 := by rw [ordT_swap]; omega
theorem sortT_eq {l r : List Tally} (h : DistT l) (p : r.Perm l) (hs : r.Pairwise fun a b => ordT a b ≤ 0) : r = sortT l := by
  obtain ⟨a, b⟩ := sortT_ok h
  refine sortedT_ext ?_ a fun x => by rw [b, p.mem_iff]
  have hn : DistT r := (p.symm.pairwise_iff (fun {x y} => ordT_ne_swap)).1 h
  exact (List.pairwise_and_iff.2 ⟨hs, hn⟩).imp fun {x y} ⟨h1, h2⟩ => by omega
/-! ## joined -/
def staysL (o : State) (x : Live) : Bool := o.lives.contains x || !hasC o.clock x.author x.seq
def joinL (a b : State) : List Live := b.lives.foldl (fun out x => if (staysL a x && !out.contains x) = true then out ++ [x] else out) (a.lives.filter (staysL b))
def joinT (a b : State) : List Tally := (a.tallies.filter fun t => decide (atI b.clock t.author.toNat ≤ atI a.clock t.author.toNat)) ++ b.tallies.filter fun t => decide (atI a.clock t.author.toNat < atI b.clock t.author.toNat)
def joinS (a b : State) : State := ⟨joinC a.clock b.clock, sortL (joinL a b), sortT (joinT a b)⟩
def JoinS (a b : State) : State × Int :=
  if (wrongS a (lenI a.clock)).1 ≠ 0 then (zeroS, (wrongS a (lenI a.clock)).1)
  else if (wrongS b (lenI a.clock)).1 ≠ 0 then (zeroS, (wrongS b (lenI a.clock)).1)
  else (joinS a b, 0)
theorem joinL_aux {a : State} : ∀ (l o : List Live), o.Nodup → (l.foldl (fun out x => if (staysL a x && !out.contains x) = true then out ++ [x] else out) o).Nodup ∧ ∀ x, x ∈ l.foldl (fun out x => if (staysL a x && !out.contains x) = true then out ++ [x] else out) o ↔ x ∈ o ∨ (x ∈ l ∧ staysL a x = true)
  | [], o, h => ⟨h, by simp⟩
  | y :: l, o, h => by
    rw [List.foldl_cons]
    by_cases hy : (staysL a y && !o.contains y) = true
    · rw [if_pos hy]
      rw [Bool.and_eq_true, Bool.not_eq_true', List.contains_eq_mem, decide_eq_false_iff_not] at hy
      obtain ⟨p, q⟩ := joinL_aux l (o ++ [y]) (by
        rw [List.nodup_append]
        refine ⟨h, by simp, fun z hz w hw e => ?_⟩
        rw [List.mem_singleton] at hw; subst hw e; exact hy.2 hz)
      refine ⟨p, fun x => ?_⟩
      rw [q, List.mem_append, List.mem_singleton, List.mem_cons]
      constructor
      · rintro ((k | k) | k)
        · exact .inl k
        · subst k; exact .inr ⟨.inl rfl, hy.1⟩
        · exact .inr ⟨.inr k.1, k.2⟩
      · rintro (k | ⟨k | k, k2⟩)
        · exact .inl (.inl k)
        · exact .inl (.inr k)
        · exact .inr ⟨k, k2⟩
    · rw [if_neg hy]
      rw [Bool.and_eq_true, Bool.not_eq_true', List.contains_eq_mem, decide_eq_false_iff_not] at hy
      obtain ⟨p, q⟩ := joinL_aux l o h
      refine ⟨p, fun x => ?_⟩
      rw [q, List.mem_cons]
      constructor
      · rintro (k | k)
        · exact .inl k
        · exact .inr ⟨.inr k.1, k.2⟩
      · rintro (k | ⟨k | k, k2⟩)
        · exact .inl k
        · subst k; left; exact Classical.byContradiction fun hn => hy ⟨k2, hn⟩
        · exact .inr ⟨k, k2⟩
theorem sortedL_nodup {l : List Live} (h : SortedL l) : l.Nodup := h.imp fun {a b} h e => by subst e; rw [ordL_zero.2 rfl] at h; omega
theorem joinL_ok {a b : State} {n : Int} (ha : RightS a n) (hb : RightS b n) : (joinL a b).Nodup ∧ ∀ x, x ∈ joinL a b ↔ (x ∈ a.lives ∧ staysL b x = true) ∨ (x ∈ b.lives ∧ staysL a x = true) := by
  obtain ⟨p, q⟩ := joinL_aux (a := a) b.lives (a.lives.filter (staysL b)) ((sortedL_nodup ha.ls).filter _)
  exact ⟨p, fun x => by rw [joinL, q, List.mem_filter]⟩
theorem joinT_dist {a b : State} {n : Int} (ha : RightS a n) (hb : RightS b n) : DistT (joinT a b) := by
  unfold joinT DistT
  rw [List.pairwise_append]
  have key : ∀ {l : List Tally}, SortedT l → l.Pairwise fun a b => ordT a b ≠ 0 := fun h => h.imp fun h => by omega
  refine ⟨key (List.Pairwise.filter _ ha.ts), key (List.Pairwise.filter _ hb.ts), fun x hx y hy e => ?_⟩
  rw [List.mem_filter, decide_eq_true_eq] at hx hy
  have := (ordT_zero.1 e).2
  rw [this] at hx
  omega
theorem sumT_perm {k a : Int} {l m : List Tally} (h : l.Perm m) : sumT k a l = sumT k a m := by
  induction h with
  | nil => rfl
  | cons u _ ih => simp only [sumT, ih]
  | swap u v l => simp only [sumT]; omega
  | trans _ _ a b => exact a.trans b
theorem foldl_ins_perm {α : Type} {f : α → α → Int} : ∀ (l o : List α), (l.foldl (insO f) o).Perm (o ++ l)
  | [], o => by simp
  | y :: l, o => by
    rw [List.foldl_cons]
    refine (foldl_ins_perm l _).trans ?_
    have p1 : (insO f o y).Perm (o ++ [y]) := by
      unfold insO
      rw [List.append_assoc]
      have : (List.take (idxO (fun z => f z y) o) o ++ ([y] ++ List.drop (idxO (fun z => f z y) o) o)).Perm (List.take (idxO (fun z => f z y) o) o ++ (List.drop (idxO (fun z => f z y) o) o ++ [y])) := List.Perm.append_left _ List.perm_append_comm
      have e2 : List.take (idxO (fun z => f z y) o) o ++ (List.drop (idxO (fun z => f z y) o) o ++ [y]) = o ++ [y] := by rw [← List.append_assoc, List.take_append_drop]
      rw [e2] at this
      exact this
    have := p1.append_right l
    simpa using this
theorem sortT_sum (k a : Int) (l : List Tally) : sumT k a (sortT l) = sumT k a l := sumT_perm (by simpa [sortT] using foldl_ins_perm (f := ordT) l [])
theorem sumT_filter {k a : Int} {p : Tally → Bool} {b : Bool} : ∀ {l : List Tally}, (∀ t, hitT k a t = true → p t = b) → sumT k a (l.filter p) = if b = true then sumT k a l else 0
  | [], h => by simp [sumT]
  | t :: l, h => by
    have ih := sumT_filter (k := k) (a := a) (p := p) (b := b) (l := l) h
    by_cases hp : p t = true
    · rw [List.filter_cons_of_pos hp]
      simp only [sumT, ih]
      by_cases hh : hitT k a t = true
      · have := h t hh; rw [hp] at this; subst this; simp
      · simp only [hh]; cases b <;> simp
    · rw [List.filter_cons_of_neg hp, ih]
      simp only [sumT]
      by_cases hh : hitT k a t = true
      · have := h t hh; rw [this] at hp; simp [hp]
      · simp only [hh]; cases b <;> simp
theorem joinS_mem {a b : State} {n : Int} (ha : RightS a n) (hb : RightS b n) {x : Live} : x ∈ (joinS a b).lives ↔ (x ∈ a.lives ∧ staysL b x = true) ∨ (x ∈ b.lives ∧ staysL a x = true) := by
  obtain ⟨p, q⟩ := joinL_ok ha hb
  show x ∈ sortL (joinL a b) ↔ _
  rw [(sortL_ok p).2, q]
theorem joinS_sum {a b : State} (k i : Int) : sumT k i (joinS a b).tallies = if atI b.clock i.toNat ≤ atI a.clock i.toNat then sumT k i a.tallies else sumT k i b.tallies := by
  show sumT k i (sortT (joinT a b)) = _
  rw [sortT_sum]
  unfold joinT
  rw [sumT_app, sumT_filter (b := decide (atI b.clock i.toNat ≤ atI a.clock i.toNat)) (fun t ht => by rw [(hitT_iff.1 ht).2]), sumT_filter (b := decide (atI a.clock i.toNat < atI b.clock i.toNat)) (fun t ht => by rw [(hitT_iff.1 ht).2])]
  by_cases h : atI b.clock i.toNat ≤ atI a.clock i.toNat
  · rw [if_pos (by simpa using h), if_neg (by simpa using h), if_pos h]; omega
  · rw [if_neg (by simpa using h), if_pos (by simpa using h), if_neg h]; omega
theorem wrongC_at {c : List Int} {n : Int} (h1 : 1 ≤ n) (h2 : n ≤ 6) (h3 : (c.length : Int) = n) (h4 : ∀ k, 0 ≤ atI c k ∧ atI c k ≤ 1000) : wrongC c n = 0 :=
  wrongC_of h1 h2 h3 fun x hx => by
    obtain ⟨j, hj, e⟩ := List.getElem_of_mem hx
    rw [← e, ← atI_lt hj]; exact h4 j
theorem joinC_ok {a b : List Int} {n : Int} (ha : wrongC a n = 0) (hb : wrongC b n = 0) : wrongC (joinC a b) n = 0 := by
  have h1 := wrongC_ok ha; have h2 := wrongC_ok hb
  refine wrongC_at h1.1 h1.2.1 (by rw [joinC_len]; omega) fun k => ?_
  have := atI_bd ha k; have := atI_bd hb k
  rw [joinC_at]; omega
theorem meetC_ok {a b : List Int} {n : Int} (ha : wrongC a n = 0) (hb : wrongC b n = 0) : wrongC (meetC a b) n = 0 := by
  have h1 := wrongC_ok ha; have h2 := wrongC_ok hb
  refine wrongC_at h1.1 h1.2.1 (by rw [meetC_len]; omega) fun k => ?_
  have := atI_bd ha k; have := atI_bd hb k
  rw [meetC_at]; omega
theorem joinS_right {a b : State} {n : Int} (ha : RightS a n) (hb : RightS b n) : RightS (joinS a b) n := by
  obtain ⟨p, q⟩ := joinL_ok ha hb
  have d := joinT_dist ha hb
  refine ⟨joinC_ok ha.c hb.c, fun x hx => ?_, (sortL_ok p).1, fun x hx => ?_, (sortT_ok d).1⟩
  · rcases (joinS_mem ha hb).1 hx with ⟨h, _⟩ | ⟨h, _⟩
    · obtain ⟨a1, a2, a3, a4, a5, a6, a7, a8⟩ := ha.l x h
      exact ⟨a1, a2, a3, by show _ ≤ atI (joinC _ _) _; rw [joinC_at]; omega, a5, a6, a7, a8⟩
    · obtain ⟨a1, a2, a3, a4, a5, a6, a7, a8⟩ := hb.l x h
      exact ⟨a1, a2, a3, by show _ ≤ atI (joinC _ _) _; rw [joinC_at]; omega, a5, a6, a7, a8⟩
  · have hx : x ∈ sortT (joinT a b) := hx
    rw [(sortT_ok d).2] at hx
    unfold joinT at hx
    rw [List.mem_append, List.mem_filter, List.mem_filter, decide_eq_true_eq, decide_eq_true_eq] at hx
    rcases hx with ⟨h, k⟩ | ⟨h, k⟩
    · obtain ⟨a1, a2, a3, a4, a5, a6, a7⟩ := ha.t x h
      exact ⟨a1, a2, a3, a4, by show _ ≤ _; show -(1000 * atI (joinC _ _) _) ≤ _; rw [joinC_at]; omega, by show _ ≤ 1000 * atI (joinC _ _) _; rw [joinC_at]; omega, a7⟩
    · obtain ⟨a1, a2, a3, a4, a5, a6, a7⟩ := hb.t x h
      exact ⟨a1, a2, a3, a4, by show -(1000 * atI (joinC _ _) _) ≤ _; rw [joinC_at]; omega, by show _ ≤ 1000 * atI (joinC _ _) _; rw [joinC_at]; omega, a7⟩
/-! ## the state of those updates that a clock has -/
def startS (n : Nat) : State := ⟨List.replicate n 0, [], []⟩
theorem zero_at (n k : Nat) : atI (List.replicate n 0) k = 0 := by
  rcases Nat.lt_or_ge k n with h | h
  · rw [atI_lt (by simpa using h)]; simp
  · exact atI_ge (by simpa using h)
theorem zero_ok {n : Nat} (h1 : 1 ≤ n) (h2 : n ≤ 6) : wrongC (List.replicate n 0) n = 0 := wrongC_at (by omega) (by omega) (by simp) fun k => by rw [zero_at]; omega
theorem start_right {n : Nat} (h1 : 1 ≤ n) (h2 : n ≤ 6) : RightS (startS n) n := ⟨zero_ok h1 h2, by simp [startS], .nil, by simp [startS], .nil⟩
def mineU (A : List Int) (l : List Upd) : List Upd := l.filter (hasU A)
def ofS (n : Nat) (l : List Upd) (A : List Int) : State := playS (startS n) (mineU A l)
def Closed (A : List Int) (l : List Upd) : Prop := ∀ u ∈ l, hasU A u = true → seesC A u.seen = true
theorem hasU_right {A : List Int} {u : Upd} {n : Int} (hA : wrongC A n = 0) (h : RightU u n) : hasU A u = true ↔ atI u.seen u.author.toNat < atI A u.author.toNat := by
  have := wrongC_ok hA; have := h.len; have := h.a0; have := h.a1
  unfold hasU
  simp only [Bool.and_eq_true, decide_eq_true_eq]
  omega
theorem mine_fits {n : Int} {A : List Int} (hA : wrongC A n = 0) : ∀ {l : List Upd} {c : List Int}, wrongC c n = 0 → Fits n c l → (Fits n (meetC c A) (mineU A l) ↔ Closed A l)
  | [], c, hc, h => by simp [mineU, Fits, Closed]
  | u :: l, c, hc, h => by
    obtain ⟨h1, h2⟩ := h
    have hc' := tick_ok hc h1
    have ih := mine_fits hA (l := l) hc' h2
    have tk := tick_at hc h1
    unfold Closed at ih ⊢
    unfold mineU at ih ⊢
    by_cases hu : hasU A u = true
    · rw [List.filter_cons_of_pos hu]
      have hlt := (hasU_right hA h1.r).1 hu
      have e := h1.eq
      have hm : StepOk (meetC c A) u n ↔ seesC A u.seen = true := by
        constructor
        · intro k; exact seesC_trans (sees_meetr c A) k.sees
        · intro k
          refine ⟨h1.r, by rw [meetC_at]; omega, ?_⟩
          rw [meet_sees, h1.sees, k]; rfl
      have ht : StepOk (meetC c A) u n → tickC (meetC c A) u.author = meetC (tickC c u.author) A := fun k =>
        atI_ext (by simp only [tickC_len, meetC_len]) fun j => by
          rw [tick_at (meetC_ok hc hA) k]
          simp only [meetC_at, tk]
          by_cases ej : j = u.author.toNat
          · subst ej; rw [if_pos rfl, if_pos rfl]; omega
          · rw [if_neg ej, if_neg ej]
      show (StepOk (meetC c A) u n ∧ Fits n (tickC (meetC c A) u.author) (l.filter (hasU A))) ↔ _
      constructor
      · rintro ⟨a, b⟩
        rw [ht a, ih] at b
        intro v hv hvA
        rcases List.mem_cons.1 hv with e | hv
        · subst e; exact hm.1 a
        · exact b v hv hvA
      · intro k
        have a := hm.2 (k u (by simp) hu)
        exact ⟨a, by rw [ht a, ih]; exact fun v hv => k v (by simp [hv])⟩
    · rw [List.filter_cons_of_neg hu]
      have hge : ¬ atI u.seen u.author.toNat < atI A u.author.toNat := fun k => hu ((hasU_right hA h1.r).2 k)
      have e := h1.eq
      have ht : meetC (tickC c u.author) A = meetC c A := atI_ext (by simp only [meetC_len, tickC_len]) fun j => by
        rw [meetC_at, meetC_at, tk]
        by_cases ej : j = u.author.toNat
        · subst ej; rw [if_pos rfl]; omega
        · rw [if_neg ej]
      rw [ht] at ih
      rw [ih]
      constructor
      · intro k v hv hvA
        rcases List.mem_cons.1 hv with e | hv
        · subst e; exact absurd hvA hu
        · exact k v hv hvA
      · intro k v hv; exact k v (by simp [hv])
theorem mine_clock {n : Int} {A : List Int} (hA : wrongC A n = 0) {l : List Upd} {c : List Int} (hc : wrongC c n = 0) (h : Fits n c l) (k : Closed A l) (j : Nat) : atI (logC n (meetC c A) (mineU A l) 0).1 j = min (atI (logC n c l 0).1 j) (atI A j) := by
  have hm := (mine_fits hA hc h).2 k
  rw [logC_at _ _ _ (meetC_ok hc hA) ((fits_iff (meetC_ok hc hA)).2 hm), logC_at _ _ _ hc ((fits_iff hc).2 h), meetC_at]
  clear hm k
  induction l generalizing c with
  | nil => simp [mineU, cntU]
  | cons u l ih =>
    obtain ⟨h1, h2⟩ := h
    have hc' := tick_ok hc h1
    have tk := tick_at hc h1 j
    have ih := ih hc' h2
    have e := h1.eq
    have b := atI_bd hA j
    have hge : ∀ l : List Upd, 0 ≤ cntU j l := fun l => by
      induction l with
      | nil => exact Int.le_refl _
      | cons v l ih => simp only [cntU]; split <;> omega
    unfold mineU at ih ⊢
    by_cases hu : hasU A u = true
    · rw [List.filter_cons_of_pos hu]
      have hlt := (hasU_right hA h1.r).1 hu
      simp only [cntU]
      rw [tk] at ih
      by_cases hj : j = u.author.toNat
      · subst hj; rw [if_pos rfl] at ih ⊢; omega
      · rw [if_neg hj] at ih ⊢; omega
    · rw [List.filter_cons_of_neg hu]
      have hnl : ¬ atI u.seen u.author.toNat < atI A u.author.toNat := fun k => hu ((hasU_right hA h1.r).2 k)
      simp only [cntU]
      rw [tk] at ih
      by_cases hj : j = u.author.toNat
      · subst hj; rw [if_pos rfl] at ih ⊢
        have := hge (l.filter (hasU A)); have := hge l
        omega
      · rw [if_neg hj] at ih ⊢; omega
/-- a log from the beginning, and a clock that is closed over it -/
structure Part (n : Nat) (l : List Upd) (A : List Int) : Prop where
  n1 : 1 ≤ n
  n6 : n ≤ 6
  f : Fits n (List.replicate n 0) l
  a : wrongC A n = 0
  c : Closed A l
theorem Part.all {n : Nat} {l : List Upd} {A : List Int} (h : Part n l A) : wrongC (List.replicate n 0) n = 0 := zero_ok h.n1 h.n6
theorem meet_zero {n : Nat} {A : List Int} (hA : wrongC A n = 0) : meetC (List.replicate n 0) A = List.replicate n 0 := by
  have := wrongC_ok hA
  refine atI_ext (by simp only [meetC_len, List.length_replicate]; omega) fun k => ?_
  have := atI_bd hA k
  rw [meetC_at, zero_at]; omega
theorem Part.fits {n : Nat} {l : List Upd} {A : List Int} (h : Part n l A) : Fits n (List.replicate n 0) (mineU A l) := by
  have := (mine_fits h.a h.all h.f).2 h.c
  rwa [meet_zero h.a] at this
theorem Part.played {n : Nat} {l : List Upd} {A : List Int} (h : Part n l A) : Played (startS n) (ofS n l A) (mineU A l) n ∧ (ofS n l A).clock = (logC n (List.replicate n 0) (mineU A l) 0).1 :=
  play_ok (mineU A l) (startS n) 0 (start_right h.n1 h.n6) ((fits_iff h.all).2 h.fits)
theorem Part.clock {n : Nat} {l : List Upd} {A : List Int} (h : Part n l A) (j : Nat) : atI (ofS n l A).clock j = min (atI (logC n (List.replicate n 0) l 0).1 j) (atI A j) := by
  have := mine_clock h.a h.all h.f h.c j
  rw [meet_zero h.a] at this
  rw [h.played.2, this]
theorem Part.join {n : Nat} {l : List Upd} {A B : List Int} (h : Part n l A) (k : Part n l B) : Part n l (joinC A B) := by
  refine ⟨h.n1, h.n6, h.f, joinC_ok h.a k.a, fun u hu hh => ?_⟩
  have hr := (fits_later h.all h.f hu).1
  rw [hasU_right (joinC_ok h.a k.a) hr, joinC_at] at hh
  by_cases hA : atI u.seen u.author.toNat < atI A u.author.toNat
  · exact seesC_trans (sees_joinl A B) (h.c u hu ((hasU_right h.a hr).2 hA))
  · exact seesC_trans (sees_joinr A B) (k.c u hu ((hasU_right k.a hr).2 (by omega)))
theorem Part.mem {n : Nat} {l : List Upd} {A : List Int} (h : Part n l A) {x : Live} : x ∈ (ofS n l A).lives ↔ (∃ u ∈ l, hasU A u = true ∧ makes u = true ∧ x = liveOf u) ∧ ∀ v ∈ l, hasU A v = true → ends v x = false := by
  rw [h.played.1.m]
  unfold mineU
  simp only [List.mem_filter, startS, List.not_mem_nil, false_or]
  constructor
  · rintro ⟨⟨u, ⟨a, b⟩, c⟩, d⟩; exact ⟨⟨u, a, b, c⟩, fun v hv hh => d v ⟨hv, hh⟩⟩
  · rintro ⟨⟨u, a, b, c⟩, d⟩; exact ⟨⟨u, ⟨a, b⟩, c⟩, fun v hv => d v hv.1 hv.2⟩
/-- an author's update of a log: which one it is tells which it is -/
theorem log_at {n : Int} {l : List Upd} {c : List Int} (hc : wrongC c n = 0) (h : Fits n c l) {u : Upd} (hu : u ∈ l) : atI u.seen u.author.toNat < atI (logC n c l 0).1 u.author.toNat := by
  obtain ⟨l1, l2, e⟩ := List.append_of_mem hu
  subst e
  have h0 := (fits_iff (i := 0) hc).2 h
  have h1 : (logC n c l1 0).2.1 = 0 := by
    by_cases hz : (logC n c l1 0).2.1 = 0
    · exact hz
    · rw [logC_app_bad _ _ _ _ hz] at h0; exact absurd h0 hz
  rw [logC_app _ _ _ _ h1] at h0 ⊢
  have hc1 := (logC_ok l1 c 0 hc h1).1
  obtain ⟨s, e, k⟩ := logC_cons hc1 h0
  rw [e]
  have := seesC_iff.1 (logC_ok l2 _ _ (tick_ok hc1 s) k).2.1 u.author.toNat
  have := tick_at hc1 s u.author.toNat
  rw [if_pos rfl] at this
  have := s.eq
  omega
theorem Part.has_of {n : Nat} {l : List Upd} {A : List Int} (h : Part n l A) {u : Upd} (hu : u ∈ l) : hasU A u = true ↔ atI u.seen u.author.toNat < atI (ofS n l A).clock u.author.toNat := by
  rw [hasU_right h.a (fits_later h.all h.f hu).1, h.clock]
  have := log_at h.all h.f hu
  omega
/-- put together is played together -/
theorem join_of {n : Nat} {l : List Upd} {A B : List Int} (h : Part n l A) (k : Part n l B) : joinS (ofS n l A) (ofS n l B) = ofS n l (joinC A B) := by
  have hj := h.join k
  have ra := h.played.1.r
  have rb := k.played.1.r
  have hasC_of : ∀ {A : List Int} (h : Part n l A) {u : Upd}, u ∈ l → (hasC (ofS n l A).clock u.author (atI u.seen u.author.toNat + 1) = true ↔ hasU A u = true) := fun {A} h {u} hu => by
    rw [h.has_of hu]
    have hr := (fits_later h.all h.f hu).1
    have := wrongC_ok h.played.1.r.c
    have := hr.a0; have := hr.a1
    unfold hasC
    simp only [Bool.and_eq_true, decide_eq_true_eq]
    omega
  have union : ∀ {u : Upd}, u ∈ l → (hasU (joinC A B) u = true ↔ hasU A u = true ∨ hasU B u = true) := fun {u} hu => by
    have hr := (fits_later h.all h.f hu).1
    rw [hasU_right (joinC_ok h.a k.a) hr, hasU_right h.a hr, hasU_right k.a hr, joinC_at]; omega
  -- who ends it has seen it
  have seen : ∀ {A : List Int} (h : Part n l A) {u v : Upd}, u ∈ l → v ∈ l → hasU A v = true → ends v (liveOf u) = true → hasU A u = true := fun {A} h {u v} hu hv hA he => by
    have e1 := (has_le (ends_has he)).2.2
    have e2 := seesC_iff.1 (h.c v hv hA) u.author.toNat
    have hr := (fits_later h.all h.f hu).1
    rw [hasU_right h.a hr]
    have : (liveOf u).seq = atI u.seen u.author.toNat + 1 := rfl
    have : (liveOf u).author = u.author := rfl
    rw [this] at e1
    omega
  have stay : ∀ {A : List Int} (h : Part n l A) {u : Upd}, u ∈ l → makes u = true → (staysL (ofS n l A) (liveOf u) = true ↔ ∀ v ∈ l, hasU A v = true → ends v (liveOf u) = false) := fun {A} h {u} hu hm => by
    unfold staysL
    rw [Bool.or_eq_true, List.contains_eq_mem, decide_eq_true_eq, Bool.not_eq_true']
    constructor
    · rintro (hx | hx) v hv hA
      · exact (h.mem.1 hx).2 v hv hA
      · rw [Bool.eq_false_iff]; intro he
        have := (hasC_of h hu).2 (seen h hu hv hA he)
        have hx : hasC (ofS n l A).clock u.author (atI u.seen u.author.toNat + 1) = false := hx
        rw [this] at hx; cases hx
    · intro hv
      by_cases hA : hasU A u = true
      · exact .inl (h.mem.2 ⟨⟨u, hu, hA, hm, rfl⟩, hv⟩)
      · right
        rw [Bool.eq_false_iff]; intro hx
        exact hA ((hasC_of h hu).1 hx)
  have hcl : ∀ j, atI (joinC (ofS n l A).clock (ofS n l B).clock) j = atI (ofS n l (joinC A B)).clock j := fun j => by
    rw [joinC_at, h.clock, k.clock, hj.clock, joinC_at]; omega
  refine state_ext (joinS_right ra rb) hj.played.1.r ?_ (fun x => ?_) (fun q i => ?_)
  · show joinC _ _ = _
    have e1 := wrongC_ok (joinC_ok ra.c rb.c); have e2 := wrongC_ok hj.played.1.r.c
    exact atI_ext (by omega) hcl
  · rw [joinS_mem ra rb, h.mem, k.mem, hj.mem]
    constructor
    · rintro (⟨⟨⟨u, hu, hA, hm, rfl⟩, hv⟩, hs⟩ | ⟨⟨⟨u, hu, hA, hm, rfl⟩, hv⟩, hs⟩)
      · have hs := (stay k hu hm).1 hs
        refine ⟨⟨u, hu, (union hu).2 (.inl hA), hm, rfl⟩, fun v hv' hh => ?_⟩
        rcases (union hv').1 hh with hh | hh
        · exact hv v hv' hh
        · exact hs v hv' hh
      · have hs := (stay h hu hm).1 hs
        refine ⟨⟨u, hu, (union hu).2 (.inr hA), hm, rfl⟩, fun v hv' hh => ?_⟩
        rcases (union hv').1 hh with hh | hh
        · exact hs v hv' hh
        · exact hv v hv' hh
    · rintro ⟨⟨u, hu, hA, hm, rfl⟩, hv⟩
      have hvA : ∀ v ∈ l, hasU A v = true → ends v (liveOf u) = false := fun v hv' hh => hv v hv' ((union hv').2 (.inl hh))
      have hvB : ∀ v ∈ l, hasU B v = true → ends v (liveOf u) = false := fun v hv' hh => hv v hv' ((union hv').2 (.inr hh))
      rcases (union hu).1 hA with hA | hA
      · exact .inl ⟨⟨⟨u, hu, hA, hm, rfl⟩, hvA⟩, (stay k hu hm).2 hvB⟩
      · exact .inr ⟨⟨⟨u, hu, hA, hm, rfl⟩, hvB⟩, (stay h hu hm).2 hvA⟩
  · rw [joinS_sum, h.played.1.s, k.played.1.s, hj.played.1.s]
    have z : sumT q i (startS n).tallies = 0 := rfl
    rw [z]
    have same : ∀ {A B : List Int}, (∀ u ∈ l, u.author = i → (hasU A u = true ↔ hasU B u = true)) → sumU q i (mineU A l) = sumU q i (mineU B l) := fun {A B} hh => by
      unfold mineU
      clear stay seen hasC_of union hcl
      generalize l = l at hh
      induction l with
      | nil => rfl
      | cons u l ih =>
        have ih := ih fun v hv => hh v (by simp [hv])
        by_cases ha : u.author = i
        · have := hh u (by simp) ha
          by_cases hA : hasU A u = true
          · rw [List.filter_cons_of_pos hA, List.filter_cons_of_pos (this.1 hA)]; simp only [sumU, ih]
          · rw [List.filter_cons_of_neg hA, List.filter_cons_of_neg (fun e => hA (this.2 e)), ih]
        · have drop : ∀ C : List Int, sumU q i ((u :: l).filter (hasU C)) = sumU q i (l.filter (hasU C)) := fun C => by
            by_cases hC : hasU C u = true
            · rw [List.filter_cons_of_pos hC]; simp only [sumU]; rw [if_neg (fun e => ha e.2.2)]; omega
            · rw [List.filter_cons_of_neg hC]
          rw [drop, drop, ih]
    split
    · rename_i hle
      rw [same (A := joinC A B) (B := A) fun u hu hi => ?_]
      rw [union hu]
      refine ⟨fun e => e.elim id fun e => ?_, .inl⟩
      rw [k.has_of hu] at e
      rw [h.has_of hu]
      subst hi; omega
    · rename_i hle
      rw [same (A := joinC A B) (B := B) fun u hu hi => ?_]
      rw [union hu]
      refine ⟨fun e => e.elim (fun e => ?_) id, .inr⟩
      rw [h.has_of hu] at e
      rw [k.has_of hu]
      subst hi; omega
end Go.Proofs.YtkjknlnhffmkkabGreat

namespace Go.Proofs.YtkjknlnhffmkkabGreat
set_option linter.unusedVariables false

theorem JoinS_of {a b : State} {n : Int} (ha : RightS a n) (hb : RightS b n) : JoinS a b = (joinS a b, 0) := by
  have e : lenI a.clock = n := (wrongC_ok ha.c).2.2.1
  unfold JoinS
  rw [e, if_neg (fun k => k (wrongS_iff.2 ha)), if_neg (fun k => k (wrongS_iff.2 hb))]
theorem Part.right {n : Nat} {l : List Upd} {A : List Int} (h : Part n l A) : RightS (ofS n l A) n := h.played.1.r
end Go.Proofs.YtkjknlnhffmkkabGreat

namespace Go.Proofs.YtkjknlnhffmkkabGreat
set_option linter.unusedVariables false

structure Node where
  self : Int
  state : State
  base : List Int
  log : List Upd
  known : List (List Int)
deriving DecidableEq
structure Parcel where
  whole : Bool
  state : State
  updates : List Upd
  clock : List Int
deriving DecidableEq
def zeroN : Node := ⟨0, zeroS, [], [], []⟩
def zeroP : Parcel := ⟨false, zeroS, [], []⟩
def nOf (d : Node) : Int := lenI d.state.clock
def atK (l : List (List Int)) (i : Nat) : List Int := l.getD i []
theorem atK_lt {l : List (List Int)} {i : Nat} (h : i < l.length) : atK l i = l[i] := by simp [atK, h]
theorem atK_some {l : List (List Int)} {i : Nat} {k : List Int} (h : l[i]? = some k) : atK l i = k := by simp [atK, h]

def wrongK (d : Node) (n : Int) : Nat → List (List Int) → Int
  | _, [] => 0
  | i, k :: ks => if wrongC k n ≠ 0 then wrongC k n else if ((i : Int) = d.self ∧ k ≠ d.state.clock) ∨ seesC d.state.clock k = false then 7 else wrongK d n (i + 1) ks
/-- what is wrong with a node -/
def wrongN (d : Node) : Int :=
  if (wrongS d.state (nOf d)).1 ≠ 0 then (wrongS d.state (nOf d)).1
  else if d.self < 0 ∨ nOf d ≤ d.self then 3
  else if (clockL d.base d.log (nOf d)).2.1 ≠ 0 then (clockL d.base d.log (nOf d)).2.1
  else if (clockL d.base d.log (nOf d)).1 ≠ d.state.clock ∨ lenI d.known ≠ nOf d then 7
  else wrongK d (nOf d) 0 d.known
def upN (d : Node) (u : Upd) : Upd := ⟨d.self, d.state.clock, u.kind, u.key, u.item⟩
def IssueN (d : Node) (u : Upd) : Node × Int :=
  if wrongN d ≠ 0 then (zeroN, wrongN d)
  else if d.log.length = 300 then (zeroN, 5)
  else if (ApplyS d.state (upN d u)).2 ≠ 0 then (zeroN, (ApplyS d.state (upN d u)).2)
  else (⟨d.self, (ApplyS d.state (upN d u)).1, d.base, d.log ++ [upN d u], d.known.set d.self.toNat (ApplyS d.state (upN d u)).1.clock⟩, 0)
def SendN (d : Node) (to : Int) : Parcel × Int :=
  if wrongN d ≠ 0 then (zeroP, wrongN d)
  else if to < 0 ∨ lenI d.known ≤ to then (zeroP, 6)
  else if to = d.self then (zeroP, 7)
  else if seesC (atK d.known to.toNat) d.base = false then (⟨true, d.state, [], d.state.clock⟩, 0)
  else (⟨false, zeroS, lacksU d.log (atK d.known to.toNat), d.state.clock⟩, 0)
/-- an update that isn't there -/
def takeN (d : Node) (u : Upd) : Node × Int :=
  if wrongU u (nOf d) = 0 ∧ hasC d.state.clock u.author (seqU u) = true then (d, 0)
  else if d.log.length = 300 then (d, 5)
  else if (ApplyS d.state u).2 ≠ 0 then (d, (ApplyS d.state u).2)
  else (⟨d.self, (ApplyS d.state u).1, d.base, d.log ++ [u], d.known⟩, 0)
def takesN : Node → List Upd → Node × Int
  | d, [] => (d, 0)
  | d, u :: l => if (takeN d u).2 ≠ 0 then (zeroN, (takeN d u).2) else takesN (takeN d u).1 l
def wholeN (d : Node) (p : Parcel) : Node := if p.whole = true then ⟨d.self, (JoinS d.state p.state).1, joinC d.base p.state.clock, lacksU d.log (joinC d.base p.state.clock), d.known⟩ else d
def doneN (d : Node) (from_ : Int) (p : Parcel) : Node := ⟨d.self, d.state, d.base, d.log, (d.known.set from_.toNat (joinC (atK d.known from_.toNat) p.clock)).set d.self.toNat d.state.clock⟩
def TakeN (d : Node) (from_ : Int) (p : Parcel) : Node × Int :=
  if wrongN d ≠ 0 then (zeroN, wrongN d)
  else if from_ < 0 ∨ lenI d.known ≤ from_ then (zeroN, 6)
  else if from_ = d.self then (zeroN, 7)
  else if wrongC p.clock (lenI d.known) ≠ 0 then (zeroN, wrongC p.clock (lenI d.known))
  else if p.whole = true ∧ (JoinS d.state p.state).2 ≠ 0 then (zeroN, (JoinS d.state p.state).2)
  else if (takesN (wholeN d p) p.updates).2 ≠ 0 then (zeroN, (takesN (wholeN d p) p.updates).2)
  else if seesC (takesN (wholeN d p) p.updates).1.state.clock p.clock = false then (zeroN, 8)
  else (doneN (takesN (wholeN d p) p.updates).1 from_ p, 0)
def allN (d : Node) : List Int := d.known.foldl meetC d.state.clock
def PruneN (d : Node) : Node × Int :=
  if wrongN d ≠ 0 then (zeroN, wrongN d)
  else (⟨d.self, d.state, joinC d.base (allN d), lacksU d.log (joinC d.base (allN d)), d.known⟩, 0)
def startN (self n : Int) : Node := ⟨self, startG n, List.replicate n.toNat 0, [], List.replicate n.toNat (List.replicate n.toNat 0)⟩
def StartN (self n : Int) : Node × Int :=
  if n < 1 ∨ 6 < n then (zeroN, 5) else if self < 0 ∨ n ≤ self then (zeroN, 3) else (startN self n, 0)

/-! ## a log's end -/
def foldC (c : List Int) (l : List Upd) : List Int := l.foldl (fun c u => tickC c u.author) c
theorem foldC_cons (c : List Int) (u : Upd) (l : List Upd) : foldC c (u :: l) = foldC (tickC c u.author) l := rfl
theorem foldC_app (c : List Int) (l m : List Upd) : foldC c (l ++ m) = foldC (foldC c l) m := List.foldl_append
theorem fits_log {n : Int} : ∀ {l : List Upd} {c : List Int} {i : Nat}, wrongC c n = 0 → Fits n c l → logC n c l i = (foldC c l, 0, 0)
  | [], c, i, hc, h => rfl
  | u :: l, c, i, hc, h => by
    rw [logC.eq_2, stepE_of h.1, if_neg (by simp), fits_log (tick_ok hc h.1) h.2]; rfl
theorem fits_ok {n : Int} {l : List Upd} {c : List Int} (hc : wrongC c n = 0) (h : Fits n c l) : wrongC (foldC c l) n = 0 ∧ seesC (foldC c l) c = true := by
  have := logC_ok l c 0 hc (by rw [fits_log hc h])
  rw [fits_log hc h] at this
  exact ⟨this.1, this.2.1⟩
theorem fits_app {n : Int} : ∀ {l m : List Upd} {c : List Int}, Fits n c (l ++ m) ↔ Fits n c l ∧ Fits n (foldC c l) m
  | [], m, c => by simp [Fits, foldC]
  | u :: l, m, c => by
    show (StepOk c u n ∧ Fits n (tickC c u.author) (l ++ m)) ↔ (StepOk c u n ∧ Fits n (tickC c u.author) l) ∧ _
    rw [fits_app (l := l), foldC_cons, and_assoc]
theorem hasU_step {c b : List Int} {u : Upd} {n : Int} (hb : wrongC b n = 0) (h : StepOk b u n) (hc : wrongC c n = 0) : hasU c u = true ↔ atI b u.author.toNat < atI c u.author.toNat := by
  rw [hasU_right hc h.r, h.eq]
theorem sees_tick {c b : List Int} {u : Upd} {n : Int} (hb : wrongC b n = 0) (h : StepOk b u n) (hc : wrongC c n = 0) (hs : seesC c b = true) (hh : hasU c u = true) : seesC c (tickC b u.author) = true := seesC_iff.2 fun j => by
  rw [tick_at hb h]
  have h1 := (hasU_step hb h hc).1 hh
  have h2 := seesC_iff.1 hs j
  split
  · rename_i e; subst e; omega
  · exact h2
theorem step_up {c b : List Int} {u : Upd} {n : Int} (hb : wrongC b n = 0) (h : StepOk b u n) (hc : wrongC c n = 0) (hs : seesC c b = true) (hh : hasU c u = false) : StepOk c u n := by
  refine ⟨h.r, ?_, seesC_trans hs h.sees⟩
  have h1 : ¬ atI b u.author.toNat < atI c u.author.toNat := fun k => by rw [(hasU_step hb h hc).2 k] at hh; cases hh
  have h2 := seesC_iff.1 hs u.author.toNat
  have := h.eq
  omega
theorem sees_ticks {c b : List Int} {u : Upd} {n : Int} (hb : wrongC b n = 0) (h : StepOk b u n) (hc : wrongC c n = 0) (k : StepOk c u n) (hs : seesC c b = true) : seesC (tickC c u.author) (tickC b u.author) = true := seesC_iff.2 fun j => by
  rw [tick_at hb h, tick_at hc k]
  have h2 := seesC_iff.1 hs j
  have := h.eq; have := k.eq
  split <;> omega
theorem join_tick {c b : List Int} {u : Upd} {n : Int} (hb : wrongC b n = 0) (h : StepOk b u n) (hc : wrongC c n = 0) (k : StepOk c u n) {e : List Int} (he : seesC e (tickC b u.author) = true) (hl : e.length = b.length) : joinC (tickC c u.author) e = joinC c e := by
  have hcl := wrongC_ok hc; have hbl := wrongC_ok hb
  refine atI_ext (by simp only [joinC_len, tickC_len]) fun j => ?_
  rw [joinC_at, joinC_at, tick_at hc k]
  split
  · rename_i e1; subst e1
    have := seesC_iff.1 he u.author.toNat
    rw [tick_at hb h, if_pos rfl] at this
    have := h.eq; have := k.eq
    omega
  · rfl
/-- what a clock lacks fits behind it, and takes it to what both come to -/
theorem lacks_fits {n : Int} : ∀ {l : List Upd} {base c : List Int}, wrongC base n = 0 → wrongC c n = 0 → Fits n base l → seesC c base = true → Fits n c (lacksU l c) ∧ foldC c (lacksU l c) = joinC c (foldC base l)
  | [], base, c, hb, hc, _, hs => by
    refine ⟨trivial, ?_⟩
    have hl1 := wrongC_ok hb; have hl2 := wrongC_ok hc
    exact atI_ext (by show c.length = (joinC c base).length; rw [joinC_len]; omega) fun k => by show atI c k = atI (joinC c base) k; rw [joinC_at]; have := seesC_iff.1 hs k; omega
  | u :: l, base, c, hb, hc, h, hs => by
    obtain ⟨h1, h2⟩ := h
    have hbt := tick_ok hb h1
    obtain ⟨w1, w2⟩ := fits_ok hbt h2
    cases hh : hasU c u
    · have e : lacksU (u :: l) c = u :: lacksU l c := by unfold lacksU; rw [List.filter_cons]; simp [hh]
      have hk := step_up hb h1 hc hs hh
      have hct := tick_ok hc hk
      have e2 : lacksU l c = lacksU l (tickC c u.author) := by
        unfold lacksU
        refine List.filter_congr fun v hv => ?_
        obtain ⟨v1, v2⟩ := fits_later hbt h2 hv
        congr 1
        rw [Bool.eq_iff_iff, hasU_right hc v1, hasU_right hct v1, tick_at hc hk]
        split
        · rename_i ev
          rw [tick_at hb h1, if_pos ev] at v2
          have := hk.eq; have := h1.eq
          rw [ev] at v2 ⊢
          omega
        · exact Iff.rfl
      rw [e, e2, foldC_cons]
      obtain ⟨a, b⟩ := lacks_fits hbt hct h2 (sees_ticks hb h1 hc hk hs)
      refine ⟨⟨hk, a⟩, ?_⟩
      rw [b]
      have k1 := wrongC_ok w1; have k2 := wrongC_ok hb
      exact join_tick hb h1 hc hk w2 (by omega)
    · have e : lacksU (u :: l) c = lacksU l c := by unfold lacksU; rw [List.filter_cons]; simp [hh]
      rw [e]
      exact lacks_fits hbt hc h2 (sees_tick hb h1 hc hs hh)
theorem joinC_sees {a b : List Int} (hl : b.length ≤ a.length) (h : seesC a b = true) : joinC a b = a := atI_ext (by rw [joinC_len]; omega) fun k => by rw [joinC_at]; have := seesC_iff.1 h k; omega
theorem joinC_sees' {a b : List Int} (hl : b.length ≤ a.length) (h : seesC a b = true) : joinC b a = a := by rw [joinC_comm]; exact joinC_sees hl h

/-! ## a right node -/
structure RightN (d : Node) (n : Int) : Prop where
  s : RightS d.state n
  a0 : 0 ≤ d.self
  a1 : d.self < n
  b : wrongC d.base n = 0
  f : Fits n d.base d.log
  l : d.log.length ≤ 300
  c : foldC d.base d.log = d.state.clock
  k : (d.known.length : Int) = n
  ks : ∀ k ∈ d.known, wrongC k n = 0 ∧ seesC d.state.clock k = true
  own : d.known[d.self.toNat]? = some d.state.clock
theorem wrongK_iff {d : Node} {n : Int} : ∀ {l : List (List Int)} {i : Nat}, wrongK d n i l = 0 ↔ ∀ (j : Nat) k, l[j]? = some k → wrongC k n = 0 ∧ seesC d.state.clock k = true ∧ (((i + j : Nat) : Int) = d.self → k = d.state.clock)
  | [], i => by simp [wrongK]
  | x :: l, i => by
    unfold wrongK
    constructor
    · intro h
      by_cases h1 : wrongC x n = 0
      · rw [if_neg (fun e => e h1)] at h
        split at h
        · cases h
        · rename_i h2
          intro j k hj
          cases j with
          | zero =>
            simp at hj; subst hj
            refine ⟨h1, ?_, fun e => ?_⟩
            · cases hs : seesC d.state.clock x
              · exact absurd (.inr hs) h2
              · rfl
            · exact Classical.not_not.1 fun h3 => h2 (.inl ⟨by simpa using e, h3⟩)
          | succ j =>
            have := wrongK_iff.1 h j k (by simpa using hj)
            refine ⟨this.1, this.2.1, fun e => this.2.2 (by rw [← e]; congr 1; omega)⟩
      · rw [if_pos h1] at h; exact absurd h h1
    · intro h
      have h0 := h 0 x rfl
      rw [if_neg (fun e => e h0.1), if_neg (fun e => by
        rcases e with ⟨e1, e2⟩ | e
        · exact e2 (h0.2.2 (by simpa using e1))
        · rw [h0.2.1] at e; cases e)]
      refine wrongK_iff.2 fun j k hj => ?_
      have := h (j + 1) k (by simpa using hj)
      exact ⟨this.1, this.2.1, fun e => this.2.2 (by rw [← e]; congr 1; omega)⟩
theorem RightN.n {d : Node} {n : Int} (h : RightN d n) : nOf d = n := (wrongC_ok h.s.c).2.2.1
theorem wrongN_iff {d : Node} : wrongN d = 0 ↔ RightN d (nOf d) := by
  unfold wrongN
  constructor
  · intro h
    split at h
    · rename_i h1; exact absurd h h1
    rename_i h1
    split at h
    · cases h
    rename_i h2
    split at h
    · rename_i h3; exact absurd h h3
    rename_i h3
    split at h
    · cases h
    rename_i h4
    have h3' := Classical.not_not.1 h3
    obtain ⟨c1, c2, c3⟩ := clockL_ok h3'
    rw [c3] at h3' h4
    have hf := (fits_iff c1).1 h3'
    rw [fits_log c1 hf] at h4
    have hk := wrongK_iff.1 h
    have e1 : foldC d.base d.log = d.state.clock := Classical.not_not.1 fun e => h4 (.inl e)
    have e2 : lenI d.known = nOf d := Classical.not_not.1 fun e => h4 (.inr e)
    have e3 : d.self.toNat < d.known.length := by unfold lenI at e2; omega
    refine ⟨wrongS_iff.1 (Classical.not_not.1 h1), by omega, by omega, c1, hf, c2, e1, e2, fun k hk' => ?_, ?_⟩
    · obtain ⟨j, hj⟩ := List.getElem?_of_mem hk'
      exact ⟨(hk j k hj).1, (hk j k hj).2.1⟩
    · have := hk d.self.toNat d.known[d.self.toNat] (List.getElem?_eq_getElem e3)
      rw [List.getElem?_eq_getElem e3, this.2.2 (by omega)]
  · intro h
    rw [if_neg (fun e => e (wrongS_iff.2 h.s)), if_neg (by have := h.a0; have := h.a1; omega)]
    have e := clockL_log h.b h.l
    rw [fits_log h.b h.f] at e
    rw [e, if_neg (by simp), if_neg (by
      rintro (e1 | e1)
      · exact e1 h.c
      · exact e1 h.k)]
    refine wrongK_iff.2 fun j k hj => ⟨(h.ks k (List.mem_of_getElem? hj)).1, (h.ks k (List.mem_of_getElem? hj)).2, fun e => ?_⟩
    have : d.self.toNat = j := by omega
    have h2 := h.own
    rw [this, hj] at h2
    injection h2
theorem RightN.ok {d : Node} {n : Int} (h : RightN d n) : wrongN d = 0 := by rw [wrongN_iff, h.n]; exact h
theorem RightN.len {d : Node} {n : Int} (h : RightN d n) : 1 ≤ n ∧ n ≤ 6 ∧ (d.state.clock.length : Int) = n ∧ (d.base.length : Int) = n := by
  have := wrongC_ok h.s.c; have := wrongC_ok h.b; omega
/-- a right node's next update, whoever's -/
theorem RightN.step {d : Node} {n : Int} (h : RightN d n) {u : Upd} (hu : StepOk d.state.clock u n) (hl : d.log.length < 300) : Fits n d.base (d.log ++ [u]) ∧ foldC d.base (d.log ++ [u]) = (applyS d.state u).clock ∧ RightS (applyS d.state u) n ∧ (d.log ++ [u]).length ≤ 300 ∧ seesC (applyS d.state u).clock d.state.clock = true := by
  refine ⟨fits_app.2 ⟨h.f, ?_⟩, ?_, applyS_right h.s hu, by simp; omega, tick_sees h.s.c hu⟩
  · rw [h.c]; exact ⟨hu, trivial⟩
  · rw [foldC_app, h.c]; rfl
theorem mem_set {α : Type} {l : List α} {i : Nat} {x y : α} (h : y ∈ l.set i x) : y ∈ l ∨ y = x := List.mem_or_eq_of_mem_set h
end Go.Proofs.YtkjknlnhffmkkabGreat

namespace Go.Proofs.YtkjknlnhffmkkabGreat
set_option linter.unusedVariables false

/-- a right node, in the middle of a deed -/
structure MidN (d : Node) (n : Int) : Prop where
  s : RightS d.state n
  a0 : 0 ≤ d.self
  a1 : d.self < n
  b : wrongC d.base n = 0
  f : Fits n d.base d.log
  l : d.log.length ≤ 300
  c : foldC d.base d.log = d.state.clock
  k : (d.known.length : Int) = n
  ks : ∀ k ∈ d.known, wrongC k n = 0 ∧ seesC d.state.clock k = true
theorem RightN.mid {d : Node} {n : Int} (h : RightN d n) : MidN d n := ⟨h.s, h.a0, h.a1, h.b, h.f, h.l, h.c, h.k, h.ks⟩
theorem MidN.n {d : Node} {n : Int} (h : MidN d n) : nOf d = n := (wrongC_ok h.s.c).2.2.1
theorem has_seq {c : List Int} {u : Upd} {n : Int} (hc : wrongC c n = 0) (h : RightU u n) : hasC c u.author (seqU u) = hasU c u := by
  rw [seqU_right h]
  have hl := h.len; have := wrongC_ok hc; have := h.a0; have := h.a1
  unfold hasC hasU
  rw [Bool.eq_iff_iff]
  simp only [Bool.and_eq_true, decide_eq_true_eq]
  omega
def tookN (d : Node) (u : Upd) : Node := ⟨d.self, applyS d.state u, d.base, d.log ++ [u], d.known⟩
/-- what a take that is not refused did -/
theorem take_ok {d : Node} {u : Upd} {n : Int} (h : RightS d.state n) (k : (takeN d u).2 = 0) :
    (RightU u n ∧ hasU d.state.clock u = true ∧ takeN d u = (d, 0)) ∨ (StepOk d.state.clock u n ∧ d.log.length ≠ 300 ∧ takeN d u = (tookN d u, 0)) := by
  have en : nOf d = n := (wrongC_ok h.c).2.2.1
  unfold takeN at k ⊢
  rw [en] at k ⊢
  split
  · rename_i h1
    have hr := wrongU_iff.1 h1.1
    left
    exact ⟨hr, by rw [← has_seq h.c hr]; exact h1.2, rfl⟩
  · rename_i h1
    rw [if_neg h1] at k
    split
    · rename_i h2; rw [if_pos h2] at k; cases k
    · rename_i h2
      rw [if_neg h2] at k
      split
      · rename_i h3; rw [if_pos h3] at k; exact absurd k h3
      · rename_i h3
        obtain ⟨a, b, c⟩ := ApplyS_ok (Classical.not_not.1 h3)
        have e : lenI d.state.clock = n := en
        rw [e] at b
        right
        exact ⟨b, h2, by rw [c]; rfl⟩
theorem take_has {d : Node} {u : Upd} {n : Int} (h : RightS d.state n) (hr : RightU u n) (hh : hasU d.state.clock u = true) : takeN d u = (d, 0) := by
  have en : nOf d = n := (wrongC_ok h.c).2.2.1
  unfold takeN
  rw [en, if_pos ⟨wrongU_iff.2 hr, by rw [has_seq h.c hr]; exact hh⟩]
theorem take_new {d : Node} {u : Upd} {n : Int} (h : RightS d.state n) (hs : StepOk d.state.clock u n) (hl : d.log.length ≠ 300) : takeN d u = (tookN d u, 0) := by
  have en : nOf d = n := (wrongC_ok h.c).2.2.1
  unfold takeN
  rw [en, if_neg, if_neg hl, ApplyS_of h hs, if_neg (by simp)]
  · rfl
  · rintro ⟨_, k⟩
    rw [has_seq h.c hs.r] at k
    have := (hasU_right h.c hs.r).1 k
    have := hs.eq
    omega
theorem MidN.took {d : Node} {u : Upd} {n : Int} (h : MidN d n) (hs : StepOk d.state.clock u n) (hl : d.log.length ≠ 300) : MidN (tookN d u) n ∧ seesC (tookN d u).state.clock d.state.clock = true := by
  have hll := h.l
  have ht := tick_sees h.s.c hs
  refine ⟨⟨applyS_right h.s hs, h.a0, h.a1, h.b, fits_app.2 ⟨h.f, ?_⟩, ?_, ?_, h.k, fun k hk => ⟨(h.ks k hk).1, seesC_trans ht (h.ks k hk).2⟩⟩, ht⟩
  · show Fits n (foldC d.base d.log) [u]; rw [h.c]; exact ⟨hs, trivial⟩
  · show (d.log ++ [u]).length ≤ 300; simp; omega
  · show foldC d.base (d.log ++ [u]) = _; rw [foldC_app, h.c]; rfl
/-- what many takes keep -/
theorem takes_ind {n : Int} (P : Node → Prop) : ∀ {l : List Upd} {d : Node}, (∀ d u, u ∈ l → MidN d n → P d → StepOk d.state.clock u n → d.log.length ≠ 300 → P (tookN d u)) → MidN d n → P d → (takesN d l).2 = 0 →
    MidN (takesN d l).1 n ∧ P (takesN d l).1 ∧ seesC (takesN d l).1.state.clock d.state.clock = true ∧ (takesN d l).1.self = d.self ∧ (takesN d l).1.base = d.base ∧ (takesN d l).1.known = d.known
  | [], d, H, h, p, k => ⟨h, p, seesC_refl _, rfl, rfl, rfl⟩
  | u :: l, d, H, h, p, k => by
    unfold takesN at k ⊢
    split at k
    · rename_i h1; exact absurd k h1
    · rename_i h1
      rw [if_neg h1]
      rcases take_ok h.s (Classical.not_not.1 h1) with ⟨_, _, e⟩ | ⟨a, b, e⟩
      · rw [e] at k ⊢
        exact takes_ind P (fun d v hv => H d v (by simp [hv])) h p k
      · rw [e] at k ⊢
        obtain ⟨q1, q2⟩ := h.took a b
        obtain ⟨r1, r2, r3, r4, r5, r6⟩ := takes_ind P (l := l) (fun d v hv => H d v (by simp [hv])) q1 (H d u (by simp) h p a b) k
        exact ⟨r1, r2, seesC_trans r3 q2, r4, r5, r6⟩
/-- what fits behind something seen can be taken -/
theorem takes_fits {n : Int} : ∀ {l : List Upd} {d : Node} {b : List Int}, MidN d n → wrongC b n = 0 → Fits n b l → seesC d.state.clock b = true → d.log.length + l.length ≤ 300 → (takesN d l).2 = 0 ∧ (takesN d l).1.state.clock = joinC d.state.clock (foldC b l)
  | [], d, b, h, hb, _, hs, _ => by
    have h1 := wrongC_ok h.s.c; have h2 := wrongC_ok hb
    exact ⟨rfl, (joinC_sees (by omega) hs).symm⟩
  | u :: l, d, b, h, hb, hf, hs, hl => by
    obtain ⟨h1, h2⟩ := hf
    have hbt := tick_ok hb h1
    have hl' : d.log.length + (l.length + 1) ≤ 300 := hl
    unfold takesN
    cases hh : hasU d.state.clock u
    · have hk := step_up hb h1 h.s.c hs hh
      rw [take_new h.s hk (by omega), if_neg (by simp)]
      obtain ⟨q1, q2⟩ := h.took hk (by omega)
      obtain ⟨a, e⟩ := takes_fits (l := l) (d := tookN d u) q1 hbt h2 (sees_ticks hb h1 h.s.c hk hs) (by show (d.log ++ [u]).length + _ ≤ _; simp; omega)
      refine ⟨a, ?_⟩
      rw [e]
      obtain ⟨w1, w2⟩ := fits_ok hbt h2
      have k1 := wrongC_ok w1; have k2 := wrongC_ok hb
      exact join_tick hb h1 h.s.c hk w2 (by omega)
    · rw [take_has h.s h1.r hh, if_neg (by simp)]
      exact takes_fits h hbt h2 (sees_tick hb h1 h.s.c hs hh) (by show d.log.length + _ ≤ _; omega)

/-! ## deeds -/
theorem rebase {d : Node} {n : Int} (h : RightS d.state n) (hb : wrongC d.base n = 0) (hf : Fits n d.base d.log) (hc : foldC d.base d.log = d.state.clock) {b : List Int} (hb' : wrongC b n = 0) (hs : seesC b d.base = true) :
    Fits n b (lacksU d.log b) ∧ foldC b (lacksU d.log b) = joinC b d.state.clock ∧ (lacksU d.log b).length ≤ d.log.length := by
  obtain ⟨a, e⟩ := lacks_fits hb hb' hf hs
  exact ⟨a, by rw [e, hc], lacksU_len _ _⟩
theorem MidN.whole {d : Node} {n : Int} {p : Parcel} (h : MidN d n) (hj : p.whole = true → (JoinS d.state p.state).2 = 0) : MidN (wholeN d p) n ∧ seesC (wholeN d p).state.clock d.state.clock = true ∧ seesC (wholeN d p).base d.base = true ∧ (wholeN d p).self = d.self ∧ (wholeN d p).known = d.known := by
  unfold wholeN
  split
  · rename_i hw
    have hj := hj hw
    have en : lenI d.state.clock = n := h.n
    have hp : RightS p.state n := by
      unfold JoinS at hj
      rw [en, if_neg (fun k => k (wrongS_iff.2 h.s))] at hj
      split at hj
      · rename_i k; exact absurd hj k
      · rename_i k; exact wrongS_iff.1 (Classical.not_not.1 k)
    rw [JoinS_of h.s hp]
    have hb := joinC_ok h.b hp.c
    obtain ⟨f1, f2, f3⟩ := rebase h.s h.b h.f h.c hb (sees_joinl _ _)
    have hsb : seesC d.state.clock d.base = true := by rw [← h.c]; exact (fits_ok h.b h.f).2
    have l1 := wrongC_ok h.s.c; have l2 := wrongC_ok hp.c; have l3 := wrongC_ok h.b
    refine ⟨⟨joinS_right h.s hp, h.a0, h.a1, hb, f1, ?_, ?_, h.k, fun k hk => ⟨(h.ks k hk).1, seesC_trans (sees_joinl _ _) (h.ks k hk).2⟩⟩, sees_joinl _ _, sees_joinl _ _, rfl, rfl⟩
    · have := h.l; show (lacksU d.log _).length ≤ 300; omega
    · show foldC (joinC d.base p.state.clock) (lacksU d.log (joinC d.base p.state.clock)) = joinC d.state.clock p.state.clock
      rw [f2]
      refine atI_ext (by simp only [joinC_len]; omega) fun j => ?_
      simp only [joinC_at]
      have := seesC_iff.1 hsb j
      omega
  · exact ⟨h, seesC_refl _, seesC_refl _, rfl, rfl⟩
/-- what a take that is not refused tells -/
structure Took (d : Node) (from_ : Int) (p : Parcel) (n : Int) : Prop where
  r : RightN d n
  f0 : 0 ≤ from_
  f1 : from_ < n
  ne : from_ ≠ d.self
  c : wrongC p.clock n = 0
  j : p.whole = true → (JoinS d.state p.state).2 = 0
  t : (takesN (wholeN d p) p.updates).2 = 0
  s : seesC (takesN (wholeN d p) p.updates).1.state.clock p.clock = true
  e : TakeN d from_ p = (doneN (takesN (wholeN d p) p.updates).1 from_ p, 0)
theorem TakeN_ok {d : Node} {from_ : Int} {p : Parcel} (h : (TakeN d from_ p).2 = 0) : Took d from_ p (nOf d) := by
  have e := h
  unfold TakeN at h
  split at h
  · rename_i k; exact absurd h k
  rename_i h1
  split at h
  · cases h
  rename_i h2
  split at h
  · cases h
  rename_i h3
  split at h
  · rename_i k; exact absurd h k
  rename_i h4
  split at h
  · rename_i k; exact absurd h k.2
  rename_i h5
  split at h
  · rename_i k; exact absurd h k
  rename_i h6
  split at h
  · cases h
  rename_i h7
  have hr := wrongN_iff.1 (Classical.not_not.1 h1)
  have hk := hr.k
  have hl : lenI d.known = nOf d := hk
  rw [hl] at h2 h4
  refine ⟨hr, by omega, by omega, h3, Classical.not_not.1 h4, fun hw => Classical.not_not.1 fun k => h5 ⟨hw, k⟩, Classical.not_not.1 h6, ?_, ?_⟩
  · cases hs : seesC (takesN (wholeN d p) p.updates).1.state.clock p.clock
    · exact absurd hs h7
    · rfl
  · unfold TakeN
    rw [if_neg h1, if_neg (by rw [hl]; exact h2), if_neg h3, if_neg (by rw [hl]; exact h4), if_neg h5, if_neg h6, if_neg h7]
theorem TakeN_of {d : Node} {from_ : Int} {p : Parcel} {n : Int} (r : RightN d n) (f0 : 0 ≤ from_) (f1 : from_ < n) (ne : from_ ≠ d.self) (c : wrongC p.clock n = 0) (j : p.whole = true → (JoinS d.state p.state).2 = 0)
    (t : (takesN (wholeN d p) p.updates).2 = 0) (s : seesC (takesN (wholeN d p) p.updates).1.state.clock p.clock = true) : TakeN d from_ p = (doneN (takesN (wholeN d p) p.updates).1 from_ p, 0) := by
  have hl : lenI d.known = n := r.k
  unfold TakeN
  rw [if_neg (fun k => k r.ok), if_neg (by rw [hl]; omega), if_neg ne, if_neg (by rw [hl]; exact fun k => k c), if_neg (fun k => k.2 (j k.1)), if_neg (fun k => k t), if_neg (by rw [s]; simp)]
theorem MidN.done {d : Node} {n : Int} (h : MidN d n) {from_ : Int} {p : Parcel} (f0 : 0 ≤ from_) (f1 : from_ < n) (c : wrongC p.clock n = 0) (s : seesC d.state.clock p.clock = true) : RightN (doneN d from_ p) n := by
  have hk := h.k
  have hf : from_.toNat < d.known.length := by omega
  have ha : d.self.toNat < d.known.length := by have := h.a0; have := h.a1; omega
  refine ⟨h.s, h.a0, h.a1, h.b, h.f, h.l, h.c, by show ((List.set _ _ _).length : Int) = n; simp; omega, fun k hk => ?_, by
    show (List.set _ _ _)[d.self.toNat]? = some d.state.clock
    simp [ha]⟩
  rcases mem_set hk with hk | rfl
  · rcases mem_set hk with hk | rfl
    · exact h.ks k hk
    · obtain ⟨a, b⟩ := h.ks (atK d.known from_.toNat) (by rw [atK_lt hf]; exact List.getElem_mem hf)
      exact ⟨joinC_ok a c, by show seesC d.state.clock _ = true; rw [sees_join, b, s]; rfl⟩
  · exact ⟨h.s.c, seesC_refl _⟩
theorem allN_ok {d : Node} {n : Int} (h : RightN d n) : wrongC (allN d) n = 0 ∧ seesC d.state.clock (allN d) = true ∧ ∀ k ∈ d.known, seesC k (allN d) = true := by
  have key : ∀ (l : List (List Int)) (a : List Int), wrongC a n = 0 → seesC d.state.clock a = true → (∀ k ∈ l, wrongC k n = 0) → wrongC (l.foldl meetC a) n = 0 ∧ seesC a (l.foldl meetC a) = true ∧ ∀ k ∈ l, seesC k (l.foldl meetC a) = true := by
    intro l
    induction l with
    | nil => intro a ha hs _; exact ⟨ha, seesC_refl _, by simp⟩
    | cons x l ih =>
      intro a ha hs hk
      obtain ⟨p, q, r⟩ := ih (meetC a x) (meetC_ok ha (hk x (by simp))) (seesC_trans hs (sees_meetl _ _)) fun k hk' => hk k (by simp [hk'])
      refine ⟨p, seesC_trans (sees_meetl _ _) q, fun k hk' => ?_⟩
      rcases List.mem_cons.1 hk' with rfl | hk'
      · exact seesC_trans (sees_meetr _ _) q
      · exact r k hk'
  obtain ⟨a, b, c⟩ := key d.known d.state.clock h.s.c (seesC_refl _) fun k hk => (h.ks k hk).1
  exact ⟨a, b, c⟩
def prunedN (d : Node) : Node := ⟨d.self, d.state, joinC d.base (allN d), lacksU d.log (joinC d.base (allN d)), d.known⟩
theorem PruneN_of {d : Node} {n : Int} (h : RightN d n) : PruneN d = (prunedN d, 0) := by unfold PruneN; rw [if_neg (fun k => k h.ok)]; rfl
theorem RightN.base_le {d : Node} {n : Int} (h : RightN d n) : seesC d.state.clock d.base = true := by rw [← h.c]; exact (fits_ok h.b h.f).2
theorem pruned_right {d : Node} {n : Int} (h : RightN d n) : RightN (prunedN d) n ∧ seesC (prunedN d).base d.base = true := by
  obtain ⟨a1, a2, a3⟩ := allN_ok h
  have hb := joinC_ok h.b a1
  obtain ⟨f1, f2, f3⟩ := rebase h.s h.b h.f h.c hb (sees_joinl _ _)
  have hsb : seesC d.state.clock (joinC d.base (allN d)) = true := by rw [sees_join, h.base_le, a2]; rfl
  have l1 := wrongC_ok h.s.c; have l2 := wrongC_ok hb
  refine ⟨⟨h.s, h.a0, h.a1, hb, f1, by have := h.l; show (lacksU d.log _).length ≤ 300; omega, ?_, h.k, h.ks, h.own⟩, sees_joinl _ _⟩
  show foldC (joinC d.base (allN d)) (lacksU d.log (joinC d.base (allN d))) = d.state.clock
  rw [f2]
  exact joinC_sees' (by omega) hsb
/-- what an issue that is not refused tells -/
structure Issued (d : Node) (u : Upd) (n : Int) : Prop where
  r : RightN d n
  l : d.log.length < 300
  s : StepOk d.state.clock (upN d u) n
  e : IssueN d u = (⟨d.self, applyS d.state (upN d u), d.base, d.log ++ [upN d u], d.known.set d.self.toNat (applyS d.state (upN d u)).clock⟩, 0)
theorem IssueN_ok {d : Node} {u : Upd} (h : (IssueN d u).2 = 0) : Issued d u (nOf d) := by
  unfold IssueN at h
  split at h
  · rename_i k; exact absurd h k
  rename_i h1
  split at h
  · cases h
  rename_i h2
  split at h
  · rename_i k; exact absurd h k
  rename_i h3
  have hr := wrongN_iff.1 (Classical.not_not.1 h1)
  obtain ⟨a, b, c⟩ := ApplyS_ok (Classical.not_not.1 h3)
  have hl := hr.l
  refine ⟨hr, by omega, b, ?_⟩
  unfold IssueN
  rw [if_neg h1, if_neg h2, if_neg h3, c]
theorem IssueN_of {d : Node} {u : Upd} {n : Int} (r : RightN d n) (l : d.log.length ≠ 300) (s : StepOk d.state.clock (upN d u) n) : IssueN d u = (⟨d.self, applyS d.state (upN d u), d.base, d.log ++ [upN d u], d.known.set d.self.toNat (applyS d.state (upN d u)).clock⟩, 0) := by
  unfold IssueN
  rw [if_neg (fun k => k r.ok), if_neg l, ApplyS_of r.s s, if_neg (by simp)]
theorem Issued.right {d : Node} {u : Upd} {n : Int} (h : Issued d u n) : RightN (IssueN d u).1 n ∧ seesC (IssueN d u).1.state.clock d.state.clock = true ∧ (IssueN d u).1.base = d.base ∧ (IssueN d u).1.self = d.self := by
  obtain ⟨a, b, c, e, f⟩ := h.r.step h.s h.l
  rw [h.e]
  have hk := h.r.k
  have ha : d.self.toNat < d.known.length := by have := h.r.a0; have := h.r.a1; omega
  refine ⟨⟨c, h.r.a0, h.r.a1, h.r.b, a, e, b, by show ((List.set _ _ _).length : Int) = n; simp; omega, fun k hk => ?_, by
    show (List.set _ _ _)[d.self.toNat]? = _; simp [ha]⟩, f, rfl, rfl⟩
  rcases mem_set hk with hk | rfl
  · exact ⟨(h.r.ks k hk).1, seesC_trans f (h.r.ks k hk).2⟩
  · exact ⟨c.c, seesC_refl _⟩

/-! ## told twice -/
theorem SendN_of {d : Node} {n : Int} (h : RightN d n) {to : Int} (t0 : 0 ≤ to) (t1 : to < n) (ne : to ≠ d.self) : SendN d to = (if seesC (atK d.known to.toNat) d.base = false then (⟨true, d.state, [], d.state.clock⟩ : Parcel) else ⟨false, zeroS, lacksU d.log (atK d.known to.toNat), d.state.clock⟩, 0) := by
  have hl : lenI d.known = n := h.k
  unfold SendN
  rw [if_neg (fun k => k h.ok), if_neg (by rw [hl]; omega), if_neg ne]
  split <;> rfl
end Go.Proofs.YtkjknlnhffmkkabGreat

namespace Go.Proofs.YtkjknlnhffmkkabGreat
set_option linter.unusedVariables false

structure World' where
  nodes : List Node
  way : List (List (List Parcel))
deriving DecidableEq
structure Do where
  kind : Int
  n : Int
  to : Int
  update : Upd
deriving DecidableEq
def ndW (w : World') (i : Nat) : Node := w.nodes.getD i zeroN
def wyL (l : List (List (List Parcel))) (a b : Nat) : List Parcel := (l.getD a []).getD b []
def setL (l : List (List (List Parcel))) (a b : Nat) (q : List Parcel) : List (List (List Parcel)) := l.set a ((l.getD a []).set b q)
def putW (w : World') (k : Nat) (r : Node × Int) : World' × Int := if r.2 = 0 then (⟨w.nodes.set k r.1, w.way⟩, 0) else (w, r.2)
def pairW (w : World') (a b : Int) : Int := if a < 0 ∨ lenI w.nodes ≤ a ∨ b < 0 ∨ lenI w.nodes ≤ b then 6 else if a = b then 7 else 0
def sendW (w : World') (a b : Nat) : World' × Int :=
  if (wyL w.way a b).length = 20 then (w, 5)
  else if (SendN (ndW w a) b).2 = 0 then (⟨w.nodes, setL w.way a b (wyL w.way a b ++ [(SendN (ndW w a) b).1])⟩, 0)
  else (w, (SendN (ndW w a) b).2)
def dropW (w : World') (a b : Nat) : World' := ⟨w.nodes, setL w.way a b ((wyL w.way a b).drop 1)⟩
def headP (l : List Parcel) : Parcel := l.headD zeroP
def nextW (w : World') (a b : Nat) (lost : Bool) : World' × Int :=
  if (wyL w.way a b).length = 0 then (w, 6)
  else if lost = true then (dropW w a b, 0)
  else (dropW (putW w b (TakeN (ndW w b) a (headP (wyL w.way a b)))).1 a b, (TakeN (ndW w b) a (headP (wyL w.way a b))).2)
def stepW (w : World') (d : Do) : World' × Int :=
  if d.kind = 1 ∨ d.kind = 5 then
    if d.n < 0 ∨ lenI w.nodes ≤ d.n then (w, 6)
    else if d.kind = 5 then putW w d.n.toNat (PruneN (ndW w d.n.toNat))
    else putW w d.n.toNat (IssueN (ndW w d.n.toNat) d.update)
  else if d.kind = 2 ∨ d.kind = 3 ∨ d.kind = 4 then
    if pairW w d.n d.to ≠ 0 then (w, pairW w d.n d.to)
    else if d.kind = 2 then sendW w d.n.toNat d.to.toNat
    else nextW w d.n.toNat d.to.toNat (decide (d.kind = 4))
  else (w, 1)
def runW : World' → List Do → World' × List Int
  | w, [] => (w, [])
  | w, d :: l => ((runW (stepW w d).1 l).1, (stepW w d).2 :: (runW (stepW w d).1 l).2)
def startW (n : Nat) : World' := ⟨(List.range n).map fun (k : Nat) => startN (k : Int) n, List.replicate n (List.replicate n [])⟩
def zeroW : World' := ⟨[], []⟩
def PlayW (n : Int) (l : List Do) : World' × List Int × Int :=
  if n < 1 ∨ 6 < n ∨ 150 < l.length then (zeroW, [], 5) else ((runW (startW n.toNat) l).1, (runW (startW n.toNat) l).2, 0)
theorem runW_app : ∀ (l m : List Do) (w : World'), runW w (l ++ m) = ((runW (runW w l).1 m).1, (runW w l).2 ++ (runW (runW w l).1 m).2)
  | [], m, w => rfl
  | d :: l, m, w => by
    show ((runW (stepW w d).1 (l ++ m)).1, (stepW w d).2 :: (runW (stepW w d).1 (l ++ m)).2) = _
    rw [runW_app l m]; rfl
theorem runW_len : ∀ (l : List Do) (w : World'), (runW w l).2.length = l.length
  | [], w => rfl
  | d :: l, w => by show (runW (stepW w d).1 l).2.length + 1 = l.length + 1; rw [runW_len l]
theorem runW_take {l : List Do} {w : World'} {k : Nat} {d : Do} (h : l[k]? = some d) : runW w (l.take (k + 1)) = ((stepW (runW w (l.take k)).1 d).1, (runW w (l.take k)).2 ++ [(stepW (runW w (l.take k)).1 d).2]) := by
  rw [take_snoc h, runW_app]; rfl

/-! ## a log of all -/
theorem log_same {n : Int} : ∀ {l : List Upd} {c : List Int} {u v : Upd}, wrongC c n = 0 → Fits n c l → u ∈ l → v ∈ l → u.author.toNat = v.author.toNat → atI u.seen u.author.toNat = atI v.seen v.author.toNat → u = v
  | [], c, u, v, _, _, hu, _, _, _ => by cases hu
  | x :: l, c, u, v, hc, h, hu, hv, ha, hs => by
    obtain ⟨h1, h2⟩ := h
    have hct := tick_ok hc h1
    have late : ∀ w ∈ l, w.author.toNat = x.author.toNat → atI x.seen x.author.toNat < atI w.seen w.author.toNat := fun w hw e => by
      have := (fits_later hct h2 hw).2
      rw [tick_at hc h1, if_pos e, ← h1.eq] at this
      omega
    rcases List.mem_cons.1 hu with e1 | hu2
    · rcases List.mem_cons.1 hv with e2 | hv2
      · rw [e1, e2]
      · subst e1; have := late v hv2 ha.symm; omega
    · rcases List.mem_cons.1 hv with e2 | hv2
      · subst e2; have := late u hu2 ha; omega
      · exact log_same hct h2 hu2 hv2 ha hs
theorem log_nodup {n : Int} : ∀ {l : List Upd} {c : List Int}, wrongC c n = 0 → Fits n c l → l.Nodup
  | [], c, _, _ => .nil
  | x :: l, c, hc, h => by
    obtain ⟨h1, h2⟩ := h
    have hct := tick_ok hc h1
    rw [List.nodup_cons]
    refine ⟨fun hx => ?_, log_nodup hct h2⟩
    have := (fits_later hct h2 hx).2
    rw [tick_at hc h1, if_pos rfl, ← h1.eq] at this
    omega
def zs (n : Nat) : List Int := List.replicate n 0
def full (n : Nat) (L : List Upd) : List Int := foldC (zs n) L
theorem Part.full {n : Nat} {L : List Upd} {A : List Int} (h : Part n L A) : (logC n (List.replicate n 0) L 0).1 = full n L := by rw [fits_log h.all h.f]; rfl
/-- a clock that is closed over a log, and has no more than that -/
structure Sub (n : Nat) (L : List Upd) (A : List Int) : Prop where
  p : Part n L A
  le : seesC (full n L) A = true
theorem Sub.clock {n : Nat} {L : List Upd} {A : List Int} (h : Sub n L A) : (ofS n L A).clock = A := by
  have l1 := wrongC_ok h.p.a; have l2 := wrongC_ok h.p.right.c
  refine atI_ext (by omega) fun j => ?_
  rw [h.p.clock, h.p.full]
  have := seesC_iff.1 h.le j
  omega
theorem Sub.join {n : Nat} {L : List Upd} {A B : List Int} (h : Sub n L A) (k : Sub n L B) : Sub n L (joinC A B) := ⟨h.p.join k.p, by rw [sees_join, h.le, k.le]; rfl⟩
theorem log_end {n : Nat} {L : List Upd} (h : Fits n (zs n) L) (h0 : wrongC (zs n) n = 0) {u : Upd} (hu : u ∈ L) : atI u.seen u.author.toNat < atI (full n L) u.author.toNat := by
  have := log_at h0 h hu
  rwa [fits_log h0 h] at this
/-- one update more -/
theorem Sub.step {n : Nat} {L : List Upd} {A : List Int} (h : Sub n L A) {u : Upd} (hu : u ∈ L) (hs : StepOk A u n) : applyS (ofS n L A) u = ofS n L (tickC A u.author) ∧ Sub n L (tickC A u.author) := by
  have ht := tick_ok h.p.a hs
  have hlog := h.p.f
  have h0 := h.p.all
  have hmem : ∀ v ∈ L, hasU (tickC A u.author) v = true ↔ hasU A v = true ∨ v = u := fun v hv => by
    have hr := (fits_later h0 hlog hv).1
    rw [hasU_right ht hr, hasU_right h.p.a hr, tick_at h.p.a hs]
    have e := hs.eq
    split
    · rename_i ea
      constructor
      · intro hlt
        by_cases hl : atI v.seen v.author.toNat < atI A v.author.toNat
        · exact .inl hl
        · exact .inr (log_same h0 hlog hv hu ea (by rw [ea] at hlt hl ⊢; omega))
      · rintro (hl | rfl)
        · rw [ea] at hl ⊢; omega
        · rw [e]; omega
    · rename_i ea
      constructor
      · exact .inl
      · rintro (hl | rfl)
        · exact hl
        · exact absurd rfl ea
  have hcl : Closed (tickC A u.author) L := fun v hv hh => by
    have hts := tick_sees h.p.a hs
    rcases (hmem v hv).1 hh with k | rfl
    · exact seesC_trans hts (h.p.c v hv k)
    · exact seesC_trans hts hs.sees
  have hp : Part n L (tickC A u.author) := ⟨h.p.n1, h.p.n6, hlog, ht, hcl⟩
  refine ⟨?_, hp, seesC_iff.2 fun j => ?_⟩
  · have hf1 : Fits n (List.replicate n 0) (mineU A L ++ [u]) := by
      rw [fits_app]
      refine ⟨h.p.fits, ?_, trivial⟩
      have : foldC (List.replicate n 0) (mineU A L) = A := by
        have := h.p.played.2
        rw [fits_log h0 h.p.fits, h.clock] at this
        exact this.symm
      rw [this]; exact hs
    have e1 : applyS (ofS n L A) u = playS (startS n) (mineU A L ++ [u]) := by rw [playS_app]; rfl
    rw [e1]
    refine play_perm (i := 0) (j := 0) (start_right h.p.n1 h.p.n6) ((fits_iff h0).2 hf1) ((fits_iff h0).2 hp.fits) ?_
    have hn := log_nodup h0 hlog
    have hnu : u ∉ mineU A L := fun hm => by
      have := (List.mem_filter.1 hm).2
      have := (hasU_right h.p.a hs.r).1 this
      have := hs.eq
      omega
    refine (List.perm_ext_iff_of_nodup ?_ (hn.filter _)).2 fun v => ?_
    · rw [List.nodup_append]
      refine ⟨hn.filter _, by simp, fun a ha b hb e => ?_⟩
      simp at hb; subst hb; subst e; exact hnu ha
    · unfold mineU
      simp only [List.mem_append, List.mem_filter, List.mem_singleton]
      constructor
      · rintro (⟨a, b⟩ | rfl)
        · exact ⟨a, (hmem v a).2 (.inl b)⟩
        · exact ⟨hu, (hmem v hu).2 (.inr rfl)⟩
      · rintro ⟨a, b⟩
        rcases (hmem v a).1 b with k | k
        · exact .inl ⟨a, k⟩
        · exact .inr k
  · rw [tick_at h.p.a hs]
    have := seesC_iff.1 h.le j
    split
    · rename_i ej; subst ej
      have := log_end hlog h0 hu
      have := hs.eq
      omega
    · exact this
theorem mine_snoc {A : List Int} {L : List Upd} {u : Upd} (h : hasU A u = false) : mineU A (L ++ [u]) = mineU A L := by unfold mineU; rw [List.filter_append]; simp [h]
/-- an update of whoever has seen no more than all: others don't see it yet -/
theorem Sub.more {n : Nat} {L : List Upd} {A : List Int} (h : Sub n L A) {u : Upd} (hf : Fits n (zs n) (L ++ [u])) (hle : atI A u.author.toNat ≤ atI u.seen u.author.toNat) : Sub n (L ++ [u]) A ∧ ofS n (L ++ [u]) A = ofS n L A := by
  have hr := (fits_later h.p.all hf (u := u) (by simp)).1
  have hh : hasU A u = false := by rw [Bool.eq_false_iff]; intro k; have := (hasU_right h.p.a hr).1 k; omega
  obtain ⟨f1, f2⟩ := fits_app.1 hf
  have hw := (fits_ok h.p.all f1).1
  refine ⟨⟨⟨h.p.n1, h.p.n6, hf, h.p.a, fun v hv hk => ?_⟩, ?_⟩, by unfold ofS; rw [mine_snoc hh]⟩
  · rcases List.mem_append.1 hv with hv | hv
    · exact h.p.c v hv hk
    · simp at hv; subst hv; rw [hh] at hk; cases hk
  · show seesC (foldC (zs n) (L ++ [u])) A = true
    rw [foldC_app]
    exact seesC_trans (tick_sees hw f2.1) h.le
/-! ## what all nodes are -/
structure NodeI (n : Nat) (L : List Upd) (i : Nat) (d : Node) : Prop where
  r : RightN d n
  self : d.self = i
  st : d.state = ofS n L d.state.clock
  sub : Sub n L d.state.clock
  own : atI d.state.clock i = atI (full n L) i
  logs : ∀ u ∈ d.log, u ∈ L
inductive Bears (n : Nat) (L : List Upd) (e : Node) (p : Parcel) : Prop
  | whole (h : p = ⟨true, ofS n L p.clock, [], p.clock⟩) (s : Sub n L p.clock)
  | part (K : List Int) (h : p = ⟨false, zeroS, p.updates, p.clock⟩) (k : wrongC K n = 0) (f : Fits n K p.updates) (c : foldC K p.updates = p.clock) (s : seesC e.state.clock K = true) (l : ∀ u ∈ p.updates, u ∈ L)
structure ParI (n : Nat) (L : List Upd) (d e : Node) (p : Parcel) : Prop where
  b : Bears n L e p
  w : wrongC p.clock n = 0
  s : seesC d.state.clock p.clock = true
structure Inv (n : Nat) (L : List Upd) (w : World') : Prop where
  n1 : 1 ≤ n
  n6 : n ≤ 6
  len : w.nodes.length = n
  wl : w.way.length = n
  ww : ∀ r ∈ w.way, r.length = n
  fit : Fits n (zs n) L
  node : ∀ i, i < n → NodeI n L i (ndW w i)
  known : ∀ i, i < n → ∀ j, j < n → seesC (ndW w j).state.clock (atK (ndW w i).known j) = true
  way : ∀ a, a < n → ∀ b, b < n → ∀ p ∈ wyL w.way a b, ParI n L (ndW w a) (ndW w b) p
theorem getD_set {α : Type} {l : List α} {i j : Nat} {x z : α} (h : i < l.length) : (l.set i x).getD j z = if j = i then x else l.getD j z := by
  simp only [List.getD_eq_getElem?_getD]
  split
  · rename_i e; subst e; simp [h]
  · rename_i e; rw [List.getElem?_set_ne (fun k => e k.symm)]
theorem nd_set {w : World'} {k j : Nat} {d : Node} {y : List (List (List Parcel))} (h : k < w.nodes.length) : ndW ⟨w.nodes.set k d, y⟩ j = if j = k then d else ndW w j := getD_set h
theorem wy_set {l : List (List (List Parcel))} {a b x y n : Nat} {q : List Parcel} (h1 : l.length = n) (h2 : ∀ r ∈ l, r.length = n) (ha : a < n) (hb : b < n) : wyL (setL l a b q) x y = if x = a ∧ y = b then q else wyL l x y := by
  have hr : (l.getD a []).length = n := h2 _ (by rw [List.getD_eq_getElem?_getD, List.getElem?_eq_getElem (by omega)]; exact List.getElem_mem _)
  unfold wyL setL
  rw [getD_set (by omega)]
  by_cases hx : x = a
  · subst hx
    rw [if_pos rfl, getD_set (by omega)]
    by_cases hy : y = b
    · subst hy; rw [if_pos rfl, if_pos ⟨rfl, rfl⟩]
    · rw [if_neg hy, if_neg (fun k => hy k.2)]
  · rw [if_neg hx, if_neg (fun k => hx k.1)]
theorem setL_len {l : List (List (List Parcel))} {a b n : Nat} {q : List Parcel} (h1 : l.length = n) (h2 : ∀ r ∈ l, r.length = n) (ha : a < n) : (setL l a b q).length = n ∧ ∀ r ∈ setL l a b q, r.length = n := by
  have hr : (l.getD a []).length = n := h2 _ (by rw [List.getD_eq_getElem?_getD, List.getElem?_eq_getElem (by omega)]; exact List.getElem_mem _)
  unfold setL
  refine ⟨by rw [List.length_set]; exact h1, fun r hr' => ?_⟩
  rcases List.mem_or_eq_of_mem_set hr' with k | rfl
  · exact h2 r k
  · rw [List.length_set]; exact hr
theorem Bears.mono {n : Nat} {L : List Upd} {e e' : Node} {p : Parcel} (h : Bears n L e p) (hs : seesC e'.state.clock e.state.clock = true) : Bears n L e' p := by
  cases h with
  | whole h s => exact .whole h s
  | part K h k f c s l => exact .part K h k f c (seesC_trans hs s) l
theorem ParI.mono {n : Nat} {L : List Upd} {d d' e e' : Node} {p : Parcel} (h : ParI n L d e p) (h1 : seesC d'.state.clock d.state.clock = true) (h2 : seesC e'.state.clock e.state.clock = true) : ParI n L d' e' p := ⟨h.b.mono h2, h.w, seesC_trans h1 h.s⟩
/-- a node takes another one's place -/
theorem Inv.put {n : Nat} {L : List Upd} {w : World'} (I : Inv n L w) {k : Nat} (hk : k < n) {d : Node} (hd : NodeI n L k d) (hs : seesC d.state.clock (ndW w k).state.clock = true) (hkn : ∀ j, j < n → j ≠ k → seesC (ndW w j).state.clock (atK d.known j) = true) : Inv n L ⟨w.nodes.set k d, w.way⟩ := by
  have hl := I.len
  have hself : atK d.known k = d.state.clock := by have := hd.r.own; rw [hd.self] at this; exact atK_some (by simpa using this)
  have mono : ∀ j, j < n → seesC (ndW ⟨w.nodes.set k d, w.way⟩ j).state.clock (ndW w j).state.clock = true := fun j hj => by
    rw [nd_set (by omega)]; split
    · rename_i e; subst e; exact hs
    · exact seesC_refl _
  refine ⟨I.n1, I.n6, by rw [List.length_set]; exact hl, I.wl, I.ww, I.fit, fun i hi => ?_, fun i hi j hj => ?_, fun a ha b hb p hp => (I.way a ha b hb p hp).mono (mono a ha) (mono b hb)⟩
  · rw [nd_set (by omega)]; split
    · rename_i e; subst e; exact hd
    · exact I.node i hi
  · by_cases hik : i = k
    · subst hik
      rw [nd_set (k := i) (j := i) (by omega), if_pos rfl, nd_set (by omega)]
      split
      · rename_i e; subst e; rw [hself]; exact seesC_refl _
      · rename_i e; exact hkn j hj e
    · rw [nd_set (k := k) (j := i) (by omega), if_neg hik]
      exact seesC_trans (mono j hj) (I.known i hi j hj)
theorem Inv.drop {n : Nat} {L : List Upd} {w : World'} (I : Inv n L w) {a b : Nat} (ha : a < n) (hb : b < n) {q : List Parcel} (hq : ∀ p ∈ q, ParI n L (ndW w a) (ndW w b) p) : Inv n L ⟨w.nodes, setL w.way a b q⟩ := by
  obtain ⟨s1, s2⟩ := setL_len (b := b) (q := q) I.wl I.ww ha
  refine ⟨I.n1, I.n6, I.len, s1, s2, I.fit, I.node, I.known, fun x hx y hy p hp => ?_⟩
  rw [wy_set I.wl I.ww ha hb] at hp
  split at hp
  · rename_i e; obtain ⟨rfl, rfl⟩ := e; exact hq p hp
  · exact I.way x hx y hy p hp
theorem NodeI.prune {n : Nat} {L : List Upd} {i : Nat} {d : Node} (h : NodeI n L i d) : NodeI n L i (prunedN d) :=
  ⟨(pruned_right h.r).1, h.self, h.st, h.sub, h.own, fun u hu => h.logs u ((List.mem_filter.1 hu).1)⟩
/-- what comes is taken -/
theorem NodeI.take {n : Nat} {L : List Upd} {a b : Nat} {d e : Node} {p : Parcel} (hd : NodeI n L a d) (he : NodeI n L b e) (ne : a ≠ b) (han : a < n) (hp : ParI n L d e p) :
    ((TakeN e a p).2 = 0 ∨ (TakeN e a p).2 = 5) ∧ (e.log.length + p.updates.length ≤ 300 → (TakeN e a p).2 = 0) ∧
    ((TakeN e a p).2 = 0 → NodeI n L b (TakeN e a p).1 ∧ (TakeN e a p).1.state.clock = joinC e.state.clock p.clock ∧ (TakeN e a p).1.known = (e.known.set a (joinC (atK e.known a) p.clock)).set b (joinC e.state.clock p.clock)) := by
  have hself := he.self
  have ja : ((a : Int)).toNat = a := Int.toNat_natCast a
  have l1 := wrongC_ok hp.w; have l2 := wrongC_ok he.r.s.c
  -- the state behind any taken updates of the log
  have hP : ∀ {x : Node}, MidN x n → x.state = ofS n L x.state.clock → Sub n L x.state.clock → (∀ u ∈ x.log, u ∈ L) → x.self = e.self → x.known = e.known → ∀ {l : List Upd}, (∀ u ∈ l, u ∈ L) → (takesN x l).2 = 0 →
      MidN (takesN x l).1 n ∧ (takesN x l).1.state = ofS n L (takesN x l).1.state.clock ∧ Sub n L (takesN x l).1.state.clock ∧ (∀ u ∈ (takesN x l).1.log, u ∈ L) ∧ (takesN x l).1.self = e.self ∧ (takesN x l).1.known = e.known := fun {x} mx sx bx lx e1 e2 {l} hl ht => by
    obtain ⟨m, ⟨p1, p2, p3⟩, _, q1, q2, q3⟩ := takes_ind (n := n) (fun x => x.state = ofS n L x.state.clock ∧ Sub n L x.state.clock ∧ ∀ u ∈ x.log, u ∈ L) (fun x u hu mx hx hs _ => by
      obtain ⟨g1, g2⟩ := hx.2.1.step (hl u hu) hs
      rw [← hx.1] at g1
      refine ⟨?_, g2, fun v hv => ?_⟩
      · show applyS x.state u = ofS n L (applyS x.state u).clock
        rw [applyS_clock]; exact g1
      · rcases List.mem_append.1 hv with hv | hv
        · exact hx.2.2 v hv
        · simp at hv; subst hv; exact hl v hu) mx ⟨sx, bx, lx⟩ ht
    exact ⟨m, p1, p2, p3, q1.trans e1, q3.trans e2⟩
  have key : (p.whole = true → (JoinS e.state p.state).2 = 0) ∧ MidN (wholeN e p) n ∧ (wholeN e p).state = ofS n L (wholeN e p).state.clock ∧ Sub n L (wholeN e p).state.clock ∧ (∀ u ∈ (wholeN e p).log, u ∈ L) ∧ (wholeN e p).self = e.self ∧ (wholeN e p).known = e.known ∧ (∀ u ∈ p.updates, u ∈ L) ∧ (wholeN e p).log.length ≤ e.log.length ∧
      ∃ K, wrongC K n = 0 ∧ Fits n K p.updates ∧ seesC (wholeN e p).state.clock K = true ∧ joinC (wholeN e p).state.clock (foldC K p.updates) = joinC e.state.clock p.clock := by
    cases hp.b with
    | whole h s =>
      have hw : p.whole = true := by rw [h]
      have hst : p.state = ofS n L p.clock := by rw [h]
      have hu : p.updates = [] := by rw [h]
      have hj : JoinS e.state p.state = (ofS n L (joinC e.state.clock p.clock), 0) := by
        rw [hst]; conv => lhs; rw [he.st]
        rw [JoinS_of he.sub.p.right s.p.right, join_of he.sub.p s.p]
      have hjs := he.sub.join s
      have ew : wholeN e p = ⟨e.self, ofS n L (joinC e.state.clock p.clock), joinC e.base p.state.clock, lacksU e.log (joinC e.base p.state.clock), e.known⟩ := by
        unfold wholeN; rw [if_pos hw, hj]
      obtain ⟨m1, _⟩ := he.r.mid.whole (p := p) (fun _ => by rw [hj])
      have ec : (wholeN e p).state.clock = joinC e.state.clock p.clock := by rw [ew]; exact hjs.clock
      refine ⟨fun _ => by rw [hj], m1, by rw [ec]; rw [ew], by rw [ec]; exact hjs, fun u hu => ?_, by rw [ew], by rw [ew], by rw [hu]; simp, by rw [ew]; exact lacksU_len _ _, p.clock, hp.w, by rw [hu]; trivial, by rw [ec]; exact sees_joinr _ _, ?_⟩
      · rw [ew] at hu; exact he.logs u ((List.mem_filter.1 hu).1)
      · rw [ec, hu]
        exact joinC_sees (by rw [joinC_len]; show p.clock.length ≤ _; omega) (sees_joinr _ _)
    | part K h k f c s l =>
      have hw : p.whole = false := by rw [h]
      have ew : wholeN e p = e := by unfold wholeN; rw [if_neg (by rw [hw]; simp)]
      rw [ew]
      exact ⟨fun h => (by rw [hw] at h; cases h), he.r.mid, he.st, he.sub, he.logs, rfl, rfl, l, Nat.le_refl _, K, k, f, s, by rw [c]⟩
  obtain ⟨kj, km, ks, kb, klog, kself, kkn, kup, kll, K, kw, kf, kse, kc⟩ := key
  have hds : seesC (full n L) p.clock = true := seesC_trans hd.sub.le hp.s
  have fin : (takesN (wholeN e p) p.updates).2 = 0 → (takesN (wholeN e p) p.updates).1.state.clock = joinC e.state.clock p.clock → (TakeN e a p).2 = 0 ∧ NodeI n L b (TakeN e a p).1 ∧ (TakeN e a p).1.state.clock = joinC e.state.clock p.clock ∧ (TakeN e a p).1.known = (e.known.set a (joinC (atK e.known a) p.clock)).set b (joinC e.state.clock p.clock) := fun t tc => by
    obtain ⟨m, p1, p2, p3, q1, q3⟩ := hP km ks kb klog kself kkn kup t
    have hse : seesC (takesN (wholeN e p) p.updates).1.state.clock p.clock = true := by rw [tc]; exact sees_joinr _ _
    have hT := TakeN_of (p := p) he.r (from_ := a) (by omega) (by omega) (by rw [hself]; omega) hp.w kj t hse
    rw [hT]
    refine ⟨rfl, ⟨m.done (by omega) (by omega) hp.w hse, q1.trans hself, p1, p2, ?_, p3⟩, tc, ?_⟩
    · show atI (takesN (wholeN e p) p.updates).1.state.clock b = _
      rw [tc, joinC_at, he.own]
      have := seesC_iff.1 hds b
      omega
    · show ((takesN (wholeN e p) p.updates).1.known.set _ _).set _ _ = _
      rw [q3, q1, hself, tc, ja, Int.toNat_natCast]
  -- the error, if any, is that the log is too long
  have err : ∀ {l : List Upd} {x : Node} {K : List Int}, MidN x n → wrongC K n = 0 → Fits n K l → seesC x.state.clock K = true → ((takesN x l).2 = 0 ∧ (takesN x l).1.state.clock = joinC x.state.clock (foldC K l)) ∨ (takesN x l).2 = 5 := by
    intro l
    induction l with
    | nil =>
      intro x K mx hK _ hs
      have h1 := wrongC_ok mx.s.c; have h2 := wrongC_ok hK
      exact .inl ⟨rfl, (joinC_sees (by omega) hs).symm⟩
    | cons u l ih =>
      intro x K mx hK hf hs
      obtain ⟨h1, h2⟩ := hf
      have hbt := tick_ok hK h1
      unfold takesN
      cases hh : hasU x.state.clock u
      · have hk := step_up hK h1 mx.s.c hs hh
        by_cases hl : x.log.length = 300
        · right
          have hnot : ¬ (wrongU u (nOf x) = 0 ∧ hasC x.state.clock u.author (seqU u) = true) := fun k => by
            rw [has_seq mx.s.c h1.r, hh] at k; cases k.2
          have : takeN x u = (x, 5) := by unfold takeN; rw [if_neg hnot, if_pos hl]
          rw [this, if_pos (by simp)]
        · rw [take_new mx.s hk hl, if_neg (by simp)]
          obtain ⟨q1, q2⟩ := mx.took hk hl
          rcases ih q1 hbt h2 (sees_ticks hK h1 mx.s.c hk hs) with ⟨a, e⟩ | a
          · left
            refine ⟨a, ?_⟩
            rw [e]
            obtain ⟨w1, w2⟩ := fits_ok hbt h2
            have k1 := wrongC_ok w1; have k2 := wrongC_ok hK
            exact join_tick hK h1 mx.s.c hk w2 (by omega)
          · exact .inr a
      · rw [take_has mx.s h1.r hh, if_neg (by simp)]
        exact ih mx hbt h2 (sees_tick hK h1 mx.s.c hs hh)
  have good := fun (hl : e.log.length + p.updates.length ≤ 300) => takes_fits km kw kf kse (by omega)
  refine ⟨?_, fun hl => (fin (good hl).1 ((good hl).2.trans kc)).1, fun h => ?_⟩
  · rcases err km kw kf kse with ⟨t, tc⟩ | t
    · exact .inl (fin t (tc.trans kc)).1
    · right
      have hl : lenI e.known = n := he.r.k
      unfold TakeN
      rw [if_neg (fun k => k he.r.ok), if_neg (by rw [hl]; omega), if_neg (by rw [hself]; omega), if_neg (by rw [hl]; exact fun k => k hp.w), if_neg (fun k => k.2 (kj k.1)), if_pos (by rw [t]; simp), t]
  · have t := (TakeN_ok h).t
    rcases err km kw kf kse with ⟨_, tc⟩ | t5
    · exact (fin t (tc.trans kc)).2
    · rw [t] at t5; cases t5
/-- what is sent bears what it must -/
theorem NodeI.send {n : Nat} {L : List Upd} {a b : Nat} {d e : Node} (hd : NodeI n L a d) (he : NodeI n L b e) (ne : a ≠ b) (hb : b < n) (hk : seesC e.state.clock (atK d.known b) = true) : (SendN d b).2 = 0 ∧ ParI n L d e (SendN d b).1 ∧ (SendN d b).1.clock = d.state.clock := by
  have hself := hd.self
  rw [SendN_of hd.r (to := b) (by omega) (by omega) (by rw [hself]; omega), Int.toNat_natCast]
  have hkl := hd.r.k
  have hin : atK d.known b ∈ d.known := by rw [atK_lt (by omega)]; exact List.getElem_mem _
  obtain ⟨k1, k2⟩ := hd.r.ks _ hin
  refine ⟨rfl, ?_, ?_⟩
  · dsimp only
    split
    · exact ⟨.whole (by rw [← hd.st]) hd.sub, hd.r.s.c, seesC_refl _⟩
    · rename_i h
      have hs : seesC (atK d.known b) d.base = true := by cases h' : seesC (atK d.known b) d.base with
        | false => exact absurd h' h
        | true => rfl
      obtain ⟨f1, f2, f3⟩ := rebase hd.r.s hd.r.b hd.r.f hd.r.c k1 hs
      have l1 := wrongC_ok k1; have l2 := wrongC_ok hd.r.s.c
      refine ⟨.part (atK d.known b) rfl k1 f1 ?_ hk fun u hu => hd.logs u ((List.mem_filter.1 hu).1), hd.r.s.c, seesC_refl _⟩
      show foldC _ _ = d.state.clock
      rw [f2]; exact joinC_sees' (by omega) k2
  · dsimp only; split <;> rfl
end Go.Proofs.YtkjknlnhffmkkabGreat

namespace Go.Proofs.YtkjknlnhffmkkabGreat
set_option linter.unusedVariables false

structure Cell where
  key : Int
  items : List Int
deriving DecidableEq
structure Pair where
  key : Int
  sum : Int
deriving DecidableEq
structure View where
  regs : List Cell
  sets : List Cell
  counters : List Pair
deriving DecidableEq
def PairR : CR Pair := fun _ cs x => cs = [.int .i64 x.key, .int .i64 x.sum]
instance : GoodR PairR := ⟨fun _ _ _ _ _ h => h, fun _ _ _ h u hu => by
  cases h; simp only [List.mem_cons, List.not_mem_nil, or_false] at hu; rcases hu with h | h <;> subst h <;> rfl⟩
def CellR : CR Cell := fun rd cs x => ∃ a, cs = [.int .i64 x.key, a] ∧ SliceR 1 IntR rd a x.items
instance : GoodR CellR := ⟨fun _ _ _ _ hle ⟨a, e, h1⟩ => ⟨a, e, h1.mono GoodR.mono hle⟩, fun _ _ _ ⟨a, e, h1⟩ u hu => by
  obtain ⟨A1, c1, e1, _⟩ := h1.val
  subst e e1
  simp only [List.mem_cons, List.not_mem_nil, or_false] at hu
  rcases hu with h | h <;> subst h <;> rfl⟩
def ViewR : CR View := fun rd cs x => ∃ a b c, cs = [a, b, c] ∧ SliceR 2 CellR rd a x.regs ∧ SliceR 2 CellR rd b x.sets ∧ SliceR 2 PairR rd c x.counters
instance : GoodR ViewR := ⟨fun _ _ _ _ hle ⟨a, b, c, e, h1, h2, h3⟩ => ⟨a, b, c, e, h1.mono GoodR.mono hle, h2.mono GoodR.mono hle, h3.mono GoodR.mono hle⟩, fun _ _ _ ⟨a, b, c, e, h1, h2, h3⟩ u hu => by
  obtain ⟨A1, c1, e1, _⟩ := h1.val
  obtain ⟨A2, c2, e2, _⟩ := h2.val
  obtain ⟨A3, c3, e3, _⟩ := h3.val
  subst e e1 e2 e3
  simp only [List.mem_cons, List.not_mem_nil, or_false] at hu
  rcases hu with h | h | h <;> subst h <;> rfl⟩

def cellStep (set : Bool) (out : List Cell) (x : Live) : List Cell :=
  if x.set = set then match out.getLast? with
    | none => [⟨x.key, [x.item]⟩]
    | some c => if c.key = x.key then (if c.items.getLast? = some x.item then out else out.dropLast ++ [⟨c.key, c.items ++ [x.item]⟩]) else out ++ [⟨x.key, [x.item]⟩]
  else out
def cellsL (l : List Live) (set : Bool) : List Cell := l.foldl (cellStep set) []
section
variable {set : Bool} {out F : List Cell} {x : Live} {key : Int} {its : List Int} {y : Int}
theorem step_skip (h : x.set ≠ set) : cellStep set out x = out := by unfold cellStep; rw [if_neg h]
theorem step_first (h : x.set = set) : cellStep set [] x = [⟨x.key, [x.item]⟩] := by unfold cellStep; rw [if_pos h]; rfl
theorem step_new (h : x.set = set) (k : key ≠ x.key) : cellStep set (F ++ [⟨key, its⟩]) x = F ++ [⟨key, its⟩] ++ [⟨x.key, [x.item]⟩] := by
  unfold cellStep; rw [if_pos h, List.getLast?_concat]; dsimp only; rw [if_neg k]
theorem step_same (h : x.set = set) (k : key = x.key) (hy : its[its.length - 1]? = some y) (e : y = x.item) : cellStep set (F ++ [⟨key, its⟩]) x = F ++ [⟨key, its⟩] := by
  unfold cellStep; rw [if_pos h, List.getLast?_concat]; dsimp only
  rw [if_pos k, List.getLast?_eq_getElem?, hy, if_pos (by rw [e])]
theorem step_add (h : x.set = set) (k : key = x.key) (hy : its[its.length - 1]? = some y) (e : y ≠ x.item) : cellStep set (F ++ [⟨key, its⟩]) x = F ++ [⟨key, its ++ [x.item]⟩] := by
  unfold cellStep; rw [if_pos h, List.getLast?_concat]; dsimp only
  rw [if_pos k, List.getLast?_eq_getElem?, hy, if_neg (fun k => e (by injection k)), List.dropLast_concat]
end
theorem foldl_take {α β : Type} {f : β → α → β} {b : β} {l : List α} {k : Nat} {x : α} (h : l[k]? = some x) : (l.take (k + 1)).foldl f b = f ((l.take k).foldl f b) x := by
  rw [take_snoc h, List.foldl_append]; rfl
theorem cells_take {l : List Live} {set : Bool} {k : Nat} {x : Live} (h : l[k]? = some x) : cellsL (l.take (k + 1)) set = cellStep set (cellsL (l.take k) set) x := foldl_take h
/-- counters -/
def cntStep (out : List Pair) (t : Tally) : List Pair := match out.getLast? with
  | none => [⟨t.key, t.sum⟩]
  | some c => if c.key = t.key then out.dropLast ++ [⟨c.key, c.sum + t.sum⟩] else out ++ [⟨t.key, t.sum⟩]
def cntsL (l : List Tally) : List Pair := l.foldl cntStep []
section
variable {F : List Pair} {t : Tally} {key sum : Int}
theorem cnt_first : cntStep [] t = [⟨t.key, t.sum⟩] := rfl
theorem cnt_new (k : key ≠ t.key) : cntStep (F ++ [⟨key, sum⟩]) t = F ++ [⟨key, sum⟩] ++ [⟨t.key, t.sum⟩] := by
  unfold cntStep; rw [List.getLast?_concat]; dsimp only; rw [if_neg k]
theorem cnt_add (k : key = t.key) : cntStep (F ++ [⟨key, sum⟩]) t = F ++ [⟨key, sum + t.sum⟩] := by
  unfold cntStep; rw [List.getLast?_concat]; dsimp only; rw [if_pos k, List.dropLast_concat]
end
theorem cnts_take {l : List Tally} {k : Nat} {x : Tally} (h : l[k]? = some x) : cntsL (l.take (k + 1)) = cntStep (cntsL (l.take k)) x := foldl_take h
def zeroV : View := ⟨[], [], []⟩
def readS (s : State) : View := ⟨cellsL s.lives false, cellsL s.lives true, cntsL s.tallies⟩
def ReadS (s : State) : View × Int × Int := if (wrongS s (lenI s.clock)).1 ≠ 0 then (zeroV, wrongS s (lenI s.clock)) else (readS s, 0, 0)
theorem ReadS_1 {s : State} (h : (wrongS s (lenI s.clock)).1 ≠ 0) : ReadS s = (zeroV, wrongS s (lenI s.clock)) := by unfold ReadS; rw [if_pos h]
theorem ReadS_2 {s : State} (h : (wrongS s (lenI s.clock)).1 = 0) : ReadS s = (readS s, 0, 0) := by unfold ReadS; rw [if_neg (fun k => k h)]
end Go.Proofs.YtkjknlnhffmkkabGreat

namespace Go.Proofs.YtkjknlnhffmkkabGreat
set_option linter.unusedVariables false

theorem nodup_len {α : Type} [DecidableEq α] : ∀ {l m : List α}, l.Nodup → (∀ x ∈ l, x ∈ m) → l.length ≤ m.length
  | [], m, _, _ => Nat.zero_le _
  | x :: l, m, h, hs => by
    rw [List.nodup_cons] at h
    have hx := hs x (by simp)
    have := nodup_len (l := l) (m := m.erase x) h.2 fun y hy => (List.mem_erase_of_ne (fun e => by subst e; exact h.1 hy)).2 (hs y (by simp [hy]))
    rw [List.length_erase_of_mem hx] at this
    have : 0 < m.length := List.length_pos_of_mem hx
    simp only [List.length_cons]; omega
theorem NodeI.log_len {n : Nat} {L : List Upd} {i : Nat} {d : Node} (h : NodeI n L i d) : d.log.length ≤ L.length := nodup_len (log_nodup h.r.b h.r.f) h.logs
theorem ParI.upd_len {n : Nat} {L : List Upd} {d e : Node} {p : Parcel} (h : ParI n L d e p) : p.updates.length ≤ L.length := by
  cases h.b with
  | whole h s => rw [h]; simp
  | part K h k f c s l => exact nodup_len (log_nodup k f) l
theorem Inv.issue {n : Nat} {L : List Upd} {w : World'} (I : Inv n L w) {i : Nat} (hi : i < n) {u : Upd} (k : Issued (ndW w i) u n) : Inv n (L ++ [upN (ndW w i) u]) ⟨w.nodes.set i (IssueN (ndW w i) u).1, w.way⟩ := by
  have hn := I.node i hi
  have hl := I.len
  have h0 : wrongC (zs n) n = 0 := zero_ok I.n1 I.n6
  have ea : (upN (ndW w i) u).author = i := hn.self
  have eat : (upN (ndW w i) u).author.toNat = i := by rw [ea]; exact Int.toNat_natCast i
  have es : (upN (ndW w i) u).seen = (ndW w i).state.clock := rfl
  have hfw := fits_ok h0 I.fit
  have hf : Fits n (zs n) (L ++ [upN (ndW w i) u]) := fits_app.2 ⟨I.fit, ⟨k.s.r, by rw [eat, es, hn.own]; rfl, by rw [es]; exact hn.sub.le⟩, trivial⟩
  obtain ⟨fL, fu, _⟩ := fits_app.1 hf
  have more : ∀ {A : List Int}, Sub n L A → Sub n (L ++ [upN (ndW w i) u]) A ∧ ofS n (L ++ [upN (ndW w i) u]) A = ofS n L A := fun {A} hA => hA.more hf (by
    rw [eat, es, hn.own]; exact seesC_iff.1 hA.le i)
  have efull : ∀ j, atI (full n (L ++ [upN (ndW w i) u])) j = if j = i then atI (full n L) i + 1 else atI (full n L) j := fun j => by
    show atI (foldC (zs n) (L ++ [upN (ndW w i) u])) j = _
    rw [foldC_app]
    show atI (tickC (foldC (zs n) L) (upN (ndW w i) u).author) j = _
    rw [tick_at hfw.1 fu, eat]; rfl
  obtain ⟨r1, r2, r3, r4⟩ := k.right
  have e0 := k.e
  generalize hx : (IssueN (ndW w i) u).1 = x at *
  have ex : x = ⟨(ndW w i).self, applyS (ndW w i).state (upN (ndW w i) u), (ndW w i).base, (ndW w i).log ++ [upN (ndW w i) u], (ndW w i).known.set (ndW w i).self.toNat (applyS (ndW w i).state (upN (ndW w i) u)).clock⟩ := by rw [← hx, e0]
  have exs : x.state = applyS (ndW w i).state (upN (ndW w i) u) := by rw [ex]
  have exc : x.state.clock = tickC (ndW w i).state.clock (upN (ndW w i) u).author := by rw [exs, applyS_clock]
  obtain ⟨mi1, mi2⟩ := more hn.sub
  obtain ⟨g1, g2⟩ := mi1.step (u := upN (ndW w i) u) (by simp) k.s
  have hnode : NodeI n (L ++ [upN (ndW w i) u]) i x := by
    refine ⟨r1, r4.trans hn.self, ?_, by rw [exc]; exact g2, ?_, fun v hv => ?_⟩
    · rw [exc, ← g1, mi2, exs, ← hn.st]
    · rw [exc, tick_at hn.r.s.c k.s, eat, if_pos rfl, efull, if_pos rfl, hn.own]
    · rw [ex] at hv
      rcases List.mem_append.1 hv with hv | hv
      · exact List.mem_append_left _ (hn.logs v hv)
      · exact List.mem_append_right _ hv
  have mono : ∀ j, j < n → seesC (ndW ⟨w.nodes.set i x, w.way⟩ j).state.clock (ndW w j).state.clock = true := fun j hj => by
    rw [nd_set (by omega)]; split
    · rename_i e; subst e; exact r2
    · exact seesC_refl _
  refine ⟨I.n1, I.n6, by rw [List.length_set]; exact hl, I.wl, I.ww, hf, fun j hj => ?_, fun a ha b hb => ?_, fun a ha b hb p hp => ?_⟩
  · rw [nd_set (by omega)]; split
    · rename_i e; subst e; exact hnode
    · rename_i hji
      have hj' := I.node j hj
      obtain ⟨m1, m2⟩ := more hj'.sub
      exact ⟨hj'.r, hj'.self, by rw [m2]; exact hj'.st, m1, by rw [efull, if_neg hji]; exact hj'.own, fun v hv => List.mem_append_left _ (hj'.logs v hv)⟩
  · by_cases hai : a = i
    · subst hai
      rw [nd_set (k := a) (j := a) (by omega), if_pos rfl]
      have hkn : x.known = (ndW w a).known.set a x.state.clock := by
        have hs' : (ndW w a).self.toNat = a := by rw [hn.self]; exact Int.toNat_natCast a
        rw [ex]; dsimp only; rw [hs']
      have hkl : (ndW w a).known.length = n := by have := hn.r.k; omega
      rw [hkn]
      by_cases hba : b = a
      · subst hba
        rw [nd_set (k := b) (j := b) (by omega), if_pos rfl, atK_lt (by simpa using (by omega : b < (ndW w b).known.length))]
        simp only [List.getElem_set_self]; exact seesC_refl _
      · have : atK ((ndW w a).known.set a x.state.clock) b = atK (ndW w a).known b := by unfold atK; rw [getD_set (by omega), if_neg hba]
        rw [this]
        exact seesC_trans (mono b hb) (I.known a ha b hb)
    · rw [nd_set (k := i) (j := a) (by omega), if_neg hai]
      exact seesC_trans (mono b hb) (I.known a ha b hb)
  · have hp' := I.way a ha b hb p hp
    have hp'' : ParI n (L ++ [upN (ndW w i) u]) (ndW w a) (ndW w b) p := ⟨by
      cases hp'.b with
      | whole h s =>
        obtain ⟨m1, m2⟩ := more s
        exact .whole (by rw [m2]; exact h) m1
      | part K h k f c s l => exact .part K h k f c s fun v hv => List.mem_append_left _ (l v hv), hp'.w, hp'.s⟩
    exact hp''.mono (mono a ha) (mono b hb)
def newU (w : World') (d : Do) : List Upd := if d.kind = 1 ∧ (stepW w d).2 = 0 then [upN (ndW w d.n.toNat) d.update] else []
theorem Inv.issued {n : Nat} {L : List Upd} {w : World'} (I : Inv n L w) {i : Nat} (hi : i < n) {u : Upd} (h : (IssueN (ndW w i) u).2 = 0) : Issued (ndW w i) u n := by
  have := IssueN_ok h
  rwa [(I.node i hi).r.n] at this
/-- what comes of a delivery -/
theorem Inv.deliver {n : Nat} {L : List Upd} {w : World'} (I : Inv n L w) {a b : Nat} (ha : a < n) (hb : b < n) (ne : a ≠ b) {p : Parcel} (hp : p ∈ wyL w.way a b) (h : (TakeN (ndW w b) a p).2 = 0) : Inv n L ⟨w.nodes.set b (TakeN (ndW w b) a p).1, w.way⟩ ∧ (TakeN (ndW w b) a p).1.state.clock = joinC (ndW w b).state.clock p.clock := by
  have hpI := I.way a ha b hb p hp
  obtain ⟨_, _, k⟩ := (I.node a ha).take (I.node b hb) ne ha hpI
  obtain ⟨k1, k2, k3⟩ := k h
  refine ⟨I.put hb k1 (by rw [k2]; exact sees_joinl _ _) fun j hj hjb => ?_, k2⟩
  have hkl : (ndW w b).known.length = n := by have := (I.node b hb).r.k; omega
  rw [k3]
  unfold atK
  rw [getD_set (by rw [List.length_set]; omega), if_neg hjb, getD_set (by omega)]
  split
  · rename_i e; subst e
    show seesC _ (joinC (atK (ndW w b).known j) p.clock) = true
    rw [sees_join, I.known b hb j hj, hpI.s]; rfl
  · exact I.known b hb j hj
theorem wy_mem {w : World'} {a b : Nat} (h : (wyL w.way a b).length ≠ 0) : headP (wyL w.way a b) ∈ wyL w.way a b := by
  unfold headP
  cases hq : wyL w.way a b with
  | nil => rw [hq] at h; exact absurd rfl h
  | cons x q => simp
theorem pairW_ok {w : World'} {n : Nat} (hl : w.nodes.length = n) {a b : Int} (h : pairW w a b = 0) : a.toNat < n ∧ b.toNat < n ∧ a.toNat ≠ b.toNat ∧ a = (a.toNat : Int) ∧ b = (b.toNat : Int) := by
  unfold pairW lenI at h
  split at h
  · cases h
  · split at h
    · cases h
    · omega
theorem Inv.step {n : Nat} {L : List Upd} {w : World'} (I : Inv n L w) (d : Do) : Inv n (L ++ newU w d) (stepW w d).1 := by
  have hl := I.len
  unfold newU
  by_cases h1 : d.kind = 1 ∧ (stepW w d).2 = 0
  · rw [if_pos h1]
    obtain ⟨h1, h2⟩ := h1
    unfold stepW at h2 ⊢
    rw [if_pos (.inl h1)] at h2 ⊢
    split at h2
    · cases h2
    · rename_i h3
      have h3' := h3
      unfold lenI at h3'
      rw [if_neg h3, if_neg (by omega)]
      rw [if_neg (by omega)] at h2
      unfold putW at h2 ⊢
      split at h2
      · rename_i h4
        rw [if_pos h4]
        exact I.issue (by omega) (I.issued (by omega) h4)
      · rename_i h4; exact absurd h2 h4
  · rw [if_neg h1, List.append_nil]
    unfold stepW at h1 ⊢
    split
    · rename_i hk
      split
      · exact I
      · rename_i h3
        have h3' := h3
        unfold lenI at h3'
        split
        · rename_i h5
          unfold putW
          rw [PruneN_of (I.node _ (by omega)).r, if_pos rfl]
          exact I.put (by omega) (I.node _ (by omega)).prune (seesC_refl _) fun j hj _ => I.known _ (by omega) j hj
        · rename_i h5
          have hk1 : d.kind = 1 := by omega
          rw [if_pos hk, if_neg h3, if_neg h5] at h1
          unfold putW at h1 ⊢
          split
          · rename_i h4; rw [if_pos h4] at h1; exact absurd ⟨hk1, rfl⟩ h1
          · exact I
    · split
      · split
        · exact I
        · rename_i hp
          obtain ⟨pa, pb, pn, _, _⟩ := pairW_ok hl (Classical.not_not.1 hp)
          split
          · unfold sendW
            split
            · exact I
            · split
              · obtain ⟨_, s2, _⟩ := (I.node _ pa).send (I.node _ pb) pn pb (I.known _ pa _ pb)
                refine I.drop pa pb fun p hp => ?_
                rcases List.mem_append.1 hp with hp | hp
                · exact I.way _ pa _ pb p hp
                · rw [List.mem_singleton] at hp; subst hp; exact s2
              · exact I
          · unfold nextW
            split
            · exact I
            · rename_i hz
              split
              · exact I.drop pa pb fun p hp => I.way _ pa _ pb p (List.mem_of_mem_drop hp)
              · unfold putW
                split
                · rename_i ht
                  obtain ⟨J, _⟩ := I.deliver pa pb pn (wy_mem hz) ht
                  exact J.drop pa pb fun p hp => J.way _ pa _ pb p (List.mem_of_mem_drop hp)
                · exact I.drop pa pb fun p hp => I.way _ pa _ pb p (List.mem_of_mem_drop hp)
      · exact I
def runL : World' → List Do → List Upd
  | _, [] => []
  | w, d :: l => newU w d ++ runL (stepW w d).1 l
theorem Inv.run {n : Nat} : ∀ {l : List Do} {L : List Upd} {w : World'}, Inv n L w → Inv n (L ++ runL w l) (runW w l).1
  | [], L, w, I => by simpa [runL, runW] using I
  | d :: l, L, w, I => by
    have := (I.step d).run (l := l)
    rw [List.append_assoc] at this
    exact this
theorem runL_len : ∀ (l : List Do) (w : World'), (runL w l).length ≤ l.length
  | [], w => Nat.le_refl _
  | d :: l, w => by
    have := runL_len l (stepW w d).1
    have h : (newU w d).length ≤ 1 := by unfold newU; split <;> simp
    show (newU w d ++ runL _ l).length ≤ l.length + 1
    rw [List.length_append]; omega
theorem runL_app : ∀ (l m : List Do) (w : World'), runL w (l ++ m) = runL w l ++ runL (runW w l).1 m
  | [], m, w => rfl
  | d :: l, m, w => by
    show newU w d ++ runL _ (l ++ m) = (newU w d ++ runL _ l) ++ _
    rw [runL_app l m, List.append_assoc]; rfl
theorem startG_nat {n : Nat} (h6 : n ≤ 6) : startG n = startS n := by
  unfold startG startS
  have : (min (max (n : Int) 0) 6).toNat = n := by omega
  rw [this]
theorem start_inv {n : Nat} (h1 : 1 ≤ n) (h6 : n ≤ 6) : Inv n [] (startW n) := by
  have h0 : wrongC (zs n) n = 0 := zero_ok h1 h6
  have hnd : ∀ i, i < n → ndW (startW n) i = startN i n := fun i hi => by
    unfold ndW startW
    rw [List.getD_eq_getElem?_getD, List.getElem?_map, List.getElem?_range hi]; rfl
  have hst : ∀ i : Nat, (startN i n).state = startS n := fun i => by unfold startN; dsimp only; exact startG_nat h6
  have hcl : ∀ i : Nat, (startN i n).state.clock = zs n := fun i => by rw [hst]; rfl
  have hsub : Sub n [] (zs n) := ⟨⟨h1, h6, trivial, h0, fun u hu => by cases hu⟩, seesC_refl _⟩
  have hz : (n : Int).toNat = n := Int.toNat_natCast n
  have hkn : ∀ i j : Nat, j < n → atK (startN i n).known j = zs n := fun i j hj => by
    unfold startN atK
    dsimp only
    rw [hz, List.getD_eq_getElem?_getD, List.getElem?_replicate, if_pos hj]; rfl
  refine ⟨h1, h6, by simp [startW], by simp [startW], fun r hr => ?_, trivial, fun i hi => ?_, fun i hi j hj => ?_, fun a ha b hb p hp => ?_⟩
  · unfold startW at hr; simp at hr; rw [hr.2]; simp
  · rw [hnd i hi]
    refine ⟨⟨by rw [hst]; exact start_right h1 h6, by show 0 ≤ (i : Int); omega, by show (i : Int) < n; omega, by show wrongC (List.replicate (n : Int).toNat 0) n = 0; rw [hz]; exact h0, trivial, by show (0 : Nat) ≤ 300; omega, by rw [hcl]; show List.replicate (n : Int).toNat 0 = zs n; rw [hz]; rfl, by show ((List.replicate (n : Int).toNat _).length : Int) = n; simp, fun k hk => ?_, ?_⟩, rfl, ?_, by rw [hcl]; exact hsub, by rw [hcl]; rfl, fun u hu => by cases hu⟩
    · have : k = zs n := by
        unfold startN at hk; dsimp only at hk; rw [hz] at hk; exact (List.mem_replicate.1 hk).2
      rw [this, hcl]; exact ⟨h0, seesC_refl _⟩
    · rw [hcl]
      show (List.replicate (n : Int).toNat _)[(i : Int).toNat]? = _
      rw [hz, Int.toNat_natCast, List.getElem?_replicate, if_pos hi]; rfl
    · rw [hcl, hst]; rfl
  · rw [hnd i hi, hnd j hj, hkn i j hj, hcl]; exact seesC_refl _
  · unfold wyL startW at hp
    simp only [List.getD_eq_getElem?_getD, List.getElem?_replicate, if_pos ha, Option.getD_some, if_pos hb] at hp
    cases hp
theorem PlayW_of {n : Nat} {l : List Do} (h1 : 1 ≤ n) (h6 : n ≤ 6) (hl : l.length ≤ 150) : PlayW n l = ((runW (startW n) l).1, (runW (startW n) l).2, 0) := by
  unfold PlayW
  rw [if_neg (by omega), Int.toNat_natCast]
end Go.Proofs.YtkjknlnhffmkkabGreat

namespace Go.Proofs.YtkjknlnhffmkkabGreat
set_option linter.unusedVariables false

/-! ## without prunings -/
theorem newU_no {w : World'} {d : Do} (h : d.kind ≠ 1) : newU w d = [] := by unfold newU; rw [if_neg (fun k => h k.1)]
theorem putW_err (w : World') (k : Nat) (r : Node × Int) : (putW w k r).2 = r.2 := by
  unfold putW
  split
  · rename_i k; exact k.symm
  · rfl
def tellD (a b : Nat) : List Do := [⟨2, a, b, u0⟩, ⟨3, a, b, u0⟩]
theorem pairW_of {w : World'} {n a b : Nat} (hl : w.nodes.length = n) (ha : a < n) (hb : b < n) (ne : a ≠ b) : pairW w a b = 0 := by
  unfold pairW lenI; rw [if_neg (by omega), if_neg (by omega)]
structure Told (n : Nat) (L : List Upd) (a b : Nat) (w w' : World') : Prop where
  I : Inv n L w'
  c : ∀ i, i < n → (ndW w' i).state.clock = if i = b then joinC (ndW w b).state.clock (ndW w a).state.clock else (ndW w i).state.clock
  k : ∀ i, i < n → (ndW w' i).known = if i = b then ((ndW w b).known.set a (joinC (atK (ndW w b).known a) (ndW w a).state.clock)).set b (joinC (ndW w b).state.clock (ndW w a).state.clock) else (ndW w i).known
  q : ∀ x, x < n → ∀ y, y < n → wyL w'.way x y = wyL w.way x y
theorem tell_ok {n : Nat} {L : List Upd} {w : World'} (I : Inv n L w) (hL : L.length ≤ 150) {a b : Nat} (ha : a < n) (hb : b < n) (ne : a ≠ b) (hq : wyL w.way a b = []) : (runW w (tellD a b)).2 = [0, 0] ∧ runL w (tellD a b) = [] ∧ Told n L a b w (runW w (tellD a b)).1 := by
  have hl := I.len
  obtain ⟨s1, s2, s3⟩ := (I.node a ha).send (I.node b hb) ne hb (I.known a ha b hb)
  have e1 : stepW w ⟨2, a, b, u0⟩ = (⟨w.nodes, setL w.way a b [(SendN (ndW w a) b).1]⟩, 0) := by
    unfold stepW
    dsimp only
    rw [if_neg (by omega), if_pos (by omega), pairW_of hl ha hb ne, if_neg (by simp), if_pos rfl, Int.toNat_natCast, Int.toNat_natCast]
    unfold sendW
    rw [hq, if_neg (by simp), if_pos s1]; rfl
  generalize hp : (SendN (ndW w a) b).1 = p at *
  have I1 : Inv n L ⟨w.nodes, setL w.way a b [p]⟩ := I.drop ha hb fun x hx => by simp at hx; subst hx; exact s2
  have hq1 : wyL (setL w.way a b [p]) a b = [p] := by rw [wy_set I.wl I.ww ha hb, if_pos ⟨rfl, rfl⟩]
  have t0 : (TakeN (ndW w b) a p).2 = 0 := by
    refine ((I.node a ha).take (I.node b hb) ne ha s2).2.1 ?_
    have := (I.node b hb).log_len; have := s2.upd_len; omega
  obtain ⟨_, t2, t3⟩ := ((I.node a ha).take (I.node b hb) ne ha s2).2.2 t0
  have e2 : stepW ⟨w.nodes, setL w.way a b [p]⟩ ⟨3, a, b, u0⟩ = (⟨w.nodes.set b (TakeN (ndW w b) a p).1, setL (setL w.way a b [p]) a b []⟩, 0) := by
    unfold stepW
    dsimp only
    rw [if_neg (by omega), if_pos (by omega), pairW_of (w := ⟨w.nodes, setL w.way a b [p]⟩) hl ha hb ne, if_neg (by simp), if_neg (by omega), Int.toNat_natCast, Int.toNat_natCast]
    unfold nextW
    dsimp only
    rw [hq1, if_neg (by simp), if_neg (by simp)]
    show (dropW (putW _ b (TakeN (ndW w b) a p)).1 a b, (TakeN (ndW w b) a p).2) = _
    unfold putW
    rw [if_pos t0, t0]
    unfold dropW
    dsimp only
    rw [hq1]; rfl
  have er : runW w (tellD a b) = ((stepW (stepW w ⟨2, a, b, u0⟩).1 ⟨3, a, b, u0⟩).1, [(stepW w ⟨2, a, b, u0⟩).2, (stepW (stepW w ⟨2, a, b, u0⟩).1 ⟨3, a, b, u0⟩).2]) := rfl
  have I2 := I.run (l := tellD a b)
  have en : runL w (tellD a b) = [] := by
    show newU w _ ++ (newU _ _ ++ []) = []
    rw [newU_no (by simp), newU_no (by simp)]; rfl
  rw [en, List.append_nil] at I2
  rw [er, e1, e2] at I2 ⊢
  refine ⟨rfl, en, I2, fun i hi => ?_, fun i hi => ?_, fun x hx y hy => ?_⟩
  · show (ndW ⟨w.nodes.set b _, _⟩ i).state.clock = _
    rw [nd_set (by omega)]
    split
    · rw [t2, s3]
    · rfl
  · show (ndW ⟨w.nodes.set b _, _⟩ i).known = _
    rw [nd_set (by omega)]
    split
    · rw [t3, s3]
    · rfl
  · show wyL (setL (setL w.way a b [p]) a b []) x y = _
    obtain ⟨g1, g2⟩ := setL_len (b := b) (q := [p]) I.wl I.ww ha
    rw [wy_set g1 g2 ha hb, wy_set I.wl I.ww ha hb]
    split
    · rename_i e; obtain ⟨rfl, rfl⟩ := e; exact hq.symm
    · rfl
def Empty' (n : Nat) (w : World') : Prop := ∀ x, x < n → ∀ y, y < n → x ≠ y → wyL w.way x y = []
def tells (l : List (Nat × Nat)) : List Do := l.flatMap fun p => tellD p.1 p.2
def PairsOk (n : Nat) (l : List (Nat × Nat)) : Prop := ∀ p ∈ l, p.1 < n ∧ p.2 < n ∧ p.1 ≠ p.2
/-- clocks behind many tells -/
def tellC (C : Nat → List Int) (a b : Nat) : Nat → List Int := fun i => if i = b then joinC (C b) (C a) else C i
def tellsC (C : Nat → List Int) (l : List (Nat × Nat)) : Nat → List Int := l.foldl (fun C p => tellC C p.1 p.2) C
def clkW (w : World') (i : Nat) : List Int := (ndW w i).state.clock
theorem tellsC_congr {n : Nat} : ∀ {l : List (Nat × Nat)} {C D : Nat → List Int}, PairsOk n l → (∀ i, i < n → C i = D i) → ∀ i, i < n → tellsC C l i = tellsC D l i
  | [], C, D, _, h, i, hi => h i hi
  | p :: l, C, D, hp, h, i, hi => by
    obtain ⟨h1, h2, _⟩ := hp p (by simp)
    refine tellsC_congr (l := l) (C := tellC C p.1 p.2) (D := tellC D p.1 p.2) (fun q hq => hp q (by simp [hq])) (fun j hj => ?_) i hi
    unfold tellC
    rw [h _ h1, h _ h2, h _ hj]
theorem tells_ok {n : Nat} {L : List Upd} : ∀ {l : List (Nat × Nat)} {w : World'}, Inv n L w → L.length ≤ 150 → Empty' n w → PairsOk n l → (∀ e ∈ (runW w (tells l)).2, e = 0) ∧ runL w (tells l) = [] ∧ Inv n L (runW w (tells l)).1 ∧ Empty' n (runW w (tells l)).1 ∧ ∀ i, i < n → clkW (runW w (tells l)).1 i = tellsC (clkW w) l i
  | [], w, I, _, hE, _ => ⟨by simp [tells, runW], rfl, I, hE, fun i hi => rfl⟩
  | p :: l, w, I, hL, hE, hp => by
    obtain ⟨h1, h2, h3⟩ := hp p (by simp)
    obtain ⟨t1, t2, t3⟩ := tell_ok I hL h1 h2 h3 (hE _ h1 _ h2 h3)
    have et : tells (p :: l) = tellD p.1 p.2 ++ tells l := rfl
    have hE' : Empty' n (runW w (tellD p.1 p.2)).1 := fun x hx y hy hxy => by rw [t3.q x hx y hy]; exact hE x hx y hy hxy
    obtain ⟨a1, a2, a3, a4, a5⟩ := tells_ok (l := l) t3.I hL hE' fun q hq => hp q (by simp [hq])
    rw [et, runW_app, runL_app, t1, t2, a2]
    refine ⟨fun e he => ?_, rfl, a3, a4, fun i hi => ?_⟩
    · rcases List.mem_append.1 he with he | he
      · simp at he; exact he
      · exact a1 e he
    · rw [a5 i hi]
      exact tellsC_congr (fun q hq => hp q (by simp [hq])) (fun j hj => t3.c j hj) i hi
end Go.Proofs.YtkjknlnhffmkkabGreat

namespace Go.Proofs.YtkjknlnhffmkkabGreat
set_option linter.unusedVariables false

def rowPs (n a : Nat) : List (Nat × Nat) := ((List.range n).filter fun b => decide (a ≠ b)).map fun b => (a, b)
def roundPs (n : Nat) : List (Nat × Nat) := (List.range n).flatMap (rowPs n)
theorem roundPs_mem {n a b : Nat} : (a, b) ∈ roundPs n ↔ a < n ∧ b < n ∧ a ≠ b := by
  unfold roundPs rowPs
  simp only [List.mem_flatMap, List.mem_map, List.mem_filter, List.mem_range, Prod.mk.injEq, decide_eq_true_eq]
  constructor
  · rintro ⟨a', h1, b', ⟨h2, h3⟩, rfl, rfl⟩; exact ⟨h1, h2, h3⟩
  · rintro ⟨h1, h2, h3⟩; exact ⟨a, h1, b, ⟨h2, h3⟩, rfl, rfl⟩
def allPs (n : Nat) : List (Nat × Nat) := (List.range n).flatMap fun a => (List.range n).map fun b => (a, b)
theorem allPs_mem {n a b : Nat} : (a, b) ∈ allPs n ↔ a < n ∧ b < n := by
  unfold allPs
  simp only [List.mem_flatMap, List.mem_map, List.mem_range, Prod.mk.injEq]
  constructor
  · rintro ⟨a', h1, b', h2, rfl, rfl⟩; exact ⟨h1, h2⟩
  · rintro ⟨h1, h2⟩; exact ⟨a, h1, b, h2, rfl, rfl⟩
theorem allPs_nodup (n : Nat) : (allPs n).Nodup := by
  unfold allPs
  rw [List.Nodup, List.pairwise_flatMap]
  refine ⟨fun a _ => ?_, ?_⟩
  · rw [List.pairwise_map]
    exact (List.nodup_range (n := n)).imp fun h e => h (congrArg Prod.snd e)
  · refine (List.nodup_range (n := n)).imp fun {a b} h x hx y hy e => ?_
    simp only [List.mem_map] at hx hy
    obtain ⟨_, _, rfl⟩ := hx
    obtain ⟨_, _, rfl⟩ := hy
    exact h (congrArg Prod.fst e)
end Go.Proofs.YtkjknlnhffmkkabGreat

namespace Go.Proofs.YtkjknlnhffmkkabGreat
set_option linter.unusedVariables false

def ofC (l : List Cell) (key : Int) : List Int := match l.find? fun c => decide (c.key = key) with | some c => c.items | none => []
/-- neighbours that are the same once -/
def ddStep (o : List Int) (x : Int) : List Int := if o.getLast? = some x then o else o ++ [x]
def ddL (l : List Int) : List Int := l.foldl ddStep []
def hitL (set : Bool) (key : Int) (x : Live) : Bool := decide (x.set = set) && decide (x.key = key)
def itemsL (l : List Live) (set : Bool) (key : Int) : List Int := (l.filter (hitL set key)).map (·.item)
theorem ddL_snoc (l : List Int) (x : Int) : ddL (l ++ [x]) = ddStep (ddL l) x := by unfold ddL; rw [List.foldl_append]; rfl
theorem ddStep_mem {o : List Int} {x y : Int} : y ∈ ddStep o x ↔ y ∈ o ∨ y = x := by
  unfold ddStep; split
  · rename_i h
    constructor
    · exact .inl
    · rintro (h2 | rfl)
      · exact h2
      · exact List.mem_of_getLast? h
  · simp
theorem dd_aux {y : Int} : ∀ (l o : List Int), y ∈ l.foldl ddStep o ↔ y ∈ o ∨ y ∈ l
  | [], o => by simp
  | x :: l, o => by rw [List.foldl_cons, dd_aux l, ddStep_mem, List.mem_cons, or_assoc]
theorem dd_mem {y : Int} {l : List Int} : y ∈ ddL l ↔ y ∈ l := by unfold ddL; rw [dd_aux]; simp
theorem dd_ne {l : List Int} (h : l ≠ []) : ddL l ≠ [] := by
  cases l with
  | nil => exact absurd rfl h
  | cons x l => intro e; have := (dd_mem (y := x) (l := x :: l)).2 (by simp); rw [e] at this; cases this
theorem itemsL_snoc_hit {l : List Live} {x : Live} {set : Bool} {key : Int} (h : hitL set key x = true) : itemsL (l ++ [x]) set key = itemsL l set key ++ [x.item] := by unfold itemsL; rw [List.filter_append]; simp [h]
theorem itemsL_snoc_no {l : List Live} {x : Live} {set : Bool} {key : Int} (h : hitL set key x = false) : itemsL (l ++ [x]) set key = itemsL l set key := by unfold itemsL; rw [List.filter_append]; simp [h]
structure CellsOk (l : List Live) (set : Bool) (cs : List Cell) : Prop where
  of : ∀ key, ofC cs key = ddL (itemsL l set key)
  inc : cs.Pairwise fun a b => a.key < b.key
  src : ∀ c ∈ cs, c.items ≠ [] ∧ ∃ x ∈ l, x.set = set ∧ x.key = c.key
theorem ofC_app {F : List Cell} {c : Cell} {key : Int} (h : ∀ a ∈ F, a.key ≠ key) : ofC (F ++ [c]) key = if c.key = key then c.items else [] := by
  unfold ofC
  rw [List.find?_append, List.find?_eq_none.2 (fun a ha => by simpa using h a ha)]
  by_cases e : c.key = key
  · simp [e]
  · simp [e]
theorem ofC_app2 {F : List Cell} {c : Cell} {key : Int} (h : c.key ≠ key) : ofC (F ++ [c]) key = ofC F key := by
  unfold ofC
  rw [List.find?_append]
  cases hf : F.find? fun c => decide (c.key = key) with
  | some a => simp
  | none => simp [h]
def KeysUp (l : List Live) : Prop := l.Pairwise fun a b => a.set = b.set → a.key ≤ b.key
theorem cells_ok {set : Bool} : ∀ (l p : List Live), KeysUp (p ++ l) → CellsOk p set (cellsL p set) → CellsOk (p ++ l) set (cellsL (p ++ l) set)
  | [], p, hs, h => by simpa using h
  | x :: l, p, hs, h => by
    have e : p ++ x :: l = (p ++ [x]) ++ l := by simp
    rw [e] at hs ⊢
    refine cells_ok l (p ++ [x]) hs ?_
    have hup : ∀ a ∈ p, a.set = x.set → a.key ≤ x.key := fun a ha => by
      unfold KeysUp at hs
      rw [List.pairwise_append, List.pairwise_append] at hs
      exact hs.1.2.2 a ha x (by simp)
    have ec : cellsL (p ++ [x]) set = cellStep set (cellsL p set) x := by unfold cellsL; rw [List.foldl_append]; rfl
    rw [ec]
    obtain ⟨h1, h2, h3⟩ := h
    have src' : ∀ c ∈ cellsL p set, c.items ≠ [] ∧ ∃ y ∈ p ++ [x], y.set = set ∧ y.key = c.key := fun c hc => by
      obtain ⟨a, y, b, d⟩ := h3 c hc
      exact ⟨a, y, by simp [b], d⟩
    by_cases hset : x.set = set
    · rcases List.eq_nil_or_concat (cellsL p set) with hnil | ⟨F, c, hcs⟩
      · rw [hnil, step_first hset]
        refine ⟨fun key => ?_, by simp, fun c hc => ?_⟩
        · have hn := h1 key
          rw [hnil] at hn
          have hn : ddL (itemsL p set key) = [] := hn.symm
          have hn' : itemsL p set key = [] := Classical.byContradiction fun k => dd_ne k hn
          by_cases hk : x.key = key
          · rw [itemsL_snoc_hit (by unfold hitL; simp [hset, hk]), hn']
            unfold ofC; simp [hk, ddL, ddStep]
          · rw [itemsL_snoc_no (by unfold hitL; simp [hk]), hn']
            unfold ofC; simp [hk, ddL]
        · rw [List.mem_singleton] at hc; subst hc; exact ⟨by simp, x, by simp, hset, rfl⟩
      · obtain ⟨key0, its⟩ := c
        rw [List.concat_eq_append] at hcs
        rw [hcs] at h1 h2 h3 src' ⊢
        rw [List.pairwise_append] at h2
        have hF : ∀ a ∈ F, a.key < key0 := fun a ha => h2.2.2 a ha ⟨key0, its⟩ (by simp)
        obtain ⟨hne, y0, hy0, hys, hyk⟩ := h3 ⟨key0, its⟩ (by simp)
        have hle : key0 ≤ x.key := by have := hup y0 hy0 (by rw [hys, hset]); dsimp only at hyk; omega
        obtain ⟨y, hy⟩ : ∃ y, its[its.length - 1]? = some y := by
          have : 0 < its.length := List.length_pos_iff.2 hne
          exact ⟨its[its.length - 1], List.getElem?_eq_getElem (by omega)⟩
        by_cases hk : key0 = x.key
        · have oldof : ddL (itemsL p set key0) = its := by
            rw [← h1 key0, ofC_app (fun a ha => by have := hF a ha; omega)]; simp
          have key_step : ∀ its', its' = ddStep its x.item → CellsOk (p ++ [x]) set (F ++ [⟨key0, its'⟩]) := fun its' hi => by
            refine ⟨fun key => ?_, ?_, fun c hc => ?_⟩
            · by_cases hkk : x.key = key
              · rw [itemsL_snoc_hit (by unfold hitL; simp [hset, hkk]), ddL_snoc, ofC_app (fun a ha => by have := hF a ha; omega), if_pos (show key0 = key by omega)]
                rw [hi, ← oldof]; rw [show key = key0 by omega]
              · rw [itemsL_snoc_no (by unfold hitL; simp [hkk]), ← h1 key, ofC_app2 (by show key0 ≠ key; omega), ofC_app2 (by show key0 ≠ key; omega)]
            · rw [List.pairwise_append]
              exact ⟨h2.1, by simp, fun a ha b hb => by rw [List.mem_singleton] at hb; subst hb; exact hF a ha⟩
            · rcases List.mem_append.1 hc with hc | hc
              · exact src' c (by simp [hc])
              · rw [List.mem_singleton] at hc; subst hc
                refine ⟨?_, x, by simp, hset, hk.symm⟩
                rw [hi]; intro e
                have := (ddStep_mem (o := its) (x := x.item) (y := x.item)).2 (.inr rfl)
                dsimp only at e
                rw [e] at this; cases this
          by_cases hi : y = x.item
          · rw [step_same hset hk hy hi]
            exact key_step its (by unfold ddStep; rw [List.getLast?_eq_getElem?, hy, if_pos (by rw [hi])])
          · rw [step_add hset hk hy hi]
            exact key_step _ (by unfold ddStep; rw [List.getLast?_eq_getElem?, hy, if_neg (fun e => hi (by injection e))])
        · rw [step_new hset hk]
          have hlt : ∀ a ∈ F ++ [(⟨key0, its⟩ : Cell)], a.key < x.key := fun a ha => by
            rcases List.mem_append.1 ha with ha | ha
            · have := hF a ha; omega
            · rw [List.mem_singleton] at ha; subst ha; show key0 < x.key; omega
          refine ⟨fun key => ?_, ?_, fun c hc => ?_⟩
          · by_cases hkk : x.key = key
            · rw [itemsL_snoc_hit (by unfold hitL; simp [hset, hkk]), ddL_snoc, ← h1 key, ofC_app (fun a ha => by have := hlt a ha; omega), if_pos hkk]
              have : ofC (F ++ [(⟨key0, its⟩ : Cell)]) key = [] := by
                rw [ofC_app (fun a ha => by have := hF a ha; omega), if_neg (by show ¬ key0 = key; omega)]
              rw [this]; simp [ddStep]
            · rw [itemsL_snoc_no (by unfold hitL; simp [hkk]), ofC_app2 (by exact hkk), h1 key]
          · rw [List.pairwise_append]
            exact ⟨by rw [List.pairwise_append]; exact h2, by simp, fun a ha b hb => by rw [List.mem_singleton] at hb; subst hb; exact hlt a ha⟩
          · rcases List.mem_append.1 hc with hc | hc
            · exact src' c hc
            · rw [List.mem_singleton] at hc; subst hc; exact ⟨by simp, x, by simp, hset, rfl⟩
    · rw [step_skip hset]
      exact ⟨fun key => by rw [itemsL_snoc_no (by unfold hitL; simp [hset]), h1 key], h2, src'⟩
theorem sorted_up {l : List Live} (h : SortedL l) : KeysUp l := h.imp fun {a b} h e => by
  rw [ordL_code] at h
  unfold codeL at h
  simp only [lexI_cons] at h
  rw [e] at h
  rcases h with h | ⟨_, h | ⟨h, _⟩⟩
  · omega
  · omega
  · omega
theorem of_cells {l : List Live} {set : Bool} {key : Int} (h : SortedL l) : ofC (cellsL l set) key = ddL (itemsL l set key) :=
  (cells_ok (set := set) l [] (sorted_up h) ⟨fun key => rfl, .nil, by simp [cellsL]⟩).of key
end Go.Proofs.YtkjknlnhffmkkabGreat

namespace Go.Proofs.YtkjknlnhffmkkabGreat
set_option linter.unusedVariables false

theorem cntU_le (j : Nat) : ∀ l : List Upd, 0 ≤ cntU j l ∧ cntU j l ≤ l.length
  | [] => by simp [cntU]
  | u :: l => by
    have := cntU_le j l
    simp only [cntU, List.length_cons]
    split <;> omega
theorem full_le {n : Nat} {L : List Upd} (h0 : wrongC (zs n) n = 0) (h : Fits n (zs n) L) (j : Nat) : atI (full n L) j ≤ L.length := by
  have h2 := logC_at L (zs n) 0 h0 (by rw [fits_log h0 h]) j
  rw [fits_log h0 h] at h2
  have h3 := (cntU_le j L).2
  have z : atI (zs n) j = 0 := zero_at n j
  dsimp only at h2
  show atI (foldC (zs n) L) j ≤ _
  omega
def issueD (i : Nat) (kind key item : Int) : Do := ⟨1, i, 0, ⟨0, [], kind, key, item⟩⟩
structure Fine (kind key item : Int) : Prop where
  k0 : 1 ≤ kind
  k1 : kind ≤ 5
  y0 : 0 ≤ key
  y1 : key ≤ 15
  i0 : -1000 ≤ item
  i1 : item ≤ 1000
  f : kind = 2 → item = 0
theorem issue_ok {n : Nat} {L : List Upd} {w : World'} (I : Inv n L w) (hL : L.length ≤ 150) {i : Nat} (hi : i < n) {kind key item : Int} (h : Fine kind key item) :
    (stepW w (issueD i kind key item)).2 = 0 ∧ Inv n (L ++ [⟨i, clkW w i, kind, key, item⟩]) (stepW w (issueD i kind key item)).1 ∧ (∀ j, j < n → clkW (stepW w (issueD i kind key item)).1 j = if j = i then tickC (clkW w i) i else clkW w j) ∧ (stepW w (issueD i kind key item)).1.way = w.way := by
  have hl := I.len
  have hn := I.node i hi
  have hlog := hn.log_len
  have h0 : wrongC (zs n) n = 0 := zero_ok I.n1 I.n6
  have hlen := wrongC_ok hn.r.s.c
  have eup : upN (ndW w i) ⟨0, [], kind, key, item⟩ = ⟨i, clkW w i, kind, key, item⟩ := by unfold upN clkW; rw [hn.self]
  have hs : StepOk (ndW w i).state.clock (upN (ndW w i) ⟨0, [], kind, key, item⟩) n := by
    rw [eup]
    refine ⟨⟨hn.r.s.c, by show (0 : Int) ≤ i; omega, by show (i : Int) < n; omega, ?_, h.k0, h.k1, h.y0, h.y1, h.i0, h.i1, h.f⟩, rfl, seesC_refl _⟩
    show atI (ndW w i).state.clock ((i : Int)).toNat < 1000
    rw [Int.toNat_natCast, hn.own]
    have := full_le h0 I.fit i
    omega
  have e := IssueN_of (u := ⟨0, [], kind, key, item⟩) hn.r (by omega) hs
  have es : stepW w (issueD i kind key item) = (⟨w.nodes.set i (IssueN (ndW w i) ⟨0, [], kind, key, item⟩).1, w.way⟩, 0) := by
    unfold stepW issueD
    dsimp only
    rw [if_pos (.inl rfl), if_neg (by unfold lenI; omega), if_neg (by omega), Int.toNat_natCast]
    unfold putW
    rw [e, if_pos rfl]
  have I2 := I.step (issueD i kind key item)
  have en : newU w (issueD i kind key item) = [⟨i, clkW w i, kind, key, item⟩] := by
    unfold newU
    rw [es, if_pos ⟨rfl, rfl⟩]
    show [upN (ndW w ((i : Int)).toNat) ⟨0, [], kind, key, item⟩] = _
    rw [Int.toNat_natCast, eup]
  rw [en] at I2
  refine ⟨by rw [es], I2, fun j hj => ?_, by rw [es]⟩
  unfold clkW
  rw [es, nd_set (by omega)]
  split
  · rw [e]
    show tickC (ndW w i).state.clock (upN _ _).author = _
    rw [eup]
  · rfl
/-- what a script of things that all go well comes to -/
structure Rn (n : Nat) (l : List Do) (L : List Upd) (C : Nat → List Int) : Prop where
  I : Inv n L (runW (startW n) l).1
  e : ∀ e ∈ (runW (startW n) l).2, e = 0
  q : Empty' n (runW (startW n) l).1
  c : ∀ i, i < n → clkW (runW (startW n) l).1 i = C i
theorem start_clk {n i : Nat} (h6 : n ≤ 6) (hi : i < n) : clkW (startW n) i = zs n := by
  unfold clkW ndW startW
  rw [List.getD_eq_getElem?_getD, List.getElem?_map, List.getElem?_range hi]
  show (startN i n).state.clock = _
  unfold startN; dsimp only; rw [startG_nat h6]; rfl
theorem Rn.nil {n : Nat} (h1 : 1 ≤ n) (h6 : n ≤ 6) : Rn n [] [] fun _ => zs n := by
  refine ⟨start_inv h1 h6, by simp [runW], fun x hx y hy _ => ?_, fun i hi => start_clk h6 hi⟩
  show wyL (startW n).way x y = []
  unfold wyL startW
  simp only [List.getD_eq_getElem?_getD, List.getElem?_replicate, if_pos hx, Option.getD_some, if_pos hy]
theorem Rn.congr {n : Nat} {l : List Do} {L : List Upd} {C D : Nat → List Int} (R : Rn n l L C) (h : ∀ i, i < n → C i = D i) : Rn n l L D := ⟨R.I, R.e, R.q, fun i hi => (R.c i hi).trans (h i hi)⟩
theorem Rn.issue {n : Nat} {l : List Do} {L : List Upd} {C : Nat → List Int} (R : Rn n l L C) (hL : L.length ≤ 150) {i : Nat} (hi : i < n) {kind key item : Int} (h : Fine kind key item) : Rn n (l ++ [issueD i kind key item]) (L ++ [⟨i, C i, kind, key, item⟩]) fun j => if j = i then tickC (C i) i else C j := by
  obtain ⟨a, b, c, d⟩ := issue_ok R.I hL hi h
  have er : runW (startW n) (l ++ [issueD i kind key item]) = ((stepW (runW (startW n) l).1 (issueD i kind key item)).1, (runW (startW n) l).2 ++ [(stepW (runW (startW n) l).1 (issueD i kind key item)).2]) := by rw [runW_app]; rfl
  rw [R.c i hi] at b
  refine ⟨by rw [er]; exact b, fun x hx => ?_, fun x hx y hy hxy => ?_, fun j hj => ?_⟩
  · rw [er, a] at hx
    rcases List.mem_append.1 hx with hx | hx
    · exact R.e x hx
    · exact List.mem_singleton.1 hx
  · rw [er]; show wyL (stepW _ _).1.way x y = []; rw [d]; exact R.q x hx y hy hxy
  · rw [er]; show clkW (stepW _ _).1 j = _; rw [c j hj, R.c i hi, R.c j hj]
theorem Rn.tells {n : Nat} {l : List Do} {L : List Upd} {C : Nat → List Int} (R : Rn n l L C) (hL : L.length ≤ 150) {ps : List (Nat × Nat)} (hp : PairsOk n ps) : Rn n (l ++ Go.Proofs.YtkjknlnhffmkkabGreat.tells ps) L (tellsC C ps) := by
  obtain ⟨a, b, c, d, f⟩ := tells_ok R.I hL R.q hp
  have er : runW (startW n) (l ++ Go.Proofs.YtkjknlnhffmkkabGreat.tells ps) = ((runW (runW (startW n) l).1 (Go.Proofs.YtkjknlnhffmkkabGreat.tells ps)).1, (runW (startW n) l).2 ++ (runW (runW (startW n) l).1 (Go.Proofs.YtkjknlnhffmkkabGreat.tells ps)).2) := by rw [runW_app]
  refine ⟨by rw [er]; exact c, fun x hx => ?_, by rw [er]; exact d, fun j hj => ?_⟩
  · rw [er] at hx
    rcases List.mem_append.1 hx with hx | hx
    · exact R.e x hx
    · exact a x hx
  · rw [er]; show clkW (runW _ _).1 j = _; rw [f j hj]; exact tellsC_congr hp (fun i hi => R.c i hi) j hj
theorem Rn.tell {n : Nat} {l : List Do} {L : List Upd} {C : Nat → List Int} (R : Rn n l L C) (hL : L.length ≤ 150) {a b : Nat} (ha : a < n) (hb : b < n) (ne : a ≠ b) : Rn n (l ++ tellD a b) L (tellC C a b) := by
  have := R.tells hL (ps := [(a, b)]) (fun p hp => by rw [List.mem_singleton] at hp; subst hp; exact ⟨ha, hb, ne⟩)
  have e : Go.Proofs.YtkjknlnhffmkkabGreat.tells [(a, b)] = tellD a b := by simp [Go.Proofs.YtkjknlnhffmkkabGreat.tells]
  rw [e] at this
  exact this
theorem Rn.state {n : Nat} {l : List Do} {L : List Upd} {C : Nat → List Int} (R : Rn n l L C) {i : Nat} (hi : i < n) : (ndW (runW (startW n) l).1 i).state = ofS n L (C i) ∧ Sub n L (C i) ∧ RightS (ofS n L (C i)) n := by
  have hn := R.I.node i hi
  have e := R.c i hi
  unfold clkW at e
  have hs := hn.sub
  have hst := hn.st
  rw [e] at hs hst
  exact ⟨hst, hs, hs.p.right⟩
/-- what is read there -/
def readsW (n : Nat) (l : List Do) (k : Nat) : View := readS (ndW (runW (startW n) l).1 k).state
theorem Rn.reads {n : Nat} {l : List Do} {L : List Upd} {C : Nat → List Int} (R : Rn n l L C) {i : Nat} (hi : i < n) : ReadS (ndW (runW (startW n) l).1 i).state = (readsW n l i, 0, 0) := by
  obtain ⟨a, b, c⟩ := R.state hi
  have hlen := wrongC_ok c.c
  refine ReadS_2 ?_
  rw [a]
  have : lenI (ofS n L (C i)).clock = n := hlen.2.2.1
  rw [this]; exact wrongS_iff.2 c
theorem mine_full {n : Nat} {L : List Upd} (h0 : wrongC (zs n) n = 0) (h : Fits n (zs n) L) : mineU (full n L) L = L := by
  unfold mineU
  refine List.filter_eq_self.2 fun u hu => ?_
  show hasU (foldC (zs n) L) u = true
  rw [hasU_right (fits_ok h0 h).1 (fits_later h0 h hu).1]
  exact log_end h h0 hu
end Go.Proofs.YtkjknlnhffmkkabGreat

namespace Go.Proofs.YtkjknlnhffmkkabGreat
set_option linter.unusedVariables false
/-- what a script reads at a node, if all goes well -/
def ReadsW (n : Int) (l : List Do) (k : Int) : View × Bool :=
  if (PlayW n l).2.2 ≠ 0 ∨ k < 0 ∨ lenI (PlayW n l).1.nodes ≤ k ∨ ¬ (∀ e ∈ (PlayW n l).2.1, e = 0) then (zeroV, false)
  else ((ReadS (ndW (PlayW n l).1 k.toNat).state).1, decide ((ReadS (ndW (PlayW n l).1 k.toNat).state).2.1 = 0))
theorem Rn.readsW {n : Nat} {l : List Do} {L : List Upd} {C : Nat → List Int} (R : Rn n l L C) (hl : l.length ≤ 150) {k : Nat} (hk : k < n) : ReadsW n l k = (readS (ofS n L (C k)), true) := by
  have e := PlayW_of R.I.n1 R.I.n6 hl
  have hlen := R.I.len
  unfold ReadsW
  rw [e]
  dsimp only
  rw [if_neg (by
    rintro (h | h | h | h)
    · exact h rfl
    · omega
    · unfold lenI at h; omega
    · exact h R.e)]
  rw [Int.toNat_natCast, R.reads hk]
  obtain ⟨a, _, _⟩ := R.state hk
  unfold Go.Proofs.YtkjknlnhffmkkabGreat.readsW
  rw [a]; rfl
theorem regs_of {s : State} {n : Int} (h : RightS s n) (key : Int) : ofC (readS s).regs key = ddL (itemsL s.lives false key) := of_cells h.ls
theorem sets_of {s : State} {n : Int} (h : RightS s n) (key : Int) : ofC (readS s).sets key = ddL (itemsL s.lives true key) := of_cells h.ls
theorem ofS_played {n : Nat} {l : List Do} {L : List Upd} {C : Nat → List Int} (R : Rn n l L C) {k : Nat} (hk : k < n) : Played (startS n) (ofS n L (C k)) (mineU (C k) L) n := (R.state hk).2.1.p.played.1

/-! ## registers -/
def regA (key a b : Int) : List Do := [issueD 0 1 key a, issueD 1 1 key b] ++ tellD 0 1 ++ tellD 1 0
def ur (key a b : Int) : List Upd := [⟨0, [0, 0], 1, key, a⟩, ⟨1, [0, 0], 1, key, b⟩]
theorem fine_put {key a : Int} (h0 : 0 ≤ key) (h1 : key ≤ 15) (h2 : -1000 ≤ a) (h3 : a ≤ 1000) : Fine 1 key a := ⟨by omega, by omega, h0, h1, h2, h3, by omega⟩
theorem regA_ok {key a b : Int} (h0 : 0 ≤ key) (h1 : key ≤ 15) (ha : -1000 ≤ a ∧ a ≤ 1000) (hb : -1000 ≤ b ∧ b ≤ 1000) : Rn 2 (regA key a b) (ur key a b) fun _ => [1, 1] := by
  have R := ((((Rn.nil (n := 2) (by omega) (by omega)).issue (by simp) (i := 0) (by omega) (fine_put h0 h1 ha.1 ha.2)).issue (by simp) (i := 1) (by omega) (fine_put h0 h1 hb.1 hb.2)).tell (by simp) (a := 0) (b := 1) (by omega) (by omega) (by omega)).tell (by simp) (a := 1) (b := 0) (by omega) (by omega) (by omega)
  refine Rn.congr ?_ (C := ?_) ?_
  · exact tellC (tellC (fun j => if j = 1 then tickC (zs 2) 1 else if j = 0 then tickC (zs 2) 0 else zs 2) 0 1) 1 0
  · exact R
  · intro i hi
    match i, hi with
    | 0, _ => decide +kernel
    | 1, _ => decide +kernel
theorem live_reg {L : List Upd} {s t : State} {n : Int} (hP : Played s t L n) {r : List Live} (hr : SortedL r) (h : ∀ x, ((x ∈ s.lives ∨ ∃ u ∈ L, makes u = true ∧ x = liveOf u) ∧ ∀ v ∈ L, ends v x = false) ↔ x ∈ r) : t.lives = r :=
  sortedL_ext hP.r.ls hr fun x => (hP.m x).trans (h x)
theorem regA_reads {key a b : Int} (h0 : 0 ≤ key) (h1 : key ≤ 15) (ha : -1000 ≤ a ∧ a ≤ 1000) (hb : -1000 ≤ b ∧ b ≤ 1000) (hab : a < b) {k : Nat} (hk : k < 2) :
    ∃ v, ReadsW 2 (regA key a b) k = (v, true) ∧ ofC v.regs key = [a, b] ∧ v = readS (ofS 2 (ur key a b) [1, 1]) := by
  have R := regA_ok h0 h1 ha hb
  have hR : Played (startS 2) (ofS 2 (ur key a b) [1, 1]) (mineU [1, 1] (ur key a b)) 2 := ofS_played R (k := 0) (by omega)
  refine ⟨_, R.readsW (by simp [regA, tellD]) hk, ?_, rfl⟩
  rw [regs_of hR.r]
  have em : mineU [1, 1] (ur key a b) = ur key a b := by simp [mineU, ur, hasU, atI]
  rw [em] at hR
  have el : (ofS 2 (ur key a b) [1, 1]).lives = [⟨false, key, a, 0, 1⟩, ⟨false, key, b, 1, 1⟩] := by
    refine live_reg hR ?_ fun x => ?_
    · unfold SortedL; rw [List.pairwise_cons]
      refine ⟨fun y hy => ?_, List.pairwise_singleton _ _⟩
      rw [List.mem_singleton] at hy; subst hy
      rw [ordL_code]; simp [codeL, lexI_cons, hab]
    · simp only [startS, ur, List.not_mem_nil, false_or, List.mem_cons, or_false]
      constructor
      · rintro ⟨⟨u, rfl | rfl, h2, rfl⟩, _⟩
        · left; rfl
        · right; rfl
      · rintro (rfl | rfl)
        · refine ⟨⟨_, .inl rfl, rfl, rfl⟩, ?_⟩
          rintro v (rfl | rfl) <;> exact ends_not (by simp [atI])
        · refine ⟨⟨_, .inr rfl, rfl, rfl⟩, ?_⟩
          rintro v (rfl | rfl) <;> exact ends_not (by simp [atI])
  rw [el]
  have hne : ¬ a = b := by omega
  simp [itemsL, hitL, ddL, ddStep, hne]
def addA (key item : Int) : List Do := [issueD 0 3 key item] ++ tellD 0 1 ++ [issueD 0 3 key item] ++ [issueD 1 4 key item] ++ tellD 0 1 ++ tellD 1 0
def addB (key item : Int) : List Do := addA key item ++ [issueD 1 4 key item] ++ tellD 1 0
def ua (key item : Int) : List Upd := [⟨0, [0, 0], 3, key, item⟩, ⟨0, [1, 0], 3, key, item⟩, ⟨1, [1, 0], 4, key, item⟩]
theorem addA_ok {key a : Int} (h0 : 0 ≤ key) (h1 : key ≤ 15) (ha : -1000 ≤ a ∧ a ≤ 1000) : Rn 2 (addA key a) (ua key a) fun _ => [2, 1] := by
  have f3 : Fine 3 key a := ⟨by omega, by omega, h0, h1, ha.1, ha.2, by omega⟩
  have f4 : Fine 4 key a := ⟨by omega, by omega, h0, h1, ha.1, ha.2, by omega⟩
  have two : ∀ {C D : Nat → List Int}, C 0 = D 0 → C 1 = D 1 → ∀ i, i < 2 → C i = D i := fun h k i hi => by
    match i, hi with
    | 0, _ => exact h
    | 1, _ => exact k
  have R1 := ((Rn.nil (n := 2) (by omega) (by omega)).issue (by simp) (i := 0) (by omega) f3).tell (by simp) (a := 0) (b := 1) (by omega) (by omega) (by omega)
  have R2 := R1.congr (D := fun _ => [1, 0]) (two (by decide +kernel) (by decide +kernel))
  have R3 := (R2.issue (by simp) (i := 0) (by omega) f3).congr (D := fun i => if i = 0 then [2, 0] else [1, 0]) (two (by decide +kernel) (by decide +kernel))
  have R4 := (R3.issue (by simp) (i := 1) (by omega) f4).congr (D := fun i => if i = 0 then [2, 0] else [1, 1]) (two (by decide +kernel) (by decide +kernel))
  have R5 := (R4.tell (by simp) (a := 0) (b := 1) (by omega) (by omega) (by omega)).tell (by simp) (a := 1) (b := 0) (by omega) (by omega) (by omega)
  exact R5.congr (two (by decide +kernel) (by decide +kernel))
theorem addA_reads {key a : Int} (h0 : 0 ≤ key) (h1 : key ≤ 15) (ha : -1000 ≤ a ∧ a ≤ 1000) {k : Nat} (hk : k < 2) :
    ∃ v, ReadsW 2 (addA key a) k = (v, true) ∧ ofC v.sets key = [a] ∧ v = readS (ofS 2 (ua key a) [2, 1]) := by
  have R := addA_ok h0 h1 ha
  have hR : Played (startS 2) (ofS 2 (ua key a) [2, 1]) (mineU [2, 1] (ua key a)) 2 := ofS_played R (k := 0) (by omega)
  refine ⟨_, R.readsW (by simp [addA, tellD]) hk, ?_, rfl⟩
  rw [sets_of hR.r]
  have em : mineU [2, 1] (ua key a) = ua key a := by simp [mineU, ua, hasU, atI]
  rw [em] at hR
  have el : (ofS 2 (ua key a) [2, 1]).lives = [⟨true, key, a, 0, 2⟩] := by
    refine live_reg hR (List.pairwise_singleton _ _) fun x => ?_
    simp only [startS, ua, List.not_mem_nil, false_or, List.mem_cons, or_false]
    constructor
    · rintro ⟨⟨u, rfl | rfl | rfl, h2, rfl⟩, h3⟩
      · have := h3 _ (.inr (.inr rfl)); simp [ends, endsC, hasC, liveOf, atI] at this
      · rfl
      · cases h2
    · rintro rfl
      refine ⟨⟨_, .inr (.inl rfl), rfl, rfl⟩, ?_⟩
      rintro v (rfl | rfl | rfl) <;> exact ends_not (by simp [atI])
  rw [el]
  simp [itemsL, hitL, ddL, ddStep]
theorem addB_reads {key a : Int} (h0 : 0 ≤ key) (h1 : key ≤ 15) (ha : -1000 ≤ a ∧ a ≤ 1000) : ∃ v, ReadsW 2 (addB key a) 0 = (v, true) ∧ ofC v.sets key = [] := by
  have f4 : Fine 4 key a := ⟨by omega, by omega, h0, h1, ha.1, ha.2, by omega⟩
  have R0 := ((addA_ok h0 h1 ha).issue (by simp [ua]) (i := 1) (by omega) f4).tell (by simp [ua]) (a := 1) (b := 0) (by omega) (by omega) (by omega)
  have R : Rn 2 (addB key a) (ua key a ++ [⟨1, [2, 1], 4, key, a⟩]) fun _ => [2, 2] := by
    refine Rn.congr R0 fun i hi => ?_
    match i, hi with
    | 0, _ => decide +kernel
    | 1, _ => decide +kernel
  have hR : Played (startS 2) (ofS 2 (ua key a ++ [⟨1, [2, 1], 4, key, a⟩]) [2, 2]) (mineU [2, 2] (ua key a ++ [⟨1, [2, 1], 4, key, a⟩])) 2 := ofS_played R (k := 0) (by omega)
  refine ⟨_, R.readsW (by simp [addB, addA, tellD]) (k := 0) (by omega), ?_⟩
  rw [sets_of hR.r]
  have em : mineU [2, 2] (ua key a ++ [⟨1, [2, 1], 4, key, a⟩]) = ua key a ++ [⟨1, [2, 1], 4, key, a⟩] := by simp [mineU, ua, hasU, atI]
  rw [em] at hR
  have el : (ofS 2 (ua key a ++ [⟨1, [2, 1], 4, key, a⟩]) [2, 2]).lives = [] := by
    refine live_reg hR .nil fun x => ?_
    simp only [startS, ua, List.not_mem_nil, false_or, List.mem_cons, List.cons_append, List.nil_append, or_false, iff_false]
    rintro ⟨⟨u, rfl | rfl | rfl | rfl, h2, rfl⟩, h3⟩
    · have := h3 _ (.inr (.inr (.inr rfl))); simp [ends, endsC, hasC, liveOf, atI] at this
    · have := h3 _ (.inr (.inr (.inr rfl))); simp [ends, endsC, hasC, liveOf, atI] at this
    · cases h2
    · cases h2
  rw [el]; rfl

/-! ## word goes round -/
def lineD (key item : Int) : Nat → List Do
  | 0 => [issueD 0 1 key item]
  | k + 1 => lineD key item k ++ tellD k (k + 1)
theorem lineD_len (key item : Int) : ∀ k, (lineD key item k).length = 1 + 2 * k
  | 0 => rfl
  | k + 1 => by simp [lineD, lineD_len key item k, tellD]; omega
theorem zs_tick_sees (n : Nat) (h1 : 1 ≤ n) : seesC (tickC (zs n) 0) (zs n) = true := by
  have : tickC (zs n) 0 = (zs n).set 0 1 := by
    unfold tickC zs; rw [if_pos (by simp; omega)]
    show (List.replicate n (0 : Int)).set 0 (RowKit.wrap64 (atI (List.replicate n (0 : Int)) 0 + 1)) = (List.replicate n (0 : Int)).set 0 1
    rw [zero_at, wrap_small (by omega) (by omega)]; rfl
  rw [this]
  exact sees_set_up (by simp [zs]; omega) (by show atI (List.replicate n 0) 0 ≤ 1; rw [zero_at]; omega)
theorem line_ok {n : Nat} (h2 : 2 ≤ n) (h6 : n ≤ 6) {key item : Int} (h : Fine 1 key item) : ∀ k, k < n → Rn n (lineD key item k) [⟨0, zs n, 1, key, item⟩] fun i => if i ≤ k then tickC (zs n) 0 else zs n
  | 0, hk => by
    have R := (Rn.nil (n := n) (by omega) h6).issue (by simp) (i := 0) (by omega) h
    exact Rn.congr R fun i hi => by
      by_cases e : i = 0
      · subst e; rfl
      · rw [if_neg e, if_neg (by omega)]
  | k + 1, hk => by
    have R := (line_ok h2 h6 h k (by omega)).tell (by simp) (a := k) (b := k + 1) (by omega) (by omega) (by omega)
    refine Rn.congr R fun i hi => ?_
    unfold tellC
    by_cases e : i = k + 1
    · subst e
      rw [if_pos rfl]
      dsimp only
      rw [if_neg (show ¬ k + 1 ≤ k by omega), if_pos (Nat.le_refl k), if_pos (Nat.le_refl _)]
      exact joinC_sees' (by rw [tickC_len]; exact Nat.le_refl _) (zs_tick_sees n (by omega))
    · rw [if_neg e]
      dsimp only
      by_cases e2 : i ≤ k
      · rw [if_pos e2, if_pos (show i ≤ k + 1 by omega)]
      · rw [if_neg e2, if_neg (show ¬ i ≤ k + 1 by omega)]
theorem line_reads {n : Nat} (h2 : 2 ≤ n) (h6 : n ≤ 6) {key item : Int} (h : Fine 1 key item) : ∃ v, ReadsW n (lineD key item (n - 1)) ((n - 1 : Nat) : Int) = (v, true) ∧ ofC v.regs key = [item] := by
  have R := line_ok h2 h6 h (n - 1) (by omega)
  have hR := ofS_played R (k := n - 1) (by omega)
  refine ⟨_, R.readsW (by rw [lineD_len]; omega) (by omega), ?_⟩
  rw [regs_of hR.r]
  have ec : (if n - 1 ≤ n - 1 then tickC (zs n) 0 else zs n) = tickC (zs n) 0 := if_pos (Nat.le_refl _)
  rw [ec] at hR ⊢
  have em : mineU (tickC (zs n) 0) [⟨0, zs n, 1, key, item⟩] = [⟨0, zs n, 1, key, item⟩] := mine_full (L := [⟨0, zs n, 1, key, item⟩]) (zero_ok (by omega) h6) R.I.fit
  rw [em] at hR
  have el : (ofS n [⟨0, zs n, 1, key, item⟩] (tickC (zs n) 0)).lives = [⟨false, key, item, 0, 1⟩] := by
    have z : atI (zs n) 0 = 0 := zero_at n 0
    refine live_reg hR (List.pairwise_singleton _ _) fun x => ?_
    simp only [startS, List.not_mem_nil, false_or, List.mem_cons, or_false]
    constructor
    · rintro ⟨⟨u, rfl, h2, rfl⟩, h3⟩
      simp [liveOf, z]
    · rintro rfl
      refine ⟨⟨_, rfl, rfl, by simp [liveOf, z]⟩, ?_⟩
      rintro v rfl
      exact ends_not (by show atI (zs n) 0 < 1; omega)
  rw [el]
  simp [itemsL, hitL, ddL, ddStep]

/-! ## counters -/
end Go.Proofs.YtkjknlnhffmkkabGreat
