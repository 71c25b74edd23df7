/- Updates as plain data; what is wrong with one; who has it. No program in sight. -/
import Derived.Test.YtkjknlnhffmkkaaPure
namespace Go.Proofs.Ytkjknlnhffmkkaa
set_option linter.unusedVariables false

structure Upd where
  author : Int
  seen : List Int
  kind : Int
  key : Int
  item : Int
deriving DecidableEq

def UpdR : CR Upd := fun rd cs u => ∃ sv, cs = [.int .i64 u.author, sv, .int .i64 u.kind, .int .i64 u.key, .int .i64 u.item] ∧ IntsR rd sv u.seen
instance : GoodR UpdR := ⟨fun _ _ _ _ hle ⟨sv, e, h⟩ => ⟨sv, e, IntsR.mono h hle⟩, fun _ _ _ ⟨sv, e, h⟩ u hu => by
  obtain ⟨A, c, e2, _⟩ := h.val
  subst e e2
  simp only [List.mem_cons, List.not_mem_nil, or_false] at hu
  rcases hu with h | h | h | h | h <;> subst h <;> rfl⟩
abbrev UpdsR := SliceR 5 UpdR
/-- the cells of update k -/
theorem upds_at {rd : Rd} {A : Option Addr} {m c k : Nat} {l : List Upd} (h : SliceR 5 UpdR rd (.slice A m c) l) (hk : k < l.length) : ∃ b o sv, A = some ⟨b, o, none⟩ ∧ IntsR rd sv l[k].seen ∧
    ∀ w : World, Rd.le rd (wrd w) → w.cell? ⟨b, o + k * 5, none⟩ = some (.int .i64 l[k].author) ∧ w.cell? ⟨b, o + k * 5 + 1, none⟩ = some sv ∧ w.cell? ⟨b, o + k * 5 + 2, none⟩ = some (.int .i64 l[k].kind) ∧
      w.cell? ⟨b, o + k * 5 + 3, none⟩ = some (.int .i64 l[k].key) ∧ w.cell? ⟨b, o + k * 5 + 4, none⟩ = some (.int .i64 l[k].item) := by
  obtain ⟨b, o, cs, e, h1, ⟨sv, h2, h3⟩, h4⟩ := SliceR.get h (k := k) (x := l[k]) (by simp [hk])
  subst h2
  refine ⟨b, o, sv, e, h3, fun w hle => ⟨hle _ _ _ (h4 0 _ rfl), hle _ _ _ (h4 1 _ rfl), hle _ _ _ (h4 2 _ rfl), hle _ _ _ (h4 3 _ rfl), hle _ _ _ (h4 4 _ rfl)⟩⟩
theorem upd_agg {rd : Rd} {sv : Value} {u : Upd} (h : IntsR rd sv u.seen) : AggR UpdR rd (.agg #[.int .i64 u.author, sv, .int .i64 u.kind, .int .i64 u.key, .int .i64 u.item]) u := ⟨_, rfl, sv, rfl, h⟩
theorem upd_ptr {w : World} {g : Nat} {t : TypeId} {sv : Value} {u : Upd} (hb : Blk w g t #[.int .i64 u.author, sv, .int .i64 u.kind, .int .i64 u.key, .int .i64 u.item]) (h : IntsR (wrd w) sv u.seen) : PtrR UpdR (wrd w) (.pointer (some ⟨g, 0, none⟩)) u :=
  ⟨g, 0, _, rfl, ⟨sv, rfl, h⟩, fun j x hx => by
    show w.cell? ⟨g, 0 + j, none⟩ = some x
    rw [Nat.zero_add, hb.cell j]; simpa using hx⟩
def UpdBd (u : Upd) : Prop := u.seen.length * 8 ≤ reachBytes

def u0 : Upd := ⟨0, [], 0, 0, 0⟩

/-- what is wrong with an update -/
def wrongU (u : Upd) (n : Int) : Int :=
  if wrongC u.seen n ≠ 0 then wrongC u.seen n
  else if u.author < 0 ∨ n ≤ u.author ∨ 1000 ≤ atI u.seen u.author.toNat then 3
  else if u.kind < 1 ∨ 5 < u.kind then 1
  else if u.key < 0 ∨ 15 < u.key ∨ u.item < -1000 ∨ 1000 < u.item then 3
  else if u.kind = 2 ∧ u.item ≠ 0 then 2
  else 0

structure RightU (u : Upd) (n : Int) : Prop where
  c : wrongC u.seen n = 0
  a0 : 0 ≤ u.author
  a1 : u.author < n
  s : atI u.seen u.author.toNat < 1000
  k0 : 1 ≤ u.kind
  k1 : u.kind ≤ 5
  y0 : 0 ≤ u.key
  y1 : u.key ≤ 15
  i0 : -1000 ≤ u.item
  i1 : u.item ≤ 1000
  f : u.kind = 2 → u.item = 0
theorem wrongU_iff {u : Upd} {n : Int} : wrongU u n = 0 ↔ RightU u n := by
  unfold wrongU
  constructor
  · intro h
    split at h
    · exact absurd h ‹_›
    · split at h
      · cases h
      · split at h
        · cases h
        · split at h
          · cases h
          · split at h
            · cases h
            · exact ⟨by omega, by omega, by omega, by omega, by omega, by omega, by omega, by omega, by omega, by omega, by omega⟩
  · rintro ⟨c, a0, a1, s, k0, k1, y0, y1, i0, i1, f⟩
    rw [if_neg (by omega), if_neg (by omega), if_neg (by omega), if_neg (by omega), if_neg (by omega)]
theorem RightU.len {u : Upd} {n : Int} (h : RightU u n) : 1 ≤ n ∧ n ≤ 6 ∧ (u.seen.length : Int) = n := by have := wrongC_ok h.c; omega
theorem RightU.at_ {u : Upd} {n : Int} (h : RightU u n) : u.author.toNat < u.seen.length := by have := h.len; have := h.a0; have := h.a1; omega

/-- which one of its author's -/
def seqU (u : Upd) : Int := RowKit.wrap64 (atI u.seen u.author.toNat + 1)
/-- does a clock have it? -/
def hasU (c : List Int) (u : Upd) : Bool := decide (0 ≤ u.author) && decide (u.author < c.length) && decide (u.author < u.seen.length) && decide (atI u.seen u.author.toNat < atI c u.author.toNat)
def sameU (a b : Upd) : Bool := decide (a = b)
theorem hasU_in {c se : List Int} {k : Nat} {ki ke it : Int} (h1 : k < c.length) (h2 : k < se.length) : hasU c ⟨k, se, ki, ke, it⟩ = decide (se[k] < c[k]) := by
  unfold hasU; simp only; rw [Int.toNat_natCast, atI_lt h1, atI_lt h2]; simp [h1, h2]
end Go.Proofs.Ytkjknlnhffmkkaa
