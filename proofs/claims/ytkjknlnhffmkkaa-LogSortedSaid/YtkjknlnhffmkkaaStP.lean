/- States as plain data: what stays, tallies, states; their order. No program in sight. -/
import Derived.Test.YtkjknlnhffmkkaaLogP
namespace Go.Proofs.Ytkjknlnhffmkkaa

structure Live where
  set : Bool
  key : Int
  item : Int
  author : Int
  seq : Int
deriving DecidableEq
structure Tally where
  key : Int
  author : Int
  sum : Int
deriving DecidableEq
structure State where
  clock : List Int
  lives : List Live
  tallies : List Tally
deriving DecidableEq

def LiveR : CR Live := fun _ cs x => cs = [.bool x.set, .int .i64 x.key, .int .i64 x.item, .int .i64 x.author, .int .i64 x.seq]
def TallyR : CR Tally := fun _ cs x => cs = [.int .i64 x.key, .int .i64 x.author, .int .i64 x.sum]
instance : GoodR LiveR := ⟨fun _ _ _ _ _ h => h, fun _ _ _ h u hu => by
  cases h; simp only [List.mem_cons, List.not_mem_nil, or_false] at hu; rcases hu with h | h | h | h | h <;> subst h <;> rfl⟩
instance : GoodR TallyR := ⟨fun _ _ _ _ _ h => h, fun _ _ _ h u hu => by
  cases h; simp only [List.mem_cons, List.not_mem_nil, or_false] at hu; rcases hu with h | h | h <;> subst h <;> rfl⟩
def StateR : CR State := fun rd cs x => ∃ a b c, cs = [a, b, c] ∧ SliceR 1 IntR rd a x.clock ∧ SliceR 5 LiveR rd b x.lives ∧ SliceR 3 TallyR rd c x.tallies
instance : GoodR StateR := ⟨fun _ _ _ _ hle ⟨a, b, c, e, h1, h2, h3⟩ => ⟨a, b, c, e, h1.mono GoodR.mono hle, h2.mono GoodR.mono hle, h3.mono GoodR.mono hle⟩, fun _ _ _ ⟨a, b, c, e, h1, h2, h3⟩ u hu => by
  obtain ⟨A1, c1, e1, _⟩ := h1.val
  obtain ⟨A2, c2, e2, _⟩ := h2.val
  obtain ⟨A3, c3, e3, _⟩ := h3.val
  subst e e1 e2 e3
  simp only [List.mem_cons, List.not_mem_nil, or_false] at hu
  rcases hu with h | h | h <;> subst h <;> rfl⟩

def cmpI (x y : Int) : Int := if x < y then -1 else if y < x then 1 else 0
def orI : List Int → Int
  | [] => 0
  | x :: l => if x = 0 then orI l else x
def ordL (a b : Live) : Int := orI [if b.set = true ∧ a.set = false then -1 else if a.set = true ∧ b.set = false then 1 else 0, cmpI a.key b.key, cmpI a.item b.item, cmpI a.author b.author, cmpI a.seq b.seq]
def ordT (a b : Tally) : Int := orI [cmpI a.key b.key, cmpI a.author b.author]
theorem orI_drop {l : List Int} {k : Nat} {z : Int} (hz : l[k]? = some z) : orI (l.drop k) = if z = 0 then orI (l.drop (k + 1)) else z := by
  obtain ⟨hk, e⟩ := List.getElem?_eq_some_iff.1 hz
  rw [List.drop_eq_getElem_cons hk, e]; rfl

/-- what stays: the first that is wrong -/
def wrongL (c : List Int) (n : Int) : Option Live → List Live → Nat → Int × Int
  | _, [], _ => (0, 0)
  | p, l :: ls, i =>
    if l.author < 0 ∨ n ≤ l.author ∨ l.seq < 1 ∨ l.key < 0 ∨ 15 < l.key ∨ l.item < -1000 ∨ 1000 < l.item then (3, (i : Int))
    else if atI c l.author.toNat < l.seq then (8, (i : Int))
    else if (match p with | some q => decide (0 ≤ ordL q l) | none => false) = true then (2, (i : Int))
    else wrongL c n (some l) ls (i + 1)
def mostT (c : List Int) (n : Int) (t : Tally) : Int := if 0 ≤ t.author ∧ t.author < n then 1000 * atI c t.author.toNat else 0
def wrongT (c : List Int) (n : Int) : Option Tally → List Tally → Nat → Int × Int
  | _, [], _ => (0, 0)
  | p, t :: ts, i =>
    if t.author < 0 ∨ n ≤ t.author ∨ t.key < 0 ∨ 15 < t.key ∨ t.sum < -(mostT c n t) ∨ mostT c n t < t.sum ∨ t.sum = 0 then (3, (i : Int))
    else if (match p with | some q => decide (0 ≤ ordT q t) | none => false) = true then (2, (i : Int))
    else wrongT c n (some t) ts (i + 1)
/-- what is wrong with a state: the error, its place -/
def wrongS (s : State) (n : Int) : Int × Int :=
  if wrongC s.clock n ≠ 0 then (wrongC s.clock n, 0)
  else if (wrongL s.clock n none s.lives 0).1 ≠ 0 then wrongL s.clock n none s.lives 0
  else wrongT s.clock n none s.tallies 0
end Go.Proofs.Ytkjknlnhffmkkaa
