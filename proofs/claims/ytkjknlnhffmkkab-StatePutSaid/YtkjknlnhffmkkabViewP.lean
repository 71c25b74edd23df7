/- What is read of a state, as plain data. No program in sight. -/
import Derived.Test.YtkjknlnhffmkkabStD
namespace Go.Proofs.Ytkjknlnhffmkkab
set_option linter.unusedVariables false

structure Cell where
  key : Int
  items : List Int
deriving DecidableEq
structure Pair where
  key : Int
  sum : Int
deriving DecidableEq
structure View where
  regs : List Cell
  sets : List Cell
  counters : List Pair
deriving DecidableEq
def PairR : CR Pair := fun _ cs x => cs = [.int .i64 x.key, .int .i64 x.sum]
instance : GoodR PairR := ⟨fun _ _ _ _ _ h => h, fun _ _ _ h u hu => by
  cases h; simp only [List.mem_cons, List.not_mem_nil, or_false] at hu; rcases hu with h | h <;> subst h <;> rfl⟩
def CellR : CR Cell := fun rd cs x => ∃ a, cs = [.int .i64 x.key, a] ∧ SliceR 1 IntR rd a x.items
instance : GoodR CellR := ⟨fun _ _ _ _ hle ⟨a, e, h1⟩ => ⟨a, e, h1.mono GoodR.mono hle⟩, fun _ _ _ ⟨a, e, h1⟩ u hu => by
  obtain ⟨A1, c1, e1, _⟩ := h1.val
  subst e e1
  simp only [List.mem_cons, List.not_mem_nil, or_false] at hu
  rcases hu with h | h <;> subst h <;> rfl⟩
def ViewR : CR View := fun rd cs x => ∃ a b c, cs = [a, b, c] ∧ SliceR 2 CellR rd a x.regs ∧ SliceR 2 CellR rd b x.sets ∧ SliceR 2 PairR rd c x.counters
instance : GoodR ViewR := ⟨fun _ _ _ _ hle ⟨a, b, c, e, h1, h2, h3⟩ => ⟨a, b, c, e, h1.mono GoodR.mono hle, h2.mono GoodR.mono hle, h3.mono GoodR.mono hle⟩, fun _ _ _ ⟨a, b, c, e, h1, h2, h3⟩ u hu => by
  obtain ⟨A1, c1, e1, _⟩ := h1.val
  obtain ⟨A2, c2, e2, _⟩ := h2.val
  obtain ⟨A3, c3, e3, _⟩ := h3.val
  subst e e1 e2 e3
  simp only [List.mem_cons, List.not_mem_nil, or_false] at hu
  rcases hu with h | h | h <;> subst h <;> rfl⟩

def cellStep (set : Bool) (out : List Cell) (x : Live) : List Cell :=
  if x.set = set then match out.getLast? with
    | none => [⟨x.key, [x.item]⟩]
    | some c => if c.key = x.key then (if c.items.getLast? = some x.item then out else out.dropLast ++ [⟨c.key, c.items ++ [x.item]⟩]) else out ++ [⟨x.key, [x.item]⟩]
  else out
def cellsL (l : List Live) (set : Bool) : List Cell := l.foldl (cellStep set) []
section
variable {set : Bool} {out F : List Cell} {x : Live} {key : Int} {its : List Int} {y : Int}
theorem step_skip (h : x.set ≠ set) : cellStep set out x = out := by unfold cellStep; rw [if_neg h]
theorem step_first (h : x.set = set) : cellStep set [] x = [⟨x.key, [x.item]⟩] := by unfold cellStep; rw [if_pos h]; rfl
theorem step_new (h : x.set = set) (k : key ≠ x.key) : cellStep set (F ++ [⟨key, its⟩]) x = F ++ [⟨key, its⟩] ++ [⟨x.key, [x.item]⟩] := by
  unfold cellStep; rw [if_pos h, List.getLast?_concat]; dsimp only; rw [if_neg k]
theorem step_same (h : x.set = set) (k : key = x.key) (hy : its[its.length - 1]? = some y) (e : y = x.item) : cellStep set (F ++ [⟨key, its⟩]) x = F ++ [⟨key, its⟩] := by
  unfold cellStep; rw [if_pos h, List.getLast?_concat]; dsimp only
  rw [if_pos k, List.getLast?_eq_getElem?, hy, if_pos (by rw [e])]
theorem step_add (h : x.set = set) (k : key = x.key) (hy : its[its.length - 1]? = some y) (e : y ≠ x.item) : cellStep set (F ++ [⟨key, its⟩]) x = F ++ [⟨key, its ++ [x.item]⟩] := by
  unfold cellStep; rw [if_pos h, List.getLast?_concat]; dsimp only
  rw [if_pos k, List.getLast?_eq_getElem?, hy, if_neg (fun k => e (by injection k)), List.dropLast_concat]
end
theorem foldl_take {α β : Type} {f : β → α → β} {b : β} {l : List α} {k : Nat} {x : α} (h : l[k]? = some x) : (l.take (k + 1)).foldl f b = f ((l.take k).foldl f b) x := by
  rw [take_snoc h, List.foldl_append]; rfl
theorem cells_take {l : List Live} {set : Bool} {k : Nat} {x : Live} (h : l[k]? = some x) : cellsL (l.take (k + 1)) set = cellStep set (cellsL (l.take k) set) x := foldl_take h
/-- counters -/
def cntStep (out : List Pair) (t : Tally) : List Pair := match out.getLast? with
  | none => [⟨t.key, t.sum⟩]
  | some c => if c.key = t.key then out.dropLast ++ [⟨c.key, c.sum + t.sum⟩] else out ++ [⟨t.key, t.sum⟩]
def cntsL (l : List Tally) : List Pair := l.foldl cntStep []
section
variable {F : List Pair} {t : Tally} {key sum : Int}
theorem cnt_first : cntStep [] t = [⟨t.key, t.sum⟩] := rfl
theorem cnt_new (k : key ≠ t.key) : cntStep (F ++ [⟨key, sum⟩]) t = F ++ [⟨key, sum⟩] ++ [⟨t.key, t.sum⟩] := by
  unfold cntStep; rw [List.getLast?_concat]; dsimp only; rw [if_neg k]
theorem cnt_add (k : key = t.key) : cntStep (F ++ [⟨key, sum⟩]) t = F ++ [⟨key, sum + t.sum⟩] := by
  unfold cntStep; rw [List.getLast?_concat]; dsimp only; rw [if_pos k, List.dropLast_concat]
end
theorem cnts_take {l : List Tally} {k : Nat} {x : Tally} (h : l[k]? = some x) : cntsL (l.take (k + 1)) = cntStep (cntsL (l.take k)) x := foldl_take h
def zeroV : View := ⟨[], [], []⟩
def readS (s : State) : View := ⟨cellsL s.lives false, cellsL s.lives true, cntsL s.tallies⟩
def ReadS (s : State) : View × Int × Int := if (wrongS s (lenI s.clock)).1 ≠ 0 then (zeroV, wrongS s (lenI s.clock)) else (readS s, 0, 0)
theorem ReadS_1 {s : State} (h : (wrongS s (lenI s.clock)).1 ≠ 0) : ReadS s = (zeroV, wrongS s (lenI s.clock)) := by unfold ReadS; rw [if_pos h]
theorem ReadS_2 {s : State} (h : (wrongS s (lenI s.clock)).1 = 0) : ReadS s = (readS s, 0, 0) := by unfold ReadS; rw [if_neg (fun k => k h)]
end Go.Proofs.Ytkjknlnhffmkkab
