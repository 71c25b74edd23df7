/- Plain laws for the walk through a state's check. No program in sight. -/
import Derived.Test.YtkjknlnhffmkkabStP
namespace Go.Proofs.Ytkjknlnhffmkkab

def prevO {α : Type} (l : List α) (k : Nat) : Option α := if k = 0 then none else l[k - 1]?
theorem prevO_zero {α : Type} (l : List α) : prevO l 0 = none := rfl
theorem prevO_succ {α : Type} (l : List α) (k : Nat) : prevO l (k + 1) = l[k]? := rfl
theorem prevO_pos {α : Type} {l : List α} {k : Nat} (h : 0 < k) {z : α} (hz : l[k - 1]? = some z) : prevO l k = some z := by unfold prevO; rw [if_neg (by omega), hz]
theorem wrongL_step {c : List Int} {n : Int} {p : Option Live} {l : List Live} {k : Nat} {z : Live} (hz : l[k]? = some z) : wrongL c n p (l.drop k) k =
    if z.author < 0 ∨ n ≤ z.author ∨ z.seq < 1 ∨ z.key < 0 ∨ 15 < z.key ∨ z.item < -1000 ∨ 1000 < z.item then (3, (k : Int))
    else if atI c z.author.toNat < z.seq then (8, (k : Int))
    else if (match p with | some q => decide (0 ≤ ordL q z) | none => false) = true then (2, (k : Int))
    else wrongL c n (some z) (l.drop (k + 1)) (k + 1) := by
  obtain ⟨hk, e⟩ := List.getElem?_eq_some_iff.1 hz
  rw [List.drop_eq_getElem_cons hk, e]; rfl
theorem wrongL_end {c : List Int} {n : Int} {p : Option Live} {l : List Live} {k : Nat} (h : l.length ≤ k) : wrongL c n p (l.drop k) k = (0, 0) := by rw [List.drop_eq_nil_of_le h]; rfl
theorem wrongT_step {c : List Int} {n : Int} {p : Option Tally} {l : List Tally} {k : Nat} {z : Tally} (hz : l[k]? = some z) : wrongT c n p (l.drop k) k =
    if z.author < 0 ∨ n ≤ z.author ∨ z.key < 0 ∨ 15 < z.key ∨ z.sum < -(mostT c n z) ∨ mostT c n z < z.sum ∨ z.sum = 0 then (3, (k : Int))
    else if (match p with | some q => decide (0 ≤ ordT q z) | none => false) = true then (2, (k : Int))
    else wrongT c n (some z) (l.drop (k + 1)) (k + 1) := by
  obtain ⟨hk, e⟩ := List.getElem?_eq_some_iff.1 hz
  rw [List.drop_eq_getElem_cons hk, e]; rfl
theorem wrongT_end {c : List Int} {n : Int} {p : Option Tally} {l : List Tally} {k : Nat} (h : l.length ≤ k) : wrongT c n p (l.drop k) k = (0, 0) := by rw [List.drop_eq_nil_of_le h]; rfl
theorem wrongS_C {s : State} {n : Int} (h : ¬ wrongC s.clock n = 0) : wrongS s n = (wrongC s.clock n, 0) := by unfold wrongS; rw [if_pos h]
theorem wrongS_L {s : State} {n : Int} {r : Int × Int} (h : wrongC s.clock n = 0) (hl : wrongL s.clock n none s.lives 0 = r) (hr : r.1 ≠ 0) : wrongS s n = r := by
  unfold wrongS; rw [if_neg (by omega), hl, if_pos hr]
theorem wrongS_T {s : State} {n : Int} {r : Int × Int} (h : wrongC s.clock n = 0) (hl : (wrongL s.clock n none s.lives 0).1 = 0) (ht : wrongT s.clock n none s.tallies 0 = r) : wrongS s n = r := by
  unfold wrongS; rw [if_neg (by omega), if_neg (by omega), ht]
theorem rfault {r : Int × Int} {a b : Int} (h : r = (a, b)) : Ending.returned (.agg #[.int .i64 a, .int .i64 b]) = .returned (.agg #[.int .i64 r.1, .int .i64 r.2]) := by rw [h]
end Go.Proofs.Ytkjknlnhffmkkab
