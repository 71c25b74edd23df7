/- Logs as plain data: what a log comes to. No program in sight. -/
import Derived.Test.YtkjknlnhffmkkaaUpd
namespace Go.Proofs.Ytkjknlnhffmkkaa

/-- what a log's next update is refused for -/
def stepE (c : List Int) (u : Upd) (n : Int) : Int := if wrongU u n ≠ 0 then wrongU u n else if hasU c u = true then 7 else if seesC c u.seen = false then 8 else 0
def logC (n : Int) : List Int → List Upd → Nat → List Int × Int × Int
  | c, [], _ => (c, 0, 0)
  | c, u :: l, i => if stepE c u n ≠ 0 then ([], stepE c u n, (i : Int)) else logC n (tickC c u.author) l (i + 1)
/-- what a log comes to: the clock, the error, its place -/
def clockL (base : List Int) (l : List Upd) (n : Int) : List Int × Int × Int :=
  if wrongC base n ≠ 0 then ([], wrongC base n, 0) else if 300 < l.length then ([], 5, 0) else logC n base l 0

theorem drop_cons {α : Type} {l : List α} {k : Nat} (hk : k < l.length) : l.drop k = l[k] :: l.drop (k + 1) := List.drop_eq_getElem_cons hk
theorem logC_bad {n : Int} {c : List Int} {l : List Upd} {k : Nat} {e : Int} (hk : k < l.length) (he : stepE c l[k] n = e) (h0 : e ≠ 0) : logC n c (l.drop k) k = ([], e, (k : Int)) := by
  rw [drop_cons hk]; unfold logC; rw [he, if_pos h0]
theorem logC_good {n : Int} {c : List Int} {l : List Upd} {k : Nat} (hk : k < l.length) (he : stepE c l[k] n = 0) : logC n c (l.drop k) k = logC n (tickC c l[k].author) (l.drop (k + 1)) (k + 1) := by
  rw [drop_cons hk]; rw [logC.eq_2, he, if_neg (by simp)]
theorem logC_end {n : Int} {c : List Int} {l : List Upd} {k : Nat} (hk : l.length ≤ k) : logC n c (l.drop k) k = (c, 0, 0) := by
  rw [List.drop_eq_nil_of_le hk]; rfl

/-- what a clock lacks of a log -/
def lacksU (l : List Upd) (c : List Int) : List Upd := l.filter fun u => !hasU c u
theorem lacksU_len (l : List Upd) (c : List Int) : (lacksU l c).length ≤ l.length := List.length_filter_le _ _
theorem lacksU_has {l : List Upd} {c : List Int} {k : Nat} (hk : k < l.length) (h : hasU c l[k] = true) : lacksU (l.take (k + 1)) c = lacksU (l.take k) c := by
  unfold lacksU; rw [take_snoc (List.getElem?_eq_getElem hk), List.filter_append]; simp [h]
theorem lacksU_not {l : List Upd} {c : List Int} {k : Nat} (hk : k < l.length) (h : hasU c l[k] = false) : lacksU (l.take (k + 1)) c = lacksU (l.take k) c ++ [l[k]] := by
  unfold lacksU; rw [take_snoc (List.getElem?_eq_getElem hk), List.filter_append]; simp [h]

/-- is an update one that none behind it has seen? -/
def headAt (l : List Upd) (i : Nat) (u : Upd) : Bool := decide (0 ≤ u.author) && decide (u.author < u.seen.length) && !(l.drop (i + 1)).any fun v => hasU v.seen u
def headsTo (l : List Upd) : Nat → List Int
  | 0 => []
  | k + 1 => headsTo l k ++ (match l[k]? with | some u => if headAt l k u then [(k : Int)] else [] | none => [])
def headsU (l : List Upd) : List Int := headsTo l l.length
theorem headsTo_len (l : List Upd) : ∀ k, (headsTo l k).length ≤ k
  | 0 => Nat.le_refl _
  | k + 1 => by
    have := headsTo_len l k
    unfold headsTo
    rw [List.length_append]
    have : (match l[k]? with | some u => if headAt l k u then [(k : Int)] else [] | none => []).length ≤ 1 := by
      split
      · split <;> simp
      · simp
    omega
theorem headsTo_yes {l : List Upd} {k : Nat} (hk : k < l.length) (h : headAt l k l[k] = true) : headsTo l (k + 1) = headsTo l k ++ [(k : Int)] := by
  conv => lhs; unfold headsTo
  rw [List.getElem?_eq_getElem hk]; simp [h]
theorem headsTo_no {l : List Upd} {k : Nat} (hk : k < l.length) (h : headAt l k l[k] = false) : headsTo l (k + 1) = headsTo l k := by
  conv => lhs; unfold headsTo
  rw [List.getElem?_eq_getElem hk]; simp [h]
end Go.Proofs.Ytkjknlnhffmkkaa
