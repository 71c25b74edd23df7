/- An update's bytes, as plain lists: what is written is read, in one way alone; how long it is. No program in sight. -/
import Derived.Test.YtkjknlnhffmkkaaQPl
namespace Go.Proofs.Ytkjknlnhffmkkaa
set_option linter.unusedVariables false

def byI (n : Int) : UInt8 := UInt8.ofNat (n % 256).toNat
def iB (b : UInt8) : Int := (b.toNat : Int)
theorem iB_bd (b : UInt8) : 0 ≤ iB b ∧ iB b ≤ 255 := by
  have := b.toNat_lt; unfold iB; omega
theorem byI_iB (b : UInt8) : byI (iB b) = b := by
  apply UInt8.toNat_inj.1
  have := b.toNat_lt
  unfold byI iB
  rw [UInt8.toNat_ofNat']
  omega
theorem byI_mod (n : Int) : byI (n % 256) = byI n := by unfold byI; rw [Int.emod_emod]
def seenB : List Int → List UInt8
  | [] => []
  | k :: l => byI (k / 256) :: byI k :: seenB l
theorem seenB_len : ∀ l : List Int, (seenB l).length = 2 * l.length
  | [] => rfl
  | k :: l => by simp [seenB, seenB_len l]; omega
theorem seenB_app : ∀ l m : List Int, seenB (l ++ m) = seenB l ++ seenB m
  | [], m => rfl
  | k :: l, m => by simp [seenB, seenB_app l m]
def pairsB : List UInt8 → List Int
  | a :: b :: l => (256 * iB a + iB b) :: pairsB l
  | _ => []
theorem seenB_pairsB : ∀ {k : Nat} {l : List UInt8}, l.length = 2 * k → seenB (pairsB l) = l
  | 0, l, h => by
    obtain rfl := List.length_eq_zero_iff.1 h; rfl
  | k + 1, [], h => by simp at h
  | k + 1, [a], h => by simp at h; omega
  | k + 1, a :: b :: l, h => by
    have ha := iB_bd a; have hb := iB_bd b
    have e1 : byI ((256 * iB a + iB b) / 256) = a := by rw [show (256 * iB a + iB b) / 256 = iB a by omega]; exact byI_iB a
    have e2 : byI (256 * iB a + iB b) = b := by rw [← byI_mod, show (256 * iB a + iB b) % 256 = iB b by omega]; exact byI_iB b
    simp only [pairsB, seenB]
    rw [e1, e2, seenB_pairsB (k := k) (by simp at h; omega)]
theorem pairsB_len : ∀ {k : Nat} {l : List UInt8}, l.length = 2 * k → (pairsB l).length = k
  | 0, l, h => by
    obtain rfl := List.length_eq_zero_iff.1 h; rfl
  | k + 1, [], h => by simp at h
  | k + 1, [a], h => by simp at h; omega
  | k + 1, a :: b :: l, h => by
    simp only [pairsB, List.length_cons]
    rw [pairsB_len (k := k) (by simp at h; omega)]
/-- one pair more -/
theorem pairsB_take : ∀ {k : Nat} {l : List UInt8} {a b : UInt8}, l[2 * k]? = some a → l[2 * k + 1]? = some b → pairsB (l.take (2 * (k + 1))) = pairsB (l.take (2 * k)) ++ [256 * iB a + iB b]
  | 0, a' :: b' :: l, a, b, h1, h2 => by
    simp at h1 h2; subst h1 h2; simp [pairsB]
  | 0, [], a, b, h1, h2 => by simp at h1
  | 0, [c], a, b, h1, h2 => by simp at h2
  | k + 1, [], a, b, h1, h2 => by simp at h1
  | k + 1, [c], a, b, h1, h2 => by simp at h1
  | k + 1, a' :: b' :: l, a, b, h1, h2 => by
    have e1 : l[2 * k]? = some a := by rw [← h1]; rw [show 2 * (k + 1) = 2 * k + 1 + 1 by omega]; simp
    have e2 : l[2 * k + 1]? = some b := by rw [← h2]; rw [show 2 * (k + 1) + 1 = 2 * k + 1 + 1 + 1 by omega]; simp
    have := pairsB_take e1 e2
    rw [show 2 * (k + 1 + 1) = (2 * (k + 1)) + 1 + 1 by omega, show 2 * (k + 1) = 2 * k + 1 + 1 by omega]
    simp only [List.take_succ_cons, pairsB]
    rw [show 2 * (k + 1) = 2 * k + 1 + 1 by omega] at this
    rw [this]; rfl

def headB (u : Upd) (n : Int) : List UInt8 := [byI n, byI u.author, byI u.kind, byI u.key, byI ((u.item + 1000) / 256), byI (u.item + 1000)]
def bytesU (u : Upd) (n : Int) : List UInt8 := headB u n ++ seenB u.seen
def BytesU (u : Upd) (n : Int) : List UInt8 × Int := if wrongU u n ≠ 0 then ([], wrongU u n) else (bytesU u n, 0)
/-- byte k of a row -/
def atB (b : List UInt8) (k : Nat) : Int := iB (b.getD k 0)
def updB (b : List UInt8) : Upd := ⟨atB b 1, pairsB (b.drop 6), atB b 2, atB b 3, 256 * atB b 4 + atB b 5 - 1000⟩
def ParseU (b : List UInt8) : Upd × Int × Int :=
  if b.length < 6 ∨ (b.length : Int) ≠ 6 + 2 * atB b 0 then (u0, 0, 2) else if wrongU (updB b) (atB b 0) ≠ 0 then (u0, 0, wrongU (updB b) (atB b 0)) else (updB b, atB b 0, 0)
end Go.Proofs.Ytkjknlnhffmkkaa
