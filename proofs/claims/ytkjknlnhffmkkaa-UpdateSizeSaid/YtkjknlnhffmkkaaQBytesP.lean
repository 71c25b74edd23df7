/- An update's bytes, as plain lists: what is written is read, in one way alone; how long it is. No program in sight. -/
import Derived.Test.YtkjknlnhffmkkaaQPl
namespace Go.Proofs.Ytkjknlnhffmkkaa
set_option linter.unusedVariables false

def byI (n : Int) : UInt8 := UInt8.ofNat (n % 256).toNat
def iB (b : UInt8) : Int := (b.toNat : Int)
theorem iB_bd (b : UInt8) : 0 ≤ iB b ∧ iB b ≤ 255 := by
  have := b.toNat_lt; unfold iB; omega
theorem iB_byI {n : Int} (h0 : 0 ≤ n) (h1 : n ≤ 255) : iB (byI n) = n := by
  unfold iB byI
  rw [UInt8.toNat_ofNat']
  omega
theorem byI_iB (b : UInt8) : byI (iB b) = b := by
  apply UInt8.toNat_inj.1
  have := b.toNat_lt
  unfold byI iB
  rw [UInt8.toNat_ofNat']
  omega
theorem byI_mod (n : Int) : byI (n % 256) = byI n := by unfold byI; rw [Int.emod_emod]
def seenB : List Int → List UInt8
  | [] => []
  | k :: l => byI (k / 256) :: byI k :: seenB l
theorem seenB_len : ∀ l : List Int, (seenB l).length = 2 * l.length
  | [] => rfl
  | k :: l => by simp [seenB, seenB_len l]; omega
theorem seenB_app : ∀ l m : List Int, seenB (l ++ m) = seenB l ++ seenB m
  | [], m => rfl
  | k :: l, m => by simp [seenB, seenB_app l m]
def pairsB : List UInt8 → List Int
  | a :: b :: l => (256 * iB a + iB b) :: pairsB l
  | _ => []
theorem seenB_pairsB : ∀ {k : Nat} {l : List UInt8}, l.length = 2 * k → seenB (pairsB l) = l
  | 0, l, h => by
    obtain rfl := List.length_eq_zero_iff.1 h; rfl
  | k + 1, [], h => by simp at h
  | k + 1, [a], h => by simp at h; omega
  | k + 1, a :: b :: l, h => by
    have ha := iB_bd a; have hb := iB_bd b
    have e1 : byI ((256 * iB a + iB b) / 256) = a := by rw [show (256 * iB a + iB b) / 256 = iB a by omega]; exact byI_iB a
    have e2 : byI (256 * iB a + iB b) = b := by rw [← byI_mod, show (256 * iB a + iB b) % 256 = iB b by omega]; exact byI_iB b
    simp only [pairsB, seenB]
    rw [e1, e2, seenB_pairsB (k := k) (by simp at h; omega)]
theorem pairsB_len : ∀ {k : Nat} {l : List UInt8}, l.length = 2 * k → (pairsB l).length = k
  | 0, l, h => by
    obtain rfl := List.length_eq_zero_iff.1 h; rfl
  | k + 1, [], h => by simp at h
  | k + 1, [a], h => by simp at h; omega
  | k + 1, a :: b :: l, h => by
    simp only [pairsB, List.length_cons]
    rw [pairsB_len (k := k) (by simp at h; omega)]
def headB (u : Upd) (n : Int) : List UInt8 := [byI n, byI u.author, byI u.kind, byI u.key, byI ((u.item + 1000) / 256), byI (u.item + 1000)]
def bytesU (u : Upd) (n : Int) : List UInt8 := headB u n ++ seenB u.seen
def BytesU (u : Upd) (n : Int) : List UInt8 × Int := if wrongU u n ≠ 0 then ([], wrongU u n) else (bytesU u n, 0)
/-- byte k of a row -/
def atB (b : List UInt8) (k : Nat) : Int := iB (b.getD k 0)
def updB (b : List UInt8) : Upd := ⟨atB b 1, pairsB (b.drop 6), atB b 2, atB b 3, 256 * atB b 4 + atB b 5 - 1000⟩
def ParseU (b : List UInt8) : Upd × Int × Int :=
  if b.length < 6 ∨ (b.length : Int) ≠ 6 + 2 * atB b 0 then (u0, 0, 2) else if wrongU (updB b) (atB b 0) ≠ 0 then (u0, 0, wrongU (updB b) (atB b 0)) else (updB b, atB b 0, 0)
theorem bytesU_len {u : Upd} {n : Int} (h : wrongU u n = 0) : ((bytesU u n).length : Int) = 6 + 2 * n := by
  have hl := (wrongU_iff.1 h).len
  have := seenB_len u.seen
  unfold bytesU headB
  rw [List.length_append, this]
  simp
  omega
theorem bytesU_at0 {u : Upd} {n : Int} (h : wrongU u n = 0) : atB (bytesU u n) 0 = n := by
  have hl := (wrongU_iff.1 h).len
  show iB (byI n) = n
  exact iB_byI (by omega) (by omega)
theorem parse_more {u : Upd} {n : Int} (h : wrongU u n = 0) {m : List UInt8} (hm : m ≠ []) : (ParseU (bytesU u n ++ m)).2.2 = 2 := by
  have e := bytesU_len h
  have hl := (wrongU_iff.1 h).len
  have h0 : atB (bytesU u n ++ m) 0 = n := bytesU_at0 h
  have := List.length_pos_iff.2 hm
  unfold ParseU
  rw [if_pos (.inr (by rw [h0, List.length_append]; omega))]
theorem parse_less {u : Upd} {n : Int} (h : wrongU u n = 0) {k : Nat} (hk : (k : Int) = 6 + 2 * n - 1) : (ParseU ((bytesU u n).take k)).2.2 = 2 := by
  have e := bytesU_len h
  have hl := (wrongU_iff.1 h).len
  have hl2 : (((bytesU u n).take k).length : Int) = 6 + 2 * n - 1 := by rw [List.length_take]; omega
  have h0 : atB ((bytesU u n).take k) 0 = n := by
    refine Eq.trans ?_ (bytesU_at0 h)
    unfold atB
    rw [List.getD_eq_getElem?_getD, List.getElem?_take, if_pos (by omega), ← List.getD_eq_getElem?_getD]
  unfold ParseU
  rw [if_pos (.inr (by rw [h0]; omega))]
end Go.Proofs.Ytkjknlnhffmkkaa
