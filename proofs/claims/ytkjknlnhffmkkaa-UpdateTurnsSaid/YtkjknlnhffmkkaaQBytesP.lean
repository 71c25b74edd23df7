/- An update's bytes, as plain lists: what is written is read, in one way alone; how long it is. No program in sight. -/
import Derived.Test.YtkjknlnhffmkkaaQPl
namespace Go.Proofs.Ytkjknlnhffmkkaa
set_option linter.unusedVariables false

def byI (n : Int) : UInt8 := UInt8.ofNat (n % 256).toNat
def iB (b : UInt8) : Int := (b.toNat : Int)
theorem iB_bd (b : UInt8) : 0 ≤ iB b ∧ iB b ≤ 255 := by
  have := b.toNat_lt; unfold iB; omega
theorem iB_byI {n : Int} (h0 : 0 ≤ n) (h1 : n ≤ 255) : iB (byI n) = n := by
  unfold iB byI
  rw [UInt8.toNat_ofNat']
  omega
theorem byI_iB (b : UInt8) : byI (iB b) = b := by
  apply UInt8.toNat_inj.1
  have := b.toNat_lt
  unfold byI iB
  rw [UInt8.toNat_ofNat']
  omega
theorem byI_mod (n : Int) : byI (n % 256) = byI n := by unfold byI; rw [Int.emod_emod]
def seenB : List Int → List UInt8
  | [] => []
  | k :: l => byI (k / 256) :: byI k :: seenB l
theorem seenB_len : ∀ l : List Int, (seenB l).length = 2 * l.length
  | [] => rfl
  | k :: l => by simp [seenB, seenB_len l]; omega
theorem seenB_app : ∀ l m : List Int, seenB (l ++ m) = seenB l ++ seenB m
  | [], m => rfl
  | k :: l, m => by simp [seenB, seenB_app l m]
def pairsB : List UInt8 → List Int
  | a :: b :: l => (256 * iB a + iB b) :: pairsB l
  | _ => []
theorem pairsB_seenB : ∀ {l : List Int}, (∀ x ∈ l, 0 ≤ x ∧ x ≤ 1000) → pairsB (seenB l) = l
  | [], _ => rfl
  | k :: l, h => by
    have hk := h k (by simp)
    have e1 : iB (byI (k / 256)) = k / 256 := iB_byI (by omega) (by omega)
    have e2 : iB (byI k) = k % 256 := by rw [← byI_mod]; exact iB_byI (by omega) (by omega)
    simp only [seenB, pairsB]
    rw [e1, e2, pairsB_seenB fun x hx => h x (by simp [hx])]
    congr 1
    omega
theorem seenB_pairsB : ∀ {k : Nat} {l : List UInt8}, l.length = 2 * k → seenB (pairsB l) = l
  | 0, l, h => by
    obtain rfl := List.length_eq_zero_iff.1 h; rfl
  | k + 1, [], h => by simp at h
  | k + 1, [a], h => by simp at h; omega
  | k + 1, a :: b :: l, h => by
    have ha := iB_bd a; have hb := iB_bd b
    have e1 : byI ((256 * iB a + iB b) / 256) = a := by rw [show (256 * iB a + iB b) / 256 = iB a by omega]; exact byI_iB a
    have e2 : byI (256 * iB a + iB b) = b := by rw [← byI_mod, show (256 * iB a + iB b) % 256 = iB b by omega]; exact byI_iB b
    simp only [pairsB, seenB]
    rw [e1, e2, seenB_pairsB (k := k) (by simp at h; omega)]
theorem pairsB_len : ∀ {k : Nat} {l : List UInt8}, l.length = 2 * k → (pairsB l).length = k
  | 0, l, h => by
    obtain rfl := List.length_eq_zero_iff.1 h; rfl
  | k + 1, [], h => by simp at h
  | k + 1, [a], h => by simp at h; omega
  | k + 1, a :: b :: l, h => by
    simp only [pairsB, List.length_cons]
    rw [pairsB_len (k := k) (by simp at h; omega)]
def headB (u : Upd) (n : Int) : List UInt8 := [byI n, byI u.author, byI u.kind, byI u.key, byI ((u.item + 1000) / 256), byI (u.item + 1000)]
def bytesU (u : Upd) (n : Int) : List UInt8 := headB u n ++ seenB u.seen
def BytesU (u : Upd) (n : Int) : List UInt8 × Int := if wrongU u n ≠ 0 then ([], wrongU u n) else (bytesU u n, 0)
/-- byte k of a row -/
def atB (b : List UInt8) (k : Nat) : Int := iB (b.getD k 0)
def updB (b : List UInt8) : Upd := ⟨atB b 1, pairsB (b.drop 6), atB b 2, atB b 3, 256 * atB b 4 + atB b 5 - 1000⟩
def ParseU (b : List UInt8) : Upd × Int × Int :=
  if b.length < 6 ∨ (b.length : Int) ≠ 6 + 2 * atB b 0 then (u0, 0, 2) else if wrongU (updB b) (atB b 0) ≠ 0 then (u0, 0, wrongU (updB b) (atB b 0)) else (updB b, atB b 0, 0)
theorem bytesU_len {u : Upd} {n : Int} (h : wrongU u n = 0) : ((bytesU u n).length : Int) = 6 + 2 * n := by
  have hl := (wrongU_iff.1 h).len
  have := seenB_len u.seen
  unfold bytesU headB
  rw [List.length_append, this]
  simp
  omega
theorem bytesU_at0 {u : Upd} {n : Int} (h : wrongU u n = 0) : atB (bytesU u n) 0 = n := by
  have hl := (wrongU_iff.1 h).len
  show iB (byI n) = n
  exact iB_byI (by omega) (by omega)
theorem updB_bytesU {u : Upd} {n : Int} (h : wrongU u n = 0) : updB (bytesU u n) = u := by
  have r := wrongU_iff.1 h
  have hl := r.len
  have hw := wrongC_ok r.c
  have a0 := r.a0; have a1 := r.a1; have k0 := r.k0; have k1 := r.k1; have y0 := r.y0; have y1 := r.y1; have i0 := r.i0; have i1 := r.i1
  have e1 : atB (bytesU u n) 1 = u.author := by show iB (byI u.author) = _; exact iB_byI (by omega) (by omega)
  have e2 : atB (bytesU u n) 2 = u.kind := by show iB (byI u.kind) = _; exact iB_byI (by omega) (by omega)
  have e3 : atB (bytesU u n) 3 = u.key := by show iB (byI u.key) = _; exact iB_byI (by omega) (by omega)
  have e4 : atB (bytesU u n) 4 = (u.item + 1000) / 256 := by show iB (byI _) = _; exact iB_byI (by omega) (by omega)
  have e5 : atB (bytesU u n) 5 = (u.item + 1000) % 256 := by show iB (byI _) = _; rw [← byI_mod]; exact iB_byI (by omega) (by omega)
  have e6 : pairsB ((bytesU u n).drop 6) = u.seen := by
    show pairsB (seenB u.seen) = _
    exact pairsB_seenB hw.2.2.2
  unfold updB
  rw [e1, e2, e3, e4, e5, e6]
  obtain ⟨au, se, ki, ke, it⟩ := u
  simp only [Upd.mk.injEq, true_and]
  simp only at i0 i1
  omega
theorem parse_bytes {u : Upd} {n : Int} (h : wrongU u n = 0) : ParseU (bytesU u n) = (u, n, 0) := by
  have hl := (wrongU_iff.1 h).len
  have e := bytesU_len h
  unfold ParseU
  rw [bytesU_at0 h, updB_bytesU h, if_neg (by omega), if_neg (fun k => k h)]
theorem parse_ok {b : List UInt8} (h : (ParseU b).2.2 = 0) : ParseU b = (updB b, atB b 0, 0) ∧ wrongU (updB b) (atB b 0) = 0 ∧ 6 ≤ b.length ∧ (b.length : Int) = 6 + 2 * atB b 0 := by
  unfold ParseU at h ⊢
  split at h
  · cases h
  · rename_i h1
    rw [if_neg h1]
    split at h
    · rename_i h2; exact absurd h h2
    · rename_i h2
      rw [if_neg h2]
      exact ⟨rfl, Classical.not_not.1 h2, by omega, by omega⟩
theorem six_of {b : List UInt8} (h : 6 ≤ b.length) : b = [b.getD 0 0, b.getD 1 0, b.getD 2 0, b.getD 3 0, b.getD 4 0, b.getD 5 0] ++ b.drop 6 := by
  match b, h with
  | a :: c :: d :: e :: f :: g :: l, _ => rfl
theorem bytes_parse {b : List UInt8} (h : (ParseU b).2.2 = 0) : BytesU (ParseU b).1 (ParseU b).2.1 = (b, 0) := by
  obtain ⟨e, hw, h6, hl⟩ := parse_ok h
  rw [e]
  unfold BytesU
  dsimp only
  rw [if_neg (fun k => k hw)]
  have b0 := iB_bd (b.getD 0 0)
  have hd : (b.drop 6).length = 2 * (atB b 0).toNat := by rw [List.length_drop]; unfold atB at hl ⊢; omega
  have e6 : seenB (updB b).seen = b.drop 6 := seenB_pairsB hd
  have b4 := iB_bd (b.getD 4 0); have b5 := iB_bd (b.getD 5 0)
  have g4 : byI (((updB b).item + 1000) / 256) = b.getD 4 0 := by
    rw [show ((updB b).item + 1000) / 256 = iB (b.getD 4 0) by show (256 * atB b 4 + atB b 5 - 1000 + 1000) / 256 = _; unfold atB; omega]; exact byI_iB _
  have g5 : byI ((updB b).item + 1000) = b.getD 5 0 := by
    rw [← byI_mod, show ((updB b).item + 1000) % 256 = iB (b.getD 5 0) by show (256 * atB b 4 + atB b 5 - 1000 + 1000) % 256 = _; unfold atB; omega]; exact byI_iB _
  have e7 : bytesU (updB b) (atB b 0) = b := by
    unfold bytesU headB
    rw [e6, g4, g5]
    show [byI (iB (b.getD 0 0)), byI (iB (b.getD 1 0)), byI (iB (b.getD 2 0)), byI (iB (b.getD 3 0)), b.getD 4 0, b.getD 5 0] ++ b.drop 6 = b
    rw [byI_iB, byI_iB, byI_iB, byI_iB]
    exact (six_of h6).symm
  rw [e7]
end Go.Proofs.Ytkjknlnhffmkkaa
