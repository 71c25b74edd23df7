/- Package update, further: Seq, Own; the reference's SameUpdate and Has; log.has. -/
import Derived.Test.YtkjknlnhffmkkaaQUpdate
namespace Go.Proofs.Ytkjknlnhffmkkaa
open Go.RowKit
set_option linter.unusedVariables false

theorem Seq_calls (v : Value) (u : Upd) (w : World) (h : AggR UpdR (wrd w) v u) (h0 : 0 ≤ u.author) (h1 : u.author < u.seen.length) :
    Calls Try.prog 23 #[v] w fun e w' => e = .returned (.int .i64 (seqU u)) ∧ Below w.heap.size w w' := by
  obtain ⟨cs, rfl, sv, rfl, hs⟩ := h
  obtain ⟨au, se, ki, ke, it⟩ := u
  simp only at hs h0 h1 ⊢
  obtain ⟨k, rfl⟩ := Int.eq_ofNat_of_zero_le h0
  have hk : k < se.length := by omega
  have e : seqU ⟨k, se, ki, ke, it⟩ = wrap64 (se[k] + 1) := by unfold seqU; simp only; rw [Int.toNat_natCast, atI_lt hk]
  rw [e]; clear e h0
  obtain ⟨A, c, rfl, m1, m2⟩ := hs.val
  obtain ⟨b, o, rfl, _⟩ := hs.at_ hk
  have hcell : ∀ X : Obj, (w.alloc X).cell? ⟨b, o + k, none⟩ = some (.int .i64 se[k]) := fun X => IntsR.cell hs (le_alloc w X) hk
  unfold maxLen at m2
  go_enter Try.func23, Try.ntmps23
  go_wp2
  go_ret
  exact ⟨rfl, below_alloc1 _ _⟩

end Go.Proofs.Ytkjknlnhffmkkaa
