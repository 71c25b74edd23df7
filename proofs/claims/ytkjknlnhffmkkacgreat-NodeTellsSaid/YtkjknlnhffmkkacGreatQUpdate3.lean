/- The reference's SameUpdate and Has; log.has. -/
import Derived.Test.YtkjknlnhffmkkacGreatQUpdate2
namespace Go.Proofs.YtkjknlnhffmkkacGreat
open Go.RowKit
set_option linter.unusedVariables false

set_option maxHeartbeats 1000000 in
theorem SameU_calls (v v':Value) (a b:Upd) (w:World) (h:AggR UpdR (wrd w) v a) (h':AggR UpdR (wrd w) v' b) :
    Calls Tryz.prog 85 #[v,v'] w fun e w' => e = .returned (.bool (sameU a b)) ∧ Below w.heap.size w w':=by
  obtain ⟨cs,rfl,sv,rfl,hs⟩:=h
  obtain ⟨cs',rfl,sv',rfl,hs'⟩:=h'
  obtain ⟨au,se,ki,ke,it⟩:=a
  obtain ⟨au',se',ki',ke',it'⟩:=b
  simp only at hs hs' ⊢
  by_cases eau:au = au'
  rotate_left
  · rw [show sameU ⟨au,se,ki,ke,it⟩ ⟨au',se',ki',ke',it'⟩ = false by unfold sameU;simp [eau]]
    have q1:(au == au') = false:=by simp [eau]
    clear eau
    go_enter Tryz.func85,Tryz.ntmps85
    go_wp2
    go_ret
    exact ⟨rfl,below_alloc2 _ _ _⟩
  by_cases eki:ki = ki'
  rotate_left
  · rw [show sameU ⟨au,se,ki,ke,it⟩ ⟨au',se',ki',ke',it'⟩ = false by unfold sameU;simp [eki]]
    have q1:(ki == ki') = false:=by simp [eki]
    have qau:(au == au') = true:=by simp [eau]
    clear eki eau
    go_enter Tryz.func85,Tryz.ntmps85
    go_wp2
    go_ret
    exact ⟨rfl,below_alloc2 _ _ _⟩
  by_cases eke:ke = ke'
  rotate_left
  · rw [show sameU ⟨au,se,ki,ke,it⟩ ⟨au',se',ki',ke',it'⟩ = false by unfold sameU;simp [eke]]
    have q1:(ke == ke') = false:=by simp [eke]
    have qau:(au == au') = true:=by simp [eau]
    have qki:(ki == ki') = true:=by simp [eki]
    clear eke eau eki
    go_enter Tryz.func85,Tryz.ntmps85
    go_wp2
    go_ret
    exact ⟨rfl,below_alloc2 _ _ _⟩
  by_cases eit:it = it'
  rotate_left
  · rw [show sameU ⟨au,se,ki,ke,it⟩ ⟨au',se',ki',ke',it'⟩ = false by unfold sameU;simp [eit]]
    have q1:(it == it') = false:=by simp [eit]
    have qau:(au == au') = true:=by simp [eau]
    have qki:(ki == ki') = true:=by simp [eki]
    have qke:(ke == ke') = true:=by simp [eke]
    clear eit eau eki eke
    go_enter Tryz.func85,Tryz.ntmps85
    go_wp2
    go_ret
    exact ⟨rfl,below_alloc2 _ _ _⟩
  subst eau eki eke eit
  rw [show sameU ⟨au,se,ki,ke,it⟩ ⟨au,se',ki,ke,it⟩ = sameL se se' by unfold sameU sameL;simp]
  have q1:(au == au) = true:=by simp
  have q2:(ki == ki) = true:=by simp
  have q3:(ke == ke) = true:=by simp
  have q4:(it == it) = true:=by simp
  go_enter Tryz.func85,Tryz.ntmps85
  go_wp2_with (go_at_call 16;refine (Same_calls _ _ _ _ _ (SliceR.up hs (below_alloc2 _ _ _)) (SliceR.up hs' (below_alloc2 _ _ _))).mono ?_;rintro e w' ⟨rfl,k⟩)
  go_ret
  exact ⟨rfl,below_of_alloc (below_of_alloc k)⟩
set_option maxHeartbeats 1000000 in
theorem has_calls (v p:Value) (c:List Int) (u:Upd) (w:World) (h:IntsR (wrd w) v c) (hp:PtrR UpdR (wrd w) p u) :
    Calls Tryz.prog 81 #[v,p] w fun e w' => e = .returned (.bool (hasU c u)) ∧ Below w.heap.size w w':=by
  obtain ⟨pb,po,cs,rfl,⟨sv,rfl,hs⟩,hcells⟩:=hp
  obtain ⟨au,se,ki,ke,it⟩:=u
  simp only [wrd] at hs hcells ⊢
  have p0:=hcells 0 _ rfl
  have p1:=hcells 1 _ rfl
  clear hcells
  rw [Nat.add_zero] at p0
  obtain ⟨A,cc,rfl,m1,m2⟩:=h.val
  obtain ⟨A',cc',rfl,m1',m2'⟩:=IntsR.mono (rd':=wrd w) hs (Rd.le_refl _) |>.val
  unfold maxLen at m2 m2'
  by_cases a0:au < 0
  · rw [show hasU c ⟨au,se,ki,ke,it⟩ = false by unfold hasU;simp;omega]
    have d0:decide (0 ≤ au) = false:=decide_eq_false (by omega)
    go_enter Tryz.func81,Tryz.ntmps81
    go_wp2
    go_quiet (fail)
    go_wp2
    go_ret
    exact ⟨rfl,below_drewN _ _ _⟩
  obtain ⟨k,rfl⟩:=Int.eq_ofNat_of_zero_le (Int.not_lt.1 a0)
  clear a0
  by_cases k1:k < c.length
  rotate_left
  · rw [show hasU c ⟨k,se,ki,ke,it⟩ = false by unfold hasU;simp;omega]
    have d1:decide (k < c.length) = false:=decide_eq_false k1
    go_enter Tryz.func81,Tryz.ntmps81
    go_wp2
    go_quiet (fail)
    go_wp2
    go_ret
    exact ⟨rfl,below_drewN _ _ _⟩
  have d1:decide (k < c.length) = true:=decide_eq_true k1
  by_cases k2:k < se.length
  rotate_left
  · rw [show hasU c ⟨k,se,ki,ke,it⟩ = false by unfold hasU;simp;omega]
    have d2:decide (k < se.length) = false:=decide_eq_false k2
    go_enter Tryz.func81,Tryz.ntmps81
    go_wp2
    go_quiet (fail)
    go_wp2
    go_ret
    exact ⟨rfl,below_drewN _ _ _⟩
  have d2:decide (k < se.length) = true:=decide_eq_true k2
  rw [hasU_in k1 k2]
  obtain ⟨b,o,rfl,hc1⟩:=h.at_ k1
  obtain ⟨b',o',rfl,hc2⟩:=IntsR.at_ hs k2
  simp only [wrd] at hc1 hc2
  go_enter Tryz.func81,Tryz.ntmps81
  go_wp2
  go_quiet (fail)
  go_wp2
  go_ret
  exact ⟨rfl,below_drewN _ _ _⟩
theorem rHas_calls (v v':Value) (c:List Int) (u:Upd) (w:World) (h:IntsR (wrd w) v c) (h':AggR UpdR (wrd w) v' u) (a0:0 ≤ u.author) (a1:u.author < u.seen.length) :
    Calls Tryz.prog 63 #[v,v'] w fun e w' => e = .returned (.bool (decide (atI u.seen u.author.toNat < atI c u.author.toNat))) ∧ Below w.heap.size w w':=by
  obtain ⟨cs,rfl,sv,rfl,hs⟩:=h'
  obtain ⟨au,se,ki,ke,it⟩:=u
  simp only at hs a0 a1 ⊢
  obtain ⟨k,rfl⟩:=Int.eq_ofNat_of_zero_le a0
  have hk:k < se.length:=by omega
  rw [Int.toNat_natCast,atI_lt hk]
  obtain ⟨A',cc',rfl,m1',m2'⟩:=hs.val
  obtain ⟨b,o,rfl,_⟩:=hs.at_ hk
  have hcell:∀ X:Obj,(w.alloc X).cell? ⟨b,o + k,none⟩ = some (.int .i64 se[k]):=fun X => IntsR.cell hs (le_alloc w X) hk
  unfold maxLen at m2'
  go_enter Tryz.func63,Tryz.ntmps63
  go_wp2
  go_quiet ((go_at_call 95;exact Calls.quiet_of_same ((At_calls _ _ _ _ (IntsR.mono h (Rd.le_trans (le_alloc _ _) (le_below (below_drewN _ _ _) (Nat.le_refl _))))).mono fun _ _ ⟨a,b⟩ => ⟨a,b.symm⟩)))
  go_wp2
  go_ret
  exact ⟨rfl,(below_alloc1 _ _).trans (below_drewN _ _ _)⟩
end Go.Proofs.YtkjknlnhffmkkacGreat
