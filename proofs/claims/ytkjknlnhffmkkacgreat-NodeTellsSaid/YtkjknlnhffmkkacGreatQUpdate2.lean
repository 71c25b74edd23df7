/- Package update, further: Seq, Own; the reference's SameUpdate and Has; log.has. -/
import Derived.Test.YtkjknlnhffmkkacGreatQUpdate
namespace Go.Proofs.YtkjknlnhffmkkacGreat
open Go.RowKit
set_option linter.unusedVariables false

theorem Seq_calls (v:Value) (u:Upd) (w:World) (h:AggR UpdR (wrd w) v u) (h0:0 ≤ u.author) (h1:u.author < u.seen.length) :
    Calls Tryz.prog 84 #[v] w fun e w' => e = .returned (.int .i64 (seqU u)) ∧ Below w.heap.size w w':=by
  obtain ⟨cs,rfl,sv,rfl,hs⟩:=h
  obtain ⟨au,se,ki,ke,it⟩:=u
  simp only at hs h0 h1 ⊢
  obtain ⟨k,rfl⟩:=Int.eq_ofNat_of_zero_le h0
  have hk:k < se.length:=by omega
  have e:seqU ⟨k,se,ki,ke,it⟩ = wrap64 (se[k] + 1):=by unfold seqU;simp only;rw [Int.toNat_natCast,atI_lt hk]
  rw [e];clear e h0
  obtain ⟨A,c,rfl,m1,m2⟩:=hs.val
  obtain ⟨b,o,rfl,_⟩:=hs.at_ hk
  have hcell:∀ X:Obj,(w.alloc X).cell? ⟨b,o + k,none⟩ = some (.int .i64 se[k]):=fun X => IntsR.cell hs (le_alloc w X) hk
  unfold maxLen at m2
  go_enter Tryz.func84,Tryz.ntmps84
  go_wp2
  go_ret
  exact ⟨rfl,below_alloc1 _ _⟩

theorem Own_calls (v:Value) (u:Upd) (rd:Rd) (w:World) (h:AggR UpdR rd v u) (hle:Rd.le rd (wrd w)) (hbig:u.seen.length * 8 ≤ 140737488355328) :
    Calls Tryz.prog 77 #[v] w fun e w' => ∃ r,e = .returned r ∧ AggR UpdR (newer w' w.heap.size) r u ∧ Below w.heap.size w w':=by
  obtain ⟨cs,rfl,sv,rfl,hs⟩:=h
  obtain ⟨au,se,ki,ke,it⟩:=u
  simp only at hs hbig ⊢
  go_enter Tryz.func77,Tryz.ntmps77
  go_wp2_with fail
  refine (CloneC_calls _ _ rd _ hs (Rd.le_trans hle (Rd.le_trans (le_alloc _ _) (le_alloc _ _))) hbig).mono ?_
  rintro e w1 ⟨r,rfl,ho,k⟩
  obtain ⟨A,c,rfl,m1,m2⟩:=ho.val
  simp only [World.size_alloc] at k
  have k1:=(below_alloc1 (w.alloc (.cells #[.int .i64 au,sv,.int .i64 ki,.int .i64 ke,.int .i64 it] 42)) (.cells #[.int .i64 0,.slice none 0 0,.int .i64 0,.int .i64 0,.int .i64 0] 42)).trans (k.mono (by simp))
  simp only [World.size_alloc] at k1
  have c0:w1.cell? ⟨w.heap.size,0,none⟩ = some (.int .i64 au):=cells_of_new rfl k1 0
  have c1:w1.cell? ⟨w.heap.size,1,none⟩ = some (sv):=cells_of_new rfl k1 1
  have c2:w1.cell? ⟨w.heap.size,2,none⟩ = some (.int .i64 ki):=cells_of_new rfl k1 2
  have c3:w1.cell? ⟨w.heap.size,3,none⟩ = some (.int .i64 ke):=cells_of_new rfl k1 3
  have c4:w1.cell? ⟨w.heap.size,4,none⟩ = some (.int .i64 it):=cells_of_new rfl k1 4
  have d0:w1.cell? ⟨w.heap.size + 1,0,none⟩ = some (.int .i64 0):=cells_of_new (by simp) k 0
  have d1:w1.cell? ⟨w.heap.size + 1,1,none⟩ = some (.slice none 0 0):=cells_of_new (by simp) k 1
  have d2:w1.cell? ⟨w.heap.size + 1,2,none⟩ = some (.int .i64 0):=cells_of_new (by simp) k 2
  have d3:w1.cell? ⟨w.heap.size + 1,3,none⟩ = some (.int .i64 0):=cells_of_new (by simp) k 3
  have d4:w1.cell? ⟨w.heap.size + 1,4,none⟩ = some (.int .i64 0):=cells_of_new (by simp) k 4
  have f0:w1.frozen? ⟨w.heap.size + 1,0,none⟩ = false:=free_of_new (by simp) k 0
  have f1:w1.frozen? ⟨w.heap.size + 1,1,none⟩ = false:=free_of_new (by simp) k 1
  have f2:w1.frozen? ⟨w.heap.size + 1,2,none⟩ = false:=free_of_new (by simp) k 2
  have f3:w1.frozen? ⟨w.heap.size + 1,3,none⟩ = false:=free_of_new (by simp) k 3
  have f4:w1.frozen? ⟨w.heap.size + 1,4,none⟩ = false:=free_of_new (by simp) k 4
  have f5:w1.frozen? ⟨w.heap.size,1,none⟩ = false:=free_of_new rfl k1 1
  go_wp2
  refine bodyPost_ret (v:=.agg #[.int .i64 au,.slice A se.length c,.int .i64 ki,.int .i64 ke,.int .i64 it]) (by simp [results,Tryz.results77,go_sem,d0,d1,d2,d3,d4]) rfl ⟨_,rfl,⟨_,rfl,_,rfl,?_⟩,?_⟩
  · refine IntsR.mono ho.ints_newer (Rd.le_trans ?_ (newer_weak (B:=w.heap.size + 2) (by omega)))
    simp only [World.size_alloc]
    iterate 5 refine Rd.le_trans ?_ (newer_set (by show w.heap.size + 1 < w.heap.size + 2;omega) _)
    exact newer_set (by show w.heap.size < w.heap.size + 2;omega) _
  · refine Below.setCell ?_ (by show _ ≤ w.heap.size + 1;omega) _
    iterate 4 refine Below.setCell ?_ (by show _ ≤ w.heap.size + 1;omega) _
    refine Below.setCell ?_ (by show _ ≤ w.heap.size;omega) _
    exact (below_alloc2 w _ _).trans (k.mono (by omega))
end Go.Proofs.YtkjknlnhffmkkacGreat
