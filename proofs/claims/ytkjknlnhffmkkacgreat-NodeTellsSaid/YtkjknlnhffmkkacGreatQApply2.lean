/- state.apply, whatever the kind: a new state, as what is read. -/
import Derived.Test.YtkjknlnhffmkkacGreatQApply
import Derived.Test.YtkjknlnhffmkkacGreatQEg
import Derived.Test.YtkjknlnhffmkkacGreatQPl
namespace Go.Proofs.YtkjknlnhffmkkacGreat
open Go.RowKit
set_option linter.unusedVariables false
theorem Apply_c (rd:Rd) (W:World) (hle:Rd.le rd (wrd W)) (v v2:Value) (s:State) (u:Upd) (n:Int) (h:AggR StateR rd v s) (h2:AggR UpdR rd v2 u) (hs:RightS s n) (hu:StepOk s.clock u n) :
    Calls Tryz.prog 96 #[v,v2] W (fun e w' => ∃ v',e = .returned v' ∧ AggR StateR (ext rd W w') v' (applyS s u) ∧ Below W.heap.size W w'):=by
  have fin:∀ e w',(∃ v1 v2 v3 x1 x2 x3,e = Ending.returned (.agg #[v1,v2,v3]) ∧ OwnsL W.heap.size w' [⟨3,1,v1,(applyS s u).clock.length,x1⟩,⟨104,5,v2,(applyS s u).lives.length,x2⟩,⟨106,3,v3,(applyS s u).tallies.length,x3⟩] ∧ RowR 1 IntR rd x1 (applyS s u).clock ∧ RowR 5 LiveR rd x2 (applyS s u).lives ∧ RowR 3 TallyR rd x3 (applyS s u).tallies ∧ Below W.heap.size W w') → ∃ v',e = Ending.returned v' ∧ AggR StateR (ext rd W w') v' (applyS s u) ∧ Below W.heap.size W w':=by
    rintro e w' ⟨v1,v2,v3,x1,x2,x3,rfl,hO,h1,h2,h3,k⟩
    exact ⟨_,rfl,⟨[v1,v2,v3],rfl,v1,v2,v3,rfl,own_ext1 (hO.at (i:=0) rfl) h1 (le_ext hle),own_ext1 (hO.at (i:=1) rfl) h2 (le_ext hle),own_ext1 (hO.at (i:=2) rfl) h3 (le_ext hle)⟩,k⟩
  have hr:=hu.r
  have hn:=wrongC_ok hs.c
  have hl:=hr.len
  have a0:=hr.a0
  have a1:=hr.a1
  have i0:=hr.i0
  have i1:=hr.i1
  have q1:=hs.lives_len
  have q2:=hs.tallies_len
  have hsum:∀ z ∈ s.tallies,-4611686018427387904 ≤ z.sum ∧ z.sum ≤ 4611686018427387903:=fun z hz => by
    have q:=hs.t z hz
    have:=q.s0;have:=q.s1;have:=atI_bd hs.c z.author.toNat
    omega
  have hk:u.kind = 1 ∨ u.kind = 2 ∨ u.kind = 3 ∨ u.kind = 4 ∨ u.kind = 5:=by have:=hr.k0;have:=hr.k1;omega
  rcases hk with k | k | k | k | k
  · exact (Apply_k1 rd W hle v v2 s u h h2 k a0 (by omega) hs.ls hs.ts hsum (by omega) (by omega) (by omega) (by omega)).mono fin
  · exact (Apply_k2 rd W hle v v2 s u h h2 k a0 (by omega) hs.ls hs.ts hsum (by omega) (by omega) (by omega) (by omega)).mono fin
  · exact (Apply_k3 rd W hle v v2 s u h h2 k a0 (by omega) hs.ls hs.ts hsum (by omega) (by omega) (by omega) (by omega)).mono fin
  · exact (Apply_k4 rd W hle v v2 s u h h2 k a0 (by omega) hs.ls hs.ts hsum (by omega) (by omega) (by omega) (by omega)).mono fin
  · exact (Apply_k5 rd W hle v v2 s u h h2 k a0 (by omega) hs.ls hs.ts hsum (by omega) (by omega) (by omega) (by omega)).mono fin
theorem SOwn2_c (rd:Rd) (W:World) (hle:Rd.le rd (wrd W)) (v:Value) (s:State) (h:AggR StateR rd v s) (hb:StBd s):Calls Tryz.prog 58 #[v] W (fun e w' => ∃ v',e = .returned v' ∧ AggR StateR (ext rd W w') v' s ∧ Below W.heap.size W w') :=
  (SOwn_c rd W hle v s h hb).mono (by
    rintro e w' ⟨v1,v2,v3,x1,x2,x3,rfl,hO,h1,h2,h3,k⟩
    exact ⟨_,rfl,⟨[v1,v2,v3],rfl,v1,v2,v3,rfl,own_ext1 (hO.at (i:=0) rfl) h1 (le_ext hle),own_ext1 (hO.at (i:=1) rfl) h2 (le_ext hle),own_ext1 (hO.at (i:=2) rfl) h3 (le_ext hle)⟩,k⟩)
theorem RightS.bd {s:State} {n:Int} (h:RightS s n):StBd s:=by
  have:=h.lives_len;have:=h.tallies_len;have:=h.clock_len
  unfold StBd;omega
end Go.Proofs.YtkjknlnhffmkkacGreat
