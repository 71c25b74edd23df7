/- slices.SortFunc over a row that the caller owns. A plain theorem over any program that bears the library's bodies; no condition. -/
import Derived.Test.YtkjknlnhffmkkacGreatQEngW
import Derived.Test.YtkjknlnhffmkkacGreatQPl
import Derived.Shelf.SlSortCmp.WholeK
import Derived.Shelf.SlSortCmp.NoneTotal
namespace Go.Proofs.YtkjknlnhffmkkacGreat
open Go.RowKit Go.Shelf Go.Sort
set_option linter.unusedVariables false

section
variable {α:Type} {R:CR α} {enc:α → List Value} {k:Nat}
/-- an element's cells are its encoding -/
def EncR (R:CR α) (enc:α → List Value):Prop:=∀ rd cs x,R rd cs x ↔ cs = enc x
theorem row_flat (hR:EncR R enc) {rd:Rd}:∀ {l:List α} {xs:List Value},RowR k R rd xs l → xs = l.flatMap enc
  | [],xs,h => h
  | x :: l,xs,h => by
    obtain ⟨cs,rest,rfl,h1,h2,h3⟩:=h
    rw [(hR _ _ _).1 h2,row_flat hR h3];rfl
theorem flat_row (hR:EncR R enc) (hk:∀ x,(enc x).length = k) {rd:Rd}:∀ {l:List α},RowR k R rd (l.flatMap enc) l
  | [] => rfl
  | x :: l => ⟨enc x,l.flatMap enc,rfl,hk x,(hR _ _ _).2 rfl,flat_row hR hk⟩
end
section
variable {α:Type} [Inhabited α] {R:CR α} {enc:α → List Value} {k:Nat}
theorem flatMap_get (hk:∀ x,(enc x).length = k) (h0:0 < k):∀ (l:List α) (t:Nat),t < l.length * k → (l.flatMap enc)[t]? = some (enc (l[t / k]!))[t % k]!
  | [],t,h => by simp at h
  | x :: l,t,h => by
    rw [List.flatMap_cons]
    rcases Nat.lt_or_ge t k with hlt | hge
    · rw [List.getElem?_append_left (by rw [hk];exact hlt),Nat.div_eq_of_lt hlt,Nat.mod_eq_of_lt hlt]
      show (enc x)[t]? = some (enc x)[t]!
      rw [List.getElem!_eq_getElem?_getD,List.getElem?_eq_getElem (by rw [hk];exact hlt)];rfl
    · obtain ⟨u,rfl⟩:∃ u,t = u + k:=⟨t - k,by omega⟩
      have hu:u < l.length * k:=by
        simp only [List.length_cons,Nat.add_mul,Nat.one_mul] at h;omega
      rw [List.getElem?_append_right (by rw [hk];omega),hk,Nat.add_sub_cancel,flatMap_get hk h0 l u hu,Nat.add_div_right _ h0,Nat.add_mod_right]
      congr 3
theorem flatK_list (hk:∀ x,(enc x).length = k) (h0:0 < k) (l:List α):(flatK enc k l.toArray).toList = l.flatMap enc:=by
  have hl:(l.flatMap enc).length = l.length * k:=by
    induction l with
    | nil => simp
    | cons x l ih => rw [List.flatMap_cons,List.length_append,hk,ih,List.length_cons,Nat.add_mul,Nat.one_mul];omega
  refine List.ext_getElem? fun t => ?_
  rcases Nat.lt_or_ge t (l.length * k) with h | h
  · rw [flatMap_get hk h0 l t h]
    have hs:t < (flatK enc k l.toArray).size:=by unfold flatK;simpa using h
    rw [Array.getElem?_toList,Array.getElem?_eq_getElem hs]
    unfold flatK
    simp
  · have hs:(flatK enc k l.toArray).toList.length ≤ t:=by unfold flatK;simpa using h
    rw [List.getElem?_eq_none hs,List.getElem?_eq_none (by omega)]
theorem below_grow {W w':World} (h:D.Below W.heap.size W w'):∃ q os',w' = grow (W.drewN q) os':=by
  refine ⟨w'.drawn - W.drawn,w'.heap.extract W.heap.size w'.heap.size,?_⟩
  cases W with
  | mk heap tape drawn os output =>
  cases w' with
  | mk heap' tape' drawn' os' output' =>
  obtain ⟨h1,h2,h3,h4,h5,h6⟩:=h
  dsimp only at h1 h2 h3 h4 h5 h6
  unfold grow World.drewN
  dsimp only
  have e1:drawn + (drawn' - drawn) = drawn':=by omega
  have e2:heap' = heap ++ heap'.extract heap.size heap'.size:=by
    refine Array.ext_getElem? fun i => ?_
    rw [Array.getElem?_append]
    split
    · rename_i hi;exact h6 i hi
    · rename_i hi
      rw [Array.getElem?_extract]
      by_cases hi2:i < heap'.size
      · rw [if_pos (by omega)];congr 1;omega
      · rw [if_neg (by omega),Array.getElem?_eq_none (by omega)]
  rw [e1,h1,h2,h3,← e2]
theorem sort_own {P:Program} {ρ:Ren} (L:SlLaysF0.n6 P ρ) (h0:0 < k) (aE:∀ w,(isAgg (ρ.t 24)).run P w = .ok true w) (zE:∀ w,(Go.sizeOf (ρ.t 24)).run P w = .ok k w)
    (hR:EncR R enc) (hk:∀ x,(enc x).length = k) (h1:∀ x,∀ v ∈ enc x,v.oneCell' = true) (cf:α → α → Int) (hO:SWO (ltOf cf)) (f:Nat)
    (eg:∀ args w,(callFunc f args).run P w = .ok (.enter f args) w) (hcmp:∀ (W:World) (x y:α),Calls P f #[.agg (enc x).toArray,.agg (enc y).toArray] W fun e w' => e = .returned (.int .i64 (cf x y)) ∧ D.Below W.heap.size W w')
    (rd:Rd) (W:World) (e:TypeId) (v:Value) (n:Nat) (xs:List Value) (l:List α) (hv:W.ownsRow 0 e k v n xs) (hr:RowR k R rd xs l) (hsmall:l.length < 4611686018427387904) :
    Calls P (ρ.f 6) #[v,.func (.func f) #[] #[]] W fun e' w' => e' = .returned (.tuple #[]) ∧ ∃ l' xs',l'.Perm l ∧ l'.Pairwise (fun a b => ¬ cf b a < 0) ∧ w'.ownsRow 0 e k v n xs' ∧ RowR k R rd xs' l' ∧ Frm v.ownBlock.toList W w':=by
  have hlen:=hr.len
  rcases hv.2 with ⟨rfl,rfl⟩ | ⟨g,cap,cur,rfl,_,hg,hc,hm,hs,hx⟩
  · have hx:xs = []:=List.eq_nil_of_length_eq_zero (by rw [hv.1];simp)
    subst hx
    have hl:l = []:=by
      cases l with
      | nil => rfl
      | cons a l => simp only [List.length_nil,List.length_cons,Nat.add_mul,Nat.one_mul] at hlen;omega
    subst hl
    exact (AnyF.slices_SortFunc_none L none 0 _ W).mono fun e' w' ⟨he,hw⟩ => ⟨he,[],[],List.Perm.refl _,.nil,by rw [hw];exact hv,rfl,by rw [hw];exact Frm.refl _ _⟩
  · have hnl:n = l.length:=by
      have:=hv.1
      rw [hlen] at this
      exact (Nat.eq_of_mul_eq_mul_right h0 this).symm
    subst hnl
    have hblk:g < W.heap.size:=(Array.getElem?_eq_some_iff.1 hg).1
    have hflat:=flatK_list hk h0 l
    have hxs:xs = (flatK enc k l.toArray).toList:=by rw [hflat];exact row_flat hR hr
    have hfs:(flatK enc k l.toArray).size = l.length * k:=by unfold flatK;simp
    have hH:HoldsK enc k W g 0 l.toArray:=fun j hj => by
      rw [hfs] at hj
      have e1:cur[j]? = some (flatK enc k l.toArray)[j]!:=by
        have:cur.toList[j]? = some (flatK enc k l.toArray)[j]!:=by
          have h2:(cur.toList.take (l.length * k))[j]? = cur.toList[j]?:=by rw [List.getElem?_take,if_pos hj]
          rw [← h2,hx,hxs,Array.getElem?_toList,Array.getElem?_eq_getElem (by rw [hfs];exact hj),getElem!_pos _ _ (by rw [hfs];exact hj)]
        rwa [Array.getElem?_toList] at this
      rw [Nat.zero_add]
      refine ⟨?_,?_⟩
      · unfold World.cell?;dsimp only;rw [hg];exact e1
      · unfold World.frozen?;dsimp only;rw [hg];simp
    have hcs:l.length ≤ maxLen:=Nat.le_trans hc hm
    have key:=AnyQ.slices_SortFunc L k aE zE enc hk h1 cf hO f #[] g 0 cap l.toArray W eg (fun m os dk _ x y => by
      refine (hcmp (sortWorldK enc k W g 0 m dk os) x y).mono fun e' w' ⟨he,hb⟩ => ⟨he,?_⟩
      exact below_grow hb) hH hblk (by simpa using hsmall)
    have key':Calls P (ρ.f 6) #[.slice (some ⟨g,0,none⟩) l.length cap,.func (.func f) #[] #[]] W _:=key
    refine key'.mono fun e' w' ⟨he,d',m,os,hp,hsrt,hw⟩ => ?_
    obtain ⟨hps,_,hpp⟩:=hp
    have hds:d'.size = l.length:=by rw [hps];simp
    have hperm:d'.toList.Perm l:=by
      have e1:d'.extract 0 l.toArray.size = d':=by rw [show l.toArray.size = d'.size by rw [hps]];exact Array.extract_size
      have e2:l.toArray.extract 0 l.toArray.size = l.toArray:=Array.extract_size
      rw [e1,e2] at hpp
      exact hpp
    have hfl:=flatK_list hk h0 d'.toList
    have hF:(flatK enc k d').size = l.length * k:=by unfold flatK;simp [hds]
    have hheap:w'.heap = (W.heap.modify g (onCells (putCells id 0 (flatK enc k d')))) ++ os:=by rw [hw];rfl
    have hcells:w'.heap[g]? = some (.cells (putCells id 0 (flatK enc k d') cur) e (0,0)):=by
      rw [hheap,Array.getElem?_append,if_pos (by simpa using hblk),Array.getElem?_modify,if_pos rfl,hg];rfl
    have hle:l.length * k ≤ cur.size:=by rw [hs];exact Nat.mul_le_mul_right k hc
    have htake:(putCells id 0 (flatK enc k d') cur).toList.take (l.length * k) = (flatK enc k d').toList:=by
      refine List.ext_getElem? fun t => ?_
      rw [List.getElem?_take]
      split
      · rename_i ht
        rw [Array.getElem?_toList,Array.getElem?_toList]
        unfold putCells
        rw [Array.getElem?_mapIdx,Array.getElem?_eq_getElem (show t < cur.size by omega),Array.getElem?_eq_getElem (show t < (flatK enc k d').size by omega),Option.map_some,if_pos ⟨Nat.zero_le _,by omega⟩]
        rw [Nat.sub_zero,getElem!_pos _ t (by omega)];rfl
      · rename_i ht
        exact (List.getElem?_eq_none (by rw [Array.length_toList];omega)).symm
    refine ⟨he,d'.toList,(flatK enc k d').toList,hperm,?_,⟨by rw [Array.length_toList,hF],.inr ⟨g,cap,_,rfl,Nat.zero_le _,hcells,hc,hm,by unfold putCells;rw [Array.size_mapIdx];exact hs,htake⟩⟩,?_,?_⟩
    · rw [List.pairwise_iff_getElem]
      intro i j hi hj hij
      rw [Array.length_toList] at hi hj
      have:=hsrt i j (Nat.zero_le _) hij (by simpa [hds] using hj)
      unfold ltOf at this
      rw [getElem!_pos d' i hi,getElem!_pos d' j hj,decide_eq_false_iff_not] at this
      simpa using this
    · have e1:(flatK enc k d').toList = d'.toList.flatMap enc:=hfl
      rw [e1];exact flat_row hR hk
    · refine ⟨by rw [hw];rfl,by rw [hw];rfl,by rw [hw];rfl,by rw [hheap];simp,fun b hb hX => ?_⟩
      rw [hheap,Array.getElem?_append,if_pos (by simpa using hb),Array.getElem?_modify,if_neg (fun e => hX (by subst e;simp [Value.ownBlock]))]
end
end Go.Proofs.YtkjknlnhffmkkacGreat
