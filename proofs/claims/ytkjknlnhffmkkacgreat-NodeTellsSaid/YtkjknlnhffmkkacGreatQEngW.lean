/- The memory as one statement, with the count of draws: for whoever must say that a call only draws, and lays blocks. Printed by wip/eng/dver.py out of this claim's own texts. Plain theorems over any program; no condition. -/
import Derived.Test.YtkjknlnhffmkkacGreatQEg
namespace Go.Proofs.YtkjknlnhffmkkacGreat.D
open Go.RowKit Go.Proofs.YtkjknlnhffmkkacGreat
set_option linter.unusedVariables false
structure Below (B:Nat) (w w':World):Prop where
  os:w'.os = w.os
  tape:w'.tape = w.tape
  output:w'.output = w.output
  drawn:w.drawn ≤ w'.drawn
  size:w.heap.size ≤ w'.heap.size
  block:∀ k,k < B → w'.heap[k]? = w.heap[k]?
theorem Below.kit {B:Nat} {w w':World} (h:Below B w w'):Go.RowKit.Below B w w':=⟨h.os,h.tape,h.output,h.size,h.block⟩
structure Frm (X:List Nat) (w w':World):Prop where
  os:w'.os = w.os
  tape:w'.tape = w.tape
  output:w'.output = w.output
  drawn:w.drawn ≤ w'.drawn
  size:w.heap.size ≤ w'.heap.size
  block:∀ k,k < w.heap.size → k ∉ X → w'.heap[k]? = w.heap[k]?
theorem Frm.below {w w':World} (h:Frm [] w w'):Below w.heap.size w w':=⟨h.os,h.tape,h.output,h.drawn,h.size,fun k hk => h.block k hk (by simp)⟩
theorem Frm.refl (X:List Nat) (w:World):Frm X w w:=⟨rfl,rfl,rfl,Nat.le_refl _,Nat.le_refl _,fun _ _ _ => rfl⟩
structure St (X:List Nat) (W:World) (r0 rd:Rd) (bx:List BxE) (ow:List OwE) (w:World):Prop where
  fr:Frm X W w
  sub:∀ b o v,b < W.heap.size → rd b o = some v → r0 b o = some v
  sup:Rd.le r0 rd
  le:Rd.le rd (wrd w)
  box:∀ p ∈ bx,(W.heap.size ≤ p.1 ∨ p.1 ∈ X) ∧ w.heap[p.1]? = some (.cells p.2.2 p.2.1 (0,0)) ∧ ∀ o,rd p.1 o = none
  own:∀ q ∈ ow,w.ownsRow 0 q.e q.size q.v q.n q.xs ∧ ∀ g,q.v.ownBlock = some g → (W.heap.size ≤ g ∨ g ∈ X) ∧ ∀ o,rd g o = none
  d1:bx.Pairwise fun p q => p.1 ≠ q.1
  d2:ow.Pairwise fun p q => p.v.ownBlock = none ∨ p.v.ownBlock ≠ q.v.ownBlock
  d3:∀ p ∈ bx,∀ q ∈ ow,q.v.ownBlock ≠ some p.1

section
variable {X:List Nat} {W w w':World} {r0 rd:Rd} {bx:List BxE} {ow:List OwE}
theorem St.below (S:St [] W r0 rd bx ow w):Below W.heap.size W w:=S.fr.below
theorem St.start (h:Rd.le r0 (wrd W)):St X W r0 r0 [] [] W :=
  ⟨Frm.refl _ _,fun _ _ _ _ h => h,Rd.le_refl _,h,by simp,by simp,.nil,.nil,by simp⟩
theorem St.base_le (S:St X W r0 rd bx ow w):W.heap.size ≤ w.heap.size:=S.fr.size
theorem St.lt_box (S:St X W r0 rd bx ow w) {p:BxE} (hp:p ∈ bx):p.1 < w.heap.size:=by
  have:=(S.box p hp).2.1
  rcases Nat.lt_or_ge p.1 w.heap.size with h | h
  · exact h
  · rw [Array.getElem?_eq_none h] at this;cases this
theorem St.free (S:St X W r0 rd bx ow w) {k:Nat} (hk:w.heap.size ≤ k) (o:Nat):rd k o = none:=by
  cases h:rd k o with
  | none => rfl
  | some v => have:=blk_lt (S.le _ _ _ h);omega
theorem St.fr_grown (S:St X W r0 rd bx ow w) {row:Option Nat} (hg:w.grownBy w' row) (hd:w.drawn ≤ w'.drawn) (hr:∀ k,row = some k → W.heap.size ≤ k ∨ k ∈ X):Frm X W w' :=
  ⟨hg.os.trans S.fr.os,hg.tape.trans S.fr.tape,hg.output.trans S.fr.output,Nat.le_trans S.fr.drawn hd,Nat.le_trans S.fr.size hg.size,fun k hk hX => by
    rw [hg.block k (Nat.lt_of_lt_of_le hk S.fr.size) (fun e => (hr k e.symm).elim (fun h => by omega) hX)]
    exact S.fr.block k hk hX⟩
theorem keep_box (S:St X W r0 rd bx ow w) {row:Option Nat} (hg:w.grownBy w' row) {p:BxE} (hp:p ∈ bx) (hne:row ≠ some p.1):w'.heap[p.1]? = some (.cells p.2.2 p.2.1 (0,0)) :=
  (hg.block p.1 (S.lt_box hp) (fun e => hne e.symm)).trans (S.box p hp).2.1
theorem keep_own (S:St X W r0 rd bx ow w) {row:Option Nat} (hg:w.grownBy w' row) {q:OwE} (hq:q ∈ ow) (hne:q.v.ownBlock = none ∨ q.v.ownBlock ≠ row):w'.ownsRow 0 q.e q.size q.v q.n q.xs :=
  (S.own q hq).1.kept hg hne
/-- nothing known was written -/
theorem St.grown0 (S:St X W r0 rd bx ow w) (hg:w.grownBy w' none) (hd:w.drawn ≤ w'.drawn):St X W r0 rd bx ow w' :=
  ⟨S.fr_grown hg hd (fun _ h => by cases h),S.sub,S.sup,le_grown S.le hg (fun _ h => by cases h),fun p hp => ⟨(S.box p hp).1,keep_box S hg hp (by simp),(S.box p hp).2.2⟩,
    fun q hq => ⟨keep_own S hg hq (by cases h:q.v.ownBlock <;> simp),(S.own q hq).2⟩,S.d1,S.d2,S.d3⟩
theorem St.callq (S:St X W r0 rd bx ow w) (k:Below w.heap.size w w'):St X W r0 rd bx ow w':=S.grown0 (grownBy_none k.kit) k.drawn
theorem St.drew (S:St X W r0 rd bx ow w):St X W r0 rd bx ow w.drew:=S.callq ⟨rfl,rfl,rfl,Nat.le_succ _,Nat.le_refl _,fun _ _ => rfl⟩
theorem ext_wrd {r:Rd} {w w':World} (h:Rd.le r (wrd w)) (k:Below w.heap.size w w'):Rd.le (ext r w w') (wrd w'):=fun b o v e => by
  unfold ext at e;split at e
  · rename_i hb;exact (k.kit.cell (p:=⟨b,o,none⟩) hb).trans (h _ _ _ e)
  · exact e
/-- behind a call: what it made is read, too -/
theorem St.call (S:St X W r0 rd bx ow w) (k:Below w.heap.size w w'):St X W r0 (ext rd w w') bx ow w':=by
  have S':=S.callq k
  refine ⟨S'.fr,fun b o v hb e => ?_,Rd.le_trans S.sup (le_ext S.le),ext_wrd S.le k,fun p hp => ⟨(S'.box p hp).1,(S'.box p hp).2.1,fun o => ?_⟩,fun q hq => ⟨(S'.own q hq).1,fun g hg => ⟨((S'.own q hq).2 g hg).1,fun o => ?_⟩⟩,S.d1,S.d2,S.d3⟩
  · have:b < w.heap.size:=Nat.lt_of_lt_of_le hb S.base_le
    unfold ext at e;rw [if_pos this] at e
    exact S.sub b o v hb e
  · unfold ext;rw [if_pos (S.lt_box hp)];exact (S.box p hp).2.2 o
  · unfold ext;rw [if_pos ((S.own q hq).1.lt g hg).2];exact ((S.own q hq).2 g hg).2 o
theorem St.alloc (S:St X W r0 rd bx ow w) (T:TypeId) (cs:Array Value):St X W r0 rd (bx ++ [(w.heap.size,T,cs)]) ow (w.alloc (.cells cs T)):=by
  have S':=S.grown0 (grownBy_alloc w (.cells cs T)) (Nat.le_refl _)
  refine ⟨S'.fr,S'.sub,S'.sup,S'.le,fun p hp => ?_,S'.own,?_,S.d2,fun p hp q hq => ?_⟩
  · rcases List.mem_append.1 hp with h | h
    · exact S'.box p h
    · obtain rfl:=List.mem_singleton.1 h
      exact ⟨.inl S.base_le,heap_alloc_new w _,fun o => S.free (Nat.le_refl _) o⟩
  · rw [List.pairwise_append]
    refine ⟨S.d1,List.pairwise_singleton _ _,fun p hp q hq => ?_⟩
    obtain rfl:=List.mem_singleton.1 hq
    have:=S.lt_box hp
    show p.1 ≠ w.heap.size
    omega
  · rcases List.mem_append.1 hp with h | h
    · exact S.d3 p h q hq
    · obtain rfl:=List.mem_singleton.1 h
      intro e
      have:=((S.own q hq).1.lt _ e).2
      exact absurd this (Nat.lt_irrefl _)
theorem box_ne (S:St X W r0 rd bx ow w) {i j:Nat} {p q:BxE} (hi:bx[i]? = some p) (hj:bx[j]? = some q) (hn:j ≠ i):q.1 ≠ p.1:=by
  have h3:=(List.pairwise_iff_getElem.1 S.d1)
  obtain ⟨hi1,hi2⟩:=List.getElem?_eq_some_iff.1 hi
  obtain ⟨hj1,hj2⟩:=List.getElem?_eq_some_iff.1 hj
  rcases Nat.lt_or_gt_of_ne hn with hlt | hlt
  · have:=h3 j i hj1 hi1 hlt;rw [hi2,hj2] at this;exact this
  · have:=h3 i j hi1 hj1 hlt;rw [hi2,hj2] at this;exact fun e => this e.symm
/-- a block of the call's own is only read from here on -/
theorem St.frz (S:St X W r0 rd bx ow w) {i g:Nat} {T:TypeId} {cs:Array Value} (hi:bx[i]? = some (g,T,cs)) (hX:g ∉ X):St X W r0 (plus rd w (some g)) (bx.eraseIdx i) ow w:=by
  have hm:=List.mem_of_getElem? hi
  have hb:=S.box _ hm
  refine ⟨S.fr,fun b o v hlt e => ?_,Rd.le_trans S.sup (le_plus fun k e => by injection e with e;subst e;exact hb.2.2),plus_wrd S.le,fun p hp => ?_,fun q hq => ⟨(S.own q hq).1,fun k hk => ⟨((S.own q hq).2 k hk).1,fun o => ?_⟩⟩,pairwise_erase S.d1,S.d2,fun p hp => ?_⟩
  · unfold plus at e;split at e
    · rename_i h2;injection h2 with h2;subst h2;exact hb.1.elim (fun h => absurd hlt (by dsimp only at h;omega)) (fun h => absurd h hX)
    · exact S.sub b o v hlt e
  · obtain ⟨j,hn,hj⟩:=mem_erase hp
    have hp':=List.mem_of_getElem? hj
    refine ⟨(S.box p hp').1,(S.box p hp').2.1,fun o => ?_⟩
    unfold plus;rw [if_neg (fun e => box_ne S hi hj hn (by injection e))];exact (S.box p hp').2.2 o
  · unfold plus;rw [if_neg (fun e => S.d3 _ hm q hq (by rw [hk,e]))];exact ((S.own q hq).2 k hk).2 o
  · obtain ⟨j,hn,hj⟩:=mem_erase hp
    exact S.d3 p (List.mem_of_getElem? hj)
theorem St.frz_le (S:St X W r0 rd bx ow w) {i g:Nat} {T:TypeId} {cs:Array Value} (hi:bx[i]? = some (g,T,cs)):Rd.le rd (plus rd w (some g)):=le_plus fun k e => by injection e with e;subst e;exact (S.box _ (List.mem_of_getElem? hi)).2.2
theorem St.frz_sl {α:Type} {size:Nat} {R:CR α} {xs:List α} (S:St X W r0 rd bx ow w) {i g:Nat} {T:TypeId} {cs:Array Value} (hi:bx[i]? = some (g,T,cs)) {n c:Nat} (hn:n = xs.length) (hc:xs.length ≤ c) (hm:c ≤ maxLen)
    (hr:RowR size R (plus rd w (some g)) cs.toList xs):SliceR size R (plus rd w (some g)) (.slice (some ⟨g,0,none⟩) n c) xs:=by
  subst hn
  refine ⟨_,_,_,rfl,hc,hm,hr,fun _ => ⟨g,0,rfl,fun j u hu => ?_⟩⟩
  unfold plus;rw [if_pos rfl,Nat.zero_add]
  rw [cell_of_row w g j cs T (0,0) (S.box _ (List.mem_of_getElem? hi)).2.1];simpa using hu
end
section
variable {P:Program} {X:List Nat} {W w w':World} {r0 rd:Rd} {bx:List BxE} {ow:List OwE} {C:World → Prop} {e:Operand → Value} {d:Option Tmp} {t ty:TypeId} {pos:String} {af:Array Edge} {gd:Option (Nat × Bool)} {v p:Value} {x y:Operand} {g i j:Nat} {T:TypeId} {cs:Array Value}
theorem St.cell (S:St X W r0 rd bx ow w) (hi:bx[i]? = some (g,T,cs)) (j:Nat):w.cell? ⟨g,j,none⟩ = cs[j]?:=cell_of_row w g j cs T (0,0) (S.box _ (List.mem_of_getElem? hi)).2.1
theorem ld_b1 (S:St X W r0 rd bx ow w) (hi:bx[i]? = some (g,T,cs)) (hj:cs[j]? = some v) (ht:Ty1 P t):Ld P w t (.pointer (some ⟨g,j,none⟩)) v:=ld_1 ht (by rw [S.cell hi];exact hj)
theorem ld_bA {k:Nat} {vs:List Value} (S:St X W r0 rd bx ow w) (hi:bx[i]? = some (g,T,cs)) (ht:TyA P t k) (hk:vs.length = k) (hv:(cs.toList.drop j).take k = vs):Ld P w t (.pointer (some ⟨g,j,none⟩)) (.agg vs.toArray) :=
  ld_A ht hk fun j' u hu => by
    rw [S.cell hi]
    rw [← hv,List.getElem?_take] at hu
    split at hu
    · rw [List.getElem?_drop] at hu;simpa using hu
    · cases hu
end
section
variable {P:Program} {Q:Exit → Act → World → Prop} {X:List Nat} {W w w':World} {r0 rd:Rd} {bx:List BxE} {ow:List OwE} {n d:Nat} {l:Ov} {t ty:TypeId} {pos:String} {af:Array Edge} {v p:Value} {x y:Operand} {g i j:Nat} {T:TypeId} {cs cs':Array Value} {rest:List Oper} {ops:Array Oper}
theorem l_al {z:Value} (S:St X W r0 rd bx ow w) (hz:∀ w,(zeroValue T).run P w = .ok z w) (hc:z.cells = cs)
    (h:∀ g w',St X W r0 rd (bx ++ [(g,T,cs)]) ow w' → WL P ops Q rest (fr n ((d,(.pointer (some ⟨g,0,none⟩))) :: l)) w'):WL P ops Q (⟨some d,.alloc T,ty,pos,af,none⟩ :: rest) (fr n l) w:=by
  subst hc
  exact l_t (.inl (by simp [execOp,Instr.alloc,hz,newVar,newRow])) (h _ _ (S.alloc T z.cells))
theorem l_bx {u:Value} (S:St X W r0 rd bx ow w) (hx:ev n l x = u) (hc:u.cells = cs)
    (h:∀ g w',St X W r0 rd (bx ++ [(g,T,cs)]) ow w' → WL P ops Q rest (fr n ((d,(.pointer (some ⟨g,0,none⟩))) :: l)) w'):WL P ops Q (⟨some d,.box T x,ty,pos,af,none⟩ :: rest) (fr n l) w:=by
  subst hc hx
  exact l_t (.inl (by simp [execOp,Instr.box,newVar,newRow])) (h _ _ (S.alloc T _))
theorem l_bs {el:TypeId} {len size:Nat} {z:Value} {parts:Array (Nat × Operand)} {ps:List (Nat × Value)} (S:St X W r0 rd bx ow w) (hu:P.underlying t = some (.slice el)) (hs:∀ w,(sizeOf el).run P w = .ok size w) (hz:∀ w,(zeroValue el).run P w = .ok z w)
    (hp:parts.toList.map (fun q => (q.1,ev n l q.2)) = ps) (hl:Nat.blt (2 ^ 24) (len * size) = false) (hl0:Nat.beq (len * size) 0 = false)
    (hf:Instr.fill (fun i => some (i * size,size)) ((Array.range (len * size)).map (z.cells[· % z.cells.size]!)) ps = some cs)
    (h:∀ g w',St X W r0 rd (bx ++ [(g,el,cs)]) ow w' → WL P ops Q rest (fr n ((d,(.slice (some ⟨g,0,none⟩) len len)) :: l)) w'):WL P ops Q (⟨some d,.buildSlice t len parts,ty,pos,af,none⟩ :: rest) (fr n l) w:=by
  have h1:¬ len * size > 2 ^ 24:=fun hgt => by
    have:Nat.blt (2 ^ 24) (len * size) = true:=Nat.ble_eq_true_of_le hgt
    rw [this] at hl;cases hl
  have h2:¬ len * size = 0:=fun he => by rw [he] at hl0;cases hl0
  have hrun:(Instr.buildSlice t len ps.toArray).run P w = .ok (.slice (some ⟨w.heap.size,0,none⟩) len len) (w.alloc (.cells cs el)):=by
    unfold Instr.buildSlice
    rw [Sem.run_bind,run_underlying hu]
    simp only [Result.andThen_ok,Sem.run_bind,hs]
    rw [if_neg h1,if_neg h2]
    simp only [Sem.run_bind,Sem.run_pure,Result.andThen_ok,hz]
    split
    · rename_i cells hc
      rw [hc] at hf;injection hf with hf;subst hf
      simp [newRow]
    · rename_i hn
      exact absurd hf (by intro hf;exact hn _ hf)
  refine l_t (.inl ?_) (h _ _ (S.alloc el cs))
  have hp':(parts.map fun (i,x) => (i,ev n l x)) = ps.toArray:=amap hp
  simp only [execOp]
  rw [hp',Sem.run_bind,hrun]
  rfl
theorem l_bs0 {el:TypeId} {size:Nat} (S:St X W r0 rd bx ow w) (hu:P.underlying t = some (.slice el)) (hs:∀ w,(sizeOf el).run P w = .ok size w)
    (h:∀ g w',St X W r0 rd (bx ++ [(g,el,#[])]) ow w' → WL P ops Q rest (fr n ((d,(.slice (some ⟨g,0,none⟩) 0 0)) :: l)) w'):WL P ops Q (⟨some d,.buildSlice t 0 #[],ty,pos,af,none⟩ :: rest) (fr n l) w:=by
  refine l_t (.inl ?_) (h _ _ (S.alloc el #[]))
  have hrun:(Instr.buildSlice t 0 #[]).run P w = .ok (.slice (some ⟨w.heap.size,0,none⟩) 0 0) (w.alloc (.cells #[] el)):=by
    unfold Instr.buildSlice
    rw [Sem.run_bind,run_underlying hu]
    simp [hs,Instr.fill,newRow]
    rw [show Array.range 0 = (#[]:Array Nat) from by simp,Array.map_empty]
  simp only [execOp,Array.map_empty]
  rw [Sem.run_bind,hrun]
  rfl
end
section
variable {P:Program} {Q:Exit → Act → World → Prop} {s:List Kf} {X:List Nat} {W w w':World} {r0 rd:Rd} {bx bx':List BxE} {ow ow':List OwE} {n:Nat} {l m:Ov} {c:Code}
theorem St.call' (S:St X W r0 rd bx ow w) (k:Below w.heap.size w w'):∃ rd',St X W r0 rd' bx ow w' ∧ Rd.le rd rd' ∧ Rd.le (newer w' w.heap.size) rd' ∧ Rd.le (ext rd w w') rd' :=
  ⟨_,S.call k,le_ext S.le,newer_ext,Rd.le_refl _⟩
theorem St.frz' (S:St X W r0 rd bx ow w) {i g:Nat} {T:TypeId} {cs:Array Value} (hi:bx[i]? = some (g,T,cs)) (hX:X = []):∃ rd',St X W r0 rd' (bx.eraseIdx i) ow w ∧ Rd.le rd rd' ∧
    ∀ {α:Type} {size:Nat} {R:CR α} {xs:List α} {n c:Nat},n = xs.length → xs.length ≤ c → c ≤ maxLen → RowR size R rd' cs.toList xs → SliceR size R rd' (.slice (some ⟨g,0,none⟩) n c) xs :=
  ⟨_,S.frz hi (by subst hX;simp),S.frz_le hi,fun h1 h2 h3 h4 => S.frz_sl hi h1 h2 h3 h4⟩
theorem St.out (S:St X W r0 rd bx ow w):Rd.le rd (ext r0 W w):=fun b o v e => by
  unfold ext;split
  · rename_i h;exact S.sub b o v h e
  · exact S.le b o v e
theorem St.tk (S:St X W r0 rd bx ow w) (a b:Nat) (h1:bx.take a = bx') (h2:ow.take b = ow'):St X W r0 rd bx' ow' w:=by
  subst h1 h2
  exact ⟨S.fr,S.sub,S.sup,S.le,fun p hp => S.box p (List.mem_of_mem_take hp),fun q hq => S.own q (List.mem_of_mem_take hq),S.d1.sublist (List.take_sublist _ _),S.d2.sublist (List.take_sublist _ _),fun p hp q hq => S.d3 p (List.mem_of_mem_take hp) q (List.mem_of_mem_take hq)⟩
theorem St.rw' (S:St X W r0 rd bx ow w) (h1:bx = bx') (h2:ow = ow'):St X W r0 rd bx' ow' w:=by subst h1 h2;exact S
end
section
variable {X:List Nat} {W w w':World} {r0 rd rd':Rd} {bx bx':List BxE} {ow ow':List OwE}
theorem St.del (S:St X W r0 rd bx ow w) (i:Nat):St X W r0 rd (bx.eraseIdx i) ow w :=
  ⟨S.fr,S.sub,S.sup,S.le,fun p hp => S.box p (List.mem_of_mem_eraseIdx hp),S.own,pairwise_erase S.d1,S.d2,fun p hp => S.d3 p (List.mem_of_mem_eraseIdx hp)⟩
theorem St.weak (S:St X W r0 rd' bx ow w) (h0:Rd.le r0 rd) (h:Rd.le rd rd'):St X W r0 rd bx ow w :=
  ⟨S.fr,fun b o v hb e => S.sub b o v hb (h _ _ _ e),h0,Rd.le_trans h S.le,fun p hp => ⟨(S.box p hp).1,(S.box p hp).2.1,fun o => none_le h ((S.box p hp).2.2 o)⟩,
    fun q hq => ⟨(S.own q hq).1,fun g hg => ⟨((S.own q hq).2 g hg).1,fun o => none_le h (((S.own q hq).2 g hg).2 o)⟩⟩,S.d1,S.d2,S.d3⟩
end
end Go.Proofs.YtkjknlnhffmkkacGreat.D
