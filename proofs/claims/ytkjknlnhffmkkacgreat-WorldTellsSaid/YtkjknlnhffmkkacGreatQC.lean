/- Part of the proof of WorldTells: lemmas; no condition. -/
import Derived.Test.YtkjknlnhffmkkacGreatQB
import Derived.Test.YtkjknlnhffmkkacGreatQA
import Derived.Test.YtkjknlnhffmkkacGreatRows
import Derived.Lib.AppendZerosOnto
import Derived.Lib.Overlaps
import Derived.Laws.Externs
import Derived.Laws.StructEq
import Derived.ChangeKeysEq
set_option linter.unusedVariables false
set_option linter.unusedSimpArgs false
set_option maxRecDepth 100000
set_option maxHeartbeats 16000000
namespace Go.Proofs.YtkjknlnhffmkkacGreat
open Go.RowKit
section
section
variable {X:List Nat} {W w w':World} {r0 rd:Rd} {bx:List je} {ow:List h7}
theorem y6{α:Type}{size n:Nat}{R:CR α}{e:TypeId}{v:Value}{xs:List Value}{l:List α}(hx:w.ownsRow W.heap.size e size v n xs)(hn:n=l.length)(hr:fQ size R (ext r0 W w) xs l):fN size R (ext r0 W w) v l:=by
 subst hn
 rcases hx.2 with⟨h1,h2⟩ | ⟨g,cap,cur,h1,hB,hh,hc,hm',_⟩
 ·rw [h1]
  have:l=[]:=List.eq_nil_of_length_eq_zero (by omega)
  subst this
  exact fN.nil_ _
 ·rw [h1]
  refine⟨some ⟨g,0,none⟩,cap,xs,rfl,by omega,hm',hr,fun _=>⟨g,0,rfl,fun j u a => ?_⟩⟩
  rw [h1] at hx
  have:=hx.cells (g:=g) rfl j u a
  rw [Addr.add_mid,Nat.zero_add] at this
  rw [Nat.zero_add]
  show(if g<W.heap.size then _ else _)=_
  rw [if_neg (by omega)]
  exact this
theorem St.rowOut{α:Type}{R:CR α}[i9 R]{l:List α}(S:St [] W r0 rd bx ow w){i size:Nat}{q:h7}{v:Value}(hi:ow[i]? = some q)(hv:q.v=v)(hn:q.n=l.length)(hs:q.size=size)(hr:fQ size R rd q.xs l):fN size R (ext r0 W w) v l:=by
 subst hv hs
 exact y6 (S.ownB hi) hn (rm hr S.out)
theorem qf{α:Type}{size:Nat}{R:CR α}[i9 R]{e:TypeId}{v:Value}{xs:List Value}{l:List α}(hx:w.ownsRow W.heap.size e size v l.length xs)(hr:fQ size R rd xs l)(k:Rd.le rd (ext r0 W w)):fN size R (ext r0 W w) v l:=y6 hx rfl (rm hr k)
theorem me.at{B:Nat}{l:List h7}{i:Nat}{q:h7}(h:me B w l)(hi:l[i]? = some q):w.ownsRow B q.e q.size q.v q.n q.xs:=h.1 _ (List.mem_of_getElem? hi)
end
end
section
def nf(bx:List je)(ow:List h7):List Nat:=bx.map (·.1)++ow.filterMap (·.v.ownBlock)
theorem vo{bx:List je}{ow:List h7}{p:je}(h:p∈bx):p.1∈nf bx ow:=List.mem_append_left _ (List.mem_map_of_mem h)
theorem rR{bx:List je}{ow:List h7}{q:h7}{g:Nat}(h:q∈ow)(hg:q.v.ownBlock=some g):g∈nf bx ow:=List.mem_append_right _ (List.mem_filterMap.2 ⟨q,h,hg⟩)
theorem pN{bx:List je}{ow:List h7}{g:Nat}(h:g∈nf bx ow):(∃ p∈bx,p.1=g) ∨ ∃ q∈ow,q.v.ownBlock=some g:=by
 rcases List.mem_append.1 h with h | h
 ·obtain⟨p,a,b⟩:=List.mem_map.1 h;exact .inl ⟨p,a,b⟩
 ·obtain⟨q,a,b⟩:=List.mem_filterMap.1 h;exact .inr ⟨q,a,b⟩
def qR(p q:h7):Prop:=p.v.ownBlock=none∨p.v.ownBlock ≠ q.v.ownBlock
theorem qR.symm{p q:h7}(h:qR p q):qR q p:=by
 unfold qR at h ⊢
 rcases h with h | h
 ·cases a:q.v.ownBlock with
  | none=>exact .inl rfl
  | some k=>exact .inr (by rw [h];simp)
 ·exact .inr fun e=>h e.symm
section
variable {X:List Nat} {W w w':World} {r0 rd rd':Rd} {bx bxk bx0 bx2:List je} {ow owk ow0 ow2:List h7}
theorem St.permB(S:St X W r0 rd bx ow w)(h:bx2.Perm bx):St X W r0 rd bx2 ow w :=
 ⟨S.fr,S.sub,S.sup,S.le,fun p hp=>S.box p (h.mem_iff.1 hp),S.own,(h.symm.pairwise_iff (fun {x y} h=>fun e=>h e.symm)).1 S.d1,S.d2,fun p hp=>S.d3 p (h.mem_iff.1 hp)⟩
theorem St.permO(S:St X W r0 rd bx ow w)(h:ow2.Perm ow):St X W r0 rd bx ow2 w :=
 ⟨S.fr,S.sub,S.sup,S.le,S.box,fun q hq=>S.own q (h.mem_iff.1 hq),S.d1,(h.symm.pairwise_iff (R:=qR) (fun {x y} h=>qR.symm h)).1 S.d2,fun p hp q hq=>S.d3 p hp q (h.mem_iff.1 hq)⟩
theorem yo{α:Type}{l:List α}{i:Nat}{x:α}(h:l[i]? = some x):(l.eraseIdx i++[x]).Perm l:=by
 obtain⟨a,e⟩:=List.getElem?_eq_some_iff.1 h
 have b:l=l.take i++x :: l.drop (i+1):=by rw [← e,← List.drop_eq_getElem_cons a,List.take_append_drop]
 have c:l.eraseIdx i=l.take i++l.drop (i+1):=List.eraseIdx_eq_take_drop_succ ..
 rw [c]
 conv=>rhs;rw [b]
 rw [List.append_assoc]
 exact List.Perm.append_left _ (List.perm_append_singleton x _)
theorem St.toEndB(S:St X W r0 rd bx ow w){i:Nat}{p:je}(h:bx[i]? = some p):St X W r0 rd (bx.eraseIdx i++[p]) ow w:=S.permB (yo h)
theorem St.toEndO(S:St X W r0 rd bx ow w){i:Nat}{q:h7}(h:ow[i]? = some q):St X W r0 rd bx (ow.eraseIdx i++[q]) w:=S.permO (yo h)
theorem St.give(S:St X W r0 rd bx ow w)(hb:bx=bxk++bx0)(ho:ow=owk++ow0):St (nf bx0 ow0) w rd rd bx0 ow0 w:=by
 subst hb ho
 refine⟨jj.refl _ _,fun _ _ _ _ h=>h,Rd.le_refl _,S.le,fun p b=>⟨.inr (vo b),(S.box p (List.mem_append_right _ b)).2⟩,fun q a=>⟨(S.own q (List.mem_append_right _ a)).1,fun g c=>⟨.inr (rR a c),((S.own q (List.mem_append_right _ a)).2 g c).2⟩⟩,
  (List.pairwise_append.1 S.d1).2.1,(List.pairwise_append.1 S.d2).2.1,fun p b q a=>S.d3 p (List.mem_append_right _ b) q (List.mem_append_right _ a)⟩
theorem St.comp(S:St X W r0 rd bx ow w)(hb:bx=bxk++bx0)(ho:ow=owk++ow0)(k:St (nf bx0 ow0) w rd rd' bx2 ow2 w'):St X W r0 rd' (bxk++bx2) (owk++ow2) w':=by
 subst hb ho
 have u:∀ g∈nf bx0 ow0,W.heap.size≤g∨g∈X:=fun g d=>by
  rcases pN d with⟨p,c,rfl⟩ | ⟨q,a,e⟩
  ·exact(S.box p (List.mem_append_right _ c)).1
  ·exact((S.own q (List.mem_append_right _ a)).2 g e).1
 have nB:∀ p∈bxk,p.1 ∉ nf bx0 ow0:=fun p c d=>by
  rcases pN d with⟨p',m,e⟩ | ⟨q,a,e⟩
  ·exact(List.pairwise_append.1 S.d1).2.2 p c p' m e.symm
  ·exact S.d3 p (List.mem_append_left _ c) q (List.mem_append_right _ a) e
 have nO:∀ q∈owk,∀ g,q.v.ownBlock=some g→g ∉ nf bx0 ow0:=fun q a g d y=>by
  rcases pN y with⟨p,c,e⟩ | ⟨q',n,e⟩
  ·exact S.d3 p (List.mem_append_right _ c) q (List.mem_append_left _ a) (by rw [d,e])
  ·rcases(List.pairwise_append.1 S.d2).2.2 q a q' n with h | h
   ·rw [d] at h;cases h
   ·exact h (by rw [d,e])
 have ltB:∀ p∈bxk,p.1<w.heap.size:=fun p c=>S.lt_box (List.mem_append_left _ c)
 have ltO:∀ q∈owk,∀ g,q.v.ownBlock=some g→g<w.heap.size:=fun q a g d=>((S.own q (List.mem_append_left _ a)).1.lt g d).2
 have nofree:∀ g,g<w.heap.size→(∀ o,rd g o=none) → ∀ o,rd' g o=none:=fun g d h o=>by
  cases e:rd' g o with
  | none=>rfl
  | some v=>have:=k.sub g o v d e;rw [h o] at this;cases this
 have split:∀ {g:Nat},(w.heap.size≤g∨g∈nf bx0 ow0)→W.heap.size≤g∨g∈X:=fun {g} h=>h.elim (fun h => .inl (Nat.le_trans S.base_le h)) (u g)
 refine⟨⟨k.fr.os.trans S.fr.os,k.fr.tape.trans S.fr.tape,k.fr.output.trans S.fr.output,Nat.le_trans S.fr.size k.fr.size,fun b hb x => ?_⟩,fun b o v hb e=>S.sub b o v hb (k.sub b o v (Nat.lt_of_lt_of_le hb S.base_le) e),fY S.sup k.sup,k.le,fun p c => ?_,fun q a => ?_,?_,?_,fun p c q a => ?_⟩
 ·have z:=Nat.lt_of_lt_of_le hb S.base_le
  rw [k.fr.block b z (fun h=>(u b h).elim (fun h=>by omega) x)]
  exact S.fr.block b hb x
 ·rcases List.mem_append.1 c with c | c
  ·obtain⟨r,s,t⟩:=S.box p (List.mem_append_left _ c)
   exact⟨r,(k.fr.block p.1 (ltB p c) (nB p c)).trans s,nofree _ (ltB p c) t⟩
  ·obtain⟨r,s,t⟩:=k.box p c
   exact⟨split r,s,t⟩
 ·rcases List.mem_append.1 a with a | a
  ·obtain⟨l,j⟩:=S.own q (List.mem_append_left _ a)
   refine⟨⟨l.1,?_⟩,fun g d=>⟨(j g d).1,nofree _ (ltO q a g d) (j g d).2⟩⟩
   rcases l.2 with h | ⟨g,cap,cur,e,b,hh,rest⟩
   ·exact .inl h
   ·exact .inr ⟨g,cap,cur,e,b,(k.fr.block g (ltO q a g (by rw [e];rfl)) (nO q a g (by rw [e];rfl))).trans hh,rest⟩
  ·obtain⟨l,j⟩:=k.own q a
   exact⟨l,fun g d=>⟨split (j g d).1,(j g d).2⟩⟩
 ·rw [List.pairwise_append]
  refine⟨(List.pairwise_append.1 S.d1).1,k.d1,fun p c p' m e => ?_⟩
  rcases(k.box p' m).1 with h | h
  ·have:=ltB p c;omega
  ·exact nB p c (e ▸ h)
 ·rw [List.pairwise_append]
  refine⟨(List.pairwise_append.1 S.d2).1,k.d2,fun q a q' n => ?_⟩
  cases d:q.v.ownBlock with
  | none=>exact .inl rfl
  | some g =>
   refine .inr fun e => ?_
   rcases((k.own q' n).2 g e.symm).1 with h | h
   ·have:=ltO q a g d;omega
   ·exact nO q a g d h
 ·rcases List.mem_append.1 c with i | i
  ·rcases List.mem_append.1 a with f | f
   ·exact S.d3 p (List.mem_append_left _ i) q (List.mem_append_left _ f)
   ·intro e
    rcases((k.own q f).2 _ e).1 with h | h
    ·have:=ltB p i;omega
    ·exact nB p i h
  ·rcases List.mem_append.1 a with f | f
   ·intro e
    rcases(k.box p i).1 with h | h
    ·have:=ltO q f _ e;omega
    ·exact nO q f _ e h
   ·exact k.d3 p i q f
theorem St.comp0(S:St X W r0 rd bx ow w)(k:St [] w rd rd' bx2 ow2 w'):St X W r0 rd' (bx++bx2) (ow++ow2) w':=S.comp (bxk:=bx) (bx0:=[]) (owk:=ow) (ow0:=[]) (by simp) (by simp) k
end
end
section
variable {ds:List Deferred}
section
variable {P:Program} {Q:Exit→Act→World→Prop} {s:List Kf} {w:World} {n:Nat} {l:Ov} {ops:Array Oper} {C1 C2:World→Prop} {k:Nat}
def AH(P:Program)(ops:Array Oper)(Q:Exit→Act→World→Prop)(C1 C2:World→Prop)(k:Nat):Nat→Array Bool→Act→World→Prop
 | 0,L,a,w=>Region.ready .any ops L=[]∧Q .normal a w
 | f+1,L,a,w=>(Region.ready .any ops L=[]→Q .normal a w) ∧ ∀ i∈Region.ready .any ops L,wpOp P ops Q i (fun a' w'=>if i=k then C2 w'∧wpAnyH P .any ops Q C2 f (L.setIfInBounds i true) a' w' else C1 w'∧AH P ops Q C1 C2 k f (L.setIfInBounds i true) a' w') a w
theorem zL:∀ (f:Nat) (L:Array Bool) (a:Act) (w:World),AH P ops Q C1 C2 k f L a w→wpAny P .any ops Q f L a w
 | 0,_,_,_,h=>h
 | f+1,L,a,w,h=>⟨h.1,fun i hi=>wpOp_mono (fun a' w' h'=>by
   split at h'
   ·exact wpAny_of_held _ _ _ _ h'.2
   ·exact zL f _ a' w' h'.2) (h.2 i hi)⟩
def vu(ops:Array Oper)(i:Nat)(Z:List Nat):Bool:=Z.all fun m=>match ops[m]? with | some o=>o.after.any fun e=>Region.binds .any e && (e.on == i || Z.contains e.on) | none=>false
theorem DP{i j:Nat}{Z:List Nat}{L:Array Bool}(hz:vu ops i Z=true)(hi:L.getD i true=false)(hZ:∀ m∈Z,L.getD m true=false)(hj:j∈Region.ready .any ops L):j ∉ Z:=fun hm=>by
 obtain⟨_,o,ho,hall⟩:=mem_ready.1 hj
 have h:=List.all_eq_true.1 hz j hm
 rw [ho] at h
 obtain⟨e,he,h⟩:=Array.any_eq_true'.1 h
 rw [Bool.and_eq_true,Bool.or_eq_true] at h
 have hl:=hall e he h.1
 have hu:L.getD e.on true=false:=by
  rcases h.2 with a | a
  ·rw [eq_of_beq a];exact hi
  ·exact hZ _ (List.contains_iff_mem.1 a)
 rw [Array.getD_eq_getD_getElem?] at hl hu
 cases c:L[e.on]? with
 | none=>rw [c] at hu;cases hu
 | some b=>rw [c] at hl hu;simp at hl hu;rw [hl] at hu;cases hu
theorem yk{i:Nat}{oi:Oper}{v:Value}{Z:List Nat}(hi:ops[i]? = some oi)(hk:k∈Z)(hz:vu ops i Z=true)(hiZ:i ∉ Z)(hsel:∀ (j:Nat) (o:Oper) cs b,ops[j]? = some o→o.op ≠ .select cs b)
  (hQ:∀ c a w,Q (.panic c) (a.put oi.dst v) w→Q (.panic c) a w):∀ (f:Nat) (L:Array Bool) (a:Act) (w:World),
   (∀ j oj,ops[j]? = some oj→j ≠ i→L.getD j true=false→(∀ e∈oj.after,Region.binds .any e=true→e.on ≠ i)→oi.apart ops oj=true) →
   (∀ m∈Z,L.getD m true=false)→i∈Region.ready .any ops L→YieldsIf P ops C1 oi v a→C1 w →
   AH P ops Q C1 C2 k f (L.setIfInBounds i true) (a.put oi.dst v) w→AH P ops Q C1 C2 k (f+1) L a w
 | f,L,a,w,hfree,hZ,hr,hy,hS,H=>by
  have hik:i ≠ k:=fun e=>hiZ (e ▸ hk)
  have hun:L.getD i true=false:=(mem_ready.1 hr).1
  refine⟨fun h=>(by rw [h] at hr;cases hr),fun j hj => ?_⟩
  by_cases hji:j=i
  ·subst hji
   refine hy.wpOp hi hS ?_
   rw [if_neg hik];exact⟨hS,H⟩
  ·match f,H with
   | 0,H =>
    have:=ready_mono hj hji
    rw [H.1] at this
    cases this
   | f+1,H =>
    have hjZ:=DP hz hun hZ hj
    have hjk:j ≠ k:=fun e=>hjZ (e ▸ hk)
    have h1:=H.2 j (ready_mono hj hji)
    obtain⟨hjun,oj,hoj,hall⟩:=mem_ready.1 hj
    have hnot:∀ e∈oj.after,Region.binds .any e=true→e.on ≠ i:=fun e he hb heq=>by
     have h1:=hall e he hb
     rw [heq,Array.getD_eq_getD_getElem?] at h1
     rw [Array.getD_eq_getD_getElem?] at hun
     cases hx:L[i]? with
     | none=>rw [hx] at hun;cases hun
     | some b=>rw [hx] at h1 hun;simp at h1 hun;rw [h1] at hun;cases hun
    have h2:=wpOp_putIf hoj (hfree j oj hoj hji hjun hnot) (fun cs b=>hsel i oi cs b hi) (fun cs b=>hsel j oj cs b hoj) hQ hy h1
    refine wpOp_mono (fun a' w' h3 => ?_) h2
    obtain⟨hy',h3⟩:=h3
    rw [if_neg hjk] at h3 ⊢
    refine⟨h3.1,yk hi hk hz hiZ hsel hQ f (L.setIfInBounds j true) a' w' (fun m om hm hmi hu hno=>hfree m om hm hmi ?_ hno) (fun m hm => ?_) (ready_mono hr (Ne.symm hji)) hy' h3.1 ?_⟩
    ·by_cases hjm:j=m
     ·subst hjm;exact hjun
     ·rw [getD_set_ne true hjm] at hu;exact hu
    ·rw [getD_set_ne true (fun e:j=m=>hjZ (e ▸ hm))];exact hZ m hm
    ·rw [Array.setIfInBounds_comm _ _ hji];exact h3.2
theorem xE{i:Nat}{oi:Oper}{v:Value}(hi:ops[i]? = some oi)(hik:i ≠ k)(hsel:∀ (j:Nat) (o:Oper) cs b,ops[j]? = some o→o.op ≠ .select cs b)
  (hQ:∀ c a w,Q (.panic c) (a.put oi.dst v) w→Q (.panic c) a w):∀ (f:Nat) (L:Array Bool) (a:Act) (w:World),
   (∀ j oj,ops[j]? = some oj→j ≠ i→L.getD j true=false→(∀ e∈oj.after,Region.binds .any e=true→e.on ≠ i)→oi.apart ops oj=true) →
   i∈Region.ready .any ops L→YieldsIf P ops (fun w=>C1 w∨C2 w) oi v a→C1 w →
   AH P ops Q C1 C2 k f (L.setIfInBounds i true) (a.put oi.dst v) w→AH P ops Q C1 C2 k (f+1) L a w
 | f,L,a,w,hfree,hr,hy,hS,H=>by
  have hun:L.getD i true=false:=(mem_ready.1 hr).1
  refine⟨fun h=>(by rw [h] at hr;cases hr),fun j hj => ?_⟩
  by_cases hji:j=i
  ·subst hji
   refine hy.wpOp hi (.inl hS) ?_
   rw [if_neg hik];exact⟨hS,H⟩
  ·match f,H with
   | 0,H =>
    have:=ready_mono hj hji
    rw [H.1] at this
    cases this
   | f+1,H =>
    have h1:=H.2 j (ready_mono hj hji)
    obtain⟨hjun,oj,hoj,hall⟩:=mem_ready.1 hj
    have hnot:∀ e∈oj.after,Region.binds .any e=true→e.on ≠ i:=fun e he hb heq=>by
     have h1:=hall e he hb
     rw [heq,Array.getD_eq_getD_getElem?] at h1
     rw [Array.getD_eq_getD_getElem?] at hun
     cases hx:L[i]? with
     | none=>rw [hx] at hun;cases hun
     | some b=>rw [hx] at h1 hun;simp at h1 hun;rw [h1] at hun;cases hun
    have hfree':∀ m om,ops[m]? = some om→m ≠ i→(L.setIfInBounds j true).getD m true=false→(∀ e∈om.after,Region.binds .any e=true→e.on ≠ i)→oi.apart ops om=true:=fun m om hm hmi hu hno=>by
     refine hfree m om hm hmi ?_ hno
     by_cases hjm:j=m
     ·subst hjm;exact hjun
     ·rw [getD_set_ne true hjm] at hu;exact hu
    have h2:=wpOp_putIf hoj (hfree j oj hoj hji hjun hnot) (fun cs b=>hsel i oi cs b hi) (fun cs b=>hsel j oj cs b hoj) hQ hy h1
    refine wpOp_mono (fun a' w' h3 => ?_) h2
    obtain⟨hy',h3⟩:=h3
    by_cases hjk:j=k
    ·rw [if_pos hjk] at h3 ⊢
     refine⟨h3.1,wpAnyH_first hi hsel hQ f (L.setIfInBounds j true) a' w' hfree' (ready_mono hr (Ne.symm hji)) (hy'.imp (fun q=>⟨q.1,fun w h=>q.2 w (.inr h)⟩) id) h3.1 ?_⟩
     rw [Array.setIfInBounds_comm _ _ hji];exact h3.2
    ·rw [if_neg hjk] at h3 ⊢
     refine⟨h3.1,xE hi hik hsel hQ f (L.setIfInBounds j true) a' w' hfree' (ready_mono hr (Ne.symm hji)) hy' h3.1 ?_⟩
     rw [Array.setIfInBounds_comm _ _ hji];exact h3.2
end
section
variable {P:Program} {Q:Exit→Act→World→Prop} {s:List Kf} {w:World} {n:Nat} {l:Ov} {ops:Array Oper} {C1 C2:World→Prop} {k:Nat}
structure BL (P:Program) (ops:Array Oper) (Q:Exit→Act→World→Prop) (C1 C2:World→Prop) (k:Nat) (fuel:Nat) (listed:Array Bool) (a:Act) (w:World):Prop where
 out:AH P ops Q C1 C2 k fuel listed a w
theorem nC{id m:Nat}{a:Act}(C1 C2:World→Prop)(k:Nat)(hm:P.follows .mixedOrders=true)(hk:ops.toList.length=m)(h:BL P ops (gZ P Q s) C1 C2 k m (Array.replicate m false) a w.drew):(Code.region id ops true).wp P (gZ P Q s) a w :=
 wp_region_any hm (zL _ _ _ _ (by subst hk;simpa using h.out))
theorem tb[NP Q]{fuel:Nat}{listed:Array Bool}{o:Oper}{d:Nat}(v:Value)(i:Nat)(Z:List Nat)(hi:ops.toList[i]? = some o)(hd:o.dst=some d)(S:C1 w)(Y:Yv P C1 (ev n l) o v)
  (h:BL P ops (gZ P Q s) C1 C2 k fuel (listed.setIfInBounds i true) (fd ds n ((d,v) :: l)) w) (hg:o.guard=none:=by rfl) (hs:Region.noSelect ops=true:=by kernel_rfl) (hf:Region.free .any ops listed i=true:=by kernel_rfl) (hr:(Region.ready .any ops listed).contains i=true:=by kernel_rfl)
  (hz:(Z.contains k && vu ops i Z && !Z.contains i && Z.all fun m => !listed.getD m true)=true:=by kernel_rfl):BL P ops (gZ P Q s) C1 C2 k (fuel+1) listed (fd ds n l) w:=by
 simp only [Bool.and_eq_true,Bool.not_eq_true',List.all_eq_true] at hz
 obtain⟨⟨⟨f,g⟩,b⟩,j⟩:=hz
 have e:ops[i]? = some o:=by rw [← Array.getElem?_toList];exact hi
 exact⟨yk e (List.contains_iff_mem.1 f) g (fun q=>by rw [List.contains_iff_mem.2 q] at b;cases b) (Region.noSelect_spec hs) (fun c a w=>pP NP.put s c a _ _ w) fuel listed _ w (Region.free_spec e hf) j (by simpa using hr)
  (.inl ⟨by unfold Region.wanted;rw [hg],fun w p=>by rw [no];exact Y w p⟩) S (by rw [n9,hd];exact h.out)⟩
theorem tp[NP Q]{fuel:Nat}{listed:Array Bool}{o:Oper}{d:Nat}(v:Value)(i:Nat)(hi:ops.toList[i]? = some o)(hd:o.dst=some d)(S:C1 w)(Y:Yv P (fun w=>C1 w∨C2 w) (ev n l) o v)
  (h:BL P ops (gZ P Q s) C1 C2 k fuel (listed.setIfInBounds i true) (fd ds n ((d,v) :: l)) w) (hik:i ≠ k:=by decide) (hg:o.guard=none:=by rfl) (hs:Region.noSelect ops=true:=by kernel_rfl) (hf:Region.free .any ops listed i=true:=by kernel_rfl) (hr:(Region.ready .any ops listed).contains i=true:=by kernel_rfl) :
  BL P ops (gZ P Q s) C1 C2 k (fuel+1) listed (fd ds n l) w:=by
 have b:ops[i]? = some o:=by rw [← Array.getElem?_toList];exact hi
 exact⟨xE b hik (Region.noSelect_spec hs) (fun c a w=>pP NP.put s c a _ _ w) fuel listed _ w (Region.free_spec b hf) (by simpa using hr)
  (.inl ⟨by unfold Region.wanted;rw [hg],fun w e=>by rw [no];exact Y w e⟩) S (by rw [n9,hd];exact h.out)⟩
def Bk(P:Program)(ops:Array Oper)(Q:Exit→Act→World→Prop)(C1 C2:World→Prop)(k i:Nat)(fuel:Nat)(listed:Array Bool)(a:Act)(w:World):Prop:=if i=k then C2 w∧wpAnyH P .any ops Q C2 fuel listed a w else C1 w∧AH P ops Q C1 C2 k fuel listed a w
theorem bk{fuel i:Nat}{listed:Array Bool}{a:Act}(hC:C1 w)(h:BL P ops Q C1 C2 k fuel listed a w)(hik:i ≠ k:=by decide):Bk P ops Q C1 C2 k i fuel listed a w:=by unfold Bk;rw [if_neg hik];exact⟨hC,h.out⟩
theorem bs{fuel i:Nat}{listed:Array Bool}{a:Act}(hC:C2 w)(h:AL P ops Q C2 fuel listed a w)(hik:i=k:=by rfl):Bk P ops Q C1 C2 k i fuel listed a w:=by unfold Bk;rw [if_pos hik];exact⟨hC,h.out⟩
def BB(P:Program)(ops:Array Oper)(Q:Exit→Act→World→Prop)(C1 C2:World→Prop)(k:Nat)(s:List Kf)(fuel:Nat)(listed:Array Bool)(a:Act)(w:World)(rs:List Nat):Prop :=
 ∀ i∈rs,wpOp P ops (gZ P Q s) i (fun a' w'=>Bk P ops (gZ P Q s) C1 C2 k i fuel (listed.setIfInBounds i true) a' w') a w
theorem pd{fuel:Nat}{listed:Array Bool}{a:Act}{rs:List Nat}(hr:Region.ready .any ops listed=rs)(hne:rs.isEmpty=false)(h:BB P ops Q C1 C2 k s fuel listed a w rs):BL P ops (gZ P Q s) C1 C2 k (fuel+1) listed a w:=by
 refine⟨?_⟩
 show(Region.ready .any ops listed=[]→_) ∧ ∀ i∈Region.ready .any ops listed,_
 rw [hr]
 exact⟨fun b=>(by subst b;cases hne),h⟩
theorem pf{fuel:Nat}{listed:Array Bool}{a:Act}:BB P ops Q C1 C2 k s fuel listed a w []:=fun i hi=>by cases hi
theorem mT{fuel i:Nat}{listed:Array Bool}{a:Act}{rs:List Nat}{o:Oper}(hi:ops.toList[i]? = some o)(h:WL P ops (gZ P Q (.lp (Bk P ops (gZ P Q s) C1 C2 k i fuel (listed.setIfInBounds i true)) :: s)) [o] a w)
  (h2:BB P ops Q C1 C2 k s fuel listed a w rs):BB P ops Q C1 C2 k s fuel listed a w (i :: rs):=fun j hj=>by
 rcases List.mem_cons.1 hj with rfl | hj
 ·exact x7 (by rw [← Array.getElem?_toList];exact hi) h.out
 ·exact h2 j hj
theorem bO{fuel:Nat}{listed:Array Bool}{a:Act}{o:Oper}(i:Nat)(hi:ops.toList[i]? = some o)(hr:Region.ready .any ops listed=[i])(h:WL P ops (gZ P Q (.lp (Bk P ops (gZ P Q s) C1 C2 k i fuel (listed.setIfInBounds i true)) :: s)) [o] a w):BL P ops (gZ P Q s) C1 C2 k (fuel+1) listed a w:=pd hr rfl (mT hi h pf)
end
end
structure gh where
 self:Int
 state:gt
 base:List Int
 log:List fH
 known:List (List Int)
deriving DecidableEq
structure i2 where
 whole:Bool
 state:gt
 updates:List fH
 clock:List Int
deriving DecidableEq
def lD:gh:=⟨0,mN,[],[],[]⟩
def tm:i2:=⟨false,mN,[],[]⟩
def jp(d:gh):Int:=gn d.state.clock
def l4(l:List (List Int))(i:Nat):List Int:=l.getD i []
theorem vC{l:List (List Int)}{i:Nat}(h:i<l.length):l4 l i=l[i]:=by simp [l4,h]
theorem qz{l:List (List Int)}{i:Nat}{k:List Int}(h:l[i]? = some k):l4 l i=k:=by simp [l4,h]
def o6(d:gh)(n:Int):Nat→List (List Int)→Int
 | _,[]=>0
 | i,k :: ks=>if gb k n ≠ 0 then gb k n else if((i:Int)=d.self∧k ≠ d.state.clock)∨gO d.state.clock k=false then 7 else o6 d n (i+1) ks
def iu(d:gh):Int :=
 if(gj d.state (jp d)).1 ≠ 0 then(gj d.state (jp d)).1
 else if d.self<0∨jp d≤d.self then 3
 else if(gc d.base d.log (jp d)).2.1 ≠ 0 then(gc d.base d.log (jp d)).2.1
 else if(gc d.base d.log (jp d)).1 ≠ d.state.clock∨gn d.known ≠ jp d then 7
 else o6 d (jp d) 0 d.known
def ku(d:gh)(u:fH):fH:=⟨d.self,d.state.clock,u.kind,u.key,u.item⟩
def i3(d:gh)(u:fH):gh × Int :=
 if iu d ≠ 0 then(lD,iu d)
 else if d.log.length=300 then(lD,5)
 else if(gF d.state (ku d u)).2 ≠ 0 then(lD,(gF d.state (ku d u)).2)
 else(⟨d.self,(gF d.state (ku d u)).1,d.base,d.log++[ku d u],d.known.set d.self.toNat (gF d.state (ku d u)).1.clock⟩,0)
def gg(d:gh)(to:Int):i2 × Int :=
 if iu d ≠ 0 then(tm,iu d)
 else if to<0∨gn d.known≤to then(tm,6)
 else if to=d.self then(tm,7)
 else if gO (l4 d.known to.toNat) d.base=false then(⟨true,d.state,[],d.state.clock⟩,0)
 else(⟨false,mN,i4 d.log (l4 d.known to.toNat),d.state.clock⟩,0)
def iB(d:gh)(u:fH):gh × Int :=
 if j7 u (jp d)=0∧kK d.state.clock u.author (hG u)=true then(d,0)
 else if d.log.length=300 then(d,5)
 else if(gF d.state u).2 ≠ 0 then(d,(gF d.state u).2)
 else(⟨d.self,(gF d.state u).1,d.base,d.log++[u],d.known⟩,0)
def j8:gh→List fH→gh × Int
 | d,[]=>(d,0)
 | d,u :: l=>if(iB d u).2 ≠ 0 then(lD,(iB d u).2) else j8 (iB d u).1 l
def gz(d:gh)(p:i2):gh:=if p.whole=true then⟨d.self,(ip d.state p.state).1,g8 d.base p.state.clock,i4 d.log (g8 d.base p.state.clock),d.known⟩ else d
def qL(d:gh)(from_:Int)(p:i2):gh:=⟨d.self,d.state,d.base,d.log,(d.known.set from_.toNat (g8 (l4 d.known from_.toNat) p.clock)).set d.self.toNat d.state.clock⟩
def gi(d:gh)(from_:Int)(p:i2):gh × Int :=
 if iu d ≠ 0 then(lD,iu d)
 else if from_<0∨gn d.known≤from_ then(lD,6)
 else if from_=d.self then(lD,7)
 else if gb p.clock (gn d.known) ≠ 0 then(lD,gb p.clock (gn d.known))
 else if p.whole=true∧(ip d.state p.state).2 ≠ 0 then(lD,(ip d.state p.state).2)
 else if(j8 (gz d p) p.updates).2 ≠ 0 then(lD,(j8 (gz d p) p.updates).2)
 else if gO (j8 (gz d p) p.updates).1.state.clock p.clock=false then(lD,8)
 else(qL (j8 (gz d p) p.updates).1 from_ p,0)
def nY(d:gh):List Int:=d.known.foldl k9 d.state.clock
def h9(d:gh):gh × Int :=
 if iu d ≠ 0 then(lD,iu d)
 else(⟨d.self,d.state,g8 d.base (nY d),i4 d.log (g8 d.base (nY d)),d.known⟩,0)
def oa(self n:Int):gh:=⟨self,gS n,List.replicate n.toNat 0,[],List.replicate n.toNat (List.replicate n.toNat 0)⟩
def i6(self n:Int):gh × Int :=
 if n<1∨6<n then(lD,5) else if self<0∨n≤self then(lD,3) else(oa self n,0)
def kr(c:List Int)(l:List fH):List Int:=l.foldl (fun c u=>gD c u.author) c
theorem xe(c:List Int)(u:fH)(l:List fH):kr c (u :: l)=kr (gD c u.author) l:=rfl
theorem u3(c:List Int)(l m:List fH):kr c (l++m)=kr (kr c l) m:=List.foldl_append
theorem pM{n:Int}:∀ {l:List fH} {c:List Int} {i:Nat},gb c n=0→jv n c l→iL n c l i=(kr c l,0,0)
 | [],c,i,hc,h=>rfl
 | u :: l,c,i,hc,h=>by
  rw [iL.eq_2,uy h.1,if_neg (by simp),pM (mL hc h.1) h.2];rfl
theorem qA{n:Int}{l:List fH}{c:List Int}(hc:gb c n=0)(h:jv n c l):gb (kr c l) n=0∧gO (kr c l) c=true:=by
 have:=qk l c 0 hc (by rw [pM hc h])
 rw [pM hc h] at this
 exact⟨this.1,this.2.1⟩
theorem qc{n:Int}:∀ {l m:List fH} {c:List Int},jv n c (l++m)↔jv n c l∧jv n (kr c l) m
 | [],m,c=>by simp [jv,kr]
 | u :: l,m,c=>by
  show(kg c u n∧jv n (gD c u.author) (l++m))↔(kg c u n∧jv n (gD c u.author) l)∧_
  rw [qc (l:=l),xe,and_assoc]
theorem zg{c b:List Int}{u:fH}{n:Int}(hb:gb b n=0)(h:kg b u n)(hc:gb c n=0):iJ c u=true↔g6 b u.author.toNat<g6 c u.author.toNat:=by
 rw [ms hc h.r,h.eq]
theorem vO{c b:List Int}{u:fH}{n:Int}(hb:gb b n=0)(h:kg b u n)(hc:gb c n=0)(hs:gO c b=true)(hh:iJ c u=true):gO c (gD b u.author)=true:=jJ.2 fun j=>by
 rw [m0 hb h]
 have h1:=(zg hb h hc).1 hh
 have h2:=jJ.1 hs j
 split
 ·rename_i e;subst e;omega
 ·exact h2
theorem vA{c b:List Int}{u:fH}{n:Int}(hb:gb b n=0)(h:kg b u n)(hc:gb c n=0)(hs:gO c b=true)(hh:iJ c u=false):kg c u n:=by
 refine⟨h.r,?_,ma hs h.sees⟩
 have a:¬ g6 b u.author.toNat<g6 c u.author.toNat:=fun k=>by rw [(zg hb h hc).2 k] at hh;cases hh
 have d:=jJ.1 hs u.author.toNat
 have:=h.eq
 omega
theorem vS{c b:List Int}{u:fH}{n:Int}(hb:gb b n=0)(h:kg b u n)(hc:gb c n=0)(k:kg c u n)(hs:gO c b=true):gO (gD c u.author) (gD b u.author)=true:=jJ.2 fun j=>by
 rw [m0 hb h,m0 hc k]
 have h2:=jJ.1 hs j
 have:=h.eq;have:=k.eq
 split <;> omega
theorem uj{c b:List Int}{u:fH}{n:Int}(hb:gb b n=0)(h:kg b u n)(hc:gb c n=0)(k:kg c u n){e:List Int}(he:gO e (gD b u.author)=true)(hl:e.length=b.length):g8 (gD c u.author) e=g8 c e:=by
 have d:=i7 hc;have f:=i7 hb
 refine ot (by simp only [ph,rG]) fun j => ?_
 rw [lL,lL,m0 hc k]
 split
 ·rename_i a;subst a
  have:=jJ.1 he u.author.toNat
  rw [m0 hb h,if_pos rfl] at this
  have:=h.eq;have:=k.eq
  omega
 ·rfl
theorem un{n:Int}:∀ {l:List fH} {base c:List Int},gb base n=0→gb c n=0→jv n base l→gO c base=true→jv n c (i4 l c)∧kr c (i4 l c)=g8 c (kr base l)
 | [],base,c,hb,hc,_,hs=>by
  refine⟨trivial,?_⟩
  have hl1:=i7 hb;have hl2:=i7 hc
  exact ot (by show c.length=(g8 c base).length;rw [ph];omega) fun k=>by show g6 c k=g6 (g8 c base) k;rw [lL];have:=jJ.1 hs k;omega
 | u :: l,base,c,hb,hc,h,hs=>by
  obtain⟨h1,h2⟩:=h
  have hbt:=mL hb h1
  obtain⟨w1,w2⟩:=qA hbt h2
  cases hh:iJ c u
  ·have e:i4 (u :: l) c=u :: i4 l c:=by unfold i4;rw [List.filter_cons];simp [hh]
   have d:=vA hb h1 hc hs hh
   have f:=mL hc d
   have j:i4 l c=i4 l (gD c u.author):=by
    unfold i4
    refine List.filter_congr fun v m => ?_
    obtain⟨g,i⟩:=mO hbt h2 m
    congr 1
    rw [Bool.eq_iff_iff,ms hc g,ms f g,m0 hc d]
    split
    ·rename_i ev
     rw [m0 hb h1,if_pos ev] at i
     have:=d.eq;have:=h1.eq
     rw [ev] at i ⊢
     omega
    ·exact Iff.rfl
   rw [e,j,xe]
   obtain⟨a,b⟩:=un hbt f h2 (vS hb h1 hc d hs)
   refine⟨⟨d,a⟩,?_⟩
   rw [b]
   have o:=i7 w1;have p:=i7 hb
   exact uj hb h1 hc d w2 (by omega)
  ·have e:i4 (u :: l) c=i4 l c:=by unfold i4;rw [List.filter_cons];simp [hh]
   rw [e]
   exact un hbt hc h2 (vO hb h1 hc hs hh)
theorem tl{a b:List Int}(hl:b.length≤a.length)(h:gO a b=true):g8 a b=a:=ot (by rw [ph];omega) fun k=>by rw [lL];have:=jJ.1 h k;omega
theorem xp{a b:List Int}(hl:b.length≤a.length)(h:gO a b=true):g8 b a=a:=by rw [Ez];exact tl hl h
structure l6 (d:gh) (n:Int):Prop where
 s:iN d.state n
 a0:0≤d.self
 a1:d.self<n
 b:gb d.base n=0
 f:jv n d.base d.log
 l:d.log.length≤300
 c:kr d.base d.log=d.state.clock
 k:(d.known.length:Int)=n
 ks:∀ k∈d.known,gb k n=0∧gO d.state.clock k=true
 own:d.known[d.self.toNat]? = some d.state.clock
theorem sF{d:gh}{n:Int}:∀ {l:List (List Int)} {i:Nat},o6 d n i l=0 ↔ ∀ (j:Nat) k,l[j]? = some k→gb k n=0∧gO d.state.clock k=true∧(((i+j:Nat):Int)=d.self→k=d.state.clock)
 | [],i=>by simp [o6]
 | x :: l,i=>by
  unfold o6
  constructor
  ·intro h
   by_cases h1:gb x n=0
   ·rw [if_neg (fun e=>e h1)] at h
    split at h
    ·cases h
    ·rename_i h2
     intro j k hj
     cases j with
     | zero =>
      simp at hj;subst hj
      refine⟨h1,?_,fun e => ?_⟩
      ·cases hs:gO d.state.clock x
       ·exact absurd (.inr hs) h2
       ·rfl
      ·exact Classical.not_not.1 fun h3=>h2 (.inl ⟨by simpa using e,h3⟩)
     | succ j =>
      have:=sF.1 h j k (by simpa using hj)
      refine⟨this.1,this.2.1,fun e=>this.2.2 (by rw [← e];congr 1;omega)⟩
   ·rw [if_pos h1] at h;exact absurd h h1
  ·intro h
   have h0:=h 0 x rfl
   rw [if_neg (fun e=>e h0.1),if_neg (fun e=>by
    rcases e with⟨e1,e2⟩ | e
    ·exact e2 (h0.2.2 (by simpa using e1))
    ·rw [h0.2.1] at e;cases e)]
   refine sF.2 fun j k hj => ?_
   have:=h (j+1) k (by simpa using hj)
   exact⟨this.1,this.2.1,fun e=>this.2.2 (by rw [← e];congr 1;omega)⟩
theorem l6.n{d:gh}{n:Int}(h:l6 d n):jp d=n:=(i7 h.s.c).2.2.1
theorem oo{d:gh}:iu d=0↔l6 d (jp d):=by
 unfold iu
 constructor
 ·intro h
  split at h
  ·rename_i m;exact absurd h m
  rename_i m
  split at h
  ·cases h
  rename_i n
  split at h
  ·rename_i o;exact absurd h o
  rename_i o
  split at h
  ·cases h
  rename_i i
  have p:=Classical.not_not.1 o
  obtain⟨q,w,x⟩:=sh p
  rw [x] at p i
  have t:=(oJ q).1 p
  rw [pM q t] at i
  have r:=sF.1 h
  have g:kr d.base d.log=d.state.clock:=Classical.not_not.1 fun e=>i (.inl e)
  have u:gn d.known=jp d:=Classical.not_not.1 fun e=>i (.inr e)
  have v:d.self.toNat<d.known.length:=by unfold gn at u;omega
  refine⟨mQ.1 (Classical.not_not.1 m),by omega,by omega,q,t,w,g,u,fun k y => ?_,?_⟩
  ·obtain⟨j,a⟩:=List.getElem?_of_mem y
   exact⟨(r j k a).1,(r j k a).2.1⟩
  ·have:=r d.self.toNat d.known[d.self.toNat] (List.getElem?_eq_getElem v)
   rw [List.getElem?_eq_getElem v,this.2.2 (by omega)]
 ·intro h
  rw [if_neg (fun e=>e (mQ.2 h.s)),if_neg (by have:=h.a0;have:=h.a1;omega)]
  have e:=tz h.b h.l
  rw [pM h.b h.f] at e
  rw [e,if_neg (by simp),if_neg (by
   rintro(g | g)
   ·exact g h.c
   ·exact g h.k)]
  refine sF.2 fun j k a=>⟨(h.ks k (List.mem_of_getElem? a)).1,(h.ks k (List.mem_of_getElem? a)).2,fun e => ?_⟩
  have:d.self.toNat=j:=by omega
  have n:=h.own
  rw [this,a] at n
  injection n
theorem l6.ok{d:gh}{n:Int}(h:l6 d n):iu d=0:=by rw [oo,h.n];exact h
theorem l6.len{d:gh}{n:Int}(h:l6 d n):1≤n∧n≤6∧(d.state.clock.length:Int)=n∧(d.base.length:Int)=n:=by
 have:=i7 h.s.c;have:=i7 h.b;omega
theorem l6.step{d:gh}{n:Int}(h:l6 d n){u:fH}(hu:kg d.state.clock u n)(hl:d.log.length<300):jv n d.base (d.log++[u])∧kr d.base (d.log++[u])=(iq d.state u).clock∧iN (iq d.state u) n∧(d.log++[u]).length≤300∧gO (iq d.state u).clock d.state.clock=true:=by
 refine⟨qc.2 ⟨h.f,?_⟩,?_,sJ h.s hu,by simp;omega,q7 h.s.c hu⟩
 ·rw [h.c];exact⟨hu,trivial⟩
 ·rw [u3,h.c];rfl
theorem vb{α:Type}{l:List α}{i:Nat}{x y:α}(h:y∈l.set i x):y∈l∨y=x:=List.mem_or_eq_of_mem_set h
structure m3 (d:gh) (n:Int):Prop where
 s:iN d.state n
 a0:0≤d.self
 a1:d.self<n
 b:gb d.base n=0
 f:jv n d.base d.log
 l:d.log.length≤300
 c:kr d.base d.log=d.state.clock
 k:(d.known.length:Int)=n
 ks:∀ k∈d.known,gb k n=0∧gO d.state.clock k=true
theorem l6.mid{d:gh}{n:Int}(h:l6 d n):m3 d n:=⟨h.s,h.a0,h.a1,h.b,h.f,h.l,h.c,h.k,h.ks⟩
theorem m3.n{d:gh}{n:Int}(h:m3 d n):jp d=n:=(i7 h.s.c).2.2.1
theorem sU{c:List Int}{u:fH}{n:Int}(hc:gb c n=0)(h:n5 u n):kK c u.author (hG u)=iJ c u:=by
 rw [um h]
 have a:=h.len;have:=i7 hc;have:=h.a0;have:=h.a1
 unfold kK iJ
 rw [Bool.eq_iff_iff]
 simp only [Bool.and_eq_true,decide_eq_true_eq]
 omega
def qU(d:gh)(u:fH):gh:=⟨d.self,iq d.state u,d.base,d.log++[u],d.known⟩
theorem z2{d:gh}{u:fH}{n:Int}(h:iN d.state n)(k:(iB d u).2=0) :
  (n5 u n∧iJ d.state.clock u=true∧iB d u=(d,0))∨(kg d.state.clock u n∧d.log.length ≠ 300∧iB d u=(qU d u,0)):=by
 have en:jp d=n:=(i7 h.c).2.2.1
 unfold iB at k ⊢
 rw [en] at k ⊢
 split
 ·rename_i f
  have j:=od.1 f.1
  left
  exact⟨j,by rw [← sU h.c j];exact f.2,rfl⟩
 ·rename_i f
  rw [if_neg f] at k
  split
  ·rename_i g;rw [if_pos g] at k;cases k
  ·rename_i g
   rw [if_neg g] at k
   split
   ·rename_i i;rw [if_pos i] at k;exact absurd k i
   ·rename_i i
    obtain⟨a,b,c⟩:=tH (Classical.not_not.1 i)
    have e:gn d.state.clock=n:=en
    rw [e] at b
    right
    exact⟨b,g,by rw [c];rfl⟩
theorem wq{d:gh}{u:fH}{n:Int}(h:iN d.state n)(hr:n5 u n)(hh:iJ d.state.clock u=true):iB d u=(d,0):=by
 have en:jp d=n:=(i7 h.c).2.2.1
 unfold iB
 rw [en,if_pos ⟨od.2 hr,by rw [sU h.c hr];exact hh⟩]
theorem yU{d:gh}{u:fH}{n:Int}(h:iN d.state n)(hs:kg d.state.clock u n)(hl:d.log.length ≠ 300):iB d u=(qU d u,0):=by
 have en:jp d=n:=(i7 h.c).2.2.1
 unfold iB
 rw [en,if_neg,if_neg hl,Bh h hs,if_neg (by simp)]
 ·rfl
 ·rintro⟨_,k⟩
  rw [sU h.c hs.r] at k
  have:=(ms h.c hs.r).1 k
  have:=hs.eq
  omega
theorem m3.took{d:gh}{u:fH}{n:Int}(h:m3 d n)(hs:kg d.state.clock u n)(hl:d.log.length ≠ 300):m3 (qU d u) n∧gO (qU d u).state.clock d.state.clock=true:=by
 have g:=h.l
 have a:=q7 h.s.c hs
 refine⟨⟨sJ h.s hs,h.a0,h.a1,h.b,qc.2 ⟨h.f,?_⟩,?_,?_,h.k,fun k e=>⟨(h.ks k e).1,ma a (h.ks k e).2⟩⟩,a⟩
 ·show jv n (kr d.base d.log) [u];rw [h.c];exact⟨hs,trivial⟩
 ·show(d.log++[u]).length≤300;simp;omega
 ·show kr d.base (d.log++[u])=_;rw [u3,h.c];rfl
theorem ui{n:Int}(P:gh→Prop):∀ {l:List fH} {d:gh},(∀ d u,u∈l→m3 d n→P d→kg d.state.clock u n→d.log.length ≠ 300→P (qU d u))→m3 d n→P d→(j8 d l).2=0 →
  m3 (j8 d l).1 n∧P (j8 d l).1∧gO (j8 d l).1.state.clock d.state.clock=true∧(j8 d l).1.self=d.self∧(j8 d l).1.base=d.base∧(j8 d l).1.known=d.known
 | [],d,H,h,p,k=>⟨h,p,my _,rfl,rfl,rfl⟩
 | u :: l,d,H,h,p,k=>by
  unfold j8 at k ⊢
  split at k
  ·rename_i h1;exact absurd k h1
  ·rename_i h1
   rw [if_neg h1]
   rcases z2 h.s (Classical.not_not.1 h1) with⟨_,_,e⟩ | ⟨a,b,e⟩
   ·rw [e] at k ⊢
    exact ui P (fun d v hv=>H d v (by simp [hv])) h p k
   ·rw [e] at k ⊢
    obtain⟨q1,q2⟩:=h.took a b
    obtain⟨r1,r2,r3,r4,r5,r6⟩:=ui P (l:=l) (fun d v hv=>H d v (by simp [hv])) q1 (H d u (by simp) h p a b) k
    exact⟨r1,r2,ma r3 q2,r4,r5,r6⟩
theorem vc{n:Int}:∀ {l:List fH} {d:gh} {b:List Int},m3 d n→gb b n=0→jv n b l→gO d.state.clock b=true→d.log.length+l.length≤300→(j8 d l).2=0∧(j8 d l).1.state.clock=g8 d.state.clock (kr b l)
 | [],d,b,h,hb,_,hs,_=>by
  have h1:=i7 h.s.c;have h2:=i7 hb
  exact⟨rfl,(tl (by omega) hs).symm⟩
 | u :: l,d,b,h,hb,hf,hs,hl=>by
  obtain⟨h1,h2⟩:=hf
  have hbt:=mL hb h1
  have hl':d.log.length+(l.length+1)≤300:=hl
  unfold j8
  cases hh:iJ d.state.clock u
  ·have hk:=vA hb h1 h.s.c hs hh
   rw [yU h.s hk (by omega),if_neg (by simp)]
   obtain⟨q1,q2⟩:=h.took hk (by omega)
   obtain⟨a,e⟩:=vc (l:=l) (d:=qU d u) q1 hbt h2 (vS hb h1 h.s.c hk hs) (by show(d.log++[u]).length+_≤_;simp;omega)
   refine⟨a,?_⟩
   rw [e]
   obtain⟨w1,w2⟩:=qA hbt h2
   have k1:=i7 w1;have k2:=i7 hb
   exact uj hb h1 h.s.c hk w2 (by omega)
  ·rw [wq h.s h1.r hh,if_neg (by simp)]
   exact vc h hbt h2 (vO hb h1 h.s.c hs hh) (by show d.log.length+_≤_;omega)
theorem vB{d:gh}{n:Int}(h:iN d.state n)(hb:gb d.base n=0)(hf:jv n d.base d.log)(hc:kr d.base d.log=d.state.clock){b:List Int}(hb':gb b n=0)(hs:gO b d.base=true) :
  jv n b (i4 d.log b)∧kr b (i4 d.log b)=g8 b d.state.clock∧(i4 d.log b).length≤d.log.length:=by
 obtain⟨a,e⟩:=un hb hb' hf hs
 exact⟨a,by rw [e,hc],tw _ _⟩
theorem m3.whole{d:gh}{n:Int}{p:i2}(h:m3 d n)(hj:p.whole=true→(ip d.state p.state).2=0):m3 (gz d p) n∧gO (gz d p).state.clock d.state.clock=true∧gO (gz d p).base d.base=true∧(gz d p).self=d.self∧(gz d p).known=d.known:=by
 unfold gz
 split
 ·rename_i i
  have hj:=hj i
  have en:gn d.state.clock=n:=h.n
  have a:iN p.state n:=by
   unfold ip at hj
   rw [en,if_neg (fun k=>k (mQ.2 h.s))] at hj
   split at hj
   ·rename_i k;exact absurd hj k
   ·rename_i k;exact mQ.1 (Classical.not_not.1 k)
  rw [sY h.s a]
  have e:=pS h.b a.c
  obtain⟨m,o,_⟩:=vB h.s h.b h.f h.c e (pO _ _)
  have q:gO d.state.clock d.base=true:=by rw [← h.c];exact(qA h.b h.f).2
  have r:=i7 h.s.c;have t:=i7 a.c;have u:=i7 h.b
  refine⟨⟨uZ h.s a,h.a0,h.a1,e,m,?_,?_,h.k,fun k g=>⟨(h.ks k g).1,ma (pO _ _) (h.ks k g).2⟩⟩,pO _ _,pO _ _,rfl,rfl⟩
  ·have:=h.l;show(i4 d.log _).length≤300;omega
  ·show kr (g8 d.base p.state.clock) (i4 d.log (g8 d.base p.state.clock))=g8 d.state.clock p.state.clock
   rw [o]
   refine ot (by simp only [ph];omega) fun j => ?_
   simp only [lL]
   have:=jJ.1 q j
   omega
 ·exact⟨h,my _,my _,rfl,rfl⟩
structure BD (d:gh) (from_:Int) (p:i2) (n:Int):Prop where
 r:l6 d n
 f0:0≤from_
 f1:from_<n
 ne:from_ ≠ d.self
 c:gb p.clock n=0
 j:p.whole=true→(ip d.state p.state).2=0
 t:(j8 (gz d p) p.updates).2=0
 s:gO (j8 (gz d p) p.updates).1.state.clock p.clock=true
 e:gi d from_ p=(qL (j8 (gz d p) p.updates).1 from_ p,0)
theorem Cq{d:gh}{from_:Int}{p:i2}(h:(gi d from_ p).2=0):BD d from_ p (jp d):=by
 have e:=h
 unfold gi at h
 split at h
 ·rename_i k;exact absurd h k
 rename_i c
 split at h
 ·cases h
 rename_i f
 split at h
 ·cases h
 rename_i g
 split at h
 ·rename_i k;exact absurd h k
 rename_i a
 split at h
 ·rename_i k;exact absurd h k.2
 rename_i i
 split at h
 ·rename_i k;exact absurd h k
 rename_i j
 split at h
 ·cases h
 rename_i l
 have m:=oo.1 (Classical.not_not.1 c)
 have n:=m.k
 have b:gn d.known=jp d:=n
 rw [b] at f a
 refine⟨m,by omega,by omega,g,Classical.not_not.1 a,fun o=>Classical.not_not.1 fun k=>i ⟨o,k⟩,Classical.not_not.1 j,?_,?_⟩
 ·cases q:gO (j8 (gz d p) p.updates).1.state.clock p.clock
  ·exact absurd q l
  ·rfl
 ·unfold gi
  rw [if_neg c,if_neg (by rw [b];exact f),if_neg g,if_neg (by rw [b];exact a),if_neg i,if_neg j,if_neg l]
theorem Cx{d:gh}{from_:Int}{p:i2}{n:Int}(r:l6 d n)(f0:0≤from_)(f1:from_<n)(ne:from_ ≠ d.self)(c:gb p.clock n=0)(j:p.whole=true→(ip d.state p.state).2=0)
  (t:(j8 (gz d p) p.updates).2=0) (s:gO (j8 (gz d p) p.updates).1.state.clock p.clock=true):gi d from_ p=(qL (j8 (gz d p) p.updates).1 from_ p,0):=by
 have a:gn d.known=n:=r.k
 unfold gi
 rw [if_neg (fun k=>k r.ok),if_neg (by rw [a];omega),if_neg ne,if_neg (by rw [a];exact fun k=>k c),if_neg (fun k=>k.2 (j k.1)),if_neg (fun k=>k t),if_neg (by rw [s];simp)]
theorem m3.done{d:gh}{n:Int}(h:m3 d n){from_:Int}{p:i2}(f0:0≤from_)(f1:from_<n)(c:gb p.clock n=0)(s:gO d.state.clock p.clock=true):l6 (qL d from_ p) n:=by
 have e:=h.k
 have g:from_.toNat<d.known.length:=by omega
 have i:d.self.toNat<d.known.length:=by have:=h.a0;have:=h.a1;omega
 refine⟨h.s,h.a0,h.a1,h.b,h.f,h.l,h.c,by show((List.set _ _ _).length:Int)=n;simp;omega,fun k e => ?_,by
  show(List.set _ _ _)[d.self.toNat]? = some d.state.clock
  simp [i]⟩
 rcases vb e with e | rfl
 ·rcases vb e with e | rfl
  ·exact h.ks k e
  ·obtain⟨a,b⟩:=h.ks (l4 d.known from_.toNat) (by rw [vC g];exact List.getElem_mem g)
   exact⟨pS a c,by show gO d.state.clock _=true;rw [sO,b,s];rfl⟩
 ·exact⟨h.s.c,my _⟩
theorem EQ{d:gh}{n:Int}(h:l6 d n):gb (nY d) n=0∧gO d.state.clock (nY d)=true ∧ ∀ k∈d.known,gO k (nY d)=true:=by
 have key:∀ (l:List (List Int)) (a:List Int),gb a n=0→gO d.state.clock a=true→(∀ k∈l,gb k n=0)→gb (l.foldl k9 a) n=0∧gO a (l.foldl k9 a)=true ∧ ∀ k∈l,gO k (l.foldl k9 a)=true:=by
  intro l
  induction l with
  | nil=>intro a g i _;exact⟨g,my _,by simp⟩
  | cons x l ih =>
   intro a g i f
   obtain⟨p,q,r⟩:=ih (k9 a x) (qH g (f x (by simp))) (ma i (wt _ _)) fun k e=>f k (by simp [e])
   refine⟨p,ma (wt _ _) q,fun k e => ?_⟩
   rcases List.mem_cons.1 e with rfl | e
   ·exact ma (xK _ _) q
   ·exact r k e
 obtain⟨a,b,c⟩:=key d.known d.state.clock h.s.c (my _) fun k f=>(h.ks k f).1
 exact⟨a,b,c⟩
def sR(d:gh):gh:=⟨d.self,d.state,g8 d.base (nY d),i4 d.log (g8 d.base (nY d)),d.known⟩
theorem Cf{d:gh}{n:Int}(h:l6 d n):h9 d=(sR d,0):=by unfold h9;rw [if_neg (fun k=>k h.ok)];rfl
theorem l6.base_le{d:gh}{n:Int}(h:l6 d n):gO d.state.clock d.base=true:=by rw [← h.c];exact(qA h.b h.f).2
theorem BS{d:gh}{n:Int}(h:l6 d n):l6 (sR d) n∧gO (sR d).base d.base=true:=by
 obtain⟨e,g,_⟩:=EQ h
 have a:=pS h.b e
 obtain⟨i,j,_⟩:=vB h.s h.b h.f h.c a (pO _ _)
 have m:gO d.state.clock (g8 d.base (nY d))=true:=by rw [sO,h.base_le,g];rfl
 have o:=i7 h.s.c;have p:=i7 a
 refine⟨⟨h.s,h.a0,h.a1,a,i,by have:=h.l;show(i4 d.log _).length≤300;omega,?_,h.k,h.ks,h.own⟩,pO _ _⟩
 show kr (g8 d.base (nY d)) (i4 d.log (g8 d.base (nY d)))=d.state.clock
 rw [j]
 exact xp (by omega) m
structure rV (d:gh) (u:fH) (n:Int):Prop where
 r:l6 d n
 l:d.log.length<300
 s:kg d.state.clock (ku d u) n
 e:i3 d u=(⟨d.self,iq d.state (ku d u),d.base,d.log++[ku d u],d.known.set d.self.toNat (iq d.state (ku d u)).clock⟩,0)
theorem BQ{d:gh}{u:fH}(h:(i3 d u).2=0):rV d u (jp d):=by
 unfold i3 at h
 split at h
 ·rename_i k;exact absurd h k
 rename_i e
 split at h
 ·cases h
 rename_i i
 split at h
 ·rename_i k;exact absurd h k
 rename_i f
 have g:=oo.1 (Classical.not_not.1 e)
 obtain⟨a,b,c⟩:=tH (Classical.not_not.1 f)
 have j:=g.l
 refine⟨g,by omega,b,?_⟩
 unfold i3
 rw [if_neg e,if_neg i,if_neg f,c]
theorem rV.right{d:gh}{u:fH}{n:Int}(h:rV d u n):l6 (i3 d u).1 n∧gO (i3 d u).1.state.clock d.state.clock=true∧(i3 d u).1.base=d.base∧(i3 d u).1.self=d.self:=by
 obtain⟨a,b,c,e,f⟩:=h.r.step h.s h.l
 rw [h.e]
 have g:=h.r.k
 have i:d.self.toNat<d.known.length:=by have:=h.r.a0;have:=h.r.a1;omega
 refine⟨⟨c,h.r.a0,h.r.a1,h.r.b,a,e,b,by show((List.set _ _ _).length:Int)=n;simp;omega,fun k g => ?_,by
  show(List.set _ _ _)[d.self.toNat]? = _;simp [i]⟩,f,rfl,rfl⟩
 rcases vb g with g | rfl
 ·exact⟨(h.r.ks k g).1,ma f (h.r.ks k g).2⟩
 ·exact⟨c.c,my _⟩
theorem Bz{d:gh}{n:Int}(h:l6 d n){to:Int}(t0:0≤to)(t1:to<n)(ne:to ≠ d.self):gg d to=(if gO (l4 d.known to.toNat) d.base=false then(⟨true,d.state,[],d.state.clock⟩:i2) else⟨false,mN,i4 d.log (l4 d.known to.toNat),d.state.clock⟩,0):=by
 have a:gn d.known=n:=h.k
 unfold gg
 rw [if_neg (fun k=>k h.ok),if_neg (by rw [a];omega),if_neg ne]
 split <;> rfl
structure iG where
 nodes:List gh
 way:List (List (List i2))
deriving DecidableEq
structure Do where
 kind:Int
 n:Int
 to:Int
 update:fH
deriving DecidableEq
def ic(w:iG)(i:Nat):gh:=w.nodes.getD i lD
def iU(l:List (List (List i2)))(a b:Nat):List i2:=(l.getD a []).getD b []
def kT(l:List (List (List i2)))(a b:Nat)(q:List i2):List (List (List i2)):=l.set a ((l.getD a []).set b q)
def putW(w:iG)(k:Nat)(r:gh × Int):iG × Int:=if r.2=0 then(⟨w.nodes.set k r.1,w.way⟩,0) else(w,r.2)
def jw(w:iG)(a b:Int):Int:=if a<0∨gn w.nodes≤a∨b<0∨gn w.nodes≤b then 6 else if a=b then 7 else 0
def lT(w:iG)(a b:Nat):iG × Int :=
 if(iU w.way a b).length=20 then(w,5)
 else if(gg (ic w a) b).2=0 then(⟨w.nodes,kT w.way a b (iU w.way a b++[(gg (ic w a) b).1])⟩,0)
 else(w,(gg (ic w a) b).2)
def pR(w:iG)(a b:Nat):iG:=⟨w.nodes,kT w.way a b ((iU w.way a b).drop 1)⟩
def pC(l:List i2):i2:=l.headD tm
def lH(w:iG)(a b:Nat)(lost:Bool):iG × Int :=
 if(iU w.way a b).length=0 then(w,6)
 else if lost=true then(pR w a b,0)
 else(pR (putW w b (gi (ic w b) a (pC (iU w.way a b)))).1 a b,(gi (ic w b) a (pC (iU w.way a b))).2)
def gR(w:iG)(d:Do):iG × Int :=
 if d.kind=1∨d.kind=5 then
  if d.n<0∨gn w.nodes≤d.n then(w,6)
  else if d.kind=5 then putW w d.n.toNat (h9 (ic w d.n.toNat))
  else putW w d.n.toNat (i3 (ic w d.n.toNat) d.update)
 else if d.kind=2∨d.kind=3∨d.kind=4 then
  if jw w d.n d.to ≠ 0 then(w,jw w d.n d.to)
  else if d.kind=2 then lT w d.n.toNat d.to.toNat
  else lH w d.n.toNat d.to.toNat (decide (d.kind=4))
 else(w,1)
def kC:iG→List Do→iG × List Int
 | w,[]=>(w,[])
 | w,d :: l=>((kC (gR w d).1 l).1,(gR w d).2 :: (kC (gR w d).1 l).2)
def kJ(n:Nat):iG:=⟨(List.range n).map fun(k:Nat)=>oa (k:Int) n,List.replicate n (List.replicate n [])⟩
def nL:iG:=⟨[],[]⟩
def l3(n:Int)(l:List Do):iG × List Int × Int :=
 if n<1∨6<n∨150<l.length then(nL,[],5) else((kC (kJ n.toNat) l).1,(kC (kJ n.toNat) l).2,0)
theorem zw:∀ (l m:List Do) (w:iG),kC w (l++m)=((kC (kC w l).1 m).1,(kC w l).2++(kC (kC w l).1 m).2)
 | [],m,w=>rfl
 | d :: l,m,w=>by
  show((kC (gR w d).1 (l++m)).1,(gR w d).2 :: (kC (gR w d).1 (l++m)).2)=_
  rw [zw l m];rfl
theorem uG:∀ (l:List Do) (w:iG),(kC w l).2.length=l.length
 | [],w=>rfl
 | d :: l,w=>by show(kC (gR w d).1 l).2.length+1=l.length+1;rw [uG l]
theorem xi{l:List Do}{w:iG}{k:Nat}{d:Do}(h:l[k]? = some d):kC w (l.take (k+1))=((gR (kC w (l.take k)).1 d).1,(kC w (l.take k)).2++[(gR (kC w (l.take k)).1 d).2]):=by
 rw [jl h,zw];rfl
theorem zo{n:Int}:∀ {l:List fH} {c:List Int} {u v:fH},gb c n=0→jv n c l→u∈l→v∈l→u.author.toNat=v.author.toNat→g6 u.seen u.author.toNat=g6 v.seen v.author.toNat→u=v
 | [],c,u,v,_,_,hu,_,_,_=>by cases hu
 | x :: l,c,u,v,hc,h,hu,hv,ha,hs=>by
  obtain⟨h1,h2⟩:=h
  have hct:=mL hc h1
  have late:∀ w∈l,w.author.toNat=x.author.toNat→g6 x.seen x.author.toNat<g6 w.seen w.author.toNat:=fun w hw e=>by
   have:=(mO hct h2 hw).2
   rw [m0 hc h1,if_pos e,← h1.eq] at this
   omega
  rcases List.mem_cons.1 hu with e1 | hu2
  ·rcases List.mem_cons.1 hv with e2 | hv2
   ·rw [e1,e2]
   ·subst e1;have:=late v hv2 ha.symm;omega
  ·rcases List.mem_cons.1 hv with e2 | hv2
   ·subst e2;have:=late u hu2 ha;omega
   ·exact zo hct h2 hu2 hv2 ha hs
theorem vk{n:Int}:∀ {l:List fH} {c:List Int},gb c n=0→jv n c l→l.Nodup
 | [],c,_,_ => .nil
 | x :: l,c,hc,h=>by
  obtain⟨h1,h2⟩:=h
  have hct:=mL hc h1
  rw [List.nodup_cons]
  refine⟨fun hx => ?_,vk hct h2⟩
  have:=(mO hct h2 hx).2
  rw [m0 hc h1,if_pos rfl,← h1.eq] at this
  omega
def zs(n:Nat):List Int:=List.replicate n 0
def full(n:Nat)(L:List fH):List Int:=kr (zs n) L
theorem l5.full{n:Nat}{L:List fH}{A:List Int}(h:l5 n L A):(iL n (List.replicate n 0) L 0).1=full n L:=by rw [pM h.all h.f];rfl
structure m7 (n:Nat) (L:List fH) (A:List Int):Prop where
 p:l5 n L A
 le:gO (full n L) A=true
theorem m7.clock{n:Nat}{L:List fH}{A:List Int}(h:m7 n L A):(k5 n L A).clock=A:=by
 have b:=i7 h.p.a;have d:=i7 h.p.right.c
 refine ot (by omega) fun j => ?_
 rw [h.p.clock,h.p.full]
 have:=jJ.1 h.le j
 omega
theorem m7.join{n:Nat}{L:List fH}{A B:List Int}(h:m7 n L A)(k:m7 n L B):m7 n L (g8 A B):=⟨h.p.join k.p,by rw [sO,h.le,k.le];rfl⟩
theorem DU{n:Nat}{L:List fH}(h:jv n (zs n) L)(h0:gb (zs n) n=0){u:fH}(hu:u∈L):g6 u.seen u.author.toNat<g6 (full n L) u.author.toNat:=by
 have:=wk h0 h hu
 rwa [pM h0 h] at this
theorem m7.step{n:Nat}{L:List fH}{A:List Int}(h:m7 n L A){u:fH}(hu:u∈L)(hs:kg A u n):iq (k5 n L A) u=k5 n L (gD A u.author)∧m7 n L (gD A u.author):=by
 have q:=mL h.p.a hs
 have l:=h.p.f
 have d:=h.p.all
 have o:∀ v∈L,iJ (gD A u.author) v=true↔iJ A v=true∨v=u:=fun v m=>by
  have s:=(mO d l m).1
  rw [ms q s,ms h.p.a s,m0 h.p.a hs]
  have e:=hs.eq
  split
  ·rename_i ea
   constructor
   ·intro z
    by_cases g:g6 v.seen v.author.toNat<g6 A v.author.toNat
    ·exact .inl g
    ·exact .inr (zo d l m hu ea (by rw [ea] at z g ⊢;omega))
   ·rintro(g | rfl)
    ·rw [ea] at g ⊢;omega
    ·rw [e];omega
  ·rename_i ea
   constructor
   ·exact .inl
   ·rintro(g | rfl)
    ·exact g
    ·exact absurd rfl ea
 have B:rB (gD A u.author) L:=fun v m C=>by
  have t:=q7 h.p.a hs
  rcases(o v m).1 C with k | rfl
  ·exact ma t (h.p.c v m k)
  ·exact ma t hs.sees
 have w:l5 n L (gD A u.author):=⟨h.p.n1,h.p.n6,l,q,B⟩
 refine⟨?_,w,jJ.2 fun j => ?_⟩
 ·have D:jv n (List.replicate n 0) (lJ A L++[u]):=by
   rw [qc]
   refine⟨h.p.fits,?_,trivial⟩
   have:kr (List.replicate n 0) (lJ A L)=A:=by
    have:=h.p.played.2
    rw [pM d h.p.fits,h.clock] at this
    exact this.symm
   rw [this];exact hs
  have E:iq (k5 n L A) u=mZ (o9 n) (lJ A L++[u]):=by rw [EX];rfl
  rw [E]
  refine By (i:=0) (j:=0) (vU h.p.n1 h.p.n6) ((oJ d).2 D) ((oJ d).2 w.fits) ?_
  have x:=vk d l
  have F:u ∉ lJ A L:=fun G=>by
   have:=(List.mem_filter.1 G).2
   have:=(ms h.p.a hs.r).1 this
   have:=hs.eq
   omega
  refine(List.perm_ext_iff_of_nodup ?_ (x.filter _)).2 fun v => ?_
  ·rw [List.nodup_append]
   refine⟨x.filter _,by simp,fun a H b y e => ?_⟩
   simp at y;subst y;subst e;exact F H
  ·unfold lJ
   simp only [List.mem_append,List.mem_filter,List.mem_singleton]
   constructor
   ·rintro(⟨a,b⟩ | rfl)
    ·exact⟨a,(o v a).2 (.inl b)⟩
    ·exact⟨hu,(o v hu).2 (.inr rfl)⟩
   ·rintro⟨a,b⟩
    rcases(o v a).1 b with k | k
    ·exact .inl ⟨a,k⟩
    ·exact .inr k
 ·rw [m0 h.p.a hs]
  have:=jJ.1 h.le j
  split
  ·rename_i ej;subst ej
   have:=DU l d hu
   have:=hs.eq
   omega
  ·exact this
theorem CN{A:List Int}{L:List fH}{u:fH}(h:iJ A u=false):lJ A (L++[u])=lJ A L:=by unfold lJ;rw [List.filter_append];simp [h]
theorem m7.more{n:Nat}{L:List fH}{A:List Int}(h:m7 n L A){u:fH}(hf:jv n (zs n) (L++[u]))(hle:g6 A u.author.toNat≤g6 u.seen u.author.toNat):m7 n (L++[u]) A∧k5 n (L++[u]) A=k5 n L A:=by
 have f:=(mO h.p.all hf (u:=u) (by simp)).1
 have e:iJ A u=false:=by rw [Bool.eq_false_iff];intro k;have:=(ms h.p.a f).1 k;omega
 obtain⟨g,i⟩:=qc.1 hf
 have j:=(qA h.p.all g).1
 refine⟨⟨⟨h.p.n1,h.p.n6,hf,h.p.a,fun v b d => ?_⟩,?_⟩,by unfold k5;rw [CN e]⟩
 ·rcases List.mem_append.1 b with b | b
  ·exact h.p.c v b d
  ·simp at b;subst b;rw [e] at d;cases d
 ·show gO (kr (zs n) (L++[u])) A=true
  rw [u3]
  exact ma (q7 j i.1) h.le
structure nx (n:Nat) (L:List fH) (i:Nat) (d:gh):Prop where
 r:l6 d n
 self:d.self=i
 st:d.state=k5 n L d.state.clock
 sub:m7 n L d.state.clock
 own:g6 d.state.clock i=g6 (full n L) i
 logs:∀ u∈d.log,u∈L
inductive sI (n:Nat) (L:List fH) (e:gh) (p:i2):Prop
 | whole (h:p=⟨true,k5 n L p.clock,[],p.clock⟩) (s:m7 n L p.clock)
 | part (K:List Int) (h:p=⟨false,mN,p.updates,p.clock⟩) (k:gb K n=0) (f:jv n K p.updates) (c:kr K p.updates=p.clock) (s:gO e.state.clock K=true) (l:∀ u∈p.updates,u∈L)
structure oT (n:Nat) (L:List fH) (d e:gh) (p:i2):Prop where
 b:sI n L e p
 w:gb p.clock n=0
 s:gO d.state.clock p.clock=true
structure lc (n:Nat) (L:List fH) (w:iG):Prop where
 n1:1≤n
 n6:n≤6
 len:w.nodes.length=n
 wl:w.way.length=n
 ww:∀ r∈w.way,r.length=n
 fit:jv n (zs n) L
 node:∀ i,i<n→nx n L i (ic w i)
 known:∀ i,i<n → ∀ j,j<n→gO (ic w j).state.clock (l4 (ic w i).known j)=true
 way:∀ a,a<n → ∀ b,b<n → ∀ p∈iU w.way a b,oT n L (ic w a) (ic w b) p
theorem rc{α:Type}{l:List α}{i j:Nat}{x z:α}(h:i<l.length):(l.set i x).getD j z=if j=i then x else l.getD j z:=by
 simp only [List.getD_eq_getElem?_getD]
 split
 ·rename_i e;subst e;simp [h]
 ·rename_i e;rw [List.getElem?_set_ne (fun k=>e k.symm)]
theorem oR{w:iG}{k j:Nat}{d:gh}{y:List (List (List i2))}(h:k<w.nodes.length):ic ⟨w.nodes.set k d,y⟩ j=if j=k then d else ic w j:=rc h
theorem qY{l:List (List (List i2))}{a b x y n:Nat}{q:List i2}(h1:l.length=n)(h2:∀ r∈l,r.length=n)(ha:a<n)(hb:b<n):iU (kT l a b q) x y=if x=a∧y=b then q else iU l x y:=by
 have e:(l.getD a []).length=n:=h2 _ (by rw [List.getD_eq_getElem?_getD,List.getElem?_eq_getElem (by omega)];exact List.getElem_mem _)
 unfold iU kT
 rw [rc (by omega)]
 by_cases c:x=a
 ·subst c
  rw [if_pos rfl,rc (by omega)]
  by_cases d:y=b
  ·subst d;rw [if_pos rfl,if_pos ⟨rfl,rfl⟩]
  ·rw [if_neg d,if_neg (fun k=>d k.2)]
 ·rw [if_neg c,if_neg (fun k=>c k.1)]
theorem vj{l:List (List (List i2))}{a b n:Nat}{q:List i2}(h1:l.length=n)(h2:∀ r∈l,r.length=n)(ha:a<n):(kT l a b q).length=n ∧ ∀ r∈kT l a b q,r.length=n:=by
 have c:(l.getD a []).length=n:=h2 _ (by rw [List.getD_eq_getElem?_getD,List.getElem?_eq_getElem (by omega)];exact List.getElem_mem _)
 unfold kT
 refine⟨by rw [List.length_set];exact h1,fun r d => ?_⟩
 rcases List.mem_or_eq_of_mem_set d with k | rfl
 ·exact h2 r k
 ·rw [List.length_set];exact c
theorem sI.mono{n:Nat}{L:List fH}{e e':gh}{p:i2}(h:sI n L e p)(hs:gO e'.state.clock e.state.clock=true):sI n L e' p:=by
 cases h with
 | whole h s=>exact .whole h s
 | part K h k f c s l=>exact .part K h k f c (ma hs s) l
theorem oT.mono{n:Nat}{L:List fH}{d d' e e':gh}{p:i2}(h:oT n L d e p)(h1:gO d'.state.clock d.state.clock=true)(h2:gO e'.state.clock e.state.clock=true):oT n L d' e' p:=⟨h.b.mono h2,h.w,ma h1 h.s⟩
theorem lc.put{n:Nat}{L:List fH}{w:iG}(I:lc n L w){k:Nat}(hk:k<n){d:gh}(hd:nx n L k d)(hs:gO d.state.clock (ic w k).state.clock=true)(hkn:∀ j,j<n→j ≠ k→gO (ic w j).state.clock (l4 d.known j)=true):lc n L ⟨w.nodes.set k d,w.way⟩:=by
 have m:=I.len
 have o:l4 d.known k=d.state.clock:=by have:=hd.r.own;rw [hd.self] at this;exact qz (by simpa using this)
 have mono:∀ j,j<n→gO (ic ⟨w.nodes.set k d,w.way⟩ j).state.clock (ic w j).state.clock=true:=fun j c=>by
  rw [oR (by omega)];split
  ·rename_i e;subst e;exact hs
  ·exact my _
 refine⟨I.n1,I.n6,by rw [List.length_set];exact m,I.wl,I.ww,I.fit,fun i f => ?_,fun i f j c => ?_,fun a g b h p q=>(I.way a g b h p q).mono (mono a g) (mono b h)⟩
 ·rw [oR (by omega)];split
  ·rename_i e;subst e;exact hd
  ·exact I.node i f
 ·by_cases l:i=k
  ·subst l
   rw [oR (k:=i) (j:=i) (by omega),if_pos rfl,oR (by omega)]
   split
   ·rename_i e;subst e;rw [o];exact my _
   ·rename_i e;exact hkn j c e
  ·rw [oR (k:=k) (j:=i) (by omega),if_neg l]
   exact ma (mono j c) (I.known i f j c)
theorem lc.drop{n:Nat}{L:List fH}{w:iG}(I:lc n L w){a b:Nat}(ha:a<n)(hb:b<n){q:List i2}(hq:∀ p∈q,oT n L (ic w a) (ic w b) p):lc n L ⟨w.nodes,kT w.way a b q⟩:=by
 obtain⟨d,f⟩:=vj (b:=b) (q:=q) I.wl I.ww ha
 refine⟨I.n1,I.n6,I.len,d,f,I.fit,I.node,I.known,fun x g y h p c => ?_⟩
 rw [qY I.wl I.ww ha hb] at c
 split at c
 ·rename_i e;obtain⟨rfl,rfl⟩:=e;exact hq p c
 ·exact I.way x g y h p c
theorem nx.prune{n:Nat}{L:List fH}{i:Nat}{d:gh}(h:nx n L i d):nx n L i (sR d) :=
 ⟨(BS h.r).1,h.self,h.st,h.sub,h.own,fun u hu=>h.logs u ((List.mem_filter.1 hu).1)⟩
theorem nx.take{n:Nat}{L:List fH}{a b:Nat}{d e:gh}{p:i2}(hd:nx n L a d)(he:nx n L b e)(ne:a ≠ b)(han:a<n)(hp:oT n L d e p) :
  ((gi e a p).2=0∨(gi e a p).2=5)∧(e.log.length+p.updates.length≤300→(gi e a p).2=0) ∧
  ((gi e a p).2=0→nx n L b (gi e a p).1∧(gi e a p).1.state.clock=g8 e.state.clock p.clock∧(gi e a p).1.known=(e.known.set a (g8 (l4 e.known a) p.clock)).set b (g8 e.state.clock p.clock)):=by
 have A:=he.self
 have ja:((a:Int)).toNat=a:=Int.toNat_natCast a
 have a6:=i7 hp.w;have a7:=i7 he.r.s.c
 have S:∀ {x:gh},m3 x n→x.state=k5 n L x.state.clock→m7 n L x.state.clock→(∀ u∈x.log,u∈L)→x.self=e.self→x.known=e.known → ∀ {l:List fH},(∀ u∈l,u∈L)→(j8 x l).2=0 →
   m3 (j8 x l).1 n∧(j8 x l).1.state=k5 n L (j8 x l).1.state.clock∧m7 n L (j8 x l).1.state.clock∧(∀ u∈(j8 x l).1.log,u∈L)∧(j8 x l).1.self=e.self∧(j8 x l).1.known=e.known:=fun {x} mx sx bx lx T U {l} g V=>by
  obtain⟨m,⟨F,G,H⟩,_,y,W,I⟩:=ui (n:=n) (fun x=>x.state=k5 n L x.state.clock∧m7 n L x.state.clock ∧ ∀ u∈x.log,u∈L) (fun x u i mx J q _=>by
   obtain⟨O,X⟩:=J.2.1.step (g u i) q
   rw [← J.1] at O
   refine⟨?_,X,fun v z => ?_⟩
   ·show iq x.state u=k5 n L (iq x.state u).clock
    rw [sr];exact O
   ·rcases List.mem_append.1 z with z | z
    ·exact J.2.2 v z
    ·simp at z;subst z;exact g v i) mx ⟨sx,bx,lx⟩ V
  exact⟨m,F,G,H,y.trans T,I.trans U⟩
 have key:(p.whole=true→(ip e.state p.state).2=0)∧m3 (gz e p) n∧(gz e p).state=k5 n L (gz e p).state.clock∧m7 n L (gz e p).state.clock∧(∀ u∈(gz e p).log,u∈L)∧(gz e p).self=e.self∧(gz e p).known=e.known∧(∀ u∈p.updates,u∈L)∧(gz e p).log.length≤e.log.length ∧
   ∃ K,gb K n=0∧jv n K p.updates∧gO (gz e p).state.clock K=true∧g8 (gz e p).state.clock (kr K p.updates)=g8 e.state.clock p.clock:=by
  cases hp.b with
  | whole h s =>
   have B:p.whole=true:=by rw [h]
   have Y:p.state=k5 n L p.clock:=by rw [h]
   have i:p.updates=[]:=by rw [h]
   have M:ip e.state p.state=(k5 n L (g8 e.state.clock p.clock),0):=by
    rw [Y];conv=>lhs;rw [he.st]
    rw [sY he.sub.p.right s.p.right,DW he.sub.p s.p]
   have P:=he.sub.join s
   have ew:gz e p=⟨e.self,k5 n L (g8 e.state.clock p.clock),g8 e.base p.state.clock,i4 e.log (g8 e.base p.state.clock),e.known⟩:=by
    unfold gz;rw [if_pos B,M]
   obtain⟨Z,_⟩:=he.r.mid.whole (p:=p) (fun _=>by rw [M])
   have ec:(gz e p).state.clock=g8 e.state.clock p.clock:=by rw [ew];exact P.clock
   refine⟨fun _=>by rw [M],Z,by rw [ec];rw [ew],by rw [ec];exact P,fun u i => ?_,by rw [ew],by rw [ew],by rw [i];simp,by rw [ew];exact tw _ _,p.clock,hp.w,by rw [i];trivial,by rw [ec];exact tA _ _,?_⟩
   ·rw [ew] at i;exact he.logs u ((List.mem_filter.1 i).1)
   ·rw [ec,i]
    exact tl (by rw [ph];show p.clock.length≤_;omega) (tA _ _)
  | part K h k f c s l =>
   have B:p.whole=false:=by rw [h]
   have ew:gz e p=e:=by unfold gz;rw [if_neg (by rw [B];simp)]
   rw [ew]
   exact⟨fun h=>(by rw [B] at h;cases h),he.r.mid,he.st,he.sub,he.logs,rfl,rfl,l,Nat.le_refl _,K,k,f,s,by rw [c]⟩
 obtain⟨kj,km,ks,kb,klog,kself,kkn,kup,_,K,kw,kf,kse,kc⟩:=key
 have a0:gO (full n L) p.clock=true:=ma hd.sub.le hp.s
 have fin:(j8 (gz e p) p.updates).2=0→(j8 (gz e p) p.updates).1.state.clock=g8 e.state.clock p.clock→(gi e a p).2=0∧nx n L b (gi e a p).1∧(gi e a p).1.state.clock=g8 e.state.clock p.clock∧(gi e a p).1.known=(e.known.set a (g8 (l4 e.known a) p.clock)).set b (g8 e.state.clock p.clock):=fun t tc=>by
  obtain⟨m,F,G,H,y,I⟩:=S km ks kb klog kself kkn kup t
  have Q:gO (j8 (gz e p) p.updates).1.state.clock p.clock=true:=by rw [tc];exact tA _ _
  have a1:=Cx (p:=p) he.r (from_:=a) (by omega) (by omega) (by rw [A];omega) hp.w kj t Q
  rw [a1]
  refine⟨rfl,⟨m.done (by omega) (by omega) hp.w Q,y.trans A,F,G,?_,H⟩,tc,?_⟩
  ·show g6 (j8 (gz e p) p.updates).1.state.clock b=_
   rw [tc,lL,he.own]
   have:=jJ.1 a0 b
   omega
  ·show((j8 (gz e p) p.updates).1.known.set _ _).set _ _=_
   rw [I,y,A,tc,ja,Int.toNat_natCast]
 have err:∀ {l:List fH} {x:gh} {K:List Int},m3 x n→gb K n=0→jv n K l→gO x.state.clock K=true→((j8 x l).2=0∧(j8 x l).1.state.clock=g8 x.state.clock (kr K l))∨(j8 x l).2=5:=by
  intro l
  induction l with
  | nil =>
   intro x K mx j _ q
   have o:=i7 mx.s.c;have C:=i7 j
   exact .inl ⟨rfl,(tl (by omega) q).symm⟩
  | cons u l ih =>
   intro x K mx j a2 q
   obtain⟨o,C⟩:=a2
   have N:=mL j o
   unfold j8
   cases D:iJ x.state.clock u
   ·have E:=vA j o mx.s.c q D
    by_cases g:x.log.length=300
    ·right
     have a3:¬ (j7 u (jp x)=0∧kK x.state.clock u.author (hG u)=true):=fun k=>by
      rw [sU mx.s.c o.r,D] at k;cases k.2
     have:iB x u=(x,5):=by unfold iB;rw [if_neg a3,if_pos g]
     rw [this,if_pos (by simp)]
    ·rw [yU mx.s E g,if_neg (by simp)]
     obtain⟨y,W⟩:=mx.took E g
     rcases ih y N C (vS j o mx.s.c E q) with⟨a,e⟩ | a
     ·left
      refine⟨a,?_⟩
      rw [e]
      obtain⟨a4,a5⟩:=qA N C
      have a8:=i7 a4;have a9:=i7 j
      exact uj j o mx.s.c E a5 (by omega)
     ·exact .inr a
   ·rw [wq mx.s o.r D,if_neg (by simp)]
    exact ih mx N C (vO j o mx.s.c q D)
 have good:=fun(g:e.log.length+p.updates.length≤300)=>vc km kw kf kse (by omega)
 refine⟨?_,fun g=>(fin (good g).1 ((good g).2.trans kc)).1,fun h => ?_⟩
 ·rcases err km kw kf kse with⟨t,tc⟩ | t
  ·exact .inl (fin t (tc.trans kc)).1
  ·right
   have g:gn e.known=n:=he.r.k
   unfold gi
   rw [if_neg (fun k=>k he.r.ok),if_neg (by rw [g];omega),if_neg (by rw [A];omega),if_neg (by rw [g];exact fun k=>k hp.w),if_neg (fun k=>k.2 (kj k.1)),if_pos (by rw [t];simp),t]
 ·have t:=(Cq h).t
  rcases err km kw kf kse with⟨_,tc⟩ | R
  ·exact(fin t (tc.trans kc)).2
  ·rw [t] at R;cases R
theorem nx.send{n:Nat}{L:List fH}{a b:Nat}{d e:gh}(hd:nx n L a d)(he:nx n L b e)(ne:a ≠ b)(hb:b<n)(hk:gO e.state.clock (l4 d.known b)=true):(gg d b).2=0∧oT n L d e (gg d b).1∧(gg d b).1.clock=d.state.clock:=by
 have i:=hd.self
 rw [Bz hd.r (to:=b) (by omega) (by omega) (by rw [i];omega),Int.toNat_natCast]
 have t:=hd.r.k
 have j:l4 d.known b∈d.known:=by rw [vC (by omega)];exact List.getElem_mem _
 obtain⟨g,l⟩:=hd.r.ks _ j
 refine⟨rfl,?_,?_⟩
 ·dsimp only
  split
  ·exact⟨.whole (by rw [← hd.st]) hd.sub,hd.r.s.c,my _⟩
  ·rename_i h
   have m:gO (l4 d.known b) d.base=true:=by cases h':gO (l4 d.known b) d.base with
    | false=>exact absurd h' h
    | true=>rfl
   obtain⟨o,p,_⟩:=vB hd.r.s hd.r.b hd.r.f hd.r.c g m
   have v:=i7 g;have w:=i7 hd.r.s.c
   refine⟨.part (l4 d.known b) rfl g o ?_ hk fun u q=>hd.logs u ((List.mem_filter.1 q).1),hd.r.s.c,my _⟩
   show kr _ _=d.state.clock
   rw [p];exact xp (by omega) l
 ·dsimp only;split <;> rfl
section
variable {ds:List Deferred}
theorem tS{v:Value}{b c:Bool}(h:v = .bool b)(k:b=c):v = .bool c:=k ▸ h
abbrev kS(z:gt)(A:Option Addr)(a:Nat)(B:Option Addr)(b:Nat)(C:Option Addr)(c:Nat):Array Value:=#[.slice A z.clock.length a,.slice B z.lives.length b,.slice C z.tallies.length c]
abbrev kU(z:fH)(A:Option Addr)(a:Nat):Array Value:=#[ni z.author,.slice A z.seen.length a,ni z.kind,ni z.key,ni z.item]
abbrev kL(z:ga):Array Value:=#[.bool z.set,ni z.key,ni z.item,ni z.author,ni z.seq]
abbrev kN(z:gh)(A:Option Addr)(a:Nat)(B:Option Addr)(b:Nat)(C:Option Addr)(c:Nat)(D:Option Addr)(d:Nat)(E:Option Addr)(e:Nat)(F:Option Addr)(f:Nat):Array Value:=#[ni z.self,.slice A z.state.clock.length a,.slice B z.state.lives.length b,.slice C z.state.tallies.length c,.slice D z.base.length d,.slice E z.log.length e,.slice F z.known.length f]
abbrev kP(z:i2)(A:Option Addr)(a:Nat)(B:Option Addr)(b:Nat)(C:Option Addr)(c:Nat)(D:Option Addr)(d:Nat)(E:Option Addr)(e:Nat):Array Value:=#[.bool z.whole,.slice A z.state.clock.length a,.slice B z.state.lives.length b,.slice C z.state.tallies.length c,.slice D z.updates.length d,.slice E z.clock.length e]
abbrev kD(z:Do)(A:Option Addr)(a:Nat):Array Value:=#[ni z.kind,ni z.n,ni z.to,ni z.update.author,.slice A z.update.seen.length a,ni z.update.kind,ni z.update.key,ni z.update.item]
section
variable {X:List Nat} {W w w':World} {r0 rd rd':Rd} {bx bx2:List je} {ow ow2:List h7}
theorem St.giveN(S:St X W r0 rd bx ow w)(i j:Nat):St (nf (bx.drop i) (ow.drop j)) w rd rd (bx.drop i) (ow.drop j) w:=S.give (List.take_append_drop i bx).symm (List.take_append_drop j ow).symm
theorem St.compN(S:St X W r0 rd bx ow w)(i j:Nat)(k:St (nf (bx.drop i) (ow.drop j)) w rd rd' bx2 ow2 w'):St X W r0 rd' (bx.take i++bx2) (ow.take j++ow2) w':=S.comp (List.take_append_drop i bx).symm (List.take_append_drop j ow).symm k
end
section
variable {P:Program} {Q:Exit→Act→World→Prop} {w:World} {n d j:Nat} {l:Ov} {b:Bool} {op:Op} {ty:TypeId} {pos:String} {af:Array Edge} {rest:List Oper} {ops:Array Oper} {C:World→Prop} {Qa:Act→Prop} {s:List Kf}
theorem fk{m:Ov}(h:rv n l m:=by and_intros <;> first | rfl | trivial | exact yT (by omega)):fd ds n l=fd ds n (m++l):=zx h
theorem et{c:Code}{Q:Exit→Act→World→Prop}(m:Ov)(k:∀ j,c.wp P (gZ P Q s) (fd ds n (m++j)) w)(h:rv n l m:=by and_intros <;> first | rfl | trivial | exact yT (by omega)):c.wp P (gZ P Q s) (fd ds n l) w:=DS m h k
theorem ly(v:Value)(S:C w)(Y:Yv P C (ev n l) ⟨some d,op,ty,pos,af,none⟩ v)(h:WL P ops Q rest (fd ds n ((d,v) :: l)) w):WL P ops Q (⟨some d,op,ty,pos,af,none⟩ :: rest) (fd ds n l) w:=CX S Y h
theorem lg(d':Nat)(v:Value)(S:C w)(Y:Yv P C (ev n l) ⟨some d,op,ty,pos,af,some (j,b)⟩ v)(h:WL P ops Q rest (fd ds n ((d,v) :: l)) w)(hd:(ops.toList[j]?).bind (·.dst)=some d':=by rfl)(hb:lk n l d' = .bool b:=by rfl):WL P ops Q (⟨some d,op,ty,pos,af,some (j,b)⟩ :: rest) (fd ds n l) w:=Cj S Y hd hb h
theorem ls(d':Nat)(h:WL P ops Q rest (fd ds n ((d,undef) :: l)) w)(hd:(ops.toList[j]?).bind (·.dst)=some d':=by rfl)(hb:lk n l d' = .bool (!b):=by rfl):WL P ops Q (⟨some d,op,ty,pos,af,some (j,b)⟩ :: rest) (fd ds n l) w:=DC hd hb h
theorem qy(v:Value)(Y:Yv P C (ev n l) ⟨some d,op,ty,pos,af,none⟩ v)(h:WQ P ops C Qa rest (fd ds n ((d,v) :: l))):WQ P ops C Qa (⟨some d,op,ty,pos,af,none⟩ :: rest) (fd ds n l):=Bg Y h
theorem qg(d':Nat)(v:Value)(Y:Yv P C (ev n l) ⟨some d,op,ty,pos,af,some (j,b)⟩ v)(h:WQ P ops C Qa rest (fd ds n ((d,v) :: l)))(hd:(ops.toList[j]?).bind (·.dst)=some d':=by rfl)(hb:lk n l d' = .bool b:=by rfl):WQ P ops C Qa (⟨some d,op,ty,pos,af,some (j,b)⟩ :: rest) (fd ds n l):=Ao Y hd hb h
theorem qs(d':Nat)(h:WQ P ops C Qa rest (fd ds n ((d,undef) :: l)))(hd:(ops.toList[j]?).bind (·.dst)=some d':=by rfl)(hb:lk n l d' = .bool (!b):=by rfl):WQ P ops C Qa (⟨some d,op,ty,pos,af,some (j,b)⟩ :: rest) (fd ds n l):=Au hd hb h
theorem tk[NP Q]{fuel:Nat}{listed:Array Bool}{o:Oper}{d:Nat}(v:Value)(i:Nat)(hi:ops.toList[i]? = some o)(hd:o.dst=some d)
  (S:C w) (Y:Yv P C (ev n l) o v) (h:AL P ops (gZ P Q s) C fuel (listed.setIfInBounds i true) (fd ds n ((d,v) :: l)) w) (hg:o.guard=none:=by rfl) (hs:Region.noSelect ops=true:=by kernel_rfl) (hf:Region.free .any ops listed i=true:=by kernel_rfl) (hr:(Region.ready .any ops listed).contains i=true:=by kernel_rfl):AL P ops (gZ P Q s) C (fuel+1) listed (fd ds n l) w:=Bx i hi hd hs hf hr S hg Y h
end
section
variable {P:Program} {C:World→Prop} {e:Operand→Value} {d:Option Tmp} {ty:TypeId} {pos:String} {af:Array Edge} {gd:Option (Nat × Bool)} {x y c:Operand} {v:Value}
theorem Ym:Yv P C e ⟨d,.move x,ty,pos,af,gd⟩ (e x):=l7 rfl
theorem Ya:Yv P C e ⟨d,.assign x,ty,pos,af,gd⟩ (e x):=kI rfl
theorem Yn{b:Addr}(h:e x = .pointer (some b):=by rfl):Yv P C e ⟨d,.nilCheck x,ty,pos,af,gd⟩ (.pointer (some b)):=wV h
theorem Yt(hc:e c = .bool true:=by rfl):Yv P C e ⟨d,.pick c x y,ty,pos,af,gd⟩ (e x):=rK hc rfl
theorem Yf(hc:e c = .bool false:=by rfl):Yv P C e ⟨d,.pick c x y,ty,pos,af,gd⟩ (e y):=uh hc rfl
theorem Ye{i:Nat}{vs:Array Value}(h:e x = .tuple vs:=by rfl)(hi:vs[i]? = some v:=by rfl):Yv P C e ⟨d,.extract x i,ty,pos,af,gd⟩ v:=B5 h hi
theorem Yb{s:TypeId}{f off g o o':Nat}(F:jO P s f off)(hx:e x = .pointer (some ⟨g,o,none⟩):=by rfl)(ho:o+off=o':=by rfl):Yv P C e ⟨d,.fieldAddr s x f,ty,pos,af,gd⟩ (.pointer (some ⟨g,o',none⟩)):=jr F hx ho
theorem Yl{t:TypeId}{A:Option Addr}{m cp:Nat}{ts:Array TypeId}{el:TypeId}(ht:P.underlying t=some (.slice el))(hts:ts[0]? = some t:=by rfl)(h:e x = .slice A m cp:=by rfl):Yv P C e ⟨d,.call ⟨.builtin .len,#[x],ts⟩,ty,pos,af,gd⟩ (.int .i64 m):=xI ht hts h
end
section
variable {P:Program} {Q:Exit→Act→World→Prop} {R:Ending→World→Prop} {C:World→Prop} {s:List Kf} {w:World} {n:Nat} {l:Ov} {v:Value} {a:Act} {ops:Array Oper} {rest:List Oper} {y:Code}
theorem ln(h:y.wp P (gZ P Q s) a w):WL P ops (gZ P Q (.seq y :: s)) [] a w:=fL (fM h)
theorem er{o:List Oper}{i:Nat}(h:WL P o.toArray (gZ P Q (.seq y :: s)) o a w):(Code.seq (Code.region i o.toArray false) y).wp P (gZ P Q s) a w:=fJ (gU h)
theorem nr{o:List Oper}{i:Nat}(h:WL P o.toArray (gZ P Q s) o a w):gZ P Q (.seq (Code.region i o.toArray false) :: s) .normal a w:=fM (gU h)
theorem kn{d:Tmp}(h:gZ P Q s .normal (fd ds n ((d,v) :: l)) w):CK ds P ops (gZ P Q s) [] n l (some d) (.returned v) w:=g9 (fL h)
theorem kq{d:Tmp}(h:y.wp P (gZ P Q s) (fd ds n ((d,v) :: l)) w):CK ds P ops (gZ P Q (.seq y :: s)) [] n l (some d) (.returned v) w:=g9 (ln h)
theorem aO{fuel:Nat}{listed:Array Bool}{o:Oper}(i:Nat)(hi:ops.toList[i]? = some o)(hr:Region.ready .any ops listed=[i])(h:WL P ops (gZ P Q (.lp (Ak P ops (gZ P Q s) C fuel (listed.setIfInBounds i true)) :: s)) [o] a w):AL P ops (gZ P Q s) C (fuel+1) listed a w:=ji hr rfl (iA hi h jk)
end
section
variable {P:Program} {X:List Nat} {W:World} {r0 rd:Rd} {bx:List je} {ow:List h7} {C:World→Prop} {e:Operand→Value} {d:Option Tmp} {t ty:TypeId} {pos:String} {af:Array Edge} {gd:Option (Nat × Bool)} {v p:Value} {x:Operand} {g j k:Nat} {T:TypeId} {cs:Array Value} {vs us:List Value}
theorem fI(i:Nat)(ht:lM P t)(hx:e x = .pointer (some ⟨g,j,none⟩):=by rfl)(hi:bx[i]? = some (g,T,cs):=by rfl)(hj:cs[j]? = some v:=by rfl):Yv P (fun w=>St X W r0 rd bx ow w) e ⟨d,.load t x,ty,pos,af,gd⟩ v:=gG hx fun _ S=>jm S hi hj ht
theorem gf(i:Nat)(ht:mE P t k)(hx:e x = .pointer (some ⟨g,j,none⟩):=by rfl)(hi:bx[i]? = some (g,T,cs):=by rfl)(hk:vs.length=k:=by rfl)(hv:(cs.toList.drop j).take k=vs:=by rfl):Yv P (fun w=>St X W r0 rd bx ow w) e ⟨d,.load t x,ty,pos,af,gd⟩ (.agg vs.toArray):=gG hx fun _ S=>gu S hi ht hk hv
theorem iE(h:j2 rd p vs)(ht:lM P t)(hx:e x=p:=by rfl)(hj:vs[0]? = some v:=by rfl):Yv P (fun w=>St X W r0 rd bx ow w) e ⟨d,.load t x,ty,pos,af,gd⟩ v:=gG hx fun _ S=>m4 S.le h hj ht
theorem jd(h:j2 rd p vs)(ht:mE P t k)(hx:e x=p:=by rfl)(hk:us.length=k:=by rfl)(hv:vs.take k=us:=by rfl):Yv P (fun w=>St X W r0 rd bx ow w) e ⟨d,.load t x,ty,pos,af,gd⟩ (.agg us.toArray):=gG hx fun _ S=>vx S.le h ht hk hv
end
end
theorem MX:Tryz.prog.follows .mixedOrders=true:=by kernel_rfl
theorem DT:∀ w,(sizeOf 1).run Tryz.prog w = .ok 1 w:=fun _=>by kernel_rfl
theorem T1:lM Tryz.prog 1:=⟨fun _=>by kernel_rfl,DT⟩
theorem AJ:∀ w,(sizeOf 2).run Tryz.prog w = .ok 1 w:=fun _=>by kernel_rfl
theorem T2:lM Tryz.prog 2:=⟨fun _=>by kernel_rfl,AJ⟩
abbrev U3:=Tryz.underlying3
theorem iX:∀ w,(sizeOf 3).run Tryz.prog w = .ok 1 w:=fun _=>by kernel_rfl
theorem T3:lM Tryz.prog 3:=⟨fun _=>by kernel_rfl,iX⟩
theorem Z3:∀ w,(zeroValue 3).run Tryz.prog w = .ok (.int .i64 0) w:=fun _=>by kernel_rfl
abbrev U4:=Tryz.underlying4
theorem pi:∀ w,(sizeOf 4).run Tryz.prog w = .ok 1 w:=fun _=>by kernel_rfl
theorem T4:lM Tryz.prog 4:=⟨fun _=>by kernel_rfl,pi⟩
theorem Z4:∀ w,(zeroValue 4).run Tryz.prog w = .ok (.bool false) w:=fun _=>by kernel_rfl
abbrev nD:=Tryz.underlying22
abbrev jH:=Tryz.underlying23
theorem jz:∀ w,(sizeOf 23).run Tryz.prog w = .ok 1 w:=fun _=>by kernel_rfl
theorem gL:lM Tryz.prog 23:=⟨fun _=>by kernel_rfl,jz⟩
theorem vv:∀ w,(zeroValue 23).run Tryz.prog w = .ok (.slice none 0 0) w:=fun _=>by kernel_rfl
abbrev iD:=Tryz.underlying24
theorem nm:∀ w,(sizeOf 24).run Tryz.prog w = .ok 1 w:=fun _=>by kernel_rfl
theorem k7:lM Tryz.prog 24:=⟨fun _=>by kernel_rfl,nm⟩
abbrev iK:=Tryz.underlying25
theorem pT:∀ w,(sizeOf 25).run Tryz.prog w = .ok 1 w:=fun _=>by kernel_rfl
theorem lP:lM Tryz.prog 25:=⟨fun _=>by kernel_rfl,pT⟩
abbrev uH:=Tryz.underlying27
theorem iM:∀ w,(sizeOf 27).run Tryz.prog w = .ok 3 w:=fun _=>by kernel_rfl
abbrev jX:Array Value:=#[.slice none 0 0,.slice none 0 0,.slice none 0 0]
theorem ir:mE Tryz.prog 27 3:=⟨fun _=>by kernel_rfl,iM⟩
theorem jP:∀ w,(zeroValue 27).run Tryz.prog w = .ok (.agg #[.slice none 0 0,.slice none 0 0,.slice none 0 0]) w:=fun _=>by kernel_rfl
abbrev iF:=Tryz.underlying28
theorem m2:∀ w,(sizeOf 28).run Tryz.prog w = .ok 1 w:=fun _=>by kernel_rfl
theorem kM:lM Tryz.prog 28:=⟨fun _=>by kernel_rfl,m2⟩
abbrev jN:=Tryz.underlying29
theorem p8:∀ w,(sizeOf 29).run Tryz.prog w = .ok 1 w:=fun _=>by kernel_rfl
theorem kG:lM Tryz.prog 29:=⟨fun _=>by kernel_rfl,p8⟩
abbrev rW:=Tryz.underlying31
theorem hY:∀ w,(sizeOf 31).run Tryz.prog w = .ok 7 w:=fun _=>by kernel_rfl
abbrev jR:Array Value:=#[.int .i64 0,.slice none 0 0,.slice none 0 0,.slice none 0 0,.slice none 0 0,.slice none 0 0,.slice none 0 0]
theorem ij:mE Tryz.prog 31 7:=⟨fun _=>by kernel_rfl,hY⟩
theorem jE:∀ w,(zeroValue 31).run Tryz.prog w = .ok (.agg #[.int .i64 0,.slice none 0 0,.slice none 0 0,.slice none 0 0,.slice none 0 0,.slice none 0 0,.slice none 0 0]) w:=fun _=>by kernel_rfl
abbrev tC:=Tryz.underlying33
theorem jF:∀ w,(sizeOf 33).run Tryz.prog w = .ok 6 w:=fun _=>by kernel_rfl
abbrev pG:Array Value:=#[.bool false,.slice none 0 0,.slice none 0 0,.slice none 0 0,.slice none 0 0,.slice none 0 0]
theorem lS:mE Tryz.prog 33 6:=⟨fun _=>by kernel_rfl,jF⟩
theorem nS:∀ w,(zeroValue 33).run Tryz.prog w = .ok (.agg #[.bool false,.slice none 0 0,.slice none 0 0,.slice none 0 0,.slice none 0 0,.slice none 0 0]) w:=fun _=>by kernel_rfl
theorem qS:∀ w,(sizeOf 35).run Tryz.prog w = .ok 1 w:=fun _=>by kernel_rfl
theorem l8:lM Tryz.prog 35:=⟨fun _=>by kernel_rfl,qS⟩
theorem yi:∀ w,(zeroValue 35).run Tryz.prog w = .ok (.int .i64 0) w:=fun _=>by kernel_rfl
abbrev rP:=Tryz.underlying42
theorem jg:∀ w,(sizeOf 42).run Tryz.prog w = .ok 5 w:=fun _=>by kernel_rfl
abbrev p9:Array Value:=#[.int .i64 0,.slice none 0 0,.int .i64 0,.int .i64 0,.int .i64 0]
theorem jx:mE Tryz.prog 42 5:=⟨fun _=>by kernel_rfl,jg⟩
theorem kH:∀ w,(zeroValue 42).run Tryz.prog w = .ok (.agg #[.int .i64 0,.slice none 0 0,.int .i64 0,.int .i64 0,.int .i64 0]) w:=fun _=>by kernel_rfl
abbrev qP:=Tryz.underlying54
abbrev lU:=Tryz.underlying55
theorem tI:∀ w,(sizeOf 55).run Tryz.prog w = .ok 1 w:=fun _=>by kernel_rfl
theorem m9:lM Tryz.prog 55:=⟨fun _=>by kernel_rfl,tI⟩
abbrev lw:=Tryz.underlying56
theorem u1:∀ w,(sizeOf 56).run Tryz.prog w = .ok 1 w:=fun _=>by kernel_rfl
theorem lA:lM Tryz.prog 56:=⟨fun _=>by kernel_rfl,u1⟩
abbrev xn:=Tryz.underlying58
theorem np:∀ w,(sizeOf 58).run Tryz.prog w = .ok 2 w:=fun _=>by kernel_rfl
abbrev rk:Array Value:=#[.slice none 0 0,.slice none 0 0]
theorem nq:mE Tryz.prog 58 2:=⟨fun _=>by kernel_rfl,np⟩
theorem qQ:∀ w,(zeroValue 58).run Tryz.prog w = .ok (.agg #[.slice none 0 0,.slice none 0 0]) w:=fun _=>by kernel_rfl
abbrev pL:=Tryz.underlying59
abbrev u7:=Tryz.underlying65
theorem sw:∀ w,(sizeOf 65).run Tryz.prog w = .ok 8 w:=fun _=>by kernel_rfl
abbrev Dg:Array Value:=#[.int .i64 0,.int .i64 0,.int .i64 0,.int .i64 0,.slice none 0 0,.int .i64 0,.int .i64 0,.int .i64 0]
theorem yw:mE Tryz.prog 65 8:=⟨fun _=>by kernel_rfl,sw⟩
theorem AW:∀ w,(zeroValue 65).run Tryz.prog w = .ok (.agg #[.int .i64 0,.int .i64 0,.int .i64 0,.int .i64 0,.slice none 0 0,.int .i64 0,.int .i64 0,.int .i64 0]) w:=fun _=>by kernel_rfl
abbrev jT:=Tryz.underlying66
theorem kV:∀ w,(sizeOf 66).run Tryz.prog w = .ok 1 w:=fun _=>by kernel_rfl
theorem na:lM Tryz.prog 66:=⟨fun _=>by kernel_rfl,kV⟩
theorem x8:∀ w,(zeroValue 66).run Tryz.prog w = .ok (.slice none 0 0) w:=fun _=>by kernel_rfl
abbrev lY:=Tryz.underlying67
theorem lV:∀ w,(sizeOf 67).run Tryz.prog w = .ok 1 w:=fun _=>by kernel_rfl
theorem mB:lM Tryz.prog 67:=⟨fun _=>by kernel_rfl,lV⟩
theorem y8:∀ w,(zeroValue 67).run Tryz.prog w = .ok (.slice none 0 0) w:=fun _=>by kernel_rfl
abbrev Bo:=Tryz.underlying84
theorem iS:∀ w,(sizeOf 84).run Tryz.prog w = .ok 2 w:=fun _=>by kernel_rfl
abbrev mr:Array Value:=#[.int .i64 0,.int .i64 0]
theorem jh:mE Tryz.prog 84 2:=⟨fun _=>by kernel_rfl,iS⟩
theorem mn:∀ w,(zeroValue 84).run Tryz.prog w = .ok (.agg #[.int .i64 0,.int .i64 0]) w:=fun _=>by kernel_rfl
abbrev rH:=Tryz.underlying104
theorem iY:∀ w,(sizeOf 104).run Tryz.prog w = .ok 5 w:=fun _=>by kernel_rfl
abbrev nj:Array Value:=#[.bool false,.int .i64 0,.int .i64 0,.int .i64 0,.int .i64 0]
theorem j6:mE Tryz.prog 104 5:=⟨fun _=>by kernel_rfl,iY⟩
theorem lv:∀ w,(zeroValue 104).run Tryz.prog w = .ok (.agg #[.bool false,.int .i64 0,.int .i64 0,.int .i64 0,.int .i64 0]) w:=fun _=>by kernel_rfl
abbrev uo:=Tryz.underlying106
theorem jf:∀ w,(sizeOf 106).run Tryz.prog w = .ok 3 w:=fun _=>by kernel_rfl
abbrev qb:Array Value:=#[.int .i64 0,.int .i64 0,.int .i64 0]
theorem kX:mE Tryz.prog 106 3:=⟨fun _=>by kernel_rfl,jf⟩
theorem nl:∀ w,(zeroValue 106).run Tryz.prog w = .ok (.agg #[.int .i64 0,.int .i64 0,.int .i64 0]) w:=fun _=>by kernel_rfl
abbrev Cl:=Tryz.underlying109
theorem EF:∀ w,(sizeOf 114).run Tryz.prog w = .ok 1 w:=fun _=>by kernel_rfl
theorem qF:lM Tryz.prog 114:=⟨fun _=>by kernel_rfl,EF⟩
abbrev qZ:=Tryz.underlying119
abbrev xa:=Tryz.underlying143
theorem uc:∀ w,(sizeOf 143).run Tryz.prog w = .ok 6 w:=fun _=>by kernel_rfl
abbrev Av:Array Value:=#[.slice none 0 0,.slice none 0 0,.slice none 0 0,.slice none 0 0,.slice none 0 0,.slice none 0 0]
theorem BZ:mE Tryz.prog 143 6:=⟨fun _=>by kernel_rfl,uc⟩
theorem yQ:∀ w,(zeroValue 143).run Tryz.prog w = .ok (.agg #[.slice none 0 0,.slice none 0 0,.slice none 0 0,.slice none 0 0,.slice none 0 0,.slice none 0 0]) w:=fun _=>by kernel_rfl
abbrev uC:=Tryz.underlying144
abbrev py:=Tryz.underlying156
theorem qe:∀ w,(sizeOf 156).run Tryz.prog w = .ok 2 w:=fun _=>by kernel_rfl
abbrev wh:Array Value:=#[.int .i64 0,.int .i64 0]
theorem xu:mE Tryz.prog 156 2:=⟨fun _=>by kernel_rfl,qe⟩
theorem tU:∀ w,(zeroValue 156).run Tryz.prog w = .ok (.agg #[.int .i64 0,.int .i64 0]) w:=fun _=>by kernel_rfl
abbrev re:=Tryz.underlying157
abbrev u9:=Tryz.underlying167
theorem o7:li Tryz.prog 22 3 1 8:=oH nD (z:=.int .i64 0) (by kernel_rfl) rfl (by decide)
theorem pB:li Tryz.prog 23 3 1 8:=oH jH (z:=.int .i64 0) (by kernel_rfl) rfl (by decide)
theorem og:li Tryz.prog 24 104 5 40:=oH iD (z:=.agg #[.bool false,.int .i64 0,.int .i64 0,.int .i64 0,.int .i64 0]) (by kernel_rfl) rfl (by decide)
theorem oD:li Tryz.prog 25 106 3 24:=oH iK (z:=.agg #[.int .i64 0,.int .i64 0,.int .i64 0]) (by kernel_rfl) rfl (by decide)
theorem lf:li Tryz.prog 28 42 5 56:=oH iF (z:=.agg #[.int .i64 0,.slice none 0 0,.int .i64 0,.int .i64 0,.int .i64 0]) (by kernel_rfl) rfl (by decide)
theorem tQ:li Tryz.prog 29 23 1 24:=oH jN (z:=.slice none 0 0) (by kernel_rfl) rfl (by decide)
theorem wP:li Tryz.prog 55 31 7 152:=oH lU (z:=.agg #[.int .i64 0,.slice none 0 0,.slice none 0 0,.slice none 0 0,.slice none 0 0,.slice none 0 0,.slice none 0 0]) (by kernel_rfl) rfl (by decide)
theorem xA:li Tryz.prog 56 67 1 24:=oH lw (z:=.slice none 0 0) (by kernel_rfl) rfl (by decide)
theorem zP:li Tryz.prog 59 35 1 8:=oH pL (z:=.int .i64 0) (by kernel_rfl) rfl (by decide)
theorem p0:li Tryz.prog 66 33 6 128:=oH jT (z:=.agg #[.bool false,.slice none 0 0,.slice none 0 0,.slice none 0 0,.slice none 0 0,.slice none 0 0]) (by kernel_rfl) rfl (by decide)
theorem zZ:li Tryz.prog 67 66 1 24:=oH lY (z:=.slice none 0 0) (by kernel_rfl) rfl (by decide)
theorem iO:jO Tryz.prog 27 0 0:=kd uH rfl jz (by decide) rfl
theorem jn:jO Tryz.prog 27 1 1:=kd uH rfl nm (by decide) rfl
theorem kQ:jO Tryz.prog 27 2 2:=kd uH rfl pT (by decide) rfl
theorem mA:jO Tryz.prog 31 0 0:=kd rW rfl iX (by decide) rfl
theorem jt:jO Tryz.prog 31 1 1:=kd rW rfl iM (by decide) rfl
theorem mC:jO Tryz.prog 31 2 4:=kd rW rfl jz (by decide) rfl
theorem jL:jO Tryz.prog 31 3 5:=kd rW rfl m2 (by decide) rfl
theorem jS:jO Tryz.prog 31 4 6:=kd rW rfl p8 (by decide) rfl
theorem rr:jO Tryz.prog 33 0 0:=kd tC rfl pi (by decide) rfl
theorem oz:jO Tryz.prog 33 1 1:=kd tC rfl iM (by decide) rfl
theorem oZ:jO Tryz.prog 33 2 4:=kd tC rfl m2 (by decide) rfl
theorem oe:jO Tryz.prog 33 3 5:=kd tC rfl jz (by decide) rfl
theorem kR:jO Tryz.prog 42 0 0:=kd rP rfl iX (by decide) rfl
theorem mY:jO Tryz.prog 42 1 1:=kd rP rfl jz (by decide) rfl
theorem jG:jO Tryz.prog 42 2 2:=kd rP rfl iX (by decide) rfl
theorem nH:jO Tryz.prog 42 3 3:=kd rP rfl iX (by decide) rfl
theorem nv:jO Tryz.prog 42 4 4:=kd rP rfl iX (by decide) rfl
theorem lG:jO Tryz.prog 58 0 0:=kd xn rfl tI (by decide) rfl
theorem l9:jO Tryz.prog 58 1 1:=kd xn rfl u1 (by decide) rfl
theorem p4:jO Tryz.prog 65 0 0:=kd u7 rfl iX (by decide) rfl
theorem m8:jO Tryz.prog 65 1 1:=kd u7 rfl iX (by decide) rfl
theorem oS:jO Tryz.prog 65 2 2:=kd u7 rfl iX (by decide) rfl
theorem wg:jO Tryz.prog 65 3 3:=kd u7 rfl jg (by decide) rfl
theorem lu:jO Tryz.prog 84 0 0:=kd Bo rfl qS (by decide) rfl
theorem n3:jO Tryz.prog 104 0 0:=kd rH rfl pi (by decide) rfl
theorem mu:jO Tryz.prog 104 1 1:=kd rH rfl iX (by decide) rfl
theorem mJ:jO Tryz.prog 104 2 2:=kd rH rfl iX (by decide) rfl
theorem ld:jO Tryz.prog 104 3 3:=kd rH rfl iX (by decide) rfl
theorem lZ:jO Tryz.prog 104 4 4:=kd rH rfl iX (by decide) rfl
theorem nW:jO Tryz.prog 106 0 0:=kd uo rfl iX (by decide) rfl
theorem mg:jO Tryz.prog 106 1 1:=kd uo rfl iX (by decide) rfl
theorem nu:jO Tryz.prog 106 2 2:=kd uo rfl iX (by decide) rfl
theorem lC:jO Tryz.prog 109 0 0:=kd Cl rfl np (by decide) rfl
theorem CF(f:Nat)(vs:Array Value)(h:(((Tryz.prog.funcs[f]?).map fun fn => !(fn.name == "runtime.NumGoroutine") && !fn.body.isNone).getD false)=true:=by kernel_rfl):∀ w,(callFunc f vs).run Tryz.prog w = .ok (.enter f vs) w:=fun w=>by
 cases a:Tryz.prog.funcs[f]? with
 | none=>rw [a] at h;cases h
 | some fn =>
  rw [a] at h
  simp only [Option.map_some,Option.getD_some,Bool.and_eq_true,Bool.not_eq_true'] at h
  have b:¬ fn.name = "runtime.NumGoroutine":=by simpa using h.1
  have c:¬ fn.body=none:=fun e=>by have:=h.2;rw [e] at this;cases this
  simp [callFunc,a,b,c]
theorem mi{l:List Int}{k:Nat}{z:Int}(h:l[k]? = some z):g6 l k=z:=by
 unfold g6;rw [List.getD,h];rfl
theorem rJ(v:Value)(u:fH)(n:Int)(W:World)(h:fW gM (fX W) v u) :
    Calls Tryz.prog 82 #[v,(.int .i64 n)] W (fun e w'=>e = .returned (.int .i64 (j7 u n))∧Below W.heap.size W w'):=by
 obtain⟨_,rfl,h⟩:=h;obtain⟨b,c,rfl,k,_⟩:=h.d;have F:=il;have S:St [] W (fX W) (fX W) [] [] W:=St.start fZ;refine io (args:=[.agg (kU u b c),ni n]) 69 Tryz.func82 rfl rfl rfl ?_;refine er (ix (u:=.agg (kU u b c)) (cs:=(kU u b c)) S rfl rfl fun a _ S=>ly (ni 0) S Ya (ln (fJ (er (ly (pa a 1) S (Yb mY) (ly (sc b u.seen.length c) S (fI 0 gL) (ly (ni n) S Ym ?_)))))));refine g7 (g4 (vs:=[sc b u.seen.length c,ni n]) (CF 40 _) rfl rfl) (qo _ _ _ _ (fm k S.le)) ?_;rintro e _ ⟨rfl,rfl⟩;refine g9 (ly (ni (gb u.seen n)) S Ya (ln (er (ly (ni (gb u.seen n)) S Ym ?_))));by_cases f:gb u.seen n=0
 ·
  refine ly (.bool false) S (iT rfl rfl f) (ln (fV rfl (g1 (fM (fJ (go (er (ly (pa a 0) S (Yb kR) (ly (ni u.author) S (fI 0 T3) ?_)))))))));by_cases l:u.author<0
  ·
   refine ly (.bool true) S (gJ rfl rfl l) (ly (.bool true) S Ym (ls 17 (ls 17 (ls 17 (ls 17 (ly (.bool true) S Yt (ly (.bool true) S Ym (ls 23 (ls 23 (ls 23 (ls 23 (ls 23 (ls 23 (ls 23 (ly (.bool true) S Yt ?_)))))))))))))));refine ly (.bool true) S Ya (ln (fS rfl (er (ly (ni 3) S Ya (ln (fR ?_))))));refine g3 (v:=ni 3) rfl rfl ?_;refine⟨iy ?_,S.below⟩
   (unfold j7;repeat' split) <;> omega
  refine ly (.bool false) S (gH rfl rfl l) (ly (.bool false) S Ym (lg 17 (pa a 0) S (Yb kR) (lg 17 (ni u.author) S (fI 0 T3) (lg 17 (ni n) S Ym ?_))));by_cases m:n≤u.author
  ·
   refine lg 17 (.bool true) S (jY rfl rfl m) (ly (.bool true) S Yf (ly (.bool true) S Ym (ls 23 (ls 23 (ls 23 (ls 23 (ls 23 (ls 23 (ls 23 (ly (.bool true) S Yt (ly (.bool true) S Ya (ln (fS rfl (fJ ?_))))))))))))));refine gU (ly (ni 3) S Ya (ln (fR ?_)));refine g3 (v:=ni 3) rfl rfl ?_;refine⟨iy ?_,S.below⟩
   (unfold j7;repeat' split) <;> omega
  refine lg 17 (.bool false) S (k4 rfl rfl m) (ly (.bool false) S Yf (ly (.bool false) S Ym (lg 23 (pa a 1) S (Yb mY) (lg 23 (sc b u.seen.length c) S (fI 0 gL) (lg 23 (pa a 0) S (Yb kR) (lg 23 (ni u.author) S (fI 0 T3) ?_))))));have A:=i7 f;obtain⟨g,i⟩:∃ z,(u.seen)[u.author.toNat]? = some z:=gX (by first | assumption | omega);have G:=mi i;have H:=A.2.2.2 _ (List.mem_of_getElem? i);obtain⟨B,C,D,_,j,E⟩:=hD jH iX k i;have j:C=[ni g]:=j;subst j;refine lg 23 B S (E rfl rfl (by first | rfl | omega)) (lg 23 (ni g) S (iE D T3) ?_);by_cases o:g=1000
  ·
   refine lg 23 (.bool true) S (iw rfl rfl o) (ly (.bool true) S Yf (ly (.bool true) S Ya (ln (fS rfl (er (ly (ni 3) S Ya (ln (fR ?_))))))));refine g3 (v:=ni 3) rfl rfl ?_;refine⟨iy ?_,S.below⟩
   (unfold j7;repeat' split) <;> omega
  refine lg 23 (.bool false) S (i5 rfl rfl o) (ly (.bool false) S Yf (ly (.bool false) S Ya (ln (fV rfl (er (ly (pa a 2) S (Yb jG) (ly (ni u.kind) S (fI 0 T3) ?_)))))));by_cases p:u.kind<1
  ·
   refine ly (.bool true) S (gJ rfl rfl p) (ly (.bool true) S Ym (ls 36 (ls 36 (ls 36 (ly (.bool true) S Yt (ly (.bool true) S Ya (ln (fS rfl (er (ly (ni 1) S Ya (ln (fR ?_))))))))))));refine g3 (v:=ni 1) rfl rfl ?_;refine⟨iy ?_,S.below⟩
   (unfold j7;repeat' split) <;> omega
  refine ly (.bool false) S (gH rfl rfl p) (ly (.bool false) S Ym (lg 36 (pa a 2) S (Yb jG) (lg 36 (ni u.kind) S (fI 0 T3) ?_)));by_cases q:5<u.kind
  ·
   refine lg 36 (.bool true) S (ko rfl rfl q) (ly (.bool true) S Yf (ly (.bool true) S Ya (ln (fS rfl (er (ly (ni 1) S Ya (ln (fR ?_))))))));refine g3 (v:=ni 1) rfl rfl ?_;refine⟨iy ?_,S.below⟩
   (unfold j7;repeat' split) <;> omega
  refine lg 36 (.bool false) S (kt rfl rfl q) (ly (.bool false) S Yf (ly (.bool false) S Ya (ln (fV rfl (er (ly (pa a 3) S (Yb nH) (ly (ni u.key) S (fI 0 T3) ?_)))))));by_cases r:u.key<0
  ·
   refine ly (.bool true) S (gJ rfl rfl r) (ly (.bool true) S Ym (ls 45 (ls 45 (ls 45 (ly (.bool true) S Yt (ly (.bool true) S Ym (ls 50 (ls 50 (ls 50 (ly (.bool true) S Yt (ly (.bool true) S Ym (ls 55 (ls 55 (ls 55 (ly (.bool true) S Yt ?_)))))))))))))));refine ly (.bool true) S Ya (ln (fS rfl (er (ly (ni 3) S Ya (ln (fR ?_))))));refine g3 (v:=ni 3) rfl rfl ?_;refine⟨iy ?_,S.below⟩
   (unfold j7;repeat' split) <;> omega
  refine ly (.bool false) S (gH rfl rfl r) (ly (.bool false) S Ym (lg 45 (pa a 3) S (Yb nH) (lg 45 (ni u.key) S (fI 0 T3) ?_)));by_cases s:15<u.key
  ·
   refine lg 45 (.bool true) S (ko rfl rfl s) (ly (.bool true) S Yf (ly (.bool true) S Ym (ls 50 (ls 50 (ls 50 (ly (.bool true) S Yt (ly (.bool true) S Ym (ls 55 (ls 55 (ls 55 (ly (.bool true) S Yt (ly (.bool true) S Ya (ln (fS rfl ?_))))))))))))));refine er (ly (ni 3) S Ya (ln (fR ?_)));refine g3 (v:=ni 3) rfl rfl ?_;refine⟨iy ?_,S.below⟩
   (unfold j7;repeat' split) <;> omega
  refine lg 45 (.bool false) S (kt rfl rfl s) (ly (.bool false) S Yf (ly (.bool false) S Ym (lg 50 (pa a 4) S (Yb nv) (lg 50 (ni u.item) S (fI 0 T3) ?_))));by_cases t:u.item<(-1000)
  ·
   refine lg 50 (.bool true) S (gJ rfl rfl t) (ly (.bool true) S Yf (ly (.bool true) S Ym (ls 55 (ls 55 (ls 55 (ly (.bool true) S Yt (ly (.bool true) S Ya (ln (fS rfl (er (ly (ni 3) S Ya (ln ?_))))))))))));refine fR (g3 (v:=ni 3) rfl rfl ?_);refine⟨iy ?_,S.below⟩
   (unfold j7;repeat' split) <;> omega
  refine lg 50 (.bool false) S (gH rfl rfl t) (ly (.bool false) S Yf (ly (.bool false) S Ym (lg 55 (pa a 4) S (Yb nv) (lg 55 (ni u.item) S (fI 0 T3) ?_))));by_cases w:1000<u.item
  ·
   refine lg 55 (.bool true) S (ko rfl rfl w) (ly (.bool true) S Yf (ly (.bool true) S Ya (ln (fS rfl (er (ly (ni 3) S Ya (ln (fR ?_))))))));refine g3 (v:=ni 3) rfl rfl ?_;refine⟨iy ?_,S.below⟩
   (unfold j7;repeat' split) <;> omega
  refine lg 55 (.bool false) S (kt rfl rfl w) (ly (.bool false) S Yf (ly (.bool false) S Ya (ln (fV rfl (er (ly (pa a 2) S (Yb jG) (ly (ni u.kind) S (fI 0 T3) ?_)))))));by_cases x:u.kind=2
  ·
   refine ly (.bool true) S (iw rfl rfl x) (ly (.bool true) S Ym (lg 64 (pa a 4) S (Yb nv) (lg 64 (ni u.item) S (fI 0 T3) ?_)));by_cases y:u.item=0
   ·
    refine lg 64 (.bool false) S (iT rfl rfl y) (ly (.bool false) S Yt (ly (.bool false) S Ya (ln (fV rfl (g1 (gA (fM (er (ly (ni 0) S Ya (ln (fR ?_)))))))))));refine g3 (v:=ni 0) rfl rfl ?_;refine⟨iy ?_,S.below⟩
    (unfold j7;repeat' split) <;> omega
   refine lg 64 (.bool true) S (j4 rfl rfl y) (ly (.bool true) S Yt (ly (.bool true) S Ya (ln (fS rfl (er (ly (ni 2) S Ya (ln (fR ?_))))))));refine g3 (v:=ni 2) rfl rfl ?_;refine⟨iy ?_,S.below⟩
   (unfold j7;repeat' split) <;> omega
  refine ly (.bool false) S (i5 rfl rfl x) (ly (.bool false) S Ym (ls 64 (ls 64 (ls 64 (ly (.bool false) S Yf (ly (.bool false) S Ya (ln (fV rfl (g1 (gA (fM (er (ly (ni 0) S Ya ?_)))))))))))));refine ln (fR ?_);refine g3 (v:=ni 0) rfl rfl ?_;refine⟨iy ?_,S.below⟩
  (unfold j7;repeat' split) <;> omega
 refine ly (.bool true) S (j4 rfl rfl f) (ln (fS rfl (er (ly (ni (gb u.seen n)) S Ym (ly (ni (gb u.seen n)) S Ya (ln (fR ?_)))))));refine g3 (v:=ni (gb u.seen n)) rfl rfl ?_;refine⟨iy ?_,S.below⟩
 (unfold j7;repeat' split) <;> omega
theorem xC(v:Value)(u:fH)(n:Int)(W:World)(h:fW gM (fX W) v u) :
    Calls Tryz.prog 62 #[v,(.int .i64 n)] W (fun e w'=>e = .returned (.int .i64 (j7 u n))∧Below W.heap.size W w'):=by
 obtain⟨_,rfl,h⟩:=h;obtain⟨b,c,rfl,k,_⟩:=h.d;have F:=il;have S:St [] W (fX W) (fX W) [] [] W:=St.start fZ;refine io (args:=[.agg (kU u b c),ni n]) 65 Tryz.func62 rfl rfl rfl ?_;refine er (ix (u:=.agg (kU u b c)) (cs:=(kU u b c)) S rfl rfl fun a _ S=>ly (ni 0) S Ya (ln (fJ (er (ly (pa a 1) S (Yb mY) (ly (sc b u.seen.length c) S (fI 0 gL) (ly (ni n) S Ym ?_)))))));refine g7 (g4 (vs:=[sc b u.seen.length c,ni n]) (CF 53 _) rfl rfl) (sq _ _ _ _ (fm k S.le)) ?_;rintro e _ ⟨rfl,rfl⟩;refine g9 (ly (ni (gb u.seen n)) S Ya (ln (er (ly (ni (gb u.seen n)) S Ym ?_))));by_cases f:gb u.seen n=0
 ·
  refine ly (.bool false) S (iT rfl rfl f) (ln (fV rfl (g1 (fM (fJ (er (ly (pa a 0) S (Yb kR) (ly (ni u.author) S (fI 0 T3) ?_))))))));by_cases l:u.author<0
  ·
   refine ly (.bool true) S (gJ rfl rfl l) (ly (.bool true) S Ym (ls 16 (ls 16 (ls 16 (ls 16 (ly (.bool true) S Yt (ly (.bool true) S Ym (ls 22 (ls 22 (ls 22 (ls 22 (ls 22 (ls 22 (ls 22 (ly (.bool true) S Yt ?_)))))))))))))));refine ln (fS rfl (er (ly (ni 3) S Ya (ln (fR ?_)))));refine g3 (v:=ni 3) rfl rfl ?_;refine⟨iy ?_,S.below⟩
   (unfold j7;repeat' split) <;> omega
  refine ly (.bool false) S (gH rfl rfl l) (ly (.bool false) S Ym (lg 16 (pa a 0) S (Yb kR) (lg 16 (ni u.author) S (fI 0 T3) (lg 16 (ni n) S Ym ?_))));by_cases m:n≤u.author
  ·
   refine lg 16 (.bool true) S (jY rfl rfl m) (ly (.bool true) S Yf (ly (.bool true) S Ym (ls 22 (ls 22 (ls 22 (ls 22 (ls 22 (ls 22 (ls 22 (ly (.bool true) S Yt (ln (fS rfl (er ?_)))))))))))));refine ly (ni 3) S Ya (ln (fR ?_));refine g3 (v:=ni 3) rfl rfl ?_;refine⟨iy ?_,S.below⟩
   (unfold j7;repeat' split) <;> omega
  refine lg 16 (.bool false) S (k4 rfl rfl m) (ly (.bool false) S Yf (ly (.bool false) S Ym (lg 22 (pa a 1) S (Yb mY) (lg 22 (sc b u.seen.length c) S (fI 0 gL) (lg 22 (pa a 0) S (Yb kR) (lg 22 (ni u.author) S (fI 0 T3) ?_))))));have A:=i7 f;obtain⟨g,i⟩:∃ z,(u.seen)[u.author.toNat]? = some z:=gX (by first | assumption | omega);have G:=mi i;have H:=A.2.2.2 _ (List.mem_of_getElem? i);obtain⟨B,C,D,_,j,E⟩:=hD jH iX k i;have j:C=[ni g]:=j;subst j;refine lg 22 B S (E rfl rfl (by first | rfl | omega)) (lg 22 (ni g) S (iE D T3) ?_);by_cases o:1000≤g
  ·
   refine lg 22 (.bool true) S (jY rfl rfl o) (ly (.bool true) S Yf (ln (fS rfl (er (ly (ni 3) S Ya (ln (fR ?_)))))));refine g3 (v:=ni 3) rfl rfl ?_;refine⟨iy ?_,S.below⟩
   (unfold j7;repeat' split) <;> omega
  refine lg 22 (.bool false) S (k4 rfl rfl o) (ly (.bool false) S Yf (ln (fV rfl (g1 (fM (fJ (er (ly (pa a 2) S (Yb jG) (ly (ni u.kind) S (fI 0 T3) ?_)))))))));by_cases p:u.kind<1
  ·
   refine ly (.bool true) S (gJ rfl rfl p) (ly (.bool true) S Ym (ls 34 (ls 34 (ls 34 (ly (.bool true) S Yt (ln (fS rfl (er (ly (ni 1) S Ya (ln (fR ?_)))))))))));refine g3 (v:=ni 1) rfl rfl ?_;refine⟨iy ?_,S.below⟩
   (unfold j7;repeat' split) <;> omega
  refine ly (.bool false) S (gH rfl rfl p) (ly (.bool false) S Ym (lg 34 (pa a 2) S (Yb jG) (lg 34 (ni u.kind) S (fI 0 T3) ?_)));by_cases q:5<u.kind
  ·
   refine lg 34 (.bool true) S (ko rfl rfl q) (ly (.bool true) S Yf (ln (fS rfl (er (ly (ni 1) S Ya (ln (fR ?_)))))));refine g3 (v:=ni 1) rfl rfl ?_;refine⟨iy ?_,S.below⟩
   (unfold j7;repeat' split) <;> omega
  refine lg 34 (.bool false) S (kt rfl rfl q) (ly (.bool false) S Yf (ln (fV rfl (g1 (fM (fJ (er (ly (pa a 3) S (Yb nH) (ly (ni u.key) S (fI 0 T3) ?_)))))))));by_cases r:u.key<0
  ·
   refine ly (.bool true) S (gJ rfl rfl r) (ly (.bool true) S Ym (ls 42 (ls 42 (ls 42 (ly (.bool true) S Yt (ly (.bool true) S Ym (ls 47 (ls 47 (ls 47 (ly (.bool true) S Yt (ly (.bool true) S Ym (ls 52 (ls 52 (ls 52 (ly (.bool true) S Yt ?_)))))))))))))));refine ln (fS rfl (er (ly (ni 3) S Ya (ln (fR ?_)))));refine g3 (v:=ni 3) rfl rfl ?_;refine⟨iy ?_,S.below⟩
   (unfold j7;repeat' split) <;> omega
  refine ly (.bool false) S (gH rfl rfl r) (ly (.bool false) S Ym (lg 42 (pa a 3) S (Yb nH) (lg 42 (ni u.key) S (fI 0 T3) ?_)));by_cases s:15<u.key
  ·
   refine lg 42 (.bool true) S (ko rfl rfl s) (ly (.bool true) S Yf (ly (.bool true) S Ym (ls 47 (ls 47 (ls 47 (ly (.bool true) S Yt (ly (.bool true) S Ym (ls 52 (ls 52 (ls 52 (ly (.bool true) S Yt (ln (fS rfl (fJ ?_))))))))))))));refine gU (ly (ni 3) S Ya (ln (fR ?_)));refine g3 (v:=ni 3) rfl rfl ?_;refine⟨iy ?_,S.below⟩
   (unfold j7;repeat' split) <;> omega
  refine lg 42 (.bool false) S (kt rfl rfl s) (ly (.bool false) S Yf (ly (.bool false) S Ym (lg 47 (pa a 4) S (Yb nv) (lg 47 (ni u.item) S (fI 0 T3) ?_))));by_cases t:u.item<(-1000)
  ·
   refine lg 47 (.bool true) S (gJ rfl rfl t) (ly (.bool true) S Yf (ly (.bool true) S Ym (ls 52 (ls 52 (ls 52 (ly (.bool true) S Yt (ln (fS rfl (er (ly (ni 3) S Ya (ln (fR ?_))))))))))));refine g3 (v:=ni 3) rfl rfl ?_;refine⟨iy ?_,S.below⟩
   (unfold j7;repeat' split) <;> omega
  refine lg 47 (.bool false) S (gH rfl rfl t) (ly (.bool false) S Yf (ly (.bool false) S Ym (lg 52 (pa a 4) S (Yb nv) (lg 52 (ni u.item) S (fI 0 T3) ?_))));by_cases w:1000<u.item
  ·
   refine lg 52 (.bool true) S (ko rfl rfl w) (ly (.bool true) S Yf (ln (fS rfl (er (ly (ni 3) S Ya (ln (fR ?_)))))));refine g3 (v:=ni 3) rfl rfl ?_;refine⟨iy ?_,S.below⟩
   (unfold j7;repeat' split) <;> omega
  refine lg 52 (.bool false) S (kt rfl rfl w) (ly (.bool false) S Yf (ln (fV rfl (g1 (fM (fJ (er (ly (pa a 2) S (Yb jG) (ly (ni u.kind) S (fI 0 T3) ?_)))))))));by_cases x:u.kind=2
  ·
   refine ly (.bool true) S (iw rfl rfl x) (ly (.bool true) S Ym (lg 60 (pa a 4) S (Yb nv) (lg 60 (ni u.item) S (fI 0 T3) ?_)));by_cases y:u.item=0
   ·
    refine lg 60 (.bool false) S (iT rfl rfl y) (ly (.bool false) S Yt (ln (fV rfl (g1 (fM (er (ly (ni 0) S Ya (ln (fR ?_)))))))));refine g3 (v:=ni 0) rfl rfl ?_;refine⟨iy ?_,S.below⟩
    (unfold j7;repeat' split) <;> omega
   refine lg 60 (.bool true) S (j4 rfl rfl y) (ly (.bool true) S Yt (ln (fS rfl (er (ly (ni 2) S Ya (ln (fR ?_)))))));refine g3 (v:=ni 2) rfl rfl ?_;refine⟨iy ?_,S.below⟩
   (unfold j7;repeat' split) <;> omega
  refine ly (.bool false) S (i5 rfl rfl x) (ly (.bool false) S Ym (ls 60 (ls 60 (ls 60 (ly (.bool false) S Yf (ln (fV rfl (g1 (fM (er (ly (ni 0) S Ya (ln ?_))))))))))));refine fR (g3 (v:=ni 0) rfl rfl ?_);refine⟨iy ?_,S.below⟩
  (unfold j7;repeat' split) <;> omega
 refine ly (.bool true) S (j4 rfl rfl f) (ln (fS rfl (er (ly (ni (gb u.seen n)) S Ym (ly (ni (gb u.seen n)) S Ya (ln (fR ?_)))))));refine g3 (v:=ni (gb u.seen n)) rfl rfl ?_;refine⟨iy ?_,S.below⟩
 (unfold j7;repeat' split) <;> omega
section
variable {ds:List Deferred}
section
variable {X X':List Nat} {W w w':World} {r0 rd:Rd} {bx:List je} {ow:List h7}
theorem St.frm(S:St X W r0 rd bx ow w)(F:jj X' w w')(hX:∀ g∈X',(W.heap.size≤g∨g∈X) ∧ ∀ o,rd g o=none)(hb:∀ p∈bx,p.1 ∉ X')(ho:∀ q∈ow,∀ g,q.v.ownBlock=some g→g ∉ X'):St X W r0 rd bx ow w':=by
 have keepB:∀ g,g<w.heap.size→g ∉ X'→w'.heap[g]? = w.heap[g]?:=fun g c d=>F.block g c d
 refine⟨⟨F.os.trans S.fr.os,F.tape.trans S.fr.tape,F.output.trans S.fr.output,Nat.le_trans S.fr.size F.size,fun b j l => ?_⟩,S.sub,S.sup,fun b o v e => ?_,fun p f=>⟨(S.box p f).1,?_,(S.box p f).2.2⟩,fun q i=>⟨⟨(S.own q i).1.1,?_⟩,(S.own q i).2⟩,S.d1,S.d2,S.d3⟩
 ·refine(keepB b (Nat.lt_of_lt_of_le j S.base_le) fun h => ?_).trans (S.fr.block b j l)
  rcases(hX b h).1 with k | k
  ·omega
  ·exact l k
 ·have c:b ∉ X':=fun h=>by have:=(hX b h).2 o;rw [e] at this;cases this
  have d:=S.le _ _ _ e
  exact(World.cell?_of_block (w:=w) (a:=⟨b,o,none⟩) (keepB b (o8 d) c)).trans d
 ·rw [keepB p.1 (S.lt_box f) (hb p f)];exact(S.box p f).2.1
 ·rcases(S.own q i).1.2 with h | ⟨g,cap,cur,c,d,h3,h4⟩
  ·exact .inl h
  ·have m:q.v.ownBlock=some g:=by rw [c];rfl
   exact .inr ⟨g,cap,cur,c,d,(keepB g ((S.own q i).1.lt g m).2 (ho q i g m)).trans h3,h4⟩
theorem St.ownPut(S:St X W r0 rd bx ow w){q:h7}(hq:w.ownsRow 0 q.e q.size q.v q.n q.xs)(h1:∀ g,q.v.ownBlock=some g→(W.heap.size≤g∨g∈X) ∧ ∀ o,rd g o=none)(h2:∀ p∈bx,q.v.ownBlock ≠ some p.1)(h3:∀ p∈ow,p.v.ownBlock=none∨p.v.ownBlock ≠ q.v.ownBlock):St X W r0 rd bx (ow++[q]) w:=by
 refine⟨S.fr,S.sub,S.sup,S.le,S.box,fun p a => ?_,S.d1,?_,fun p a r b => ?_⟩
 ·rcases List.mem_append.1 a with h | h
  ·exact S.own p h
  ·obtain rfl:=List.mem_singleton.1 h;exact⟨hq,h1⟩
 ·rw [List.pairwise_append]
  refine⟨S.d2,List.pairwise_singleton _ _,fun p a r b => ?_⟩
  obtain rfl:=List.mem_singleton.1 b;exact h3 p a
 ·rcases List.mem_append.1 b with h | h
  ·exact S.d3 p a r h
  ·obtain rfl:=List.mem_singleton.1 h;exact h2 p a
theorem St.boxPut(S:St X W r0 rd bx ow w)(k:Below w.heap.size w w'){g:Nat}{T:TypeId}{cs:Array Value}(hg:w.heap.size≤g)(hc:w'.heap[g]? = some (.cells cs T (0,0))):St X W r0 rd (bx++[(g,T,cs)]) ow w':=by
 have S':=S.callq k
 refine⟨S'.fr,S'.sub,S'.sup,S'.le,fun p a => ?_,S'.own,?_,S'.d2,fun p a q b => ?_⟩
 ·rcases List.mem_append.1 a with h | h
  ·exact S'.box p h
  ·obtain rfl:=List.mem_singleton.1 h
   exact⟨.inl (Nat.le_trans S.base_le hg),hc,fun o=>S.free hg o⟩
 ·rw [List.pairwise_append]
  refine⟨S.d1,List.pairwise_singleton _ _,fun p a q b => ?_⟩
  obtain rfl:=List.mem_singleton.1 b
  have:=S.lt_box a
  dsimp only;omega
 ·rcases List.mem_append.1 a with h | h
  ·exact S'.d3 p h q b
  ·obtain rfl:=List.mem_singleton.1 h
   intro e
   have:=((S.own q b).1.lt _ e).2
   dsimp only at this;omega
theorem St.mutB(S:St X W r0 rd bx ow w){j:Nat}{q q':h7}{i gv:Nat}{Tv:TypeId}{csv:Array Value}(hj:ow[j]? = some q)(hi:bx[i]? = some (gv,Tv,csv))(F:jj X' w w')(hX:∀ g∈X',q.v.ownBlock=some g∨g=gv)(hq:w'.ownsRow 0 q'.e q'.size q'.v q'.n q'.xs)
  (hb:∀ g,q'.v.ownBlock=some g→q.v.ownBlock=some g∨w.heap.size≤g):St X W r0 rd (bx.eraseIdx i) (ow.eraseIdx j++[q']) w':=by
 have d:=List.mem_of_getElem? hj
 have l:=List.mem_of_getElem? hi
 have m:=S.box _ l
 have x:=((S.del i).delo j).frm F (fun g a => ?_) (fun p b y => ?_) (fun r z g a A => ?_)
 ·refine x.ownPut hq (fun g a => ?_) (fun p b e => ?_) (fun p b => ?_)
  ·rcases hb g a with h | h
   ·exact(S.own _ d).2 g h
   ·exact⟨.inl (Nat.le_trans S.base_le h),fun o=>S.free h o⟩
  ·have s:=List.mem_of_mem_eraseIdx b
   rcases hb _ e with h | h
   ·exact S.d3 p s q d h
   ·have:=S.lt_box s;omega
  ·obtain⟨k,c,f⟩:=mq b
   rcases oA S hj f c with h | h
   ·exact .inl h
   ·cases t:p.v.ownBlock with
    | none=>exact .inl rfl
    | some g =>
     refine .inr fun e => ?_
     rcases hb g e.symm with h' | h'
     ·exact h (by rw [t,h'])
     ·have:=((S.own p (List.mem_of_mem_eraseIdx b)).1.lt g t).2;omega
 ·rcases hX g a with h | h
  ·exact(S.own _ d).2 g h
  ·subst h;exact⟨m.1,m.2.2⟩
 ·obtain⟨k,c,f⟩:=mq b
  rcases hX _ y with h | h
  ·exact S.d3 p (List.mem_of_getElem? f) q d h
  ·exact oK S hi f c h
 ·obtain⟨k,c,u⟩:=mq z
  rcases hX _ A with h | h
  ·rcases oA S hj u c with h' | h'
   ·rw [h'] at a;cases a
   ·exact h' (by rw [a,h])
  ·subst h;exact S.d3 _ l r (List.mem_of_getElem? u) a
theorem St.mut(S:St X W r0 rd bx ow w){j:Nat}{q q':h7}(hj:ow[j]? = some q)(F:jj X' w w')(hX:∀ g∈X',q.v.ownBlock=some g)(hq:w'.ownsRow 0 q'.e q'.size q'.v q'.n q'.xs)
  (hb:∀ g,q'.v.ownBlock=some g→q.v.ownBlock=some g∨w.heap.size≤g):St X W r0 rd bx (ow.eraseIdx j++[q']) w':=by
 have c:=List.mem_of_getElem? hj
 have i:=(S.delo j).frm F (fun g a=>(S.own _ c).2 g (hX g a)) (fun p b l=>S.d3 p b q c (hX _ l)) (fun r m g a s => ?_)
 ·refine i.ownPut hq (fun g a => ?_) (fun p b e => ?_) (fun p b => ?_)
  ·rcases hb g a with h | h
   ·exact(S.own _ c).2 g h
   ·exact⟨.inl (Nat.le_trans S.base_le h),fun o=>S.free h o⟩
  ·rcases hb _ e with h | h
   ·exact S.d3 p b q c h
   ·have:=S.lt_box b;omega
  ·obtain⟨k,d,t⟩:=mq b
   rcases oA S hj t d with h | h
   ·exact .inl h
   ·cases f:p.v.ownBlock with
    | none=>exact .inl rfl
    | some g =>
     refine .inr fun e => ?_
     rcases hb g e.symm with h' | h'
     ·exact h (by rw [f,h'])
     ·have:=((S.own p (List.mem_of_mem_eraseIdx b)).1.lt g f).2;omega
 ·obtain⟨k,d,u⟩:=mq m
  rcases oA S hj u d with h' | h'
  ·rw [h'] at a;cases a
  ·exact h' (by rw [a,hX g s])
theorem St.boxMut(S:St X W r0 rd bx ow w){i j g gv:Nat}{T Tv:TypeId}{cs csv:Array Value}{q':h7}(hi:bx[i]? = some (g,T,cs))(hj:bx[j]? = some (gv,Tv,csv))(hij:i<j)(F:jj [g,gv] w w')(hq:w'.ownsRow 0 q'.e q'.size q'.v q'.n q'.xs)(hb:∀ k,q'.v.ownBlock=some k→k=g∨w.heap.size≤k) :
  St X W r0 rd ((bx.eraseIdx j).eraseIdx i) (ow++[q']) w':=by
 have t:(bx.eraseIdx j)[i]? = some (g,T,cs):=by rw [List.getElem?_eraseIdx,if_pos hij];exact hi
 have c:=List.mem_of_getElem? hi
 have d:=List.mem_of_getElem? hj
 have u:=(S.del j).del i
 have f:∀ p∈(bx.eraseIdx j).eraseIdx i,p∈bx∧p.1 ≠ g∧p.1 ≠ gv:=fun p a=>by
  obtain⟨k,b,l⟩:=mq a
  have x:=oK (S.del j) t l b
  obtain⟨_,y,m⟩:=mq (List.mem_of_getElem? l)
  exact⟨List.mem_of_getElem? m,x,oK S hj m y⟩
 have z:=u.frm F (fun k b=>by
  simp only [List.mem_cons,List.not_mem_nil,or_false] at b
  rcases b with rfl | rfl
  ·exact⟨(S.box _ c).1,(S.box _ c).2.2⟩
  ·exact⟨(S.box _ d).1,(S.box _ d).2.2⟩) (fun p a=>by
  have:=f p a
  simp only [List.mem_cons,List.not_mem_nil,or_false,not_or];exact this.2) (fun r q k b=>by
  simp only [List.mem_cons,List.not_mem_nil,or_false,not_or]
  exact⟨fun e=>S.d3 _ c r q (by rw [b,e]),fun e=>S.d3 _ d r q (by rw [b,e])⟩)
 refine z.ownPut hq (fun k b => ?_) (fun p a e => ?_) (fun p a => ?_)
 ·rcases hb k b with h | h
  ·subst h;exact⟨(S.box _ c).1,(S.box _ c).2.2⟩
  ·exact⟨.inl (Nat.le_trans S.base_le h),fun o=>S.free h o⟩
 ·rcases hb _ e with h | h
  ·exact(f p a).2.1 h
  ·have:=S.lt_box (f p a).1;omega
 ·cases s:p.v.ownBlock with
  | none=>exact .inl rfl
  | some k =>
   refine .inr fun e => ?_
   rcases hb k e.symm with h | h
   ·subst h;exact S.d3 _ c p a s
   ·have:=((S.own p a).1.lt k s).2;omega
theorem St.box1Mut(S:St X W r0 rd bx ow w){i gv:Nat}{Tv:TypeId}{csv:Array Value}{q':h7}(hi:bx[i]? = some (gv,Tv,csv))(F:jj [gv] w w')(hq:w'.ownsRow 0 q'.e q'.size q'.v q'.n q'.xs)(hb:∀ k,q'.v.ownBlock=some k→False∨w.heap.size≤k) :
  St X W r0 rd (bx.eraseIdx i) (ow++[q']) w':=by
 have d:=List.mem_of_getElem? hi
 have f:=(S.del i).frm F (fun k a=>by
  rw [List.mem_singleton.1 a];exact⟨(S.box _ d).1,(S.box _ d).2.2⟩) (fun p b h=>by
  obtain⟨k,a,g⟩:=mq b
  exact oK S hi g a (List.mem_singleton.1 h)) (fun r j k a h=>S.d3 _ d r j (by rw [a,List.mem_singleton.1 h]))
 have c:∀ k,q'.v.ownBlock=some k→w.heap.size≤k:=fun k a=>(hb k a).elim (fun h=>h.elim) id
 refine f.ownPut hq (fun k a=>⟨.inl (Nat.le_trans S.base_le (c k a)),fun o=>S.free (c k a) o⟩) (fun p b e => ?_) (fun p b => ?_)
 ·have:=c _ e
  have:=S.lt_box (List.mem_of_mem_eraseIdx b);omega
 ·cases l:p.v.ownBlock with
  | none=>exact .inl rfl
  | some k=>exact .inr fun e=>by have:=c k e.symm;have:=((S.own p b).1.lt k l).2;omega
theorem St.boxCall(S:St X W r0 rd bx ow w){i g:Nat}{T:TypeId}{cs cs':Array Value}(hi:bx[i]? = some (g,T,cs))(F:jj [g] w w')(hg:w'.heap[g]? = some (.cells cs' T (0,0))):St X W r0 rd (bx.set i (g,T,cs')) ow w' :=
 S.wrote hi ⟨F.os,F.tape,F.output,F.size,fun k hk hne=>F.block k hk (fun h=>hne (by rw [List.mem_singleton.1 h]))⟩ hg
theorem St.muted(S:St X W r0 rd bx ow w){j:Nat}{q:h7}(hj:ow[j]? = some q)(F:jj q.v.ownBlock.toList w w'):St X W r0 rd bx (ow.eraseIdx j) w':=by
 have c:=List.mem_of_getElem? hj
 have b:∀ g∈q.v.ownBlock.toList,q.v.ownBlock=some g:=fun g h=>by simpa using h
 refine(S.delo j).frm F (fun g a=>(S.own _ c).2 g (b g a)) (fun p d e=>S.d3 p d q c (b _ e)) (fun r f g a i => ?_)
 obtain⟨k,l,m⟩:=mq f
 rcases oA S hj m l with h' | h'
 ·rw [h'] at a;cases a
 ·exact h' (by rw [a,b g i])
theorem St.boxPtr(S:St X W r0 rd bx ow w){i g:Nat}{T:TypeId}{cs:Array Value}(hi:bx[i]? = some (g,T,cs)):j2 (fX w) (.pointer (some ⟨g,0,none⟩)) cs.toList:=⟨g,0,rfl,fun j u hu=>by
 show w.cell? ⟨g,0+j,none⟩=some u
 rw [Nat.zero_add,S.cell hi];simpa using hu⟩
theorem me.perm{B:Nat}{l l':List h7}(h:me B w l)(p:l.Perm l'):me B w l':=⟨fun q hq=>h.1 q (p.mem_iff.2 hq),(p.pairwise_iff fun {x y} h=>by
 rcases h with h | h
 ·cases hy:y.v.ownBlock with
  | none=>exact .inl rfl
  | some k=>exact .inr (by rw [h];simp)
 ·exact .inr fun e=>h e.symm).1 h.2⟩
theorem fQ.ins{α:Type}{size:Nat}{R:CR α}{xs cs:List Value}{l:List α}{x:α}(hr:fQ size R rd xs l){i:Nat}(hi:i≤l.length)(hc:cs.length=size)(hx:R rd cs x):fQ size R rd (xs.take (i * size)++cs++xs.drop (i * size)) (l.take i++[x]++l.drop i) :=
 ((hr.take i).push hc hx).append (hr.drop i hi)
end
section
variable {P:Program} {Q:Exit→Act→World→Prop} {X:List Nat} {W w w':World} {r0 rd:Rd} {bx:List je} {ow:List h7} {n d:Nat} {l:Ov} {t ty:TypeId} {pos:String} {af:Array Edge} {v:Value} {v0 x y:Operand} {g i j:Nat} {T:TypeId} {cs:Array Value} {rest:List Oper} {ops:Array Oper}
theorem Dq(w:World)(dT sT ty elem:TypeId)(g o dLen dCap:Nat)(a:Addr)(sLen sCap m size:Nat)(cur:Array Value)(t:TypeId)(cs:List Value)
  (hu:P.underlying dT=some (.slice elem)) (hs:∀ w,(sizeOf elem).run P w = .ok size w) (hg:w.heap[g]? = some (.cells cur t (0,0))) (hm:Nat.min sLen dLen=m) (hn:cs.length=m * size)
  (hsrc:∀ j v,cs[j]? = some v→w.cell? (a.add j)=some v) (hfit:o+cs.length≤cur.size) (h1:∀ v∈cs,v.oneCell'=true) :
  (Builtin.copy_ #[dT,sT] ty #[.slice (some ⟨g,o,none⟩) dLen dCap,.slice (some a) sLen sCap]).run P w = .ok (goInt m) (w.setRow g (jb cur o cs)):=by
 have b:=run_loadCells_list (P:=P) w a cs hsrc
 have c:=run_storeCells_at P g o t cs 0 cur w hg (by simpa using hfit) h1
 simp [Builtin.copy_,run_underlying hu,Builtin.lenOf,Builtin.firstCells,hs,hm,← hn,b,c,jb]
theorem pW{el:TypeId}{size m nd cd o ns cn i' gx ox:Nat}{Tx:TypeId}{csx:Array Value}{news:List Value}(S:St X W r0 rd bx ow w)(hu:P.underlying t=some (.slice el))(hz:∀ w,(sizeOf el).run P w = .ok size w)(hx:ev n l x = .slice (some ⟨g,o,none⟩) nd cd)(hy:ev n l y = .slice (some ⟨gx,ox,none⟩) ns cn)(hi:bx[i]? = some (g,T,cs))(hix:bx[i']? = some (gx,Tx,csx))
  (hm:Nat.min ns nd=m) (hn:news.length=m * size) (hnews:∀ j u,news[j]? = some u→csx[ox+j]? = some u) (h1:∀ u∈news,u.oneCell'=true) (hf:o+m * size≤cs.size)
  (h:∀ w',St X W r0 rd (bx.set i (g,T,jb cs o news)) ow w'→WL P ops Q rest (fd ds n ((d,goInt m) :: l)) w'):WL P ops Q (⟨some d,.call ⟨.builtin .copy,#[x,y],#[t,t]⟩,ty,pos,af,none⟩ :: rest) (fd ds n l) w:=by
 have a:=(S.box _ (List.mem_of_getElem? hi)).2.1
 have b:=Dq (P:=P) w t t ty el g o nd cd ⟨gx,ox,none⟩ ns cn m size cs T news hu hz a hm hn (fun j u hu=>by rw [Addr.add_mid,S.cell hix];exact hnews j u hu) (by omega) h1
 refine mz (.inl ?_) (h _ (S.wrote hi (qp w g _) (setRow_heap w g cs _ T _ a)))
 simp [execOp,resolve,invoke,builtin,hx,hy,b]
theorem wd{el tn:TypeId}{size bytes k c o m:Nat}{kn kq:IntKind}{q:Int}{s:Operand}{olds:List Value}(S:St X W r0 rd bx ow w)(K:li P t el size bytes)(htn:P.underlying tn=some (.int kn))(hs:ev n l s = .slice (some ⟨g,o,none⟩) k c)(hx:ev n l x = .int kq q)(hq:q=m)(hi:bx[i]? = some (g,T,cs))
  (ho:olds.length=k * size) (holds:∀ j u,olds[j]? = some u→cs[o+j]? = some u) (h0:0<m) (hr:c<k+m) (hlen:k+m≤maxLen) (hby:(k+m) * bytes≤140737488355328)
  (h:∀ g' cz cap' w',cz.size=cap' * size→cz.toList.take (k * size)=olds→k+m≤cap'→cap'≤maxLen→St X W r0 rd (bx++[(g',el,cz)]) ow w'→W.heap.size≤g'→WL P ops Q rest (fd ds n ((d,.slice (some ⟨g',0,none⟩) (k+m) cap') :: l)) w'):WL P ops Q (⟨some d,.call ⟨.builtin .append,#[s,x],#[t,tn]⟩,ty,pos,af,none⟩ :: rest) (fd ds n l) w:=by
 subst hq
 obtain⟨inf,z,f,p,r,v,b,y,_⟩:=K.ex
 have A:(Builtin.firstCells inf.size k (.slice (some ⟨g,o,none⟩) k c)).run P w.drew = .ok olds.toArray w.drew:=by
  rw [v]
  exact run_firstCells_some w.drew size k ⟨g,o,none⟩ k c olds ho (fun j u B=>by rw [Addr.add_mid];exact(S.cell hi (o+j)).trans (holds j u B))
 have e:=Lib.run_append_grow_zeros (P:=P) w t tn ty el inf z kq kn f htn p r (some ⟨g,o,none⟩) k c olds A m h0 (by omega) hr (by simp only [maxLen] at hlen;omega) (by rw [b];exact Nat.le_trans (Nat.mul_le_mul_right bytes (Nat.le_add_left m k)) (by omega)) (by rw [b];exact growslice_fits hr hby)
 have C:=grownCap_ge w (k+m) c el
 have D:grownCap w (k+m) c el≤maxLen:=grownCap_le_maxLen w (k+m) c el hlen
 obtain⟨arr,a⟩:∃ arr,arr=olds.toArray++Builtin.zeroCells z.cells m++Builtin.zeroCells z.cells (grownCap w (k+m) c el - (k+m)):=⟨_,rfl⟩
 rw [← a] at e
 refine mz (w':=w.drew.alloc (.cells arr el)) (.inl ?_) (h w.heap.size arr _ _ ?_ ?_ C D (S.boxPut (w':=w.drew.alloc (.cells arr el)) ⟨rfl,rfl,rfl,by simp,fun k E=>heap_alloc_old w.drew _ E⟩ (Nat.le_refl _) (heap_alloc_new w.drew _)) S.base_le)
 ·simp [execOp,resolve,invoke,builtin,hs,hx,e]
 ·rw [a];simp only [Array.size_append,List.size_toArray,size_zeroCells,y,ho,← Nat.add_mul]
  congr 1;omega
 ·rw [a];simp only [Array.toList_append,List.append_assoc,← ho]
  exact List.take_left
theorem yP{f:FuncId}{fn:Func}{tR el:TypeId}{size la ca lb cb i' gx ox o:Nat}{Tx:TypeId}{csx:Array Value}{ts:Array TypeId}(S:St X W r0 rd bx ow w)(hf:P.funcs[f]? = some fn)(hname:(fn.name == "runtime.NumGoroutine")=false)(hb:fn.body.isNone=true)(hnx:Extern.findNext fn=none)(he:Extern.find fn=some (Extern.SlicesOverlaps.overlaps #[t,t] #[tR]))(hu:P.underlying t=some (.slice el))(hz:∀ w,(sizeOf el).run P w = .ok size w)
  (hfx:ev n l v0 = .func (.func f) #[] #[]) (hx:ev n l x = .slice (some ⟨gx,ox,none⟩) la ca) (hy:ev n l y = .slice (some ⟨g,o,none⟩) lb cb) (hi:bx[i]? = some (g,T,cs)) (hix:bx[i']? = some (gx,Tx,csx)) (hne:gx ≠ g) (hcs:cs.size ≠ 0) :
  (execOp (ev n l) ⟨some d,.call ⟨.value v0,#[x,y],ts⟩,ty,pos,af,none⟩).run P w = .ok (.value (.bool false)) w:=by
 have c:=(S.box _ (List.mem_of_getElem? hi)).2.1
 have a:=(S.box _ (List.mem_of_getElem? hix)).2.1
 have b:=run_callFunc_extern hf hname hb hnx he #[.slice (some ⟨gx,ox,none⟩) la ca,.slice (some ⟨g,o,none⟩) lb cb] w
 rw [Lib.run_overlaps_apart (P:=P) w t tR el hu size hz ⟨gx,ox,none⟩ ⟨g,o,none⟩ la ca lb cb hne Tx T csx.size cs.size (by simp [World.shape?,a]) (by simp [World.shape?,c]) hcs (by simp [World.frozen?,a]) (by simp [World.frozen?,a])] at b
 simp [execOp,resolve,invoke,Deferred.ofValue,hfx,hx,hy,b]
theorem xg{C:World→Prop}{el:TypeId}{e:Operand→Value}{d:Option Tmp}{gd:Option (Nat × Bool)}{ol oh:Option Operand}{size:Nat}(hu:P.underlying t=some (.slice el))(hs:∀ w,(sizeOf el).run P w = .ok size w)(hx:e x = .slice none 0 0)
  (hol:ol=none ∨ ∃ y k,ol=some y∧e y = .int k 0) (hoh:oh=none ∨ ∃ y k,oh=some y∧e y = .int k 0):Yv P C e ⟨d,.slice t x ol oh none,ty,pos,af,gd⟩ (.slice none 0 0):=fun w _=>by
 have e2:(Instr.sliceBounds true 0 0 (ol.map e) (oh.map e) none).run P w = .ok (0,0,0) w:=by
  unfold Instr.sliceBounds
  rcases hol with rfl | ⟨y,k,rfl,hy⟩ <;> rcases hoh with rfl | ⟨y',k',rfl,hy'⟩
  ·simp
  ·simp [hy',Instr.sliceBound,asIntOf]
  ·simp [hy,Instr.sliceBound,asIntOf]
  ·simp [hy,hy',Instr.sliceBound,asIntOf]
 simp [execOp,hx,Instr.sliceAt,Instr.slice,run_underlying hu,e2,hs]
end
section
variable {P:Program} {Q:Exit→Act→World→Prop} {C:World→Prop} {Qa:Act→Prop} {w:World} {n d j d':Nat} {l:Ov} {b:Bool} {o:Oper} {op:Op} {ty:TypeId} {pos:String} {af:Array Edge} {rest:List Oper} {ops:Array Oper}
theorem Ch(hd:(ops[j]?).bind (·.dst)=some d)(hb:lk n l d=undef):yielded ops (ll n l) j=none:=by
 unfold yielded
 rw [hd]
 have e:=p5 n l d
 rw [hb,Array.getD_eq_getD_getElem?] at e
 simp only [Option.bind_some]
 rcases h:(ll n l)[d]? with _ | x
 ·rfl
 ·rw [h] at e;simp only [Option.getD_some] at e;subst e;rfl
theorem kB(hd:(ops.toList[j]?).bind (·.dst)=some d')(hb:lk n l d'=undef)(h:WL P ops Q rest (fd ds n ((d,undef) :: l)) w):WL P ops Q (⟨some d,op,ty,pos,af,some (j,b)⟩ :: rest) (fd ds n l) w:=⟨by
 refine wpList_step fun K hK => ?_
 have hw:Region.wanted (⟨some d,op,ty,pos,af,some (j,b)⟩:Oper) (yielded ops (fd ds n l).tmps)=false:=by
  show(yielded ops (ll n l) j == some b)=false
  rw [Ch (by rwa [Array.getElem?_toList] at hd) hb];rfl
 rw [if_neg (by rw [hw];simp),n9]
 exact hK _ _ h.1⟩
end
end
section
variable {ds:List Deferred}
section
variable {X:List Nat} {W w w':World} {r0 rd:Rd} {bx:List je} {ow:List h7}
theorem St.frzp(S:St X W r0 rd bx ow w){i g:Nat}{T:TypeId}{cs:Array Value}(hi:bx[i]? = some (g,T,cs))(hX:X=[]):∃ rd',St X W r0 rd' (bx.eraseIdx i) ow w∧Rd.le rd rd'∧j2 rd' (.pointer (some ⟨g,0,none⟩)) cs.toList :=
 ⟨_,S.frz hi (by subst hX;simp),S.frz_le hi,g,0,rfl,fun j u hu=>by
  unfold k8
  rw [if_pos rfl,Nat.zero_add,cell_of_row w g j cs T (0,0) (S.box _ (List.mem_of_getElem? hi)).2.1];simpa using hu⟩
theorem De(S:St X W r0 rd bx ow w){i:Nat}{q:h7}(hi:ow[i]? = some q)(hn:q.n ≠ 0):∃ g c,q.v = .slice (some ⟨g,0,none⟩) q.n c∧q.n≤c∧c≤maxLen:=by
 rcases(S.own _ (List.mem_of_getElem? hi)).1.2 with⟨_,h⟩ | ⟨g,c,cur,h,_,_,h1,h2,_⟩
 ·exact absurd h hn
 ·exact⟨g,c,h,h1,h2⟩
theorem pp(S:St X W r0 rd bx ow w){i n c:Nat}{q:h7}{A:Option Addr}(hi:ow[i]? = some q)(hv:q.v = .slice A n c)(hn:q.n ≠ 0):∃ g,A=some ⟨g,0,none⟩:=by
 obtain⟨g,_,e,_⟩:=De S hi hn
 rw [hv] at e
 injection e with e
 exact⟨g,e⟩
theorem xX{b:Nat}{e:TypeId}{size n m c g j:Nat}{v u:Value}{xs:List Value}(h:w.ownsRow b e size v n xs)(hv:v = .slice (some ⟨g,0,none⟩) m c)(hu:xs[j]? = some u):w.cell? ⟨g,j,none⟩=some u:=by
 subst hv
 have:=h.cells (g:=g) rfl j u hu
 rwa [Addr.add_mid,Nat.zero_add] at this
variable {P:Program} {t:TypeId}
theorem ky(S:St X W r0 rd bx ow w){i g j m c:Nat}{q:h7}{v:Value}(hi:ow[i]? = some q)(hv:q.v = .slice (some ⟨g,0,none⟩) m c)(ht:lM P t)(hx:q.xs[j]? = some v):Ld P w t (.pointer (some ⟨g,j,none⟩)) v :=
 rL ht (xX (S.own _ (List.mem_of_getElem? hi)).1 hv hx)
theorem oO(S:St X W r0 rd bx ow w){i g j m c k:Nat}{q:h7}{vs:List Value}(hi:ow[i]? = some q)(hv:q.v = .slice (some ⟨g,0,none⟩) m c)(ht:mE P t k)(hk:vs.length=k)(hx:∀ a u,vs[a]? = some u→q.xs[j+a]? = some u):Ld P w t (.pointer (some ⟨g,j,none⟩)) (.agg vs.toArray) :=
 rX ht hk fun a u hu=>xX (S.own _ (List.mem_of_getElem? hi)).1 hv (hx a u hu)
theorem oL{C:World→Prop}{e:Operand→Value}{d:Option Tmp}{ty el:TypeId}{pos:String}{af:Array Edge}{gd:Option (Nat × Bool)}{x y:Operand}{kk:IntKind}{q:Int}{g o o' k len size:Nat}(hu:P.underlying t=some (.array len el))(hs:∀ w,(sizeOf el).run P w = .ok size w)(hk:k<len)(ho:o+k * size=o')
  (hx:e x = .pointer (some ⟨g,o,none⟩)) (hy:e y = .int kk q) (hq:q=k):Yv P C e ⟨d,.indexAddr t x y,ty,pos,af,gd⟩ (.pointer (some ⟨g,o',none⟩)):=fun w _=>by
 subst hq ho
 simp [execOp,hx,hy,Instr.indexAt,asIntOf,run_underlying hu,hs,hk,Addr.add_mid,Instr.sureAddr]
end
section
variable {P:Program} {Q:Exit→Act→World→Prop} {X:List Nat} {W w w':World} {r0 rd:Rd} {bx:List je} {ow:List h7} {n d:Nat} {l:Ov} {t ty:TypeId} {pos:String} {af:Array Edge} {v:Value} {x y:Operand} {g i j:Nat} {rest:List Oper} {ops:Array Oper}
theorem DN{cs:List Value}{j k:Nat}{vs:List Value}(h:j+vs.length≤k)(hk:k≤cs.length):(cs.take j++vs++cs.drop (j+vs.length)).take k=(cs.take k).take j++vs++(cs.take k).drop (j+vs.length):=by
 rw [List.take_append,List.take_of_length_le (show(cs.take j++vs).length≤k by simp;omega),List.take_take,Nat.min_eq_left (by omega)]
 congr 1
 rw [List.drop_take]
 congr 1
 simp;omega
theorem mo{u:Value}{m c:Nat}{q:h7}{xs':List Value}(S:St X W r0 rd bx ow w)(hx:ev n l x = .pointer (some ⟨g,j,none⟩))(hy:ev n l y=u)(hi:ow[i]? = some q)(hv:q.v = .slice (some ⟨g,0,none⟩) m c)(hs:∀ w,(sizeOf t).run P w = .ok u.cells.size w)(hj:j+u.cells.size≤q.xs.length)
  (h1:u.cells.toList.all Value.oneCell'=true) (hx':q.xs.take j++u.cells.toList++q.xs.drop (j+u.cells.size)=xs') (h:∀ w',St X W r0 rd bx (ow.set i ⟨q.e,q.size,q.v,q.n,xs'⟩) w'→WL P ops Q rest (fd ds n l) w'):WL P ops Q (⟨none,.store t x y,ty,pos,af,none⟩ :: rest) (fd ds n l) w:=by
 have b:=(S.own _ (List.mem_of_getElem? hi)).1
 rcases b.2 with⟨e,_⟩ | ⟨g',cap,cur,e,hb,hh,h2,h3,h4,h5⟩
 ·rw [hv] at e;cases e
 ·rw [hv] at e
  injection e with a f k
  injection a with a
  injection a with a
  subst a f k
  have o:=b.1
  have d:j+u.cells.size≤cur.size:=by
   have:q.n * q.size≤c * q.size:=Nat.mul_le_mul_right _ h2
   omega
  have p:=vH (P:=P) (t:=t) hh hs (Nat.ble_eq_true_of_le d) (fun c r=>List.all_eq_true.1 h1 c (by simpa using r))
  refine rU (w':=w.setRow g (jb cur j u.cells.toList)) (.inr ⟨rfl,?_⟩) (h _ (S.grew hi (by rw [hv];exact qp w g _) ?_ (.inl rfl)))
  ·simp [execOp,hx,hy,p]
  ·have s:(jb cur j u.cells.toList).size=cur.size:=nA (by simpa using d)
   refine⟨?_,.inr ⟨g,c,jb cur j u.cells.toList,hv,Nat.zero_le _,setRow_heap w g cur _ _ _ hh,h2,h3,by rw [s];exact h4,?_⟩⟩
   ·show xs'.length=q.n * q.size
    rw [← hx',← o];simp;omega
   ·show(jb cur j u.cells.toList).toList.take (q.n * q.size)=xs'
    unfold jb
    rw [List.toList_toArray,DN (by simp;omega) (by simp;rw [h4];exact Nat.mul_le_mul_right _ h2),h5,← hx']
    simp
end
end
section
variable {ds:List Deferred}
def lN(size:Nat)(v:Value)(n k:Nat)(tv:Value):Prop :=
 (v = .slice none 0 0∧n=0∧k=0∧tv = .slice none 0 0) ∨
 ∃ g c o,v = .slice (some ⟨g,0,none⟩) n c∧k≤n∧n≤c∧c≤maxLen∧(k<c→o=k * size)∧tv = .slice (some ⟨g,o,none⟩) (n - k) (c - k)
theorem lN.nil(size:Nat):lN size (.slice none 0 0) 0 0 (.slice none 0 0):=.inl ⟨rfl,rfl,rfl,rfl⟩
theorem lN.len{size n k:Nat}{v tv:Value}(h:lN size v n k tv):k≤n ∧ ∃ A c,tv = .slice A (n - k) c∧n - k≤c∧c≤maxLen:=by
 rcases h with⟨_,h1,h2,h3⟩ | ⟨g,c,o,h1,h2,h3,h4,h5,h6⟩
 ·subst h1 h2;exact⟨Nat.le_refl _,none,0,h3,Nat.le_refl _,by simp [maxLen]⟩
 ·exact⟨h2,_,_,h6,by omega,by omega⟩
theorem lN.some{size n k:Nat}{v tv:Value}(h:lN size v n k tv)(hk:k<n):∃ g c,v = .slice (some ⟨g,0,none⟩) n c∧n≤c∧tv = .slice (some ⟨g,k * size,none⟩) (n - k) (c - k):=by
 rcases h with⟨_,h1,h2,h3⟩ | ⟨g,c,o,h1,h2,h3,h4,h5,h6⟩
 ·omega
 ·rw [h5 (by omega)] at h6;exact⟨g,c,h1,h3,h6⟩
section
variable {P:Program} (w:World)
theorem CI(t ty e:TypeId)(i:TypeInfo)(ht:P.underlying t=some (.slice e))(hi:P.info? e=some i)
  (g off sLen sCap:Nat) (cur:Array Value) (hg:w.heap[g]? = some (.cells cur e (0,0)))
  (a:Addr) (m c:Nat) (news:List Value) (hl:news.length=m * i.size) (hnews:∀ j u,news[j]? = some u→w.cell? (a.add j)=some u) (h1:∀ u∈news,u.oneCell'=true)
  (hroom:sLen+m≤sCap) (hfit:off+sLen * i.size+news.length≤cur.size) :
  (Builtin.append_ #[t,t] ty #[.slice (some ⟨g,off,none⟩) sLen sCap,.slice (some a) m c]).run P w =
   .ok (.slice (some ⟨g,off,none⟩) (sLen+m) sCap) (w.setRow g (cur.toList.take (off+sLen * i.size)++news++cur.toList.drop (off+sLen * i.size+news.length)).toArray):=by
 have d:=run_firstCells_some (P:=P) w i.size m a m c news hl hnews
 have b:=run_storeCells_at P g (off+sLen * i.size) e news 0 cur w hg (by simpa using hfit) h1
 simp only [Nat.add_zero] at b
 simp [Builtin.append_,run_underlying ht,sizeOf,typeInfo,hi,Builtin.lenOf,hroom,d,Addr.add_lit,b]
end
section
variable {P:Program} {Q:Exit→Act→World→Prop} {X:List Nat} {W w w':World} {r0 rd:Rd} {bx:List je} {ow:List h7} {n d:Nat} {l:Ov} {t ty:TypeId} {pos:String} {af:Array Edge} {v:Value} {x y:Operand} {g i j:Nat} {T:TypeId} {cs:Array Value} {rest:List Oper} {ops:Array Oper}
theorem ya{e':TypeId}{bytes m c size k:Nat}{q:h7}{s:Operand}{tv:Value}(S:St X W r0 rd bx ow w)(K:li P t q.e size bytes)(hi:ow[i]? = some q)(hsz:q.size=size)(hT:lN size q.v q.n k tv)(hs:ev n l s=tv)(hx:ev n l x = .slice (some ⟨g,0,none⟩) m c){i':Nat}(hb:bx[i']? = some (g,T,cs))
  (hm:cs.size=m * size) (h1:cs.toList.all Value.oneCell'=true) (hlen:q.n+m≤maxLen) (hby:(q.n+m) * bytes≤140737488355328) (h0:0<m)
  (h:∀ v' n' xs' k' tv' w',lN size v' n' k' tv'→xs'.drop (k' * size)=q.xs.drop (k * size)++cs.toList→n' - k'=q.n - k+m→n'≤q.n+m→St X W r0 rd bx (ow.set i ⟨q.e,size,v',n',xs'⟩) w'→WL P ops Q rest (fd ds n ((d,tv') :: l)) w'):WL P ops Q (⟨some d,.call ⟨.builtin .append,#[s,x],#[t,t]⟩,ty,pos,af,none⟩ :: rest) (fd ds n l) w:=by
 subst hsz
 obtain⟨inf,z,E,F,I,p,J,L,hsz⟩:=K.ex
 have C:=(S.own _ (List.mem_of_getElem? hi)).1
 have G:∀ j u,cs.toList[j]? = some u→w.cell? ((⟨g,0,none⟩:Addr).add j)=some u:=fun j u f=>by rw [Addr.add_mid,Nat.zero_add,S.cell hb];simpa using f
 rcases hT with⟨e1,e2,e3,e4⟩ | ⟨gq,cq,o,e1,e2,e3,e4,e5,e6⟩
 ·obtain⟨v',w',M,N,Z,_,a0⟩:=run_append_own_at (P:=P) w 0 t ty q.e inf z q.size bytes E F I p J L hsz q.v q.n q.xs C ⟨g,0,none⟩ m c cs.toList (by simpa using hm)
   G (fun u f=>List.all_eq_true.1 h1 u f) hlen hby (Nat.zero_le _)
  have a1:∃ g' c',v' = .slice (Option.some ⟨g',0,none⟩) (q.n+m) c'∧q.n+m≤c'∧c'≤maxLen:=by
   rcases N.2 with⟨_,b⟩ | ⟨g',c',_,a,_,_,b1,b2,_⟩
   ·omega
   ·exact⟨g',c',a,b1,b2⟩
  obtain⟨g',c',ev',a2,a3⟩:=a1
  subst e3
  refine mz (.inl ?_) (h v' (q.n+m) (q.xs++cs.toList) 0 v' w' (.inr ⟨g',c',0,ev',by omega,a2,a3,fun _=>by simp,by rw [ev'];rfl⟩) (by simp) (by omega) (by omega) (S.grew (q':=⟨q.e,q.size,v',q.n+m,q.xs++cs.toList⟩) hi Z N a0))
  rw [e1] at M
  simp [execOp,resolve,invoke,builtin,hs,hx,e4,M]
 ·subst e6
  have D:=C.1
  rcases C.2 with⟨a,_⟩ | ⟨g2,cap,cur,a,hbg,hg,hnc,hcm,hcs,htake⟩
  ·rw [e1] at a;cases a
  rw [e1] at a
  injection a with B ab a4
  injection B with B
  injection B with B
  subst B a4
  by_cases a5:q.n - k+m≤cq - k
  ·have y:k<cq:=by omega
   have a6:=e5 y
   subst a6
   have O:k * q.size+(q.n - k) * q.size=q.n * q.size:=by rw [← Nat.add_mul];congr 1;omega
   have a7:k * q.size+(q.n - k) * inf.size+cs.toList.length≤cur.size:=by
    rw [p,O]
    have:(q.n+m) * q.size≤cq * q.size:=Nat.mul_le_mul_right _ (by omega)
    rw [Nat.add_mul] at this
    simp only [Array.length_toList];omega
   have A:=CI (P:=P) w t ty q.e inf E F gq (k * q.size) (q.n - k) (cq - k) cur hg ⟨g,0,none⟩ m c cs.toList (by rw [p];simpa using hm) G (fun u f=>List.all_eq_true.1 h1 u f) a5 a7
   rw [p,O] at A
   have R:(q.xs++cs.toList).length=(q.n+m) * q.size:=by rw [List.length_append,D,Nat.add_mul];simp only [Array.length_toList,hm]
   obtain⟨arr,r⟩:∃ arr,arr=(cur.toList.take (q.n * q.size)++cs.toList++cur.toList.drop (q.n * q.size+cs.toList.length)).toArray:=⟨_,rfl⟩
   rw [← r] at A
   refine mz (w':=w.setRow gq arr) (v:=.slice (Option.some ⟨gq,k * q.size,none⟩) (q.n - k+m) (cq - k)) (.inl ?_) (h (.slice (Option.some ⟨gq,0,none⟩) (q.n+m) cq) (q.n+m) (q.xs++cs.toList) k (.slice (Option.some ⟨gq,k * q.size,none⟩) (q.n - k+m) (cq - k)) (w.setRow gq arr) (.inr ⟨gq,cq,k * q.size,rfl,by omega,by omega,hcm,fun _=>rfl,by congr 1;omega⟩) (by
     rw [List.drop_append_of_le_length];rw [D];exact Nat.mul_le_mul_right _ e2) (by omega) (by omega)
    (S.grew (q':=⟨q.e,q.size,.slice (Option.some ⟨gq,0,none⟩) (q.n+m) cq,q.n+m,q.xs++cs.toList⟩) hi (by rw [e1];exact qp w gq arr) ⟨R,.inr ⟨gq,cq,arr,rfl,Nat.zero_le _,setRow_heap w gq cur arr q.e _ hg,(show q.n+m≤cq by omega),hcm,?_,?_⟩⟩ (.inl (by rw [e1];rfl))))
   ·simp [execOp,resolve,invoke,builtin,hs,hx,A]
   ·have:(q.n+m) * q.size≤cq * q.size:=Nat.mul_le_mul_right _ (by omega)
    rw [r];simp only [List.size_toArray,List.length_append,List.length_take,List.length_drop,Array.length_toList]
    rw [Nat.add_mul] at this
    omega
   ·show List.take ((q.n+m) * q.size) _=_
    rw [r,htake,← R]
    exact List.take_left
  ·have a8:∀ j u,(q.xs.drop (k * q.size))[j]? = some u→w.cell? ((⟨gq,o,none⟩:Addr).add j)=some u:=fun j u f=>by
    rw [List.getElem?_drop] at f
    have a9:=(List.getElem?_eq_some_iff.1 f).1
    have y:k<cq:=by
     rcases Nat.lt_or_ge k cq with y | y
     ·exact y
     ·rw [D] at a9
      have:q.n * q.size≤k * q.size:=Nat.mul_le_mul_right _ (by omega)
      omega
    rw [e5 y,Addr.add_mid]
    have:=C.cells (g:=gq) (by rw [e1];rfl) _ _ f
    rwa [Addr.add_mid,Nat.zero_add] at this
   have H:(q.xs.drop (k * q.size)).length=(q.n - k) * inf.size:=by rw [List.length_drop,D,p,← Nat.sub_mul]
   have ac:maxLen=9223372036854775807:=rfl
   have U:=grownCap_ge w (q.n - k+m) (cq - k) q.e
   have V:grownCap w (q.n - k+m) (cq - k) q.e≤maxLen:=grownCap_le_maxLen w _ _ _ (by omega)
   have aa:(q.n - k+m) * bytes≤140737488355328:=Nat.le_trans (Nat.mul_le_mul_right _ (by omega)) hby
   have A:=run_append_grow (P:=P) w t ty q.e inf z E F I ⟨gq,o,none⟩ (q.n - k) (cq - k) (q.xs.drop (k * q.size)) H a8 ⟨g,0,none⟩ m c cs.toList (by rw [p];simpa using hm) G (by omega) (by omega) (growslice_fits (by omega) (by rw [J];exact aa))
   obtain⟨arr,r⟩:∃ arr,arr=(q.xs.drop (k * q.size)).toArray++cs.toList.toArray++Builtin.zeroCells z.cells (grownCap w (q.n - k+m) (cq - k) q.e - (q.n - k+m)):=⟨_,rfl⟩
   rw [← r] at A
   have Y:(q.xs.drop (k * q.size)++cs.toList).length=(q.n - k+m) * q.size:=by rw [List.length_append,H,Nat.add_mul,p];simp only [Array.length_toList,hm]
   refine mz (w':=w.drew.alloc (.cells arr q.e)) (v:=.slice (Option.some ⟨w.heap.size,0,none⟩) (q.n - k+m) (grownCap w (q.n - k+m) (cq - k) q.e)) (.inl ?_) (h (.slice (Option.some ⟨w.heap.size,0,none⟩) (q.n - k+m) (grownCap w (q.n - k+m) (cq - k) q.e)) (q.n - k+m) (q.xs.drop (k * q.size)++cs.toList) 0 _ _ (.inr ⟨w.heap.size,_,0,rfl,by omega,U,V,fun _=>by simp,rfl⟩) (by simp) (by omega) (by omega)
    (S.grew (q':=⟨q.e,q.size,.slice (Option.some ⟨w.heap.size,0,none⟩) (q.n - k+m) (grownCap w (q.n - k+m) (cq - k) q.e),q.n - k+m,q.xs.drop (k * q.size)++cs.toList⟩) hi ⟨rfl,rfl,rfl,by simp,fun b hb _=>heap_alloc_old w.drew _ hb⟩ ⟨Y,.inr ⟨w.heap.size,_,arr,rfl,Nat.zero_le _,heap_alloc_new w.drew _,U,V,?_,?_⟩⟩ (.inr rfl)))
   ·simp [execOp,resolve,invoke,builtin,hs,hx,A]
   ·rw [r];simp only [Array.size_append,List.size_toArray,size_zeroCells,L,H,hm,p,← Nat.add_mul]
    congr 1;omega
   ·show List.take ((q.n - k+m) * q.size) _=_
    rw [r];simp only [Array.toList_append,List.append_assoc]
    rw [← List.append_assoc,← Y]
    exact List.take_left
end
theorem St.leX{X:List Nat}{W w:World}{r0 rd rl:Rd}{bx:List je}{ow:List h7}(S:St X W r0 rd bx ow w)(h:Rd.le rl (fX W))(hX:∀ g∈X,∀ o,rl g o=none):Rd.le rl (fX w):=fun b o v e=>by
 have h1:=h _ _ _ e
 have hlt:=o8 h1
 have hn:b ∉ X:=fun k=>by rw [hX b k o] at e;cases e
 exact(World.cell?_of_block (w:=W) (a:=⟨b,o,none⟩) (S.fr.block b hlt hn)).trans h1
theorem fQ.put{α:Type}{size:Nat}{R:CR α}{rd:Rd}{xs cs:List Value}{l:List α}{k:Nat}{x:α}(h:fQ size R rd xs l)(hk:k<l.length)(hc:cs.length=size)(hx:R rd cs x):fQ size R rd (xs.take (k * size)++cs++xs.drop (k * size+cs.length)) (l.set k x):=by
 have e:l.set k x=(l.take k++[x])++l.drop (k+1):=by
  rw [List.set_eq_take_append_cons_drop,if_pos hk];simp
 rw [e]
 refine fQ.append ((h.take k).push hc hx) ?_
 have:=h.drop (k+1) hk
 rw [Nat.add_mul,Nat.one_mul] at this
 rw [hc];exact this
theorem St.ofOwn{α:Type}{size:Nat}{R:CR α}[i9 R]{W w:World}{r0:Rd}{e:TypeId}{v:Value}{l:List α}(hle:Rd.le r0 (fX W))(k:Below W.heap.size W w)(hO:hJ size R W.heap.size e w (jW w W.heap.size v.ownBlock) v l) :
  ∃ xs rd',St [] W r0 rd' [] [⟨e,size,v,l.length,xs⟩] w∧fQ size R rd' xs l:=by
 obtain⟨xs,f,i⟩:=hO
 have S:=(St.start (X:=[]) hle).ownAdd k (q:=⟨e,size,v,l.length,xs⟩) f
 refine⟨xs,fun b o=>if b<W.heap.size then r0 b o else if some b=v.ownBlock then none else w.cell? ⟨b,o,none⟩,⟨S.fr,fun b o u a h => ?_,fun b o u h => ?_,fun b o u h => ?_,by simp,fun q c=>⟨(S.own q c).1,fun g d=>⟨((S.own q c).2 g d).1,fun o => ?_⟩⟩,S.d1,S.d2,S.d3⟩,rm i fun b o u h => ?_⟩
 ·rw [if_pos a] at h;exact h
 ·have:=o8 (hle _ _ _ h);rw [if_pos this];exact h
 ·split at h
  ·exact S.le _ _ _ h
  ·split at h
   ·cases h
   ·exact h
 ·have j:q=⟨e,size,v,l.length,xs⟩:=by simpa using c
  subst j
  have m:=(f.lt g d).1
  rw [if_neg (by omega),if_pos (by rw [d])]
 ·unfold jW at h;split at h
  ·rename_i a
   rw [if_neg (by omega),if_neg a.2];exact h
  ·cases h
end
section
theorem sN(x y:ga)(w:World):(Op.equalIn 10000 104 (.agg #[.bool x.set,.int .i64 x.key,.int .i64 x.item,.int .i64 x.author,.int .i64 x.seq]) (.agg #[.bool y.set,.int .i64 y.key,.int .i64 y.item,.int .i64 y.author,.int .i64 y.seq])).run Tryz.prog w = .ok (decide (x=y)) w:=by
  have r:=Tryz.underlying3
  have s:=Tryz.underlying4
  have a:Tryz.prog.underlying 104=some (.struct (Tryz.prog.fieldsOf 104)):=by kernel_rfl
  have b:Tryz.prog.stoodInHeld 104=false:=by kernel_rfl
  rw [show(10000:Nat)=9999+1 from rfl,run_equalIn_agg w 9999 104 _ _ a b]
  simp only [Program.fieldsOf,Tryz.underlying104]
  go_simp
  obtain⟨c,d,e,f,g⟩:=x
  obtain⟨h,i,j,k,l⟩:=y
  by_cases m:c=h <;> by_cases n:d=i <;> by_cases o:e=j <;> by_cases p:f=k <;> by_cases q:g=l <;> simp [m,n,o,p,q]
theorem yc(x y:Tally)(w:World):(Op.equalIn 10000 106 (.agg #[.int .i64 x.key,.int .i64 x.author,.int .i64 x.sum]) (.agg #[.int .i64 y.key,.int .i64 y.author,.int .i64 y.sum])).run Tryz.prog w = .ok (decide (x=y)) w:=by
  have l:=Tryz.underlying3
  have a:Tryz.prog.underlying 106=some (.struct (Tryz.prog.fieldsOf 106)):=by kernel_rfl
  have b:Tryz.prog.stoodInHeld 106=false:=by kernel_rfl
  rw [show(10000:Nat)=9999+1 from rfl,run_equalIn_agg w 9999 106 _ _ a b]
  simp only [Program.fieldsOf,Tryz.underlying106]
  go_simp
  obtain⟨c,d,e⟩:=x
  obtain⟨f,g,h⟩:=y
  by_cases i:c=f <;> by_cases j:d=g <;> by_cases k:e=h <;> simp [i,j,k]
section
variable {x y:jQ} (w:World)
end
section
variable {x y:ga} (w:World)
theorem yB(h:x=y):(binOp .eql 104 (.agg #[.bool x.set,.int .i64 x.key,.int .i64 x.item,.int .i64 x.author,.int .i64 x.seq]) (.agg #[.bool y.set,.int .i64 y.key,.int .i64 y.item,.int .i64 y.author,.int .i64 y.seq])).run Tryz.prog w = .ok (.bool true) w:=by rw [run_eql_struct,sN,decide_eq_true h];rfl
theorem yD(h:¬ x=y):(binOp .eql 104 (.agg #[.bool x.set,.int .i64 x.key,.int .i64 x.item,.int .i64 x.author,.int .i64 x.seq]) (.agg #[.bool y.set,.int .i64 y.key,.int .i64 y.item,.int .i64 y.author,.int .i64 y.seq])).run Tryz.prog w = .ok (.bool false) w:=by rw [run_eql_struct,sN,decide_eq_false h];rfl
theorem AR(h:¬ x=y):(binOp .neq 104 (.agg #[.bool x.set,.int .i64 x.key,.int .i64 x.item,.int .i64 x.author,.int .i64 x.seq]) (.agg #[.bool y.set,.int .i64 y.key,.int .i64 y.item,.int .i64 y.author,.int .i64 y.seq])).run Tryz.prog w = .ok (.bool true) w:=by rw [run_neq_struct,sN,decide_eq_false h];rfl
theorem DR(h:x=y):(binOp .neq 104 (.agg #[.bool x.set,.int .i64 x.key,.int .i64 x.item,.int .i64 x.author,.int .i64 x.seq]) (.agg #[.bool y.set,.int .i64 y.key,.int .i64 y.item,.int .i64 y.author,.int .i64 y.seq])).run Tryz.prog w = .ok (.bool false) w:=by rw [run_neq_struct,sN,decide_eq_true h];rfl
end
section
variable {x y:Tally} (w:World)
theorem EM(h:¬ x=y):(binOp .neq 106 (.agg #[.int .i64 x.key,.int .i64 x.author,.int .i64 x.sum]) (.agg #[.int .i64 y.key,.int .i64 y.author,.int .i64 y.sum])).run Tryz.prog w = .ok (.bool true) w:=by rw [run_neq_struct,yc,decide_eq_false h];rfl
theorem CQ(h:x=y):(binOp .neq 106 (.agg #[.int .i64 x.key,.int .i64 x.author,.int .i64 x.sum]) (.agg #[.int .i64 y.key,.int .i64 y.author,.int .i64 y.sum])).run Tryz.prog w = .ok (.bool false) w:=by rw [run_neq_struct,yc,decide_eq_true h];rfl
end
end
end Go.Proofs.YtkjknlnhffmkkacGreat
