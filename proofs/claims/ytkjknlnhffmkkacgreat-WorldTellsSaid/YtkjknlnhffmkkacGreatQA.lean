/- Part of the proof of WorldTells: lemmas; no condition. -/
import Derived.WalkKit
import Derived.Maps.AppendAt
import Derived.Deep.AppendLies
import Derived.Deep.Draws
set_option linter.unusedVariables false
set_option linter.unusedSimpArgs false
set_option maxRecDepth 100000
set_option maxHeartbeats 16000000
namespace Go.Proofs.YtkjknlnhffmkkacGreat
open Go.RowKit
section
theorem il:maxLen=9223372036854775807:=rfl
theorem j3{p:Prop}(h:p):Hid p:=h
theorem oN{k:IntKind}{a b:Int}(h:a=b):Ending.returned (.int k a) = .returned (.int k b):=by rw [h]
theorem ro{a b:Bool}(h:a=b):Ending.returned (.bool a) = .returned (.bool b):=by rw [h]
abbrev Rd:=Nat→Nat→Option Value
def fX(w:World):Rd:=fun b o=>w.cell? ⟨b,o,none⟩
def F8(w:World)(g:Option Nat):Rd:=fun b o=>if some b=g then none else w.cell? ⟨b,o,none⟩
def qI(w:World)(B:Nat):Rd:=fun b o=>if b<B then w.cell? ⟨b,o,none⟩ else none
def Rd.le(r s:Rd):Prop:=∀ b o v,r b o=some v→s b o=some v
theorem Rd.le_refl(r:Rd):Rd.le r r:=fun _ _ _ h=>h
theorem fZ{r:Rd}:Rd.le r r:=Rd.le_refl r
theorem fY{r s t:Rd}(h:Rd.le r s)(k:Rd.le s t):Rd.le r t:=fun b o v e=>k b o v (h b o v e)
theorem p6(B:Nat)(w:World)(n:Nat):Below B w (w.drewN n):=⟨rfl,rfl,rfl,Nat.le_refl _,fun _ _=>rfl⟩
theorem o8{w:World}{b o:Nat}{v:Value}(h:w.cell? ⟨b,o,none⟩=some v):b<w.heap.size:=World.block_lt_of_cell? w ⟨b,o,none⟩ h
theorem p2{w w':World}{B:Nat}(hb:Below B w w')(hB:w.heap.size≤B):Rd.le (fX w) (fX w'):=fun b o v h=>by
 have:=o8 h
 exact(hb.cell (p:=⟨b,o,none⟩) (by show b<B;omega)).trans h
theorem rt(w:World)(o:Obj):Rd.le (fX w) (fX (w.alloc o)):=p2 ((Below.refl _ _).alloc (Nat.le_refl _) o) (Nat.le_refl _)
theorem Ci(w:World):Rd.le (fX w) (qI w w.heap.size):=fun b o v h=>by
 unfold qI
 rw [if_pos (o8 h)]
 exact h
theorem sz{w0 w:World}{B:Nat}(hb:Below B w0 w):Rd.le (qI w0 B) (fX w):=fun b o v h=>by
 unfold qI at h
 split at h
 ·rename_i hlt
  exact(hb.cell (p:=⟨b,o,none⟩) hlt).trans h
 ·cases h
abbrev CR(α:Type):=Rd→List Value→α→Prop
def p7{α:Type}(R:CR α):Prop:=∀ r s cs x,Rd.le r s→R r cs x→R s cs x
def fQ{α:Type}(size:Nat)(R:CR α)(rd:Rd):List Value→List α→Prop
 | xs,[]=>xs=[]
 | xs,x :: l => ∃ cs rest,xs=cs++rest∧cs.length=size∧R rd cs x∧fQ size R rd rest l
section
variable {α:Type} {size:Nat} {R:CR α} {rd:Rd}
theorem fQ.len:∀ {l:List α} {xs:List Value},fQ size R rd xs l→xs.length=l.length * size
 | [],_,h=>by cases h;simp
 | x :: l,_,⟨cs,rest,e,h1,_,h3⟩=>by
  subst e
  have:=h3.len
  simp [h1,this,Nat.add_mul,Nat.add_comm]
theorem fQ.mono{rd':Rd}(hm:p7 R)(hle:Rd.le rd rd'):∀ {l:List α} {xs:List Value},fQ size R rd xs l→fQ size R rd' xs l
 | [],_,h=>h
 | _ :: _,_,⟨cs,rest,e,h1,h2,h3⟩=>⟨cs,rest,e,h1,hm _ _ _ _ hle h2,h3.mono hm hle⟩
theorem fQ.append:∀ {l m:List α} {xs ys:List Value},fQ size R rd xs l→fQ size R rd ys m→fQ size R rd (xs++ys) (l++m)
 | [],_,_,_,h,k=>by cases h;exact k
 | _ :: _,_,_,_,⟨cs,rest,e,h1,h2,h3⟩,k=>⟨cs,rest++_,by rw [e,List.append_assoc],h1,h2,h3.append k⟩
theorem fQ.one{cs:List Value}{x:α}(h1:cs.length=size)(h:R rd cs x):fQ size R rd cs [x]:=⟨cs,[],by simp,h1,h,rfl⟩
theorem fQ.push{l:List α}{xs cs:List Value}{x:α}(h:fQ size R rd xs l)(h1:cs.length=size)(hx:R rd cs x):fQ size R rd (xs++cs) (l++[x]):=h.append (fQ.one h1 hx)
theorem fQ.get:∀ {l:List α} {xs:List Value} (k:Nat) {x:α},fQ size R rd xs l→l[k]? = some x →
  ∃ cs,cs.length=size∧R rd cs x ∧ ∀ j u,cs[j]? = some u→xs[k * size+j]? = some u
 | [],_,k,x,_,hk=>by simp at hk
 | y :: l,_,0,x,⟨cs,rest,e,h1,h2,h3⟩,hk=>by
  simp at hk;subst hk;subst e
  refine⟨cs,h1,h2,fun j u hu => ?_⟩
  have hj:j<cs.length:=(List.getElem?_eq_some_iff.1 hu).1
  rw [Nat.zero_mul,Nat.zero_add,List.getElem?_append_left hj]
  exact hu
 | y :: l,_,k+1,x,⟨cs,rest,e,h1,h2,h3⟩,hk=>by
  subst e
  obtain⟨cs',a,b,c⟩:=h3.get k (by simpa using hk)
  refine⟨cs',a,b,fun j u hu => ?_⟩
  rw [List.getElem?_append_right (by rw [h1,Nat.add_mul];omega)]
  rw [← c j u hu]
  congr 1
  rw [h1,Nat.add_mul]
  omega
theorem fQ.drop:∀ {l:List α} {xs:List Value} (k:Nat),k≤l.length→fQ size R rd xs l→fQ size R rd (xs.drop (k * size)) (l.drop k)
 | _,_,0,_,h=>by simpa using h
 | [],_,k+1,hk,h=>by simp at hk
 | y :: l,_,k+1,hk,⟨cs,rest,e,h1,h2,h3⟩=>by
  subst e
  have:=h3.drop k (by simpa using hk)
  rw [List.drop_succ_cons,Nat.add_mul,Nat.add_comm (k * size),Nat.one_mul,← List.drop_drop]
  rw [show(cs++rest).drop size=rest by rw [← h1];simp]
  exact this
theorem fQ.take:∀ {l:List α} {xs:List Value} (k:Nat),fQ size R rd xs l→fQ size R rd (xs.take (k * size)) (l.take k)
 | _,_,0,h=>by simp [fQ]
 | [],_,k+1,h=>by cases h;simp [fQ]
 | y :: l,_,k+1,⟨cs,rest,e,h1,h2,h3⟩=>by
  subst e
  have:=h3.take k
  refine⟨cs,rest.take (k * size),?_,h1,h2,this⟩
  rw [Nat.add_mul,Nat.add_comm (k * size),Nat.one_mul,List.take_append,List.take_of_length_le (by omega),h1]
  simp
end
def fN{α:Type}(size:Nat)(R:CR α)(rd:Rd)(v:Value)(l:List α):Prop :=
 ∃ A c xs,v = .slice A l.length c∧l.length≤c∧c≤maxLen∧fQ size R rd xs l ∧
  (l ≠ [] → ∃ b o,A=some ⟨b,o,none⟩ ∧ ∀ j u,xs[j]? = some u→rd b (o+j)=some u)
section
variable {α:Type} {size:Nat} {R:CR α} {rd:Rd}
theorem fN.mono{rd':Rd}{v:Value}{l:List α}(h:fN size R rd v l)(hm:p7 R)(hle:Rd.le rd rd'):fN size R rd' v l:=by
 obtain⟨A,c,xs,e,a,d,f,g⟩:=h
 refine⟨A,c,xs,e,a,d,f.mono hm hle,fun i => ?_⟩
 obtain⟨b,o,eA,k⟩:=g i
 exact⟨b,o,eA,fun j u m=>hle _ _ _ (k j u m)⟩
theorem fN.len{A:Option Addr}{n c:Nat}{l:List α}(h:fN size R rd (.slice A n c) l):n=l.length∧n≤c∧c≤maxLen:=by
 obtain⟨_,_,_,e,a,b,_⟩:=h
 injection e with g d f
 subst d f
 exact⟨rfl,a,b⟩
theorem fN.val{v:Value}{l:List α}(h:fN size R rd v l):∃ A c,v = .slice A l.length c∧l.length≤c∧c≤maxLen:=by
 obtain⟨A,c,_,e,a,b,_⟩:=h
 exact⟨A,c,e,a,b⟩
theorem fN.get{A:Option Addr}{n c:Nat}{l:List α}{k:Nat}{x:α}(h:fN size R rd (.slice A n c) l)(hk:l[k]? = some x) :
  ∃ b o cs,A=some ⟨b,o,none⟩∧cs.length=size∧R rd cs x ∧ ∀ j u,cs[j]? = some u→rd b (o+k * size+j)=some u:=by
 obtain⟨_,_,_,e,_,_,a,d⟩:=h
 injection e with f r s
 subst f
 obtain⟨b,o,eA,g⟩:=d (by intro e;subst e;simp at hk)
 obtain⟨cs,i,m,p⟩:=a.get k hk
 exact⟨b,o,cs,eA,i,m,fun j u q=>by have:=g _ _ (p j u q);rwa [← Nat.add_assoc] at this⟩
theorem fN.nil_(rd:Rd):fN size R rd (.slice none 0 0) ([]:List α):=⟨none,0,[],rfl,Nat.le_refl _,by simp [maxLen],rfl,fun h=>absurd rfl h⟩
end
theorem fU{α:Type}{size:Nat}{R:CR α}{rd:Rd}:fN size R rd (.slice none 0 0) ([]:List α):=fN.nil_ rd
section
variable {α:Type} {size:Nat} {R:CR α} {rd:Rd}
theorem fN.empty_(rd:Rd)(A:Option Addr)(c:Nat)(hc:c≤maxLen):fN size R rd (.slice A 0 c) ([]:List α):=⟨A,c,[],rfl,Nat.zero_le _,hc,rfl,fun h=>absurd rfl h⟩
end
def ge:CR Int:=fun _ cs n=>cs=[.int .i64 n]
def jy{α:Type}(size:Nat)(R:CR α):CR (List α):=fun rd cs l => ∃ v,cs=[v]∧fN size R rd v l
theorem jy.d{α:Type}{size:Nat}{R:CR α}{rd:Rd}{cs:List Value}{l:List α}(h:jy size R rd cs l):∃ A0 c0,cs=[.slice A0 l.length c0]∧fN size R rd (.slice A0 l.length c0) l∧(l.length≤c0∧c0≤maxLen):=by
 obtain⟨_,e,a⟩:=h
 obtain⟨A0,c0,b,c⟩:=a.val
 subst b
 exact⟨A0,c0,e,a,c⟩
theorem sH:p7 ge:=fun _ _ _ _ _ h=>h
theorem Bu{α:Type}{size:Nat}{R:CR α}(hm:p7 R):p7 (jy size R):=fun _ _ _ _ hle ⟨v,e,h⟩=>⟨v,e,h.mono hm hle⟩
def fW{α:Type}(R:CR α):Rd→Value→α→Prop:=fun rd v x => ∃ cs,v = .agg cs.toArray∧R rd cs x
abbrev iC:=fN 1 ge
theorem iC.mono{rd rd':Rd}{v:Value}{l:List Int}(h:iC rd v l)(hle:Rd.le rd rd'):iC rd' v l:=fN.mono h sH hle
theorem iC.at_{rd:Rd}{A:Option Addr}{n c:Nat}{l:List Int}(h:iC rd (.slice A n c) l){k:Nat}(hk:k<l.length) :
  ∃ b o,A=some ⟨b,o,none⟩∧rd b (o+k)=some (.int .i64 l[k]):=by
 obtain⟨b,o,_,e,_,a,d⟩:=fN.get h (k:=k) (x:=l[k]) (by simp [hk])
 cases a
 exact⟨b,o,e,by simpa using d 0 _ rfl⟩
theorem iC.cell{rd:Rd}{b o n c:Nat}{l:List Int}(h:iC rd (.slice (some ⟨b,o,none⟩) n c) l){w:World}(hle:Rd.le rd (fX w)){k:Nat}(hk:k<l.length):w.cell? ⟨b,o+k,none⟩=some (.int .i64 l[k]):=by
 obtain⟨_,_,e,a⟩:=h.at_ hk
 cases e
 exact hle _ _ _ a
def hJ{α:Type}(size:Nat)(R:CR α)(base:Nat)(e:TypeId)(w:World)(rd:Rd)(v:Value)(l:List α):Prop :=
 ∃ xs,w.ownsRow base e size v l.length xs∧fQ size R rd xs l
section
variable {α:Type} {size base:Nat} {R:CR α} {rd:Rd} {e:TypeId} {w:World} {v:Value} {l:List α}
theorem hJ.nil_:hJ size R base e w rd (.slice none 0 0) ([]:List α):=⟨[],World.ownsRow_nil w base e size,rfl⟩
theorem hJ.block(h:hJ size R base e w rd v l):∀ k,v.ownBlock=some k→base≤k∧k<w.heap.size:=by
 obtain⟨_,a,_⟩:=h
 exact a.lt
theorem hJ.mono{rd':Rd}(h:hJ size R base e w rd v l)(hm:p7 R)(hle:Rd.le rd rd'):hJ size R base e w rd' v l:=by
 obtain⟨xs,a,b⟩:=h
 exact⟨xs,a,b.mono hm hle⟩
theorem hJ.below{w':World}(h:hJ size R base e w rd v l)(hb:Below w.heap.size w w'):hJ size R base e w' rd v l:=by
 obtain⟨xs,a,b⟩:=h
 exact⟨xs,a.kept (row:=none) ⟨hb.os,hb.tape,hb.output,hb.size,fun k c _=>hb.block k c⟩ (by cases d:v.ownBlock <;> simp),b⟩
theorem hJ.alloc(h:hJ size R base e w rd v l)(o:Obj):hJ size R base e (w.alloc o) rd v l:=h.below ((Below.refl _ _).alloc (Nat.le_refl _) o)
theorem hJ.slice(h:hJ size R base e w rd v l)(hm:p7 R)(hle:Rd.le rd (fX w)):fN size R (fX w) v l:=by
 obtain⟨xs,a,b⟩:=h
 have c:=a
 rcases a.2 with⟨rfl,hn⟩ | ⟨g,cap,cur,rfl,_,hh,hc,hm',_⟩
 ·have:l=[]:=List.eq_nil_of_length_eq_zero hn
  subst this
  exact fN.nil_ _
 ·refine⟨some ⟨g,0,none⟩,cap,xs,rfl,hc,hm',b.mono hm hle,fun _=>⟨g,0,rfl,fun j u d => ?_⟩⟩
  have:=c.cells (g:=g) rfl j u d
  have e:(⟨g,0,none⟩:Addr).add j=⟨g,j,none⟩:=by unfold Addr.add;split <;> simp_all
  rw [e] at this
  simpa [fX] using this
theorem hJ.val(h:hJ size R base e w rd v l):∃ A c,v = .slice A l.length c∧l.length≤c∧c≤maxLen:=by
 obtain⟨_,a,_⟩:=h
 rcases a.2 with⟨rfl,hn⟩ | ⟨g,cap,cur,rfl,_,hh,hc,hm',_⟩
 ·exact⟨none,0,by rw [hn],by omega,by simp [maxLen]⟩
 ·exact⟨_,_,rfl,hc,hm'⟩
end
theorem vE{w w':World}{base:Nat}{row:Option Nat}(hg:w.grownBy w' row)(hB:base≤w.heap.size)(hr:∀ k,row=some k→base≤k):Below base w w' :=
 (Below.refl _ _).grown hg hB hr
theorem q4(w:World)(cs:List Value)(e:TypeId)(f:Nat × Nat):∀ (j:Nat) (u:Value),cs[j]? = some u→(w.alloc (.cells cs.toArray e f)).cell? ⟨w.heap.size,j,none⟩=some u:=by
 intro j u a
 rw [cell_of_row _ w.heap.size j cs.toArray e f (heap_alloc_new w _)]
 simpa using a
structure li (P:Program) (t e:TypeId) (size bytes:Nat):Prop where
 ex:∃ (i:TypeInfo) (z:Value),P.underlying t=some (.slice e)∧P.info? e=some i∧i.zero=some z∧i.size=size∧i.bytes=bytes∧z.cells.size=size∧0<size
theorem pI{α:Type}{P:Program}(w:World){ops:Array Oper}{rest:List Oper}{o:Oper}{a:Act}{Q:Exit→Act→World→Prop}(hgd:o.guard=none)(s x:Operand)(t:TypeId)
  (ho:o.op = .call { callee:=.builtin .append,args:=#[s,x],argTypes:=#[t,t] })
  {size:Nat} {R:CR α} (base:Nat) (e:TypeId) (bytes:Nat) (K:li P t e size bytes) (rd:Rd) (v:Value) (l:List α) (hs:a.eval s=v) (hown:hJ size R base e w rd v l)
  (b:Nat) (c:Nat) (news:List Value) (y:α) (hx:a.eval x = .slice (some ⟨b,0,none⟩) 1 c) (hl:news.length=size) (hnews:∀ j u,news[j]? = some u→w.cell? ⟨b,j,none⟩=some u) (h1:∀ u∈news,u.oneCell'=true)
  (hR:R rd news y) (hbytes:(l.length+1) * bytes≤140737488355328∧l.length+1≤maxLen) (hbase:base≤w.heap.size)
  (h:∀ v' w',hJ size R base e w' rd v' (l++[y])→Below base w w'→w.grownBy w' v.ownBlock→(v'.ownBlock=v.ownBlock∨v'.ownBlock=some w.heap.size)→wpList P ops Q rest (a.put o.dst v') w'):wpList P ops Q (o :: rest) a w:=by
 obtain⟨i,z,g,m,n,p,q,r,A⟩:=K.ex
 obtain⟨xs,d,B⟩:=hown
 refine wpList_plain hgd fun _ C => ?_
 obtain⟨v',w',D,E,f,_,F⟩:=run_append_own_at (P:=P) w base t o.type e i z size bytes g m n p q r A v l.length xs d ⟨b,0,none⟩ 1 c news (by simp [hl])
  (fun j u G=>by have:=hnews j u G;rw [show(⟨b,0,none⟩:Addr).add j=⟨b,j,none⟩ by unfold Addr.add;split <;> simp_all];exact this) h1 (by omega) hbytes.1 hbase
 unfold Oper.wp execOp
 simp only [ho,resolve,invoke,builtin,Sem.run_bind,Sem.run_pure,Result.andThen_ok,List.map_toArray,List.map_cons,List.map_nil,hs,hx,D]
 exact C _ _ (h v' w' ⟨xs++news,by simpa using E,B.push hl hR⟩ (vE f hbase fun k H=>(d.lt k H).1) f F)
def qx{α:Type}(R:CR α):Prop:=∀ rd cs x,R rd cs x → ∀ u∈cs,u.oneCell'=true
theorem yu:qx ge:=fun _ cs x h u hu=>by cases h;rw [List.mem_singleton.1 hu];rfl
theorem Ce{α:Type}{size:Nat}{R:CR α}:qx (jy size R):=fun _ cs x ⟨v,e,A,c,xs,ev,_⟩ u hu=>by
 subst e ev;rw [List.mem_singleton.1 hu];rfl
theorem fQ.one_{α:Type}{size:Nat}{R:CR α}{rd:Rd}(h1:qx R):∀ {l:List α} {xs:List Value},fQ size R rd xs l → ∀ u∈xs,u.oneCell'=true
 | [],_,h,u,hu=>by cases h;cases hu
 | _ :: _,_,⟨cs,rest,e,_,h2,h3⟩,u,hu=>by
  subst e
  rcases List.mem_append.1 hu with h | h
  ·exact h1 _ _ _ h2 u h
  ·exact h3.one_ h1 u h
theorem A7{P:Program}(w:World)(base:Nat)(t ty e:TypeId)(i:TypeInfo)(size:Nat)(ht:P.underlying t=some (.slice e))(hi:P.info? e=some i)
  (v:Value) (n:Nat) (xs:List Value) (hown:w.ownsRow base e size v n xs) (c:Nat):(Builtin.append_ #[t,t] ty #[v,.slice none 0 c]).run P w = .ok v w:=by
 rcases hown.2 with⟨rfl,rfl⟩ | ⟨g,cap,cur,rfl,_,_,hnc,_⟩
 ·simp [Builtin.append_,run_underlying ht,sizeOf,typeInfo,hi,Builtin.lenOf,Builtin.firstCells]
 ·simp [Builtin.append_,run_underlying ht,sizeOf,typeInfo,hi,Builtin.lenOf,Builtin.firstCells,hnc,storeCells]
theorem Cw{α:Type}{P:Program}(w:World)(t ty:TypeId){size:Nat}{R:CR α}(base:Nat)(e:TypeId)(bytes:Nat)(K:li P t e size bytes)(rd:Rd)(hle:Rd.le rd (fX w))(h1:qx R)
  (v u:Value) (l m:List α) (hown:hJ size R base e w rd v l) (hu:fN size R rd u m) (hbytes:(l.length+m.length) * bytes≤140737488355328∧l.length+m.length≤maxLen) (hbase:base≤w.heap.size) :
  ∃ v' w',(Builtin.append_ #[t,t] ty #[v,u]).run P w = .ok v' w'∧hJ size R base e w' rd v' (l++m)∧Below base w w'∧w.grownBy w' v.ownBlock∧(v'.ownBlock=v.ownBlock∨v'.ownBlock=some w.heap.size):=by
 obtain⟨i,z,g,h,x,B,C,D,E⟩:=K.ex
 obtain⟨xs,a,n⟩:=hown
 obtain⟨A,c,ys,rfl,_,_,f,F⟩:=hu
 rcases m with _ | ⟨y,m⟩
 ·have G:ys=[]:=by simpa [fQ] using f
  subst G
  rcases A with _ | ad
  ·exact⟨v,w,A7 w base t ty e i size g h v _ xs a c,⟨xs,by simpa using a,by simpa using n⟩,Below.refl _ _,World.grownBy.refl w _,.inl rfl⟩
  ·obtain⟨v',w',p,q,d,_,r⟩:=run_append_own_at (P:=P) w base t ty e i z size bytes g h x B C D E v l.length xs a ad 0 c [] (by simp) (by simp) (by simp) (by simpa using hbytes.2) (by simpa using hbytes.1) hbase
   exact⟨v',w',p,⟨xs,by simpa using q,by simpa using n⟩,vE d hbase fun k s=>(a.lt k s).1,d,r⟩
 ·obtain⟨b,o,rfl,H⟩:=F (by simp)
  obtain⟨v',w',p,q,d,_,r⟩:=run_append_own_at (P:=P) w base t ty e i z size bytes g h x B C D E v l.length xs a ⟨b,o,none⟩ (y :: m).length c ys f.len
   (fun j u hu=>by have:=hle _ _ _ (H j u hu);rw [show(⟨b,o,none⟩:Addr).add j=⟨b,o+j,none⟩ by unfold Addr.add;split <;> simp_all];exact this) (f.one_ h1) hbytes.2 hbytes.1 hbase
  exact⟨v',w',p,⟨xs++ys,by simpa using q,n.append f⟩,vE d hbase fun k s=>(a.lt k s).1,d,r⟩
theorem Eu{P:Program}(w:World){t t' ty e e':TypeId}{i:TypeInfo}(ht:P.underlying t=some (.slice e))(ht':P.underlying t'=some (.slice e'))(hi:P.info? e=some i)(A:Option Addr)(n c:Nat)(u:Value) :
  (Builtin.append_ #[t,t'] ty #[.slice A n c,u]).run P w=(Builtin.append_ #[t,t] ty #[.slice A n c,u]).run P w:=by
 simp [Builtin.append_,run_underlying ht,run_underlying ht',sizeOf,typeInfo,hi]
theorem BF{α:Type}{P:Program}(w:World){ops:Array Oper}{rest:List Oper}{o:Oper}{a:Act}{Q:Exit→Act→World→Prop}(hgd:o.guard=none)(s x:Operand)(t:TypeId)
  (ho:o.op = .call { callee:=.builtin .append,args:=#[s,x],argTypes:=#[t,t] })
  {size:Nat} {R:CR α} (base:Nat) (e:TypeId) (bytes:Nat) (K:li P t e size bytes) (rd:Rd) (hle:Rd.le rd (fX w)) (h1:qx R)
  (v u:Value) (l m:List α) (hs:a.eval s=v) (hx:a.eval x=u) (hown:hJ size R base e w rd v l) (hu:fN size R rd u m) (hbytes:(l.length+m.length) * bytes≤140737488355328∧l.length+m.length≤maxLen) (hbase:base≤w.heap.size)
  (h:∀ v' w',hJ size R base e w' rd v' (l++m)→Below base w w'→w.grownBy w' v.ownBlock→(v'.ownBlock=v.ownBlock∨v'.ownBlock=some w.heap.size)→wpList P ops Q rest (a.put o.dst v') w'):wpList P ops Q (o :: rest) a w:=by
 refine wpList_plain hgd fun _ b => ?_
 obtain⟨v',w',c,d,f,g,i⟩:=Cw (P:=P) w t o.type base e bytes K rd hle h1 v u l m hown hu hbytes hbase
 unfold Oper.wp execOp
 simp only [ho,resolve,invoke,builtin,Sem.run_bind,Sem.run_pure,Result.andThen_ok,List.map_toArray,List.map_cons,List.map_nil,hs,hx,c]
 exact b _ _ (h v' w' d f g i)
theorem BE{α:Type}{size:Nat}{R:CR α}{base:Nat}{e:TypeId}(w:World)(rd:Rd)(hb:base≤w.heap.size):hJ size R base e (w.alloc (.cells #[] e)) rd (.slice (some ⟨w.heap.size,0,none⟩) 0 0) ([]:List α) :=
 ⟨[],World.ownsRow_made w #[] 0 hb (by simp [maxLen]) (by simp),rfl⟩
theorem fQ.set_{α:Type}{size:Nat}{R:CR α}{rd:Rd}{j:Nat}{u:Value}(hj:j<size):∀ {l:List α} {xs:List Value} (k:Nat) {x y:α},fQ size R rd xs l→l[k]? = some x →
  (∀ cs,cs.length=size→R rd cs x→R rd (cs.set j u) y)→fQ size R rd (xs.set (k * size+j) u) (l.set k y)
 | [],_,k,x,y,_,hk,_=>by simp at hk
 | z :: l,_,0,x,y,⟨cs,rest,e,h1,h2,h3⟩,hk,hR=>by
  simp at hk;subst hk;subst e
  refine⟨cs.set j u,rest,?_,by simpa using h1,hR cs h1 h2,h3⟩
  rw [Nat.zero_mul,Nat.zero_add,List.set_append_left _ _ (by omega)]
 | z :: l,_,k+1,x,y,⟨cs,rest,e,h1,h2,h3⟩,hk,hR=>by
  subst e
  refine⟨cs,rest.set (k * size+j) u,?_,h1,h2,h3.set_ hj k (by simpa using hk) hR⟩
  rw [List.set_append_right _ _ (by rw [h1,Nat.add_mul];omega)]
  congr 2
  rw [h1,Nat.add_mul]
  omega
section
variable {α:Type} {size base:Nat} {R:CR α} {rd:Rd} {e:TypeId} {w:World} {v:Value} {l:List α}
theorem hJ.blk(h:hJ size R base e w rd v l){k:Nat}(hk:k<l.length):∃ g cap,v = .slice (some ⟨g,0,none⟩) l.length cap∧base≤g∧g<w.heap.size∧l.length≤cap∧cap≤maxLen∧(∀ o,w.frozen? ⟨g,o,none⟩=false) ∧
  ∃ cs,cs.length=size∧R rd cs l[k] ∧ ∀ j u,cs[j]? = some u→w.cell? ⟨g,k * size+j,none⟩=some u:=by
 obtain⟨_,a,c⟩:=h
 have b:=a
 rcases a.2 with⟨rfl,hn⟩ | ⟨g,cap,cur,rfl,hb,hh,hc,hm',_⟩
 ·omega
 ·refine⟨g,cap,rfl,hb,(b.lt g rfl).2,hc,hm',fun o=>by simp only [World.frozen?,hh];simp,?_⟩
  obtain⟨cs,d,f,i⟩:=c.get k (x:=l[k]) (by simp [hk])
  refine⟨cs,d,f,fun j u m => ?_⟩
  have:=b.cells (g:=g) rfl _ u (i j u m)
  rwa [show(⟨g,0,none⟩:Addr).add (k * size+j)=⟨g,k * size+j,none⟩ by unfold Addr.add;split <;> simp_all] at this
theorem hJ.set_{g n cap k j:Nat}{u:Value}{x y:α}(h:hJ size R base e w rd (.slice (some ⟨g,0,none⟩) n cap) l)(hj:j<size)(hk:l[k]? = some x)
  (hR:∀ cs,cs.length=size→R rd cs x→R rd (cs.set j u) y):hJ size R base e (w.setCell ⟨g,k * size+j,none⟩ u) rd (.slice (some ⟨g,0,none⟩) n cap) (l.set k y):=by
 obtain⟨xs,b,c⟩:=h
 refine⟨xs.set (k * size+j) u,⟨?_,?_⟩,c.set_ hj k hk hR⟩
 ·simpa using b.1
 ·rcases b.2 with⟨e,_⟩ | ⟨g',cap',cur,e,hb,hh,hc,hm',hs,ht⟩
  ·cases e
  ·injection e with a d f
   injection a with a
   injection a with a
   subst a d f
   have i:k * size+j<l.length * size:=by
    have b:=(List.getElem?_eq_some_iff.1 hk).1
    have:(k+1) * size≤l.length * size:=Nat.mul_le_mul_right _ b
    rw [Nat.add_mul] at this
    omega
   refine .inr ⟨g,cap,cur.setIfInBounds (k * size+j) u,by simp,hb,by simp [World.setCell,Array.getElem?_modify,hh],by simpa using hc,hm',by simpa using hs,?_⟩
   rw [List.length_set,Array.toList_setIfInBounds,List.take_set,ht]
end
theorem lq{W w w':World}(h:Below W.heap.size W w)(k:Below w.heap.size w w'):Below W.heap.size W w':=h.trans (k.mono h.size)
theorem ri(rd:Rd):∀ l:List Int,fQ 1 ge rd (l.map (Value.int .i64)) l
 | []=>rfl
 | x :: l=>⟨[.int .i64 x],l.map (Value.int .i64),rfl,rfl,rfl,ri rd l⟩
class i9 {α:Type} (R:CR α):Prop where
 mono:p7 R
 one:qx R
instance:i9 ge:=⟨sH,yu⟩
instance {α:Type} {size:Nat} {R:CR α} [i9 R]:i9 (jy size R):=⟨Bu i9.mono,Ce⟩
theorem fN.up{α:Type}{size:Nat}{R:CR α}[i9 R]{w w':World}{v:Value}{l:List α}(h:fN size R (fX w) v l)(k:Below w.heap.size w w'):fN size R (fX w') v l :=
 h.mono i9.mono (p2 k (Nat.le_refl _))
theorem fN.top{α:Type}{size:Nat}{R:CR α}[i9 R]{W:World}{v:Value}{l:List α}(h:fN size R (fX W) v l):fN size R (qI W W.heap.size) v l:=h.mono i9.mono (Ci W)
theorem fN.of_top{α:Type}{size:Nat}{R:CR α}[i9 R]{W w:World}{v:Value}{l:List α}(h:fN size R (qI W W.heap.size) v l)(k:Below W.heap.size W w):fN size R (fX w) v l:=h.mono i9.mono (sz k)
theorem fW.up{α:Type}{R:CR α}[i9 R]{w w':World}{v:Value}{x:α}(h:fW R (fX w) v x)(k:Below w.heap.size w w'):fW R (fX w') v x:=by
 obtain⟨cs,e,h⟩:=h
 exact⟨cs,e,i9.mono _ _ _ _ (p2 k (Nat.le_refl _)) h⟩
theorem lh(w:World)(o:Obj):Below w.heap.size w (w.alloc o):=(Below.refl _ _).alloc (Nat.le_refl _) o
theorem lF(w:World)(o o':Obj):Below w.heap.size w ((w.alloc o).alloc o'):=(lh w o).trans ((lh _ o').mono (by simp))
theorem ng{w w':World}{o:Obj}(k:Below (w.alloc o).heap.size (w.alloc o) w'):Below w.heap.size w w':=(lh w o).trans (k.mono (by simp))
theorem nJ{w w':World}{n:Nat}(k:Below (w.drewN n).heap.size (w.drewN n) w'):Below w.heap.size w w':=(p6 _ w n).trans k
theorem oU{w w1:World}{cs:Array Value}{t:TypeId}{g:Nat}(hg:g=w.heap.size)(k:Below (g+1) (w.alloc (.cells cs t)) w1):∀ j,w1.cell? ⟨g,j,none⟩=cs[j]?:=fun j=>by
 subst hg
 rw [k.cell (p:=⟨w.heap.size,j,none⟩) (by show w.heap.size<_;omega),cell_of_row _ w.heap.size j cs t (0,0) (heap_alloc_new w _)]
theorem qT{w w1:World}{cs:Array Value}{t:TypeId}{g:Nat}(hg:g=w.heap.size)(k:Below (g+1) (w.alloc (.cells cs t)) w1):∀ j,w1.frozen? ⟨g,j,none⟩=false:=fun j=>by
 subst hg
 rw [k.frozen (p:=⟨w.heap.size,j,none⟩) (by show w.heap.size<_;omega)]
 unfold World.frozen?
 rw [heap_alloc_new w (.cells cs t)]
 show(decide (0≤j) && decide (j<0))=false
 simp
def iI(w:World)(g:Nat)(t:TypeId)(cs:Array Value):Prop:=w.heap[g]? = some (.cells cs t (0,0))
theorem iI.lt{w:World}{g:Nat}{t:TypeId}{cs:Array Value}(h:iI w g t cs):g<w.heap.size:=by
 rcases Nat.lt_or_ge g w.heap.size with a | b
 ·exact a
 ·unfold iI at h;rw [Array.getElem?_eq_none b] at h;cases h
theorem iI.cell{w:World}{g:Nat}{t:TypeId}{cs:Array Value}(h:iI w g t cs)(i:Nat):w.cell? ⟨g,i,none⟩=cs[i]?:=cell_of_row w g i cs t (0,0) h
theorem iI.frozen{w:World}{g:Nat}{t:TypeId}{cs:Array Value}(h:iI w g t cs)(i:Nat):w.frozen? ⟨g,i,none⟩=false:=by
 unfold World.frozen?
 rw [show w.heap[(⟨g,i,none⟩:Addr).block]? = some (.cells cs t (0,0)) from h]
 show(decide (0≤i) && decide (i<0))=false
 simp
theorem iI.new_(w:World)(t:TypeId)(cs:Array Value):iI (w.alloc (.cells cs t)) w.heap.size t cs:=heap_alloc_new w _
theorem iI.up{w w':World}{g:Nat}{t:TypeId}{cs:Array Value}(h:iI w g t cs)(k:Below w.heap.size w w'):iI w' g t cs:=(k.block g h.lt).trans h
theorem iI.upB{w w':World}{g B:Nat}{t:TypeId}{cs:Array Value}(h:iI w g t cs)(k:Below B w w')(hg:g<B):iI w' g t cs:=(k.block g hg).trans h
theorem iI.c2{w:World}{g:Nat}{t:TypeId}{a0 a1:Value}(h:iI w g t #[a0,a1]):w.cell? ⟨g,0,none⟩=some a0∧w.cell? ⟨g,1,none⟩=some a1∧w.frozen? ⟨g,0,none⟩=false∧w.frozen? ⟨g,1,none⟩=false :=
 ⟨h.cell 0,h.cell 1,h.frozen 0,h.frozen 1⟩
theorem iI.c5{w:World}{g:Nat}{t:TypeId}{a0 a1 a2 a3 a4:Value}(h:iI w g t #[a0,a1,a2,a3,a4]):w.cell? ⟨g,0,none⟩=some a0∧w.cell? ⟨g,1,none⟩=some a1∧w.cell? ⟨g,2,none⟩=some a2∧w.cell? ⟨g,3,none⟩=some a3∧w.cell? ⟨g,4,none⟩=some a4∧w.frozen? ⟨g,0,none⟩=false∧w.frozen? ⟨g,1,none⟩=false∧w.frozen? ⟨g,2,none⟩=false∧w.frozen? ⟨g,3,none⟩=false∧w.frozen? ⟨g,4,none⟩=false :=
 ⟨h.cell 0,h.cell 1,h.cell 2,h.cell 3,h.cell 4,h.frozen 0,h.frozen 1,h.frozen 2,h.frozen 3,h.frozen 4⟩
def newer(w:World)(B:Nat):Rd:=fun b o=>if B≤b then w.cell? ⟨b,o,none⟩ else none
theorem uD{w:World}{B B':Nat}(h:B'≤B):Rd.le (newer w B) (newer w B'):=fun b o v e=>by
 unfold newer at e ⊢;split at e
 ·rw [if_pos (by omega)];exact e
 ·cases e
theorem sy{w:World}{B:Nat}{p:Addr}(hp:p.block<B)(u:Value):Rd.le (newer w B) (newer (w.setCell p u) B):=fun b o v e=>by
 unfold newer at e ⊢;split at e
 ·rename_i hb
  rw [if_pos hb,World.cell?_setCell_other w p ⟨b,o,none⟩ u (fun e=>by subst e;exact absurd hp (by show ¬ b<B;omega))];exact e
 ·cases e
theorem Ey(w:World)(B:Nat):Rd.le (newer w B) (fX w):=fun b o v h=>by
 unfold newer at h;split at h
 ·exact h
 ·cases h
theorem hJ.newer{α:Type}{size base:Nat}{R:CR α}{rd:Rd}{e:TypeId}{w:World}{v:Value}{l:List α}(h:hJ size R base e w rd v l)(hm:p7 R)(hle:Rd.le rd (newer w base)):fN size R (newer w base) v l:=by
 obtain⟨xs,a,b⟩:=h
 have c:=a
 rcases a.2 with⟨rfl,hn⟩ | ⟨g,cap,cur,rfl,hg,hh,hc,hm',_⟩
 ·have:l=[]:=List.eq_nil_of_length_eq_zero hn
  subst this
  exact fN.nil_ _
 ·refine⟨some ⟨g,0,none⟩,cap,xs,rfl,hc,hm',b.mono hm hle,fun _=>⟨g,0,rfl,fun j u d => ?_⟩⟩
  have:=c.cells (g:=g) rfl j u d
  have e:(⟨g,0,none⟩:Addr).add j=⟨g,j,none⟩:=by unfold Addr.add;split <;> simp_all
  rw [e] at this
  unfold Proofs.YtkjknlnhffmkkacGreat.newer
  rw [if_pos hg,Nat.zero_add]
  exact this
theorem hJ.ints_newer{base:Nat}{rd:Rd}{e:TypeId}{w:World}{v:Value}{l:List Int}(h:hJ 1 ge base e w rd v l):iC (Proofs.YtkjknlnhffmkkacGreat.newer w base) v l:=by
 obtain⟨xs,f,g⟩:=h
 refine hJ.newer (rd:=fun _ _=>none) ⟨xs,f,?_⟩ sH (fun _ _ _ h=>by cases h)
 clear f
 induction l generalizing xs with
 | nil=>exact g
 | cons x l ih=>obtain⟨cs,rest,a,b,c,d⟩:=g;exact⟨cs,rest,a,b,c,ih _ d⟩
def jW(w:World)(B:Nat)(g:Option Nat):Rd:=fun b o=>if B≤b∧some b ≠ g then w.cell? ⟨b,o,none⟩ else none
theorem Dx(w:World)(B:Nat)(g:Option Nat):Rd.le (jW w B g) (newer w B):=fun b o v h=>by
 unfold jW at h;split at h
 ·rename_i hb;unfold newer;rw [if_pos hb.1];exact h
 ·cases h
theorem yG{w w':World}{B:Nat}{g:Option Nat}(k:Below w.heap.size w w'):Rd.le (jW w B g) (jW w' B g):=fun b o v h=>by
 unfold jW at h ⊢;split at h
 ·rename_i hb
  rw [if_pos hb]
  exact(k.cell (p:=⟨b,o,none⟩) (o8 h)).trans h
 ·cases h
theorem Er{w w':World}{B:Nat}{g g':Option Nat}(hg:w.grownBy w' g)(h':g'=g∨g'=some w.heap.size):Rd.le (jW w B g) (jW w' B g'):=fun b o v h=>by
 unfold jW at h ⊢;split at h
 ·rename_i hb
  have hlt:=o8 h
  have hn':some b ≠ g':=by
   rcases h' with e | e
   ·rw [e];exact hb.2
   ·rw [e];intro c;injection c with c;omega
  rw [if_pos ⟨hb.1,hn'⟩]
  exact(World.cell?_of_block (w:=w) (a:=⟨b,o,none⟩) (hg.block b hlt hb.2)).trans h
 ·cases h
theorem EW{w:World}{B B':Nat}{g:Option Nat}(hB:B≤B')(hg:∀ k,g=some k→k<B'):Rd.le (newer w B') (jW w B g):=fun b o v h=>by
 unfold newer at h;split at h
 ·rename_i hb
  unfold jW
  rw [if_pos ⟨by omega,fun e=>by have:=hg b e.symm;omega⟩]
  exact h
 ·cases h
theorem hJ.newer_{α:Type}{size base:Nat}{R:CR α}[i9 R]{e:TypeId}{w:World}{g:Option Nat}{v:Value}{l:List α}(h:hJ size R base e w (jW w base g) v l):fN size R (Proofs.YtkjknlnhffmkkacGreat.newer w base) v l:=h.newer i9.mono (Dx w base g)
theorem hJ.up{α:Type}{size base:Nat}{R:CR α}[i9 R]{e:TypeId}{w w':World}{B:Nat}{g:Option Nat}{v:Value}{l:List α}(h:hJ size R base e w (jW w B g) v l)(k:Below w.heap.size w w'):hJ size R base e w' (jW w' B g) v l:=(h.below k).mono i9.mono (yG k)
theorem hJ.next{α:Type}{size base:Nat}{R:CR α}[i9 R]{e:TypeId}{w w':World}{B:Nat}{g g':Option Nat}{v:Value}{l:List α}(h:hJ size R base e w' (jW w B g) v l)(hg:w.grownBy w' g)(h':g'=g∨g'=some w.heap.size):hJ size R base e w' (jW w' B g') v l:=h.mono i9.mono (Er hg h')
theorem hJ.lt{α:Type}{size base:Nat}{R:CR α}{e:TypeId}{w:World}{rd:Rd}{v:Value}{l:List α}(h:hJ size R base e w rd v l):∀ k,v.ownBlock=some k→k<w.heap.size:=fun k hk=>(h.block k hk).2
theorem fN.cut{α:Type}{size:Nat}{R:CR α}{rd:Rd}{b o n c k:Nat}{l:List α}(h:fN size R rd (.slice (some ⟨b,o,none⟩) n c) l)(hk:k≤l.length):fN size R rd (.slice (some ⟨b,o+k * size,none⟩) (n - k) (c - k)) (l.drop k):=by
 obtain⟨A,_,xs,e,_,_,d,f⟩:=h
 injection e with g i m
 subst g i m
 refine⟨some ⟨b,o+k * size,none⟩,c - k,xs.drop (k * size),by simp,by simp;omega,by omega,d.drop k hk,fun p=>⟨b,o+k * size,rfl,fun j u a => ?_⟩⟩
 obtain⟨_,_,e,q⟩:=f (by intro e;subst e;simp at p)
 cases e
 rw [List.getElem?_drop] at a
 have:=q _ _ a
 rwa [← Nat.add_assoc] at this
theorem fN.head_{α:Type}{size:Nat}{R:CR α}{rd:Rd}{A:Option Addr}{n c k:Nat}{l:List α}(h:fN size R rd (.slice A n c) l)(hk:k≤l.length):fN size R rd (.slice A k c) (l.take k):=by
 obtain⟨_,_,xs,e,_,d,f,g⟩:=h
 injection e with i m p
 subst i m p
 refine⟨A,c,xs.take (k * size),by simp;omega,by simp;omega,d,f.take k,fun q => ?_⟩
 obtain⟨b,o,e,r⟩:=g (by intro e;subst e;simp at q)
 refine⟨b,o,e,fun j u a=>r j u ?_⟩
 rw [List.getElem?_take] at a
 split at a
 ·exact a
 ·cases a
theorem fN.nil_of{α:Type}{size:Nat}{R:CR α}{rd:Rd}{n c:Nat}{l:List α}(h:fN size R rd (.slice none n c) l):l=[]:=by
 obtain⟨_,_,_,e,_,_,_,a⟩:=h
 injection e with d f g
 subst d f g
 rcases l with _ | ⟨x,l⟩
 ·rfl
 ·obtain⟨b,o,e,_⟩:=a (by simp)
  cases e
theorem fN.cutA{α:Type}{size:Nat}{R:CR α}{rd:Rd}{ad:Addr}{n c k:Nat}{l:List α}(h:fN size R rd (.slice (some ad) n c) l)(hk:k≤l.length):fN size R rd (.slice (some (ad.add (k * size))) (n - k) (c - k)) (l.drop k):=by
 rcases Nat.eq_zero_or_pos l.length with d | d
 ·have:l=[]:=List.eq_nil_of_length_eq_zero d
  subst this
  obtain⟨a,g,i⟩:=h.len
  simp only [List.length_nil] at a hk
  have j:k=0:=by omega
  subst j a
  simpa using fN.empty_ rd (some (ad.add (0 * size))) (c - 0) (by omega)
 ·have h':=h
  obtain⟨_,_,_,e,_,_,_,m⟩:=h'
  injection e with a g i
  subst a
  obtain⟨b,o,e,_⟩:=m (by intro e;subst e;simp at d)
  injection e with e
  subst e
  have:=fN.cut h hk
  rcases Nat.eq_zero_or_pos (k * size) with f | f
  ·rw [f] at this ⊢
   simpa [Addr.add] using this
  ·rw [show(⟨b,o,none⟩:Addr).add (k * size)=⟨b,o+k * size,none⟩ by unfold Addr.add;rw [if_neg (by omega)]]
   exact this
def zH{α:Type}(R:CR α)(rd:Rd)(v:Value)(x:α):Prop:=∃ b o cs,v = .pointer (some ⟨b,o,none⟩)∧R rd cs x ∧ ∀ j u,cs[j]? = some u→rd b (o+j)=some u
end
def g6(l:List Int)(i:Nat):Int:=l.getD i 0
theorem lX{l:List Int}{i:Nat}(h:i<l.length):g6 l i=l[i]:=by simp [g6,h]
theorem oV{l:List Int}{i:Nat}(h:l.length≤i):g6 l i=0:=by simp [g6,List.getElem?_eq_none h]
def lI(f:Int→Int→Int)(a b:List Int):List Int:=(List.range (max a.length b.length)).map fun i=>f (g6 a i) (g6 b i)
theorem rn(f:Int→Int→Int)(a b:List Int):(lI f a b).length=max a.length b.length:=by simp [lI]
theorem tX(f:Int→Int→Int)(a b:List Int){k:Nat}(hk:k<max a.length b.length):(lI f a b)[k]? = some (f (g6 a k) (g6 b k)):=by
 simp only [lI,List.getElem?_map,List.getElem?_range hk,Option.map_some]
theorem jl{α:Type}{l:List α}{k:Nat}{x:α}(h:l[k]? = some x):l.take (k+1)=l.take k++[x]:=by rw [List.take_add_one,h];rfl
def g8(a b:List Int):List Int:=lI max a b
def k9(a b:List Int):List Int:=lI min a b
def gO(a b:List Int):Bool:=(List.range (max a.length b.length)).all fun i=>decide (g6 b i≤g6 a i)
def mc(k:Int):Bool:=decide (0≤k) && decide (k≤1000)
def gb(c:List Int)(n:Int):Int:=if n<1∨6<n∨(c.length:Int) ≠ n then 5 else if c.all mc then 0 else 3
def kK(c:List Int)(author seq:Int):Bool:=decide (0≤author) && decide (author<c.length) && decide (seq≤g6 c author.toNat)
def gD(c:List Int)(author:Int):List Int:=if 0≤author∧author<c.length then c.set author.toNat (RowKit.wrap64 (g6 c author.toNat+1)) else c
theorem jJ{a b:List Int}:gO a b=true ↔ ∀ k,g6 b k≤g6 a k:=by
 unfold gO
 rw [List.all_eq_true]
 constructor
 ·intro h k
  rcases Nat.lt_or_ge k (max a.length b.length) with c | c
  ·simpa using h k (List.mem_range.2 c)
  ·rw [oV (show b.length≤k by omega),oV (show a.length≤k by omega)];exact Int.le_refl _
 ·intro h k _
  simpa using h k
theorem my(a:List Int):gO a a=true:=jJ.2 fun _=>Int.le_refl _
theorem ma{a b c:List Int}(h:gO a b=true)(k:gO b c=true):gO a c=true :=
 jJ.2 fun i=>Int.le_trans (jJ.1 k i) (jJ.1 h i)
theorem yq{a b:List Int}(hl:a.length=b.length)(h:gO a b=true)(k:gO b a=true):a=b:=by
 refine List.ext_getElem hl fun i c d => ?_
 have e:=jJ.1 h i
 have f:=jJ.1 k i
 rw [lX c,lX d] at e f
 omega
theorem ph(a b:List Int):(g8 a b).length=max a.length b.length:=rn _ _ _
theorem rY(a b:List Int):(k9 a b).length=max a.length b.length:=rn _ _ _
theorem zV{f:Int→Int→Int}(hf:f 0 0=0)(a b:List Int)(k:Nat):g6 (lI f a b) k=f (g6 a k) (g6 b k):=by
 rcases Nat.lt_or_ge k (max a.length b.length) with h | h
 ·have:=tX f a b h
  unfold g6 at this ⊢
  rw [List.getD,this];rfl
 ·rw [oV (show(lI f a b).length≤k by rw [rn];exact h),oV (show a.length≤k by omega),oV (show b.length≤k by omega),hf]
theorem lL(a b:List Int)(k:Nat):g6 (g8 a b) k=max (g6 a k) (g6 b k):=zV rfl a b k
theorem of(a b:List Int)(k:Nat):g6 (k9 a b) k=min (g6 a k) (g6 b k):=zV rfl a b k
theorem ot{a b:List Int}(hl:a.length=b.length)(h:∀ k,g6 a k=g6 b k):a=b:=by
 refine List.ext_getElem hl fun i c d => ?_
 have:=h i
 rwa [lX c,lX d] at this
theorem pO(a b:List Int):gO (g8 a b) a=true:=jJ.2 fun k=>by rw [lL];omega
theorem tA(a b:List Int):gO (g8 a b) b=true:=jJ.2 fun k=>by rw [lL];omega
theorem wt(a b:List Int):gO a (k9 a b)=true:=jJ.2 fun k=>by rw [of];omega
theorem xK(a b:List Int):gO b (k9 a b)=true:=jJ.2 fun k=>by rw [of];omega
theorem sO(c a b:List Int):gO c (g8 a b)=(gO c a && gO c b):=by
 rw [Bool.eq_iff_iff,Bool.and_eq_true,jJ,jJ,jJ]
 constructor
 ·intro h
  exact⟨fun k=>by have:=h k;rw [lL] at this;omega,fun k=>by have:=h k;rw [lL] at this;omega⟩
 ·rintro⟨d,e⟩ k
  have:=d k;have:=e k
  rw [lL];omega
theorem ES(a b c:List Int):gO (k9 a b) c=(gO a c && gO b c):=by
 rw [Bool.eq_iff_iff,Bool.and_eq_true,jJ,jJ,jJ]
 constructor
 ·intro h
  exact⟨fun k=>by have:=h k;rw [of] at this;omega,fun k=>by have:=h k;rw [of] at this;omega⟩
 ·rintro⟨d,e⟩ k
  have:=d k;have:=e k
  rw [of];omega
theorem Ez(a b:List Int):g8 a b=g8 b a:=ot (by simp only [ph];omega) fun k=>by simp only [lL];omega
theorem Eb{a:List Int}{k:Nat}(hk:k<a.length):gD a k=a.set k (RowKit.wrap64 (a[k]+1)):=by
 unfold gD;rw [if_pos (by omega),Int.toNat_natCast,lX hk]
theorem rG(a:List Int)(n:Int):(gD a n).length=a.length:=by unfold gD;split <;> simp
theorem vz{x:Int}(h:0≤x)(h':x≤1000000):RowKit.wrap64 x=x:=by
 simp only [RowKit.wrap64];omega
theorem AK{a:List Int}{k:Nat}{x:Int}(hk:k<a.length)(j:Nat):g6 (a.set k x) j=if j=k then x else g6 a j:=by
 unfold g6
 rw [List.getD,List.getD,List.getElem?_set]
 by_cases e:j=k
 ·subst e;simp [hk]
 ·rw [if_neg (fun h=>e h.symm),if_neg e]
theorem i7{l:List Int}{n:Int}(h:gb l n=0):1≤n∧n≤6∧(l.length:Int)=n ∧ ∀ x∈l,0≤x∧x≤1000:=by
 unfold gb at h
 split at h
 ·cases h
 ·rename_i c
  split at h
  ·rename_i a
   refine⟨by omega,by omega,by omega,fun x b => ?_⟩
   have:=List.all_eq_true.1 a x b
   simpa [mc] using this
  ·cases h
theorem za{x y:Int}(h:x ≠ y):(x != y)=true∧(x == y)=false:=by simp [h]
theorem xN{x y:Int}(h:x=y):(x != y)=false∧(x == y)=true:=by simp [h]
def jD{α:Type}(p:α→Bool)(l:List α):Int:=match l.findIdx? p with | some i=>(i:Int) | none => -1
theorem sZ{α:Type}{p:α→Bool}{l:List α}{k:Nat}{x:α}(hk:l[k]? = some x)(hp:p x=true)(hb:∀ (j:Nat) (y:α),j<k→l[j]? = some y→p y=false):jD p l=k:=by
 unfold jD
 have:l.findIdx? p=some k:=by
  rw [List.findIdx?_eq_some_iff_getElem]
  obtain⟨a,e⟩:=List.getElem?_eq_some_iff.1 hk
  refine⟨a,by rw [e];exact hp,fun j b => ?_⟩
  have:=hb j l[j] b (List.getElem?_eq_getElem (by omega))
  simp [this]
 rw [this]
theorem tr{α:Type}{p:α→Bool}{l:List α}(hb:∀ (j:Nat) (y:α),l[j]? = some y→p y=false):jD p l = -1:=by
 unfold jD
 have:l.findIdx? p=none:=by
  rw [List.findIdx?_eq_none_iff]
  intro x a
  obtain⟨j,b⟩:=List.getElem?_of_mem a
  exact hb j x b
 rw [this]
theorem t6{α:Type}(p:α→Bool)(l:List α):decide (0≤jD p l)=l.any p:=by
 unfold jD
 cases h:l.findIdx? p with
 | none =>
  have:=List.findIdx?_eq_none_iff.1 h
  have h':l.any p=false:=by
   rw [List.any_eq_false]
   intro x a;simp [this x a]
  simp [h']
 | some i =>
  obtain⟨b,e,_⟩:=List.findIdx?_eq_some_iff_getElem.1 h
  have h':l.any p=true:=List.any_eq_true.2 ⟨l[i],List.getElem_mem b,e⟩
  simp [h']
theorem zW{α:Type}(p:α→Bool)(l:List α):-1≤jD p l∧jD p l<max 1 l.length:=by
 unfold jD
 cases h:l.findIdx? p with
 | none=>constructor <;> simp;omega
 | some i =>
  obtain⟨_,_⟩:=List.findIdx?_eq_some_iff_getElem.1 h
  simp;omega
structure fH where
 author:Int
 seen:List Int
 kind:Int
 key:Int
 item:Int
deriving DecidableEq
def gM:CR fH:=fun rd cs u => ∃ sv,cs=[.int .i64 u.author,sv,.int .i64 u.kind,.int .i64 u.key,.int .i64 u.item]∧iC rd sv u.seen
theorem gM.d{rd:Rd}{cs:List Value}{u:fH}(h:gM rd cs u):∃ A0 c0,cs=[.int .i64 u.author,.slice A0 u.seen.length c0,.int .i64 u.kind,.int .i64 u.key,.int .i64 u.item]∧iC rd (.slice A0 u.seen.length c0) u.seen∧(u.seen.length≤c0∧c0≤maxLen):=by
 obtain⟨_,e,a⟩:=h
 obtain⟨A0,c0,b,c⟩:=a.val
 subst b
 exact⟨A0,c0,e,a,c⟩
instance:i9 gM:=⟨fun _ _ _ _ hle ⟨sv,e,h⟩=>⟨sv,e,iC.mono h hle⟩,fun _ _ _ ⟨sv,e,h⟩ u hu=>by
 obtain⟨A,c,e2,_⟩:=h.val
 subst e e2
 simp only [List.mem_cons,List.not_mem_nil,or_false] at hu
 rcases hu with h | h | h | h | h <;> subst h <;> rfl⟩
abbrev rZ:=fN 5 gM
theorem zS{rd:Rd}{A:Option Addr}{m c k:Nat}{l:List fH}(h:fN 5 gM rd (.slice A m c) l)(hk:k<l.length):∃ b o sv,A=some ⟨b,o,none⟩∧iC rd sv l[k].seen ∧
  ∀ w:World,Rd.le rd (fX w)→w.cell? ⟨b,o+k * 5,none⟩=some (.int .i64 l[k].author)∧w.cell? ⟨b,o+k * 5+1,none⟩=some sv∧w.cell? ⟨b,o+k * 5+2,none⟩=some (.int .i64 l[k].kind) ∧
   w.cell? ⟨b,o+k * 5+3,none⟩=some (.int .i64 l[k].key)∧w.cell? ⟨b,o+k * 5+4,none⟩=some (.int .i64 l[k].item):=by
 obtain⟨b,o,_,e,_,⟨sv,f,g⟩,a⟩:=fN.get h (k:=k) (x:=l[k]) (by simp [hk])
 subst f
 refine⟨b,o,sv,e,g,fun w d=>⟨d _ _ _ (a 0 _ rfl),d _ _ _ (a 1 _ rfl),d _ _ _ (a 2 _ rfl),d _ _ _ (a 3 _ rfl),d _ _ _ (a 4 _ rfl)⟩⟩
theorem s9{rd:Rd}{sv:Value}{u:fH}(h:iC rd sv u.seen):fW gM rd (.agg #[.int .i64 u.author,sv,.int .i64 u.kind,.int .i64 u.key,.int .i64 u.item]) u:=⟨_,rfl,sv,rfl,h⟩
theorem sk{w:World}{g:Nat}{t:TypeId}{sv:Value}{u:fH}(hb:iI w g t #[.int .i64 u.author,sv,.int .i64 u.kind,.int .i64 u.key,.int .i64 u.item])(h:iC (fX w) sv u.seen):zH gM (fX w) (.pointer (some ⟨g,0,none⟩)) u :=
 ⟨g,0,_,rfl,⟨sv,rfl,h⟩,fun j x hx=>by
  show w.cell? ⟨g,0+j,none⟩=some x
  rw [Nat.zero_add,hb.cell j];simpa using hx⟩
def u0:fH:=⟨0,[],0,0,0⟩
def j7(u:fH)(n:Int):Int :=
 if gb u.seen n ≠ 0 then gb u.seen n
 else if u.author<0∨n≤u.author∨1000≤g6 u.seen u.author.toNat then 3
 else if u.kind<1∨5<u.kind then 1
 else if u.key<0∨15<u.key∨u.item < -1000∨1000<u.item then 3
 else if u.kind=2∧u.item ≠ 0 then 2
 else 0
structure n5 (u:fH) (n:Int):Prop where
 c:gb u.seen n=0
 a0:0≤u.author
 a1:u.author<n
 s:g6 u.seen u.author.toNat<1000
 k0:1≤u.kind
 k1:u.kind≤5
 y0:0≤u.key
 y1:u.key≤15
 i0:-1000≤u.item
 i1:u.item≤1000
 f:u.kind=2→u.item=0
theorem od{u:fH}{n:Int}:j7 u n=0↔n5 u n:=by
 unfold j7
 constructor
 ·intro h
  split at h
  ·exact absurd h ‹_›
  ·split at h
   ·cases h
   ·split at h
    ·cases h
    ·split at h
     ·cases h
     ·split at h
      ·cases h
      ·exact⟨by omega,by omega,by omega,by omega,by omega,by omega,by omega,by omega,by omega,by omega,by omega⟩
 ·rintro⟨c,_,_,s,_,_,_,_,_,_,f⟩
  rw [if_neg (by omega),if_neg (by omega),if_neg (by omega),if_neg (by omega),if_neg (by omega)]
theorem n5.len{u:fH}{n:Int}(h:n5 u n):1≤n∧n≤6∧(u.seen.length:Int)=n:=by have:=i7 h.c;omega
theorem n5.at_{u:fH}{n:Int}(h:n5 u n):u.author.toNat<u.seen.length:=by have:=h.len;have:=h.a0;have:=h.a1;omega
def hG(u:fH):Int:=RowKit.wrap64 (g6 u.seen u.author.toNat+1)
def iJ(c:List Int)(u:fH):Bool:=decide (0≤u.author) && decide (u.author<c.length) && decide (u.author<u.seen.length) && decide (g6 u.seen u.author.toNat<g6 c u.author.toNat)
def nw(a b:fH):Bool:=decide (a=b)
theorem Cu{c se:List Int}{k:Nat}{ki ke it:Int}(h1:k<c.length)(h2:k<se.length):iJ c ⟨k,se,ki,ke,it⟩=decide (se[k]<c[k]):=by
 unfold iJ;simp only;rw [Int.toNat_natCast,lX h1,lX h2];simp [h1,h2]
def kv(c:List Int)(u:fH)(n:Int):Int:=if j7 u n ≠ 0 then j7 u n else if iJ c u=true then 7 else if gO c u.seen=false then 8 else 0
def iL(n:Int):List Int→List fH→Nat→List Int × Int × Int
 | c,[],_=>(c,0,0)
 | c,u :: l,i=>if kv c u n ≠ 0 then([],kv c u n,(i:Int)) else iL n (gD c u.author) l (i+1)
def gc(base:List Int)(l:List fH)(n:Int):List Int × Int × Int :=
 if gb base n ≠ 0 then([],gb base n,0) else if 300<l.length then([],5,0) else iL n base l 0
theorem zn{α:Type}{l:List α}{k:Nat}(hk:k<l.length):l.drop k=l[k] :: l.drop (k+1):=List.drop_eq_getElem_cons hk
theorem tf{n:Int}{c:List Int}{l:List fH}{k:Nat}{e:Int}(hk:k<l.length)(he:kv c l[k] n=e)(h0:e ≠ 0):iL n c (l.drop k) k=([],e,(k:Int)):=by
 rw [zn hk];unfold iL;rw [he,if_pos h0]
theorem wo{n:Int}{c:List Int}{l:List fH}{k:Nat}(hk:k<l.length)(he:kv c l[k] n=0):iL n c (l.drop k) k=iL n (gD c l[k].author) (l.drop (k+1)) (k+1):=by
 rw [zn hk];rw [iL.eq_2,he,if_neg (by simp)]
theorem w7{n:Int}{c:List Int}{l:List fH}{k:Nat}(hk:l.length≤k):iL n c (l.drop k) k=(c,0,0):=by
 rw [List.drop_eq_nil_of_le hk];rfl
def i4(l:List fH)(c:List Int):List fH:=l.filter fun u => !iJ c u
theorem tw(l:List fH)(c:List Int):(i4 l c).length≤l.length:=List.length_filter_le _ _
theorem zO{l:List fH}{c:List Int}{k:Nat}(hk:k<l.length)(h:iJ c l[k]=true):i4 (l.take (k+1)) c=i4 (l.take k) c:=by
 unfold i4;rw [jl (List.getElem?_eq_getElem hk),List.filter_append];simp [h]
theorem zd{l:List fH}{c:List Int}{k:Nat}(hk:k<l.length)(h:iJ c l[k]=false):i4 (l.take (k+1)) c=i4 (l.take k) c++[l[k]]:=by
 unfold i4;rw [jl (List.getElem?_eq_getElem hk),List.filter_append];simp [h]
structure ga where
 set:Bool
 key:Int
 item:Int
 author:Int
 seq:Int
deriving DecidableEq
structure Tally where
 key:Int
 author:Int
 sum:Int
deriving DecidableEq
structure gt where
 clock:List Int
 lives:List ga
 tallies:List Tally
deriving DecidableEq
def gB:CR ga:=fun _ cs x=>cs=[.bool x.set,.int .i64 x.key,.int .i64 x.item,.int .i64 x.author,.int .i64 x.seq]
def h8:CR Tally:=fun _ cs x=>cs=[.int .i64 x.key,.int .i64 x.author,.int .i64 x.sum]
instance:i9 gB:=⟨fun _ _ _ _ _ h=>h,fun _ _ _ h u hu=>by
 cases h;simp only [List.mem_cons,List.not_mem_nil,or_false] at hu;rcases hu with h | h | h | h | h <;> subst h <;> rfl⟩
instance:i9 h8:=⟨fun _ _ _ _ _ h=>h,fun _ _ _ h u hu=>by
 cases h;simp only [List.mem_cons,List.not_mem_nil,or_false] at hu;rcases hu with h | h | h <;> subst h <;> rfl⟩
def iW:CR gt:=fun rd cs x => ∃ a b c,cs=[a,b,c]∧fN 1 ge rd a x.clock∧fN 5 gB rd b x.lives∧fN 3 h8 rd c x.tallies
theorem iW.d{rd:Rd}{cs:List Value}{x:gt}(h:iW rd cs x):∃ A0 c0 A1 c1 A2 c2,cs=[.slice A0 x.clock.length c0,.slice A1 x.lives.length c1,.slice A2 x.tallies.length c2]∧fN 1 ge rd (.slice A0 x.clock.length c0) x.clock∧fN 5 gB rd (.slice A1 x.lives.length c1) x.lives∧fN 3 h8 rd (.slice A2 x.tallies.length c2) x.tallies∧(x.clock.length≤c0∧c0≤maxLen)∧(x.lives.length≤c1∧c1≤maxLen)∧(x.tallies.length≤c2∧c2≤maxLen):=by
 obtain⟨_,_,_,e,a,b,c⟩:=h
 obtain⟨A0,c0,f,g⟩:=a.val
 obtain⟨A1,c1,i,j⟩:=b.val
 obtain⟨A2,c2,k,l⟩:=c.val
 subst f i k
 exact⟨A0,c0,A1,c1,A2,c2,e,a,b,c,g,j,l⟩
instance:i9 iW:=⟨fun _ _ _ _ hle ⟨a,b,c,e,h1,h2,h3⟩=>⟨a,b,c,e,h1.mono i9.mono hle,h2.mono i9.mono hle,h3.mono i9.mono hle⟩,fun _ _ _ ⟨a,b,c,e,h1,h2,h3⟩ u hu=>by
 obtain⟨A1,c1,e1,_⟩:=h1.val
 obtain⟨A2,c2,e2,_⟩:=h2.val
 obtain⟨A3,c3,e3,_⟩:=h3.val
 subst e e1 e2 e3
 simp only [List.mem_cons,List.not_mem_nil,or_false] at hu
 rcases hu with h | h | h <;> subst h <;> rfl⟩
def gr(x y:Int):Int:=if x<y then -1 else if y<x then 1 else 0
def m6:List Int→Int
 | []=>0
 | x :: l=>if x=0 then m6 l else x
def gQ(a b:ga):Int:=m6 [if b.set=true∧a.set=false then -1 else if a.set=true∧b.set=false then 1 else 0,gr a.key b.key,gr a.item b.item,gr a.author b.author,gr a.seq b.seq]
def gY(a b:Tally):Int:=m6 [gr a.key b.key,gr a.author b.author]
theorem yS{l:List Int}{k:Nat}{z:Int}(hz:l[k]? = some z):m6 (l.drop k)=if z=0 then m6 (l.drop (k+1)) else z:=by
 obtain⟨a,e⟩:=List.getElem?_eq_some_iff.1 hz
 rw [List.drop_eq_getElem_cons a,e];rfl
def mj(c:List Int)(n:Int):Option ga→List ga→Nat→Int × Int
 | _,[],_=>(0,0)
 | p,l :: ls,i =>
  if l.author<0∨n≤l.author∨l.seq<1∨l.key<0∨15<l.key∨l.item < -1000∨1000<l.item then(3,(i:Int))
  else if g6 c l.author.toNat<l.seq then(8,(i:Int))
  else if(match p with | some q=>decide (0≤gQ q l) | none=>false)=true then(2,(i:Int))
  else mj c n (some l) ls (i+1)
def mh(c:List Int)(n:Int)(t:Tally):Int:=if 0≤t.author∧t.author<n then 1000 * g6 c t.author.toNat else 0
def n7(c:List Int)(n:Int):Option Tally→List Tally→Nat→Int × Int
 | _,[],_=>(0,0)
 | p,t :: ts,i =>
  if t.author<0∨n≤t.author∨t.key<0∨15<t.key∨t.sum < -(mh c n t)∨mh c n t<t.sum∨t.sum=0 then(3,(i:Int))
  else if(match p with | some q=>decide (0≤gY q t) | none=>false)=true then(2,(i:Int))
  else n7 c n (some t) ts (i+1)
def gj(s:gt)(n:Int):Int × Int :=
 if gb s.clock n ≠ 0 then(gb s.clock n,0)
 else if(mj s.clock n none s.lives 0).1 ≠ 0 then mj s.clock n none s.lives 0
 else n7 s.clock n none s.tallies 0
def nh{α:Type}(l:List α)(k:Nat):Option α:=if k=0 then none else l[k - 1]?
theorem pJ{α:Type}(l:List α)(k:Nat):nh l (k+1)=l[k]?:=rfl
theorem pq{α:Type}{l:List α}{k:Nat}(h:0<k){z:α}(hz:l[k - 1]? = some z):nh l k=some z:=by unfold nh;rw [if_neg (by omega),hz]
theorem lQ{c:List Int}{n:Int}{p:Option ga}{l:List ga}{k:Nat}{z:ga}(hz:l[k]? = some z):mj c n p (l.drop k) k =
  if z.author<0∨n≤z.author∨z.seq<1∨z.key<0∨15<z.key∨z.item < -1000∨1000<z.item then(3,(k:Int))
  else if g6 c z.author.toNat<z.seq then(8,(k:Int))
  else if(match p with | some q=>decide (0≤gQ q z) | none=>false)=true then(2,(k:Int))
  else mj c n (some z) (l.drop (k+1)) (k+1):=by
 obtain⟨a,e⟩:=List.getElem?_eq_some_iff.1 hz
 rw [List.drop_eq_getElem_cons a,e];rfl
theorem wm{c:List Int}{n:Int}{p:Option ga}{l:List ga}{k:Nat}(h:l.length≤k):mj c n p (l.drop k) k=(0,0):=by rw [List.drop_eq_nil_of_le h];rfl
theorem mt{c:List Int}{n:Int}{p:Option Tally}{l:List Tally}{k:Nat}{z:Tally}(hz:l[k]? = some z):n7 c n p (l.drop k) k =
  if z.author<0∨n≤z.author∨z.key<0∨15<z.key∨z.sum < -(mh c n z)∨mh c n z<z.sum∨z.sum=0 then(3,(k:Int))
  else if(match p with | some q=>decide (0≤gY q z) | none=>false)=true then(2,(k:Int))
  else n7 c n (some z) (l.drop (k+1)) (k+1):=by
 obtain⟨a,e⟩:=List.getElem?_eq_some_iff.1 hz
 rw [List.drop_eq_getElem_cons a,e];rfl
theorem zb{c:List Int}{n:Int}{p:Option Tally}{l:List Tally}{k:Nat}(h:l.length≤k):n7 c n p (l.drop k) k=(0,0):=by rw [List.drop_eq_nil_of_le h];rfl
theorem yA{s:gt}{n:Int}(h:¬ gb s.clock n=0):gj s n=(gb s.clock n,0):=by unfold gj;rw [if_pos h]
theorem mI{s:gt}{n:Int}{r:Int × Int}(h:gb s.clock n=0)(hl:mj s.clock n none s.lives 0=r)(hr:r.1 ≠ 0):gj s n=r:=by
 unfold gj;rw [if_neg (by omega),hl,if_pos hr]
theorem mG{s:gt}{n:Int}{r:Int × Int}(h:gb s.clock n=0)(hl:(mj s.clock n none s.lives 0).1=0)(ht:n7 s.clock n none s.tallies 0=r):gj s n=r:=by
 unfold gj;rw [if_neg (by omega),if_neg (by omega),ht]
theorem jI{r:Int × Int}{a b:Int}(h:r=(a,b)):Ending.returned (.agg #[.int .i64 a,.int .i64 b]) = .returned (.agg #[.int .i64 r.1,.int .i64 r.2]):=by rw [h]
section
def kE:List Int→List Int→Int
 | x :: xs,y :: ys=>if gr x y=0 then kE xs ys else gr x y
 | _,_=>0
theorem tD{x y:Int}:gr x y=0↔x=y:=by unfold gr;split <;> (try split) <;> omega
theorem Bq{x y:Int}:gr x y<0↔x<y:=by unfold gr;split <;> (try split) <;> omega
theorem nZ{x y:Int}{xs ys:List Int}:kE (x :: xs) (y :: ys)<0↔x<y∨(x=y∧kE xs ys<0):=by
 show(if gr x y=0 then kE xs ys else gr x y)<0↔_
 split
 ·rename_i h;have:=tD.1 h
  constructor
  ·intro a;exact .inr ⟨this,a⟩
  ·intro a;rcases a with a | a
   ·omega
   ·exact a.2
 ·rename_i h
  have h':¬ x=y:=fun e=>h (tD.2 e)
  rw [Bq]
  constructor
  ·exact .inl
  ·intro a;rcases a with a | a
   ·exact a
   ·exact absurd a.1 h'
theorem tW{x y:Int}{xs ys:List Int}:kE (x :: xs) (y :: ys)=0↔x=y∧kE xs ys=0:=by
 show(if gr x y=0 then kE xs ys else gr x y)=0↔_
 split
 ·rename_i h;have:=tD.1 h;simp [this]
 ·rename_i h;have h':¬ x=y:=fun e=>h (tD.2 e)
  simp [h,h']
theorem sL:∀ {a b c:List Int},kE a b<0→kE b c<0→kE a c<0
 | x :: xs,y :: ys,z :: zs,h1,h2=>by
  rw [nZ] at *
  rcases h1 with h1 | ⟨rfl,h1⟩ <;> rcases h2 with h2 | ⟨rfl,h2⟩
  ·exact .inl (by omega)
  ·exact .inl h1
  ·exact .inl h2
  ·exact .inr ⟨rfl,sL h1 h2⟩
 | [],_,_,h1,_=>by cases h1
 | _ :: _,[],_,h1,_=>by cases h1
 | _ :: _,_ :: _,[],_,h2=>by cases h2
theorem qD:∀ {a b:List Int},kE b a = - kE a b
 | x :: xs,y :: ys=>by
  show(if gr y x=0 then kE ys xs else gr y x) = - (if gr x y=0 then kE xs ys else gr x y)
  have e:gr y x = - gr x y:=by
   unfold gr
   repeat' split
   all_goals omega
  rw [qD (a:=xs) (b:=ys),e]
  split <;> split <;> omega
 | [],[]=>rfl
 | [],_ :: _=>rfl
 | _ :: _,[]=>rfl
theorem tZ:∀ {a b:List Int},a.length=b.length→kE a b=0→a=b
 | x :: xs,y :: ys,hl,h=>by
  rw [tW] at h
  rw [h.1,tZ (by simpa using hl) h.2]
 | [],[],_,_=>rfl
 | [],_ :: _,hl,_=>by simp at hl
 | _ :: _,[],hl,_=>by simp at hl
def nF(a:ga):List Int:=[if a.set=true then 1 else 0,a.key,a.item,a.author,a.seq]
def pm(a:Tally):List Int:=[a.key,a.author]
theorem po(a b:ga):gQ a b=kE (nF a) (nF b):=by
 obtain⟨c,_,_,_,_⟩:=a
 obtain⟨d,_,_,_,_⟩:=b
 unfold gQ nF
 cases c <;> cases d <;> simp [m6,kE,gr]
theorem px(a b:Tally):gY a b=kE (pm a) (pm b):=by
 unfold gY pm
 simp only [kE,m6]
def lm(l:List ga):Prop:=l.Pairwise fun a b=>gQ a b<0
def kp(l:List Tally):Prop:=l.Pairwise fun a b=>gY a b<0
theorem rh{a b c:ga}(h1:gQ a b<0)(h2:gQ b c<0):gQ a c<0:=by rw [po] at *;exact sL h1 h2
theorem qW{a b c:Tally}(h1:gY a b<0)(h2:gY b c<0):gY a c<0:=by rw [px] at *;exact sL h1 h2
theorem vf{α:Type}{f:α→α→Int}(ht:∀ {a b c},f a b<0→f b c<0→f a c<0){l:List α}(h:l.Pairwise fun a b=>f a b<0)(t:α):∀ (a b:Nat) y z,a≤b→l[a]? = some y→l[b]? = some z→f z t<0→f y t<0:=fun a b y z hab hy hz hlt=>by
 obtain⟨ha,rfl⟩:=List.getElem?_eq_some_iff.1 hy
 obtain⟨hb,rfl⟩:=List.getElem?_eq_some_iff.1 hz
 rcases Nat.lt_or_eq_of_le hab with h' | rfl
 ·exact ht (List.pairwise_iff_getElem.1 h a b ha hb h') hlt
 ·exact hlt
theorem wx{l:List ga}(h:lm l)(t:ga):∀ (a b:Nat) y z,a≤b→l[a]? = some y→l[b]? = some z→gQ z t<0→gQ y t<0:=vf (f:=gQ) rh h t
theorem xT{l:List Tally}(h:kp l)(t:Tally):∀ (a b:Nat) y z,a≤b→l[a]? = some y→l[b]? = some z→gY z t<0→gY y t<0:=vf (f:=gY) qW h t
def ie(set:Bool)(u:fH)(l:ga):Bool:=(l.set == set) && (l.key == u.key) && (!set || l.item == u.item) && kK u.seen l.author l.seq
def jo{α:Type}(f:α→Int)(l:List α):Nat:=l.findIdx fun y=>decide (0≤f y)
theorem qV{α:Type}{f:α→Int}{l:List α}{i:Nat}(hi:i≤l.length)(ha:∀ (a:Nat) y,a<i→l[a]? = some y→f y<0)(hb:∀ (a:Nat) y,i≤a→l[a]? = some y→0≤f y):i=jo f l:=by
 unfold jo
 symm
 rcases Nat.lt_or_ge i l.length with h | h
 ·rw [List.findIdx_eq h]
  refine⟨?_,fun j b => ?_⟩
  ·simpa using hb i l[i] (Nat.le_refl _) (List.getElem?_eq_getElem h)
  ·have:=ha j l[j] b (List.getElem?_eq_getElem (by omega))
   simp;omega
 ·have e:i=l.length:=by omega
  rw [e,List.findIdx_eq_length]
  intro y c
  obtain⟨j,b,rfl⟩:=List.getElem_of_mem c
  have:=ha j l[j] (by omega) (List.getElem?_eq_getElem b)
  simp;omega
def iz{α:Type}(f:α→α→Int)(l:List α)(x:α):List α:=l.take (jo (fun y=>f y x) l)++[x]++l.drop (jo (fun y=>f y x) l)
theorem wN{α:Type}(f:α→α→Int)(l:List α)(x:α):(iz f l x).length=l.length+1:=by
 have:jo (fun y=>f y x) l≤l.length:=List.findIdx_le_length
 unfold iz;simp;omega
def jq(l:List Tally)(t:Tally):List Tally :=
 match l[jo (fun y=>gY y t) l]? with
 | some z=>if gY z t=0 then(if z.sum+t.sum=0 then l.eraseIdx (jo (fun y=>gY y t) l) else l.set (jo (fun y=>gY y t) l) { z with sum:=z.sum+t.sum }) else if t.sum=0 then l else iz gY l t
 | none=>if t.sum=0 then l else iz gY l t
section
variable {l:List Tally} {t z:Tally} {i:Nat} (hi:i≤l.length) (ha:∀ (a:Nat) y,a<i→l[a]? = some y→gY y t<0) (hb:∀ (a:Nat) y,i≤a→l[a]? = some y→0≤gY y t)
include hi ha hb
theorem DI(hz:l[i]? = some z)(h0:gY z t=0)(hs:z.sum+t.sum=0):l.eraseIdx i=jq l t:=by
 have e:=qV (f:=fun y=>gY y t) hi ha hb
 unfold jq
 rw [← e,hz];simp [h0,hs]
theorem BJ(hz:l[i]? = some z)(h0:gY z t=0)(hs:¬ z.sum+t.sum=0):l.set i { z with sum:=z.sum+t.sum } = jq l t:=by
 have e:=qV (f:=fun y=>gY y t) hi ha hb
 unfold jq
 rw [← e,hz];simp [h0,hs]
theorem DA(hf:∀ z,l[i]? = some z→gY z t ≠ 0)(hs:t.sum=0):l=jq l t:=by
 have e:=qV (f:=fun y=>gY y t) hi ha hb
 unfold jq
 rw [← e]
 split
 ·rename_i z a;rw [if_neg (hf z a),if_pos hs]
 ·rw [if_pos hs]
theorem EL(hf:∀ z,l[i]? = some z→gY z t ≠ 0)(hs:¬ t.sum=0):l.take i++[t]++l.drop i=jq l t:=by
 have e:=qV (f:=fun y=>gY y t) hi ha hb
 unfold jq
 rw [← e]
 split
 ·rename_i z a;rw [if_neg (hf z a),if_neg hs];unfold iz;rw [← e]
 ·rw [if_neg hs];unfold iz;rw [← e]
end
def jK(set:Bool)(u:fH)(seq:Int):ga:=⟨set,u.key,u.item,u.author,seq⟩
def iq(s:gt)(u:fH):gt :=
 let set:=decide (u.kind=3∨u.kind=4)
 let ls:=if u.kind ≠ 5∧u.kind ≠ 3 then s.lives.filter fun l => !ie set u l else s.lives
 ⟨gD s.clock u.author,if u.kind=1∨u.kind=3 then iz gQ ls (jK set u (hG u)) else ls,if u.kind=5 then jq s.tallies ⟨u.key,u.author,u.item⟩ else s.tallies⟩
end
theorem wI{l:List Int}{n:Int}(h1:1≤n)(h2:n≤6)(h3:(l.length:Int)=n)(h4:∀ x∈l,0≤x∧x≤1000):gb l n=0:=by
 unfold gb
 rw [if_neg (by omega),if_pos]
 rw [List.all_eq_true]
 intro x a
 have:=h4 x a
 simp [mc,this.1,this.2]
theorem lO{c:List Int}{n:Int}(h:gb c n=0)(k:Nat):0≤g6 c k∧g6 c k≤1000:=by
 rcases Nat.lt_or_ge k c.length with a | a
 ·rw [lX a];exact(i7 h).2.2.2 _ (List.getElem_mem a)
 ·rw [oV a];omega
structure kg (c:List Int) (u:fH) (n:Int):Prop where
 r:n5 u n
 eq:g6 u.seen u.author.toNat=g6 c u.author.toNat
 sees:gO c u.seen=true
theorem tF{c:List Int}{u:fH}{n:Int}(hc:gb c n=0)(h:kv c u n=0):kg c u n:=by
 unfold kv at h
 split at h
 ·rename_i b;exact absurd h b
 ·rename_i b
  have a:=od.1 (Classical.not_not.1 b)
  split at h
  ·cases h
  ·rename_i e
   split at h
   ·cases h
   ·rename_i f
    have d:gO c u.seen=true:=by simpa using f
    refine⟨a,?_,d⟩
    have g:=jJ.1 d u.author.toNat
    have i:=a.len
    have j:=i7 hc
    have k:=a.a0
    have l:=a.a1
    have m:¬ g6 u.seen u.author.toNat<g6 c u.author.toNat:=by
     intro o
     refine e ?_
     unfold iJ
     simp only [Bool.and_eq_true,decide_eq_true_eq]
     omega
    omega
theorem uy{c:List Int}{u:fH}{n:Int}(h:kg c u n):kv c u n=0:=by
 unfold kv
 have d:=od.2 h.r
 have b:iJ c u=false:=by
  rw [Bool.eq_false_iff];intro a
  unfold iJ at a
  simp only [Bool.and_eq_true,decide_eq_true_eq] at a
  have:=h.eq
  omega
 rw [if_neg (by omega),if_neg (by simp [b]),if_neg (by simp [h.sees])]
theorem m0{c:List Int}{u:fH}{n:Int}(hc:gb c n=0)(h:kg c u n)(j:Nat):g6 (gD c u.author) j=if j=u.author.toNat then g6 c u.author.toNat+1 else g6 c j:=by
 have e:=h.r.len
 have f:=i7 hc
 have a:=h.r.a0
 have b:=h.r.a1
 obtain⟨k,d⟩:=Int.eq_ofNat_of_zero_le a
 rw [d] at b ⊢
 rw [Eb (by omega),AK (by omega),Int.toNat_natCast]
 have:=lO hc k
 rw [vz (by rw [← lX (by omega)];omega) (by rw [← lX (by omega)];omega),← lX (by omega)]
theorem mL{c:List Int}{u:fH}{n:Int}(hc:gb c n=0)(h:kg c u n):gb (gD c u.author) n=0:=by
 have a:=i7 hc
 refine wI a.1 a.2.1 (by rw [rG];exact a.2.2.1) fun x b => ?_
 obtain⟨j,d,e⟩:=List.getElem_of_mem b
 rw [← e,← lX d,m0 hc h j]
 have f:=lO hc j
 have g:=lO hc u.author.toNat
 have:=h.eq
 have:=h.r.s
 split <;> omega
theorem q7{c:List Int}{u:fH}{n:Int}(hc:gb c n=0)(h:kg c u n):gO (gD c u.author) c=true:=jJ.2 fun k=>by
 rw [m0 hc h k];split
 ·rename_i e;subst e;omega
 ·omega
theorem x9{n:Int}:∀ (l1:List fH) (c:List Int) (i:Nat) (l2:List fH),(iL n c l1 i).2.1=0→iL n c (l1++l2) i=iL n (iL n c l1 i).1 l2 (i+l1.length)
 | [],c,i,l2,_=>by simp [iL]
 | u :: l1,c,i,l2,h=>by
  rw [List.cons_append,iL.eq_2,iL.eq_2]
  rw [iL.eq_2] at h
  by_cases he:kv c u n=0
  ·rw [if_neg (by omega)] at h ⊢
   rw [if_neg (by omega),x9 l1 _ _ _ h]
   congr 1
   simp only [List.length_cons];omega
  ·rw [if_pos he] at h;exact absurd h he
theorem y9{n:Int}:∀ (l1:List fH) (c:List Int) (i:Nat) (l2:List fH),(iL n c l1 i).2.1 ≠ 0→iL n c (l1++l2) i=iL n c l1 i
 | [],c,i,l2,h=>by simp [iL] at h
 | u :: l1,c,i,l2,h=>by
  rw [List.cons_append,iL.eq_2,iL.eq_2]
  rw [iL.eq_2] at h
  by_cases he:kv c u n=0
  ·rw [if_neg (by omega)] at h ⊢
   rw [if_neg (by omega),y9 l1 _ _ _ h]
  ·rw [if_pos he,if_pos he]
theorem qk{n:Int}:∀ (l:List fH) (c:List Int) (i:Nat),gb c n=0→(iL n c l i).2.1=0 →
  gb (iL n c l i).1 n=0∧gO (iL n c l i).1 c=true ∧ ∀ u∈l,n5 u n∧g6 c u.author.toNat≤g6 u.seen u.author.toNat
 | [],c,i,hc,_=>⟨hc,my c,by simp⟩
 | u :: l,c,i,hc,h=>by
  rw [iL.eq_2] at h ⊢
  by_cases he:kv c u n=0
  ·rw [if_neg (by omega)] at h ⊢
   have hs:=tF hc he
   obtain⟨a1,a2,a3⟩:=qk l (gD c u.author) (i+1) (mL hc hs) h
   refine⟨a1,ma a2 (q7 hc hs),fun v hv => ?_⟩
   rcases List.mem_cons.1 hv with e | hv
   ·subst e;exact⟨hs.r,by rw [hs.eq];exact Int.le_refl _⟩
   ·refine⟨(a3 v hv).1,Int.le_trans ?_ (a3 v hv).2⟩
    exact jJ.1 (q7 hc hs) _
  ·rw [if_pos he] at h;exact absurd h he
theorem tz{base:List Int}{l:List fH}{n:Int}(h:gb base n=0)(hl:l.length≤300):gc base l n=iL n base l 0:=by
 unfold gc;rw [if_neg (by omega),if_neg (by omega)]
theorem sh{base:List Int}{l:List fH}{n:Int}(h:(gc base l n).2.1=0):gb base n=0∧l.length≤300∧gc base l n=iL n base l 0:=by
 unfold gc at h ⊢
 split at h
 ·rename_i a;exact absurd h a
 ·rename_i a
  split at h
  ·cases h
  ·rename_i b
   exact⟨by omega,by omega,by rw [if_neg a,if_neg b]⟩
section
theorem B6{a b:ga}(h:nF a=nF b):a=b:=by
 obtain⟨c,_,_,_,_⟩:=a
 obtain⟨d,_,_,_,_⟩:=b
 cases c <;> cases d <;> simp [nF] at h <;> simp [h]
theorem qC{a b:ga}:gQ a b=0↔a=b:=by
 rw [po]
 constructor
 ·intro h;exact B6 (tZ rfl h)
 ·rintro rfl;simp [nF,kE,gr]
theorem rN{a b:Tally}:gY a b=0↔a.key=b.key∧a.author=b.author:=by
 rw [px];unfold pm
 rw [tW,tW];simp [kE]
theorem qt{a b:ga}:gQ b a = - gQ a b:=by rw [po,po];exact qD
theorem qE{a b:Tally}:gY b a = - gY a b:=by rw [px,px];exact qD
theorem v7{α:Type}{r:α→α→Prop}(hi:∀ a,¬ r a a)(hs:∀ a b,r a b→r b a→False):∀ {l1 l2:List α},l1.Pairwise r→l2.Pairwise r→(∀ x,x∈l1↔x∈l2)→l1=l2
 | [],[],_,_,_=>rfl
 | [],b :: l2,_,_,h=>by have:=(h b).2 (by simp);cases this
 | a :: l1,[],_,_,h=>by have:=(h a).1 (by simp);cases this
 | a :: l1,b :: l2,h1,h2,h=>by
  rw [List.pairwise_cons] at h1 h2
  have e:a=b:=by
   have d:=(h a).1 (by simp)
   have f:=(h b).2 (by simp)
   rcases List.mem_cons.1 d with e | d
   ·exact e
   ·rcases List.mem_cons.1 f with e | f
    ·exact e.symm
    ·exact absurd (h1.1 b f) (fun k=>hs _ _ k (h2.1 a d))
  subst e
  rw [v7 hi hs h1.2 h2.2 fun x => ?_]
  have k:=h x
  simp only [List.mem_cons] at k
  constructor
  ·intro c
   rcases k.1 (.inr c) with e | g
   ·subst e;exact absurd (h1.1 _ c) (hi _)
   ·exact g
  ·intro c
   rcases k.2 (.inr c) with e | g
   ·subst e;exact absurd (h2.1 _ c) (hi _)
   ·exact g
theorem tL{l1 l2:List ga}(h1:lm l1)(h2:lm l2)(h:∀ x,x∈l1↔x∈l2):l1=l2 :=
 v7 (fun a h=>by rw [qC.2 rfl] at h;omega) (fun a b h k=>by rw [qt] at k;omega) h1 h2 h
theorem tu{l1 l2:List Tally}(h1:kp l1)(h2:kp l2)(h:∀ x,x∈l1↔x∈l2):l1=l2 :=
 v7 (fun a h=>by rw [rN.2 ⟨rfl,rfl⟩] at h;omega) (fun a b h k=>by rw [qE] at k;omega) h1 h2 h
theorem ux{α:Type}{f:α→Nat}{N:Nat}:∀ {l:List α} {m:Nat},l.Pairwise (fun a b=>f a<f b)→(∀ x∈l,m≤f x∧f x<N)→m≤N→m+l.length≤N
 | [],m,_,_,h=>h
 | a :: l,m,hp,hb,hm=>by
  rw [List.pairwise_cons] at hp
  have ha:=hb a (by simp)
  have:=ux (l:=l) (m:=f a+1) hp.2 (fun x hx=>⟨hp.1 x hx,(hb x (by simp [hx])).2⟩) (by omega)
  simp only [List.length_cons];omega
section
variable {α:Type} {f:α→Int} {l:List α}
theorem yW{y:α}(h:y∈l.take (jo f l)):f y<0:=by
 obtain⟨j,a,e⟩:=List.getElem_of_mem h
 rw [List.length_take] at a
 have b:=List.not_of_lt_findIdx (p:=fun y=>decide (0≤f y)) (xs:=l) (i:=j) (by unfold jo at a;omega)
 rw [List.getElem_take] at e
 rw [e] at b
 simp at b
 omega
theorem wQ{y:α}(hm:∀ (a b:Nat) y z,a≤b→l[a]? = some y→l[b]? = some z→f z<0→f y<0)(h:y∈l.drop (jo f l)):0≤f y:=by
 obtain⟨j,g,e⟩:=List.getElem_of_mem h
 rw [List.length_drop] at g
 rw [List.getElem_drop] at e
 have c:jo f l<l.length:=by omega
 have d:=List.findIdx_getElem (p:=fun y=>decide (0≤f y)) (xs:=l) (w:=c)
 have d:0≤f l[jo f l]:=of_decide_eq_true d
 rcases Int.lt_or_le (f y) 0 with i | k
 ·have:=hm (jo f l) (jo f l+j) l[jo f l] y (by omega) (List.getElem?_eq_getElem c) (by rw [List.getElem?_eq_getElem (by omega),e]) i
  omega
 ·exact k
end
theorem o5{α:Type}{f:α→α→Int}{l:List α}{x y:α}:y∈iz f l x↔y∈l∨y=x:=by
 unfold iz
 conv=>rhs;rw [← List.take_append_drop (jo (fun y=>f y x) l) l]
 simp only [List.mem_append,List.mem_singleton]
 constructor
 ·rintro((h | h) | h)
  ·exact .inl (.inl h)
  ·exact .inr h
  ·exact .inl (.inr h)
 ·rintro((h | h) | h)
  ·exact .inl (.inl h)
  ·exact .inr h
  ·exact .inl (.inr h)
theorem sf{α:Type}{f:α→α→Int}(hs:∀ a b,f b a = - f a b)(ht:∀ {a b c},f a b<0→f b c<0→f a c<0){l:List α}{x:α}(h:l.Pairwise fun a b=>f a b<0)(hn:∀ y∈l,f y x ≠ 0):(iz f l x).Pairwise fun a b=>f a b<0:=by
 have j:=vf (f:=f) ht h x
 have k:∀ y∈l.take (jo (fun y=>f y x) l),f y x<0:=fun y d=>yW (f:=fun y=>f y x) d
 have m:∀ y∈l.drop (jo (fun y=>f y x) l),f x y<0:=fun y d=>by
  have:=wQ (f:=fun y=>f y x) j d
  have:=hn y (List.mem_of_mem_drop d)
  rw [hs];omega
 unfold iz
 rw [← List.take_append_drop (jo (fun y=>f y x) l) l,List.pairwise_append] at h
 rw [List.append_assoc,List.pairwise_append,List.singleton_append,List.pairwise_cons]
 refine⟨h.1,⟨m,h.2.1⟩,fun a i b g => ?_⟩
 rcases List.mem_cons.1 g with e | g
 ·subst e;exact k a i
 ·exact h.2.2 a i b g
structure r9 (c:List Int) (n:Int) (x:ga):Prop where
 a0:0≤x.author
 a1:x.author<n
 q0:1≤x.seq
 q1:x.seq≤g6 c x.author.toNat
 k0:0≤x.key
 k1:x.key≤15
 i0:-1000≤x.item
 i1:x.item≤1000
structure wF (c:List Int) (n:Int) (x:Tally):Prop where
 a0:0≤x.author
 a1:x.author<n
 k0:0≤x.key
 k1:x.key≤15
 s0:-(1000 * g6 c x.author.toNat)≤x.sum
 s1:x.sum≤1000 * g6 c x.author.toNat
 ne:x.sum ≠ 0
structure iN (s:gt) (n:Int):Prop where
 c:gb s.clock n=0
 l:∀ x∈s.lives,r9 s.clock n x
 ls:lm s.lives
 t:∀ x∈s.tallies,wF s.clock n x
 ts:kp s.tallies
theorem xL{α:Type}{f:α→α→Int}(ht:∀ {a b c},f a b<0→f b c<0→f a c<0){p:Option α}{x:α}{l:List α}:(p.toList++x :: l).Pairwise (fun a b=>f a b<0)↔(∀ q∈p,f q x<0)∧(x :: l).Pairwise fun a b=>f a b<0:=by
 cases p with
 | none=>simp
 | some q =>
  simp only [Option.toList_some,List.singleton_append,Option.mem_def,Option.some.injEq,forall_eq']
  rw [List.pairwise_cons]
  constructor
  ·rintro⟨d,g⟩;exact⟨d x (by simp),g⟩
  ·rintro⟨d,g⟩
   refine⟨fun y h => ?_,g⟩
   rcases List.mem_cons.1 h with e | h
   ·subst e;exact d
   ·exact ht d ((List.pairwise_cons.1 g).1 y h)
theorem Ab{c:List Int}{n:Int}{x:ga}{l:List ga}{p:Option ga}{i:Nat}:(mj c n p (x :: l) i).1=0↔(¬ (x.author<0∨n≤x.author∨x.seq<1∨x.key<0∨15<x.key∨x.item < -1000∨1000<x.item) ∧ ¬ g6 c x.author.toNat<x.seq)∧(∀ q∈p,gQ q x<0)∧(mj c n (some x) l (i+1)).1=0:=by
 have e:mj c n p (x :: l) i=if x.author<0∨n≤x.author∨x.seq<1∨x.key<0∨15<x.key∨x.item < -1000∨1000<x.item then(3,(i:Int))
  else if g6 c x.author.toNat<x.seq then(8,(i:Int))
  else if(match p with | some q=>decide (0≤gQ q x) | none=>false)=true then(2,(i:Int))
  else mj c n (some x) l (i+1):=rfl
 rw [e]
 by_cases a:x.author<0∨n≤x.author∨x.seq<1∨x.key<0∨15<x.key∨x.item < -1000∨1000<x.item
 ·rw [if_pos a];constructor
  ·intro h;cases h
  ·intro h;exact absurd a h.1.1
 ·rw [if_neg a]
  by_cases b:g6 c x.author.toNat<x.seq
  ·rw [if_pos b];constructor
   ·intro h;cases h
   ·intro h;exact absurd b h.1.2
  ·rw [if_neg b]
   cases p with
   | none=>simp [a,b]
   | some q =>
    by_cases f:0≤gQ q x
    ·rw [if_pos (decide_eq_true f)];constructor
     ·intro h;cases h
     ·intro h;have:=h.2.1 q rfl;omega
    ·rw [if_neg (by simpa using f)]
     exact⟨fun h=>⟨⟨a,b⟩,fun _ d=>by injection d with d;subst d;omega,h⟩,fun h=>h.2.2⟩
theorem DJ{c:List Int}{n:Int}{x:Tally}{l:List Tally}{p:Option Tally}{i:Nat}:(n7 c n p (x :: l) i).1=0 ↔ ¬ (x.author<0∨n≤x.author∨x.key<0∨15<x.key∨x.sum < -(mh c n x)∨mh c n x<x.sum∨x.sum=0)∧(∀ q∈p,gY q x<0)∧(n7 c n (some x) l (i+1)).1=0:=by
 have e:n7 c n p (x :: l) i=if x.author<0∨n≤x.author∨x.key<0∨15<x.key∨x.sum < -(mh c n x)∨mh c n x<x.sum∨x.sum=0 then(3,(i:Int))
  else if(match p with | some q=>decide (0≤gY q x) | none=>false)=true then(2,(i:Int))
  else n7 c n (some x) l (i+1):=rfl
 rw [e]
 by_cases a:x.author<0∨n≤x.author∨x.key<0∨15<x.key∨x.sum < -(mh c n x)∨mh c n x<x.sum∨x.sum=0
 ·rw [if_pos a];constructor
  ·intro h;cases h
  ·intro h;exact absurd a h.1
 ·rw [if_neg a]
  cases p with
  | none=>simp [a]
  | some q =>
   by_cases d:0≤gY q x
   ·rw [if_pos (decide_eq_true d)];constructor
    ·intro h;cases h
    ·intro h;have:=h.2.1 q rfl;omega
   ·rw [if_neg (by simpa using d)]
    exact⟨fun h=>⟨a,fun _ b=>by injection b with b;subst b;omega,h⟩,fun h=>h.2.2⟩
theorem uP{c:List Int}{n:Int}:∀ {l:List ga} {p:Option ga} {i:Nat},(mj c n p l i).1=0↔(∀ x∈l,r9 c n x)∧(l ≠ []→lm (p.toList++l))
 | [],p,i=>by simp [mj]
 | x :: l,p,i=>by
  have ih:=uP (c:=c) (n:=n) (l:=l) (p:=some x) (i:=i+1)
  unfold lm at ih ⊢
  rw [Ab,xL (f:=gQ) rh,ih]
  constructor
  ·rintro⟨⟨h1,h2⟩,h3,a,b⟩
   refine⟨fun y hy => ?_,fun _=>⟨h3,?_⟩⟩
   ·rcases List.mem_cons.1 hy with e | hy
    ·subst e;exact⟨by omega,by omega,by omega,by omega,by omega,by omega,by omega,by omega⟩
    ·exact a y hy
   ·cases l with
    | nil=>simp
    | cons z l=>exact b (by simp)
  ·rintro⟨a,b⟩
   have hx:=a x (by simp)
   obtain⟨b1,b2⟩:=b (by simp)
   exact⟨⟨by have:=hx.a0;have:=hx.a1;have:=hx.q0;have:=hx.k0;have:=hx.k1;have:=hx.i0;have:=hx.i1;omega,by have:=hx.q1;omega⟩,b1,fun y hy=>a y (by simp [hy]),fun _=>b2⟩
theorem vK{c:List Int}{n:Int}:∀ {l:List Tally} {p:Option Tally} {i:Nat},(n7 c n p l i).1=0↔(∀ x∈l,wF c n x)∧(l ≠ []→kp (p.toList++l))
 | [],p,i=>by simp [n7]
 | x :: l,p,i=>by
  have ih:=vK (c:=c) (n:=n) (l:=l) (p:=some x) (i:=i+1)
  unfold kp at ih ⊢
  rw [DJ,xL (f:=gY) qW,ih]
  constructor
  ·rintro⟨h1,h3,a,b⟩
   refine⟨fun y hy => ?_,fun _=>⟨h3,?_⟩⟩
   ·rcases List.mem_cons.1 hy with e | hy
    ·subst e
     have e:mh c n y=1000 * g6 c y.author.toNat:=by unfold mh;rw [if_pos (by omega)]
     rw [e] at h1
     exact⟨by omega,by omega,by omega,by omega,by omega,by omega,by omega⟩
    ·exact a y hy
   ·cases l with
    | nil=>simp
    | cons z l=>exact b (by simp)
  ·rintro⟨a,b⟩
   have d:=a x (by simp)
   obtain⟨g,h⟩:=b (by simp)
   have e:mh c n x=1000 * g6 c x.author.toNat:=by unfold mh;rw [if_pos ⟨d.a0,d.a1⟩]
   exact⟨by rw [e];have:=d.a0;have:=d.a1;have:=d.k0;have:=d.k1;have:=d.s0;have:=d.s1;have:=d.ne;omega,g,fun y hy=>a y (by simp [hy]),fun _=>h⟩
theorem zi{α:Type}{l:List α}{r:α→α→Prop}(h:l ≠ []→l.Pairwise r):l.Pairwise r:=by
 cases l with
 | nil=>simp
 | cons x l=>exact h (by simp)
theorem mQ{s:gt}{n:Int}:(gj s n).1=0↔iN s n:=by
 unfold gj
 constructor
 ·intro h
  split at h
  ·rename_i d;exact absurd h d
  ·rename_i d
   split at h
   ·rename_i e;exact absurd h e
   ·rename_i e
    have a:=uP.1 (Classical.not_not.1 e)
    have b:=vK.1 h
    exact⟨Classical.not_not.1 d,a.1,zi a.2,b.1,zi b.2⟩
 ·intro h
  have a:=uP (i:=0) (p:=none).2 ⟨h.l,fun _=>h.ls⟩
  have b:=vK (i:=0) (p:=none).2 ⟨h.t,fun _=>h.ts⟩
  rw [if_neg (fun k=>k h.c),if_neg (fun k=>k a),b]
def rj(x:ga):Nat:=((((if x.set then 1 else 0) * 16+x.key.toNat) * 2001+(x.item+1000).toNat) * 6+x.author.toNat) * 1001+x.seq.toNat
theorem ET{c:List Int}{n:Int}(hc:gb c n=0){a b:ga}(ha:r9 c n a)(hb:r9 c n b)(h:gQ a b<0):rj a<rj b:=by
 have f:=i7 hc
 have g:=lO hc a.author.toNat
 have i:=lO hc b.author.toNat
 obtain⟨_,_,_,_,_,_,_,_⟩:=ha
 obtain⟨_,_,_,_,_,_,_,_⟩:=hb
 rw [po] at h
 unfold nF at h
 simp only [nZ] at h
 unfold rj
 obtain⟨d,_,_,_,_⟩:=a
 obtain⟨e,_,_,_,_⟩:=b
 dsimp only at *
 rcases h with h | ⟨h0,h | ⟨h1,h | ⟨h2,h | ⟨h3,h | ⟨h4,h⟩⟩⟩⟩⟩
 ·cases d <;> cases e <;> simp at h ⊢ <;> omega
 ·cases d <;> cases e <;> simp at h0 ⊢ <;> omega
 ·subst h1;cases d <;> cases e <;> simp at h0 ⊢ <;> omega
 ·subst h1 h2;cases d <;> cases e <;> simp at h0 ⊢ <;> omega
 ·subst h1 h2 h3;cases d <;> cases e <;> simp at h0 ⊢ <;> omega
 ·simp [kE] at h
theorem D6{c:List Int}{n:Int}(hc:gb c n=0){a:ga}(ha:r9 c n a):rj a<400000000:=by
 have b:=i7 hc
 have d:=lO hc a.author.toNat
 obtain⟨_,_,_,_,_,_,_,_⟩:=ha
 unfold rj
 split <;> omega
def uO(x:Tally):Nat:=x.key.toNat * 6+x.author.toNat
theorem iN.lives_len{s:gt}{n:Int}(h:iN s n):s.lives.length≤400000000:=by
 have:=ux (f:=rj) (N:=400000000) (l:=s.lives) (m:=0) (List.Pairwise.imp_of_mem (fun {a b} d e g=>ET h.c (h.l a d) (h.l b e) g) h.ls) (fun x i=>⟨Nat.zero_le _,D6 h.c (h.l x i)⟩) (by omega)
 omega
theorem iN.tallies_len{s:gt}{n:Int}(h:iN s n):s.tallies.length≤96:=by
 have j:=i7 h.c
 have:=ux (f:=uO) (N:=96) (l:=s.tallies) (m:=0) (List.Pairwise.imp_of_mem (fun {a b} e g d=>by
  have⟨a1,a2,a3,a4,_,_,_⟩:=h.t a e
  have⟨b1,b2,b3,b4,_,_,_⟩:=h.t b g
  rw [px] at d
  unfold pm at d
  simp only [nZ] at d
  unfold uO
  rcases d with h | ⟨h1,h | ⟨h2,h⟩⟩
  ·omega
  ·omega
  ·simp [kE] at h) h.ts) (fun x i=>⟨Nat.zero_le _,by
   have⟨a1,a2,a3,a4,_,_,_⟩:=h.t x i
   unfold uO;omega⟩) (by omega)
 omega
theorem iN.clock_len{s:gt}{n:Int}(h:iN s n):s.clock.length≤6:=by have:=i7 h.c;omega
def jV(u:fH)(x:ga):Bool:=decide (u.kind ≠ 5) && decide (u.kind ≠ 3) && ie (decide (u.kind=3∨u.kind=4)) u x
def kA(u:fH):ga:=⟨decide (u.kind=3),u.key,u.item,u.author,g6 u.seen u.author.toNat+1⟩
def mv(u:fH):Bool:=decide (u.kind=1) || decide (u.kind=3)
theorem um{u:fH}{n:Int}(h:n5 u n):hG u=g6 u.seen u.author.toNat+1:=by
 unfold hG
 have:=lO h.c u.author.toNat
 exact vz (by omega) (by omega)
theorem B8{u:fH}{n:Int}(h:n5 u n)(hm:mv u=true):jK (decide (u.kind=3∨u.kind=4)) u (hG u)=kA u:=by
 unfold jK kA
 rw [um h]
 unfold mv at hm
 simp only [Bool.or_eq_true,decide_eq_true_eq] at hm
 rcases hm with e | e <;> rw [e] <;> rfl
theorem xJ{s:gt}{u:fH}{n:Int}(h:n5 u n):(iq s u).lives=if mv u=true then iz gQ (s.lives.filter fun x => !jV u x) (kA u) else s.lives.filter fun x => !jV u x:=by
 have c:(if u.kind ≠ 5∧u.kind ≠ 3 then s.lives.filter fun l => !ie (decide (u.kind=3∨u.kind=4)) u l else s.lives)=s.lives.filter fun x => !jV u x:=by
  unfold jV
  split
  ·rename_i b;simp [b]
  ·rename_i b
   symm;rw [List.filter_eq_self]
   intro x _
   by_cases d:u.kind=5 <;> by_cases e:u.kind=3 <;> simp_all
 show(if u.kind=1∨u.kind=3 then iz gQ (if u.kind ≠ 5∧u.kind ≠ 3 then s.lives.filter fun l => !ie (decide (u.kind=3∨u.kind=4)) u l else s.lives) (jK (decide (u.kind=3∨u.kind=4)) u (hG u)) else(if u.kind ≠ 5∧u.kind ≠ 3 then s.lives.filter fun l => !ie (decide (u.kind=3∨u.kind=4)) u l else s.lives))=_
 rw [c]
 by_cases a:mv u=true
 ·rw [if_pos a,B8 h a,if_pos (by unfold mv at a;simpa using a)]
 ·rw [if_neg a,if_neg (by unfold mv at a;simpa using a)]
theorem wa{s:gt}{u:fH}{n:Int}(h:n5 u n){x:ga}:x∈(iq s u).lives↔(x∈s.lives∧jV u x=false)∨(mv u=true∧x=kA u):=by
 rw [xJ h]
 split
 ·rename_i a;rw [o5];simp [a]
 ·rename_i a;simp [a]
theorem zI{u:fH}{x:ga}(h:jV u x=true):kK u.seen x.author x.seq=true:=by
 unfold jV ie at h
 simp only [Bool.and_eq_true] at h
 exact h.2.2
theorem wR{c:List Int}{a q:Int}(h:kK c a q=true):0≤a∧a<c.length∧q≤g6 c a.toNat:=by
 unfold kK at h
 simp only [Bool.and_eq_true,decide_eq_true_eq] at h
 exact⟨h.1.1,h.1.2,h.2⟩
theorem tx{u:fH}{x:ga}(h:g6 u.seen x.author.toNat<x.seq):jV u x=false:=by
 rw [Bool.eq_false_iff];intro k
 have:=(wR (zI k)).2.2
 omega
def kF(k a:Int)(t:Tally):Bool:=decide (t.key=k) && decide (t.author=a)
def jc(k a:Int):List Tally→Int
 | []=>0
 | t :: l=>(if kF k a t=true then t.sum else 0)+jc k a l
theorem nK(k a:Int):∀ l1 l2:List Tally,jc k a (l1++l2)=jc k a l1+jc k a l2
 | [],l2=>by simp [jc]
 | t :: l1,l2=>by simp only [List.cons_append,jc,nK k a l1 l2];omega
theorem mH{k a:Int}{t:Tally}:kF k a t=true↔t.key=k∧t.author=a:=by unfold kF;simp
theorem ta{k a:Int}:∀ {l:List Tally},(∀ t∈l,kF k a t=false)→jc k a l=0
 | [],_=>rfl
 | t :: l,h=>by
  have h1:=h t (by simp)
  have:=ta (k:=k) (a:=a) (l:=l) fun t ht=>h t (by simp [ht])
  simp only [jc,this,h1];simp
theorem vw{α:Type}{l:List α}{i:Nat}{z:α}(h:l[i]? = some z):l=l.take i++z :: l.drop (i+1):=by
 obtain⟨a,e⟩:=List.getElem?_eq_some_iff.1 h
 conv=>lhs;rw [← List.take_append_drop i l,List.drop_eq_getElem_cons a,e]
theorem s6{l:List Tally}(h:kp l){t:Tally}(ht:t∈l):jc t.key t.author l=t.sum:=by
 obtain⟨i,d⟩:=List.getElem?_of_mem ht
 have e:=vw d
 unfold kp at h
 rw [e,List.pairwise_append,List.pairwise_cons] at h
 rw [e,nK]
 simp only [jc]
 rw [ta (l:=l.take i) fun y a => ?_,ta (l:=l.drop (i+1)) fun y a => ?_,if_pos (mH.2 ⟨rfl,rfl⟩)]
 ·omega
 ·rw [Bool.eq_false_iff];intro k
  obtain⟨b,c⟩:=mH.1 k
  have:=h.2.1.1 y a
  rw [rN.2 ⟨b.symm,c.symm⟩] at this;omega
 ·rw [Bool.eq_false_iff];intro k
  obtain⟨b,c⟩:=mH.1 k
  have:=h.2.2 y a t (by simp)
  rw [rN.2 ⟨b,c⟩] at this;omega
theorem sQ{k a:Int}{l:List Tally}(h:kp l)(hne:jc k a l ≠ 0):(⟨k,a,jc k a l⟩:Tally)∈l:=by
 by_cases c:∃ t∈l,kF k a t=true
 ·obtain⟨t,b,d⟩:=c
  obtain⟨rfl,rfl⟩:=mH.1 d
  rw [s6 h b];exact b
 ·exact absurd (ta fun t b=>by rw [Bool.eq_false_iff];exact fun k=>c ⟨t,b,k⟩) hne
theorem Eq{l1 l2:List Tally}(h1:kp l1)(h2:kp l2)(n1:∀ t∈l1,t.sum ≠ 0)(n2:∀ t∈l2,t.sum ≠ 0)(h:∀ k a,jc k a l1=jc k a l2):l1=l2:=by
 refine tu h1 h2 fun x=>⟨fun b => ?_,fun b => ?_⟩
 ·have e:=s6 h1 b
  have c:=sQ (k:=x.key) (a:=x.author) h2 (by rw [← h,e];exact n1 x b)
  rw [← h,e] at c;exact c
 ·have e:=s6 h2 b
  have c:=sQ (k:=x.key) (a:=x.author) h1 (by rw [h,e];exact n2 x b)
  rw [h,e] at c;exact c
theorem xR(k a:Int)(l:List Tally)(t:Tally):jc k a (iz gY l t)=jc k a l+(if kF k a t=true then t.sum else 0):=by
 unfold iz
 rw [nK,nK]
 conv=>rhs;rw [← List.take_append_drop (jo (fun y=>gY y t) l) l,nK]
 simp only [jc];omega
theorem AF{k a:Int}{z t:Tally}(h:gY z t=0):kF k a z=kF k a t:=by
 obtain⟨b,c⟩:=rN.1 h
 unfold kF;rw [b,c]
theorem An(k a:Int)(l:List Tally)(t:Tally):jc k a (jq l t)=jc k a l+(if kF k a t=true then t.sum else 0):=by
 unfold jq
 split
 ·rename_i z d
  split
  ·rename_i f
   have e:=vw d
   have b:=AF (k:=k) (a:=a) f
   split
   ·rename_i j
    have c:l.eraseIdx (jo (fun y=>gY y t) l)=l.take (jo (fun y=>gY y t) l)++l.drop (jo (fun y=>gY y t) l+1):=List.eraseIdx_eq_take_drop_succ ..
    rw [c,nK]
    conv=>rhs;rw [e,nK]
    simp only [jc,b]
    split <;> omega
   ·have g:=(List.getElem?_eq_some_iff.1 d).1
    have c:l.set (jo (fun y=>gY y t) l) { z with sum:=z.sum+t.sum } = l.take (jo (fun y=>gY y t) l) ++ { z with sum:=z.sum+t.sum } :: l.drop (jo (fun y=>gY y t) l+1):=List.set_eq_take_append_cons_drop .. |>.trans (if_pos g)
    rw [c,nK]
    conv=>rhs;rw [e,nK]
    have i:kF k a { z with sum:=z.sum+t.sum } = kF k a t:=b
    simp only [jc,b,i]
    split <;> omega
  ·split
   ·rename_i h;rw [h];simp
   ·exact xR k a l t
 ·split
  ·rename_i h;rw [h];simp
  ·exact xR k a l t
theorem Bs{l:List Tally}{t:Tally}(h:∀ z∈l,z.sum ≠ 0):∀ z∈jq l t,z.sum ≠ 0:=by
 unfold jq
 intro y a
 split at a
 ·rename_i z c
  split at a
  ·split at a
   ·exact h y (List.mem_of_mem_eraseIdx a)
   ·rename_i b
    rcases List.mem_or_eq_of_mem_set a with a | e
    ·exact h y a
    ·subst e;exact b
  ·split at a
   ·exact h y a
   ·rename_i b
    rcases o5.1 a with a | e
    ·exact h y a
    ·subst e;exact b
 ·split at a
  ·exact h y a
  ·rename_i b
   rcases o5.1 a with a | e
   ·exact h y a
   ·subst e;exact b
theorem zp{l:List Tally}{t:Tally}(h:kp l):kp (jq l t):=by
 have s:=xT h t
 have p:(∀ z,l[jo (fun y=>gY y t) l]? = some z→gY z t ≠ 0)→kp (iz gY l t):=fun c=>by
  refine sf (f:=gY) (fun a b=>qE) qW h fun y d e => ?_
  have g:=d
  rw [← List.take_append_drop (jo (fun y=>gY y t) l) l] at g
  rcases List.mem_append.1 g with g | g
  ·have:=yW (f:=fun y=>gY y t) g;omega
  ·obtain⟨j,u,ej⟩:=List.getElem_of_mem g
   rw [List.length_drop] at u
   rw [List.getElem_drop] at ej
   have k:jo (fun y=>gY y t) l<l.length:=by omega
   have m:=c _ (List.getElem?_eq_getElem k)
   have q:0≤gY l[jo (fun y=>gY y t) l] t:=wQ (f:=fun y=>gY y t) s (by rw [List.drop_eq_getElem_cons k];exact List.mem_cons_self)
   cases j with
   | zero=>simp only [Nat.add_zero] at ej;rw [ej] at m;exact m e
   | succ j =>
    have n:=List.pairwise_iff_getElem.1 h _ _ k (by omega) (show jo (fun y=>gY y t) l<jo (fun y=>gY y t) l+(j+1) by omega)
    rw [ej] at n
    have v:gY t l[jo (fun y=>gY y t) l]<0:=by rw [qE];omega
    have w:=qW v n
    rw [qE] at w;omega
 unfold jq
 split
 ·rename_i z c
  split
  ·rename_i m
   split
   ·exact List.Pairwise.sublist (List.eraseIdx_sublist ..) h
   ·exact pairwise_set2 h c (fun y h=>h) (fun y h=>h)
  ·rename_i m
   split
   ·exact h
   ·exact p fun y d=>by rw [c] at d;injection d with d;subst d;exact m
 ·rename_i c
  split
  ·exact h
  ·exact p fun y d=>by rw [c] at d;cases d
where
 pairwise_set2 {l:List Tally} {i:Nat} {z y:Tally} (h:kp l) (c:l[i]? = some z) (q:∀ x,gY z x<0→gY y x<0) (n:∀ x,gY x z<0→gY x y<0):kp (l.set i y):=by
  have k:=(List.getElem?_eq_some_iff.1 c).1
  have e:=vw c
  have A:l.set i y=l.take i++y :: l.drop (i+1):=List.set_eq_take_append_cons_drop .. |>.trans (if_pos k)
  unfold kp at h ⊢
  rw [A]
  rw [e,List.pairwise_append,List.pairwise_cons] at h
  rw [List.pairwise_append,List.pairwise_cons]
  refine⟨h.1,⟨fun x B=>q x (h.2.1.1 x B),h.2.1.2⟩,fun a r b o => ?_⟩
  rcases List.mem_cons.1 o with e | o
  ·subst e;exact n a (h.2.2 a r z (by simp))
  ·exact h.2.2 a r b (by simp [o])
theorem tN{s:gt}{u:fH}:(iq s u).tallies=if u.kind=5 then jq s.tallies ⟨u.key,u.author,u.item⟩ else s.tallies:=rfl
theorem wA{s:gt}{u:fH}(k a:Int):jc k a (iq s u).tallies=jc k a s.tallies+(if u.kind=5∧u.key=k∧u.author=a then u.item else 0):=by
 rw [tN]
 split
 ·rename_i h;rw [An]
  by_cases b:u.key=k∧u.author=a
  ·rw [if_pos (mH.2 b),if_pos ⟨h,b⟩]
  ·rw [if_neg (fun k=>b (mH.1 k)),if_neg (fun k=>b k.2)]
 ·rename_i h;rw [if_neg (fun k=>h k.1)];omega
theorem sr{s:gt}{u:fH}:(iq s u).clock=gD s.clock u.author:=rfl
theorem sJ{s:gt}{u:fH}{n:Int}(h:iN s n)(k:kg s.clock u n):iN (iq s u) n:=by
 have L:=i7 h.c
 have d:=k.r
 have tk:=m0 h.c k
 have up:∀ j,g6 s.clock j≤g6 (gD s.clock u.author) j:=fun j=>by rw [tk];split <;> (try subst_vars) <;> omega
 have G:r9 (gD s.clock u.author) n (kA u):=by
  have:=lO d.c u.author.toNat
  refine⟨d.a0,d.a1,?_,?_,d.y0,d.y1,d.i0,d.i1⟩
  ·show 1≤g6 u.seen u.author.toNat+1;omega
  ·show g6 u.seen u.author.toNat+1≤g6 (gD s.clock u.author) u.author.toNat
   rw [tk,if_pos rfl,k.eq];exact Int.le_refl _
 refine⟨mL h.c k,fun x i => ?_,?_,fun x i => ?_,?_⟩
 ·rcases(wa d).1 i with⟨i,_⟩ | ⟨_,rfl⟩
  ·obtain⟨o,p,q,v,A,B,C,H⟩:=h.l x i
   exact⟨o,p,q,Int.le_trans v (up _),A,B,C,H⟩
  ·exact G
 ·rw [xJ d]
  have w:lm (s.lives.filter fun x => !jV u x):=List.Pairwise.filter _ h.ls
  split
  ·refine sf (f:=gQ) (fun a b=>qt) rh w fun y I e => ?_
   have e:=qC.1 e
   subst e
   have:=(h.l _ (List.mem_filter.1 I).1).q1
   have:g6 u.seen u.author.toNat+1≤g6 s.clock u.author.toNat:=this
   have:=k.eq
   omega
  ·exact w
 ·have J:kp (iq s u).tallies:=by rw [tN];split;exact zp h.ts;exact h.ts
  have K:∀ z∈(iq s u).tallies,z.sum ≠ 0:=by rw [tN];split;exact Bs fun z D=>(h.t z D).ne;exact fun z D=>(h.t z D).ne
  have m:=s6 J i
  rw [wA] at m
  have E:=K x i
  by_cases F:jc x.key x.author s.tallies=0
  ·rw [F] at m
   split at m
   ·rename_i g
    obtain⟨_,_,ka⟩:=g
    have:=d.a0;have:=d.a1;have:=d.y0;have:=d.y1;have:=d.i0;have:=d.i1
    have b:=lO h.c x.author.toNat
    refine⟨by omega,by omega,by omega,by omega,?_,?_,E⟩ <;> (show _≤_;rw [sr,tk,if_pos (by rw [ka])];rw [← ka] at b;omega)
   ·omega
  ·have w:=h.t _ (sQ h.ts F)
   obtain⟨o,p,q,v,A,B,C⟩:=w
   dsimp only at o p q v A B C
   refine⟨o,p,q,v,?_,?_,E⟩
   ·rw [sr,tk]
    split at m
    ·rename_i g;have:=d.i0;have:=d.i1;rw [if_pos (by rw [g.2.2]),g.2.2];omega
    ·have:=up x.author.toNat;rw [tk] at this;omega
   ·rw [sr,tk]
    split at m
    ·rename_i g;have:=d.i0;have:=d.i1;rw [if_pos (by rw [g.2.2]),g.2.2];omega
    ·have:=up x.author.toNat;rw [tk] at this;omega
 ·rw [tN];split
  ·exact zp h.ts
  ·exact h.ts
theorem yY{s t:gt}{n:Int}(h1:iN s n)(h2:iN t n)(hc:s.clock=t.clock)(hl:∀ x,x∈s.lives↔x∈t.lives)(ht:∀ k a,jc k a s.tallies=jc k a t.tallies):s=t:=by
 obtain⟨c,l,m⟩:=s
 obtain⟨_,l',m'⟩:=t
 dsimp only at hc hl ht
 subst hc
 have d:l=l':=tL h1.ls h2.ls hl
 have e:m=m':=Eq h1.ts h2.ts (fun z b=>(h1.t z b).ne) (fun z b=>(h2.t z b).ne) ht
 rw [d,e]
end
def mZ(s:gt)(l:List fH):gt:=l.foldl iq s
theorem D8(s:gt)(u:fH)(l:List fH):mZ s (u :: l)=mZ (iq s u) l:=rfl
theorem EX(s:gt)(l m:List fH):mZ s (l++m)=mZ (mZ s l) m:=List.foldl_append
def l0(k a:Int):List fH→Int
 | []=>0
 | u :: l=>(if u.kind=5∧u.key=k∧u.author=a then u.item else 0)+l0 k a l
def nQ(j:Nat):List fH→Int
 | []=>0
 | u :: l=>(if j=u.author.toNat then 1 else 0)+nQ j l
theorem sl{n:Int}{c:List Int}{u:fH}{l:List fH}{i:Nat}(hc:gb c n=0)(h:(iL n c (u :: l) i).2.1=0):kg c u n∧iL n c (u :: l) i=iL n (gD c u.author) l (i+1)∧(iL n (gD c u.author) l (i+1)).2.1=0:=by
 rw [iL.eq_2] at h ⊢
 by_cases a:kv c u n=0
 ·rw [if_neg (by omega)] at h ⊢
  exact⟨tF hc a,rfl,h⟩
 ·rw [if_pos a] at h;exact absurd h a
theorem rE{n:Int}:∀ (l:List fH) (c:List Int) (i:Nat),gb c n=0→(iL n c l i).2.1=0 → ∀ j,g6 (iL n c l i).1 j=g6 c j+nQ j l
 | [],c,i,hc,h,j=>by simp [iL,nQ]
 | u :: l,c,i,hc,h,j=>by
  obtain⟨h1,h2,h3⟩:=sl hc h
  rw [h2,rE l _ _ (mL hc h1) h3 j,m0 hc h1 j]
  simp only [nQ]
  split
  ·rename_i e;subst e;omega
  ·omega
structure sV (s t:gt) (l:List fH) (n:Int):Prop where
 r:iN t n
 m:∀ x,x∈t.lives↔(x∈s.lives ∨ ∃ u∈l,mv u=true∧x=kA u) ∧ ∀ v∈l,jV v x=false
 s:∀ k a,jc k a t.tallies=jc k a s.tallies+l0 k a l
theorem s7{n:Int}:∀ (l:List fH) (s:gt) (i:Nat),iN s n→(iL n s.clock l i).2.1=0→sV s (mZ s l) l n∧(mZ s l).clock=(iL n s.clock l i).1
 | [],s,i,hs,h=>⟨⟨hs,fun x=>by simp [mZ],fun k a=>by simp [mZ,l0]⟩,rfl⟩
 | u :: l,s,i,hs,h=>by
  obtain⟨h1,h2,h3⟩:=sl hs.c h
  have hr:=sJ hs h1
  obtain⟨⟨r,m,t⟩,cc⟩:=s7 l (iq s u) (i+1) hr h3
  rw [D8,h2]
  refine⟨⟨r,fun x => ?_,fun k a => ?_⟩,cc⟩
  ·rw [m,wa h1.r]
   have hlater:∀ w∈l,jV u (kA w)=false:=fun w hw=>by
    have e1:=(qk l _ (i+1) (mL hs.c h1) h3).2.2 w hw
    refine tx ?_
    show g6 u.seen w.author.toNat<g6 w.seen w.author.toNat+1
    have e2:=jJ.1 h1.sees w.author.toNat
    have e3:=jJ.1 (q7 hs.c h1) w.author.toNat
    have:=e1.2
    omega
   have hself:jV u (kA u)=false:=tx (by show g6 u.seen u.author.toNat<g6 u.seen u.author.toNat+1;omega)
   simp only [List.mem_cons,forall_eq_or_imp]
   constructor
   ·rintro⟨(⟨a,b⟩ | ⟨a,b⟩) | ⟨w,a,b,c⟩,hv⟩
    ·exact⟨.inl a,b,hv⟩
    ·subst b;exact⟨.inr ⟨u,.inl rfl,a,rfl⟩,hself,hv⟩
    ·subst c;exact⟨.inr ⟨w,.inr a,b,rfl⟩,hlater w a,hv⟩
   ·rintro⟨a | ⟨w,a | a,b,c⟩,hu,hv⟩
    ·exact⟨.inl (.inl ⟨a,hu⟩),hv⟩
    ·subst a;exact⟨.inl (.inr ⟨b,c⟩),hv⟩
    ·exact⟨.inr ⟨w,a,b,c⟩,hv⟩
  ·rw [t,wA];simp only [l0];omega
theorem Bj{k a:Int}{l m:List fH}(h:l.Perm m):l0 k a l=l0 k a m:=by
 induction h with
 | nil=>rfl
 | cons u _ ih=>simp only [l0,ih]
 | swap u v l=>simp only [l0];omega
 | trans _ _ a b=>exact a.trans b
theorem E9{j:Nat}{l m:List fH}(h:l.Perm m):nQ j l=nQ j m:=by
 induction h with
 | nil=>rfl
 | cons u _ ih=>simp only [nQ,ih]
 | swap u v l=>simp only [nQ];omega
 | trans _ _ a b=>exact a.trans b
theorem wE{n:Int}{l:List fH}{c:List Int}{i:Nat}(hc:gb c n=0)(h:(iL n c l i).2.1=0):((iL n c l i).1.length:Int)=n:=(i7 (qk l c i hc h).1).2.2.1
theorem By{n:Int}{l m:List fH}{s:gt}{i j:Nat}(hs:iN s n)(h:(iL n s.clock l i).2.1=0)(k:(iL n s.clock m j).2.1=0)(p:l.Perm m):mZ s l=mZ s m:=by
 obtain⟨a,ac⟩:=s7 l s i hs h
 obtain⟨b,bc⟩:=s7 m s j hs k
 refine yY a.r b.r ?_ (fun x => ?_) (fun _ _ => ?_)
 ·rw [ac,bc]
  refine ot (by have:=wE hs.c h;have:=wE hs.c k;omega) fun q => ?_
  rw [rE l _ _ hs.c h,rE m _ _ hs.c k,E9 p]
 ·rw [a.m,b.m]
  constructor
  ·rintro⟨d,e⟩
   refine⟨d.imp id fun⟨u,f,r⟩=>⟨u,p.mem_iff.1 f,r⟩,fun v g=>e v (p.mem_iff.2 g)⟩
  ·rintro⟨d,e⟩
   refine⟨d.imp id fun⟨u,f,r⟩=>⟨u,p.mem_iff.2 f,r⟩,fun v g=>e v (p.mem_iff.1 g)⟩
 ·rw [a.s,b.s,Bj p]
def mN:gt:=⟨[],[],[]⟩
def gn{α:Type}(l:List α):Int:=(l.length:Int)
def gF(s:gt)(u:fH):gt × Int :=
 if(gj s (gn s.clock)).1 ≠ 0 then(mN,(gj s (gn s.clock)).1)
 else if(gc s.clock [u] (gn s.clock)).2.1 ≠ 0 then(mN,(gc s.clock [u] (gn s.clock)).2.1)
 else(iq s u,0)
def g5(s:gt)(l:List fH):gt × Int × Int :=
 if(gj s (gn s.clock)).1 ≠ 0 then(mN,(gj s (gn s.clock)).1,0)
 else if(gc s.clock l (gn s.clock)).2.1 ≠ 0 then(mN,(gc s.clock l (gn s.clock)).2)
 else(mZ s l,0,0)
theorem wL{s:gt}{u:fH}(h:(gj s (gn s.clock)).1 ≠ 0):gF s u=(mN,(gj s (gn s.clock)).1):=by unfold gF;rw [if_pos h]
theorem wu{s:gt}{u:fH}(h:(gj s (gn s.clock)).1=0)(k:(gc s.clock [u] (gn s.clock)).2.1 ≠ 0):gF s u=(mN,(gc s.clock [u] (gn s.clock)).2.1):=by unfold gF;rw [if_neg (fun e=>e h),if_pos k]
theorem vY{s:gt}{u:fH}(h:(gj s (gn s.clock)).1=0)(k:(gc s.clock [u] (gn s.clock)).2.1=0):gF s u=(iq s u,0):=by unfold gF;rw [if_neg (fun e=>e h),if_neg (fun e=>e k)]
theorem DZ{s:gt}{l:List fH}(h:(gj s (gn s.clock)).1 ≠ 0):g5 s l=(mN,(gj s (gn s.clock)).1,0):=by unfold g5;rw [if_pos h]
theorem D1{s:gt}{l:List fH}(h:(gj s (gn s.clock)).1=0)(k:(gc s.clock l (gn s.clock)).2.1 ≠ 0):g5 s l=(mN,(gc s.clock l (gn s.clock)).2):=by unfold g5;rw [if_neg (fun e=>e h),if_pos k]
theorem C9{s:gt}{l:List fH}(h:(gj s (gn s.clock)).1=0)(k:(gc s.clock l (gn s.clock)).2.1=0):g5 s l=(mZ s l,0,0):=by unfold g5;rw [if_neg (fun e=>e h),if_neg (fun e=>e k)]
theorem CB{s:gt}{l:List fH}{n:Int}(h1:iN s n)(h2:(iL n s.clock l 0).2.1=0)(h3:l.length≤300):g5 s l=(mZ s l,0,0):=by
 have e:=(i7 h1.c).2.2.1
 have e':gn s.clock=n:=e
 exact C9 (by rw [e'];exact mQ.2 h1) (by rw [e',tz h1.c h3];exact h2)
theorem tH{s:gt}{u:fH}(h:(gF s u).2=0):iN s (gn s.clock)∧kg s.clock u (gn s.clock)∧gF s u=(iq s u,0):=by
 by_cases d:(gj s (gn s.clock)).1=0
 ·by_cases e:(gc s.clock [u] (gn s.clock)).2.1=0
  ·obtain⟨a,b,c⟩:=sh e
   exact⟨mQ.1 d,(sl a (c ▸ e)).1,vY d e⟩
  ·rw [wu d e] at h;exact absurd h e
 ·rw [wL d] at h;exact absurd h d
theorem Bh{s:gt}{u:fH}{n:Int}(h1:iN s n)(h2:kg s.clock u n):gF s u=(iq s u,0):=by
 have e:=(i7 h1.c).2.2.1
 have e':gn s.clock=n:=e
 refine vY (by rw [e'];exact mQ.2 h1) ?_
 rw [e',tz h1.c (by simp),iL.eq_2,uy h2,if_neg (by simp)]
 rfl
theorem xj{s:gt}{u:fH}{n:Int}(h1:(gj s n).1=0)(h2:(gc s.clock [u] n).2.1=0):iN s n∧kg s.clock u n:=by
 obtain⟨a,b,c⟩:=sh h2
 exact⟨mQ.1 h1,(sl a (c ▸ h2)).1⟩
def gS(n:Int):gt:=⟨List.replicate (min (max n 0) 6).toNat 0,[],[]⟩
section
structure AY where
 key:Int
 items:List Int
deriving DecidableEq
structure jQ where
 key:Int
 sum:Int
deriving DecidableEq
def uz:CR jQ:=fun _ cs x=>cs=[.int .i64 x.key,.int .i64 x.sum]
instance:i9 uz:=⟨fun _ _ _ _ _ h=>h,fun _ _ _ h u hu=>by
 cases h;simp only [List.mem_cons,List.not_mem_nil,or_false] at hu;rcases hu with h | h <;> subst h <;> rfl⟩
section
variable {set:Bool} {out F:List AY} {x:ga} {key:Int} {its:List Int} {y:Int}
end
theorem ue{α β:Type}{f:β→α→β}{b:β}{l:List α}{k:Nat}{x:α}(h:l[k]? = some x):(l.take (k+1)).foldl f b=f ((l.take k).foldl f b) x:=by
 rw [jl h,List.foldl_append];rfl
section
variable {F:List jQ} {t:Tally} {key sum:Int}
end
end
def jv(n:Int):List Int→List fH→Prop
 | _,[]=>True
 | c,u :: l=>kg c u n∧jv n (gD c u.author) l
theorem oJ{n:Int}:∀ {l:List fH} {c:List Int} {i:Nat},gb c n=0→((iL n c l i).2.1=0↔jv n c l)
 | [],c,i,hc=>by simp [iL,jv]
 | u :: l,c,i,hc=>by
  rw [iL.eq_2]
  unfold jv
  by_cases he:kv c u n=0
  ·have h:=tF hc he
   rw [if_neg (by omega),oJ (l:=l) (mL hc h)]
   exact⟨fun k=>⟨h,k⟩,fun k=>k.2⟩
  ·rw [if_pos he]
   exact⟨fun k=>absurd k he,fun k=>absurd (uy k.1) he⟩
theorem mO{n:Int}{l:List fH}{c:List Int}(hc:gb c n=0)(h:jv n c l){u:fH}(hu:u∈l):n5 u n∧g6 c u.author.toNat≤g6 u.seen u.author.toNat :=
 (qk l c 0 hc ((oJ (i:=0) hc).2 h)).2.2 u hu
def oB(l:List ga):List ga:=l.foldl (iz gQ) []
def ny(l:List Tally):List Tally:=l.foldl (iz gY) []
theorem xU:∀ (l o:List ga),lm o→l.Nodup→(∀ x∈l,x ∉ o)→lm (l.foldl (iz gQ) o) ∧ ∀ x,x∈l.foldl (iz gQ) o↔x∈o∨x∈l
 | [],o,h,_,_=>⟨h,by simp⟩
 | y :: l,o,h,hn,hd=>by
  rw [List.nodup_cons] at hn
  have h1:lm (iz gQ o y):=sf (f:=gQ) (fun a b=>qt) rh h fun z hz e=>by
   rw [qC] at e;subst e;exact hd z (by simp) hz
  obtain⟨a,b⟩:=xU l (iz gQ o y) h1 hn.2 fun x hx hx'=>by
   rcases o5.1 hx' with k | k
   ·exact hd x (by simp [hx]) k
   ·subst k;exact hn.1 hx
  refine⟨a,fun x => ?_⟩
  rw [List.foldl_cons,b,o5,List.mem_cons,or_assoc]
theorem uX{l:List ga}(h:l.Nodup):lm (oB l) ∧ ∀ x,x∈oB l↔x∈l:=by
 obtain⟨a,b⟩:=xU l [] .nil h (by simp)
 exact⟨a,fun x=>by rw [oB,b];simp⟩
theorem BH{l r:List ga}(h:l.Nodup)(p:r.Perm l)(hs:r.Pairwise fun a b=>gQ a b≤0):r=oB l:=by
 obtain⟨a,b⟩:=uX h
 refine tL ?_ a fun x=>by rw [b,p.mem_iff]
 have c:r.Nodup:=p.symm.nodup h
 exact(List.pairwise_and_iff.2 ⟨hs,c⟩).imp fun {x y} ⟨_,d⟩=>by
  have:gQ x y ≠ 0:=fun e=>d (qC.1 e)
  omega
abbrev oX(l:List Tally):Prop:=l.Pairwise fun a b=>gY a b ≠ 0
theorem xb:∀ (l o:List Tally),kp o→oX l→(∀ x∈l,∀ y∈o,gY y x ≠ 0)→kp (l.foldl (iz gY) o) ∧ ∀ x,x∈l.foldl (iz gY) o↔x∈o∨x∈l
 | [],o,h,_,_=>⟨h,by simp⟩
 | y :: l,o,h,hn,hd=>by
  unfold oX at hn
  rw [List.pairwise_cons] at hn
  have h1:kp (iz gY o y):=sf (f:=gY) (fun a b=>qE) qW h fun z hz=>hd y (by simp) z hz
  obtain⟨a,b⟩:=xb l (iz gY o y) h1 hn.2 fun x hx z hz=>by
   rcases o5.1 hz with k | k
   ·exact hd x (by simp [hx]) z k
   ·subst k;exact hn.1 x hx
  refine⟨a,fun x => ?_⟩
  rw [List.foldl_cons,b,o5,List.mem_cons,or_assoc]
theorem sA{l:List Tally}(h:oX l):kp (ny l) ∧ ∀ x,x∈ny l↔x∈l:=by
 obtain⟨a,b⟩:=xb l [] .nil h (by simp)
 exact⟨a,fun x=>by rw [ny,b];simp⟩
theorem Df{a b:Tally}(h:gY a b ≠ 0):gY b a ≠ 0:=by rw [qE];omega
theorem Aw{l r:List Tally}(h:oX l)(p:r.Perm l)(hs:r.Pairwise fun a b=>gY a b≤0):r=ny l:=by
 obtain⟨a,b⟩:=sA h
 refine tu ?_ a fun x=>by rw [b,p.mem_iff]
 have c:oX r:=(p.symm.pairwise_iff (fun {x y}=>Df)).1 h
 exact(List.pairwise_and_iff.2 ⟨hs,c⟩).imp fun {x y} ⟨_,_⟩=>by omega
def jU(o:gt)(x:ga):Bool:=o.lives.contains x || !kK o.clock x.author x.seq
def qn(a b:gt):List ga:=b.lives.foldl (fun out x=>if(jU a x && !out.contains x)=true then out++[x] else out) (a.lives.filter (jU b))
def oF(a b:gt):List Tally:=(a.tallies.filter fun t=>decide (g6 b.clock t.author.toNat≤g6 a.clock t.author.toNat))++b.tallies.filter fun t=>decide (g6 a.clock t.author.toNat<g6 b.clock t.author.toNat)
def pl(a b:gt):gt:=⟨g8 a.clock b.clock,oB (qn a b),ny (oF a b)⟩
def ip(a b:gt):gt × Int :=
 if(gj a (gn a.clock)).1 ≠ 0 then(mN,(gj a (gn a.clock)).1)
 else if(gj b (gn a.clock)).1 ≠ 0 then(mN,(gj b (gn a.clock)).1)
 else(pl a b,0)
theorem vh{a:gt}:∀ (l o:List ga),o.Nodup→(l.foldl (fun out x=>if(jU a x && !out.contains x)=true then out++[x] else out) o).Nodup ∧ ∀ x,x∈l.foldl (fun out x=>if(jU a x && !out.contains x)=true then out++[x] else out) o↔x∈o∨(x∈l∧jU a x=true)
 | [],o,h=>⟨h,by simp⟩
 | y :: l,o,h=>by
  rw [List.foldl_cons]
  by_cases hy:(jU a y && !o.contains y)=true
  ·rw [if_pos hy]
   rw [Bool.and_eq_true,Bool.not_eq_true',List.contains_eq_mem,decide_eq_false_iff_not] at hy
   obtain⟨p,q⟩:=vh l (o++[y]) (by
    rw [List.nodup_append]
    refine⟨h,by simp,fun z hz w hw e => ?_⟩
    rw [List.mem_singleton] at hw;subst hw e;exact hy.2 hz)
   refine⟨p,fun x => ?_⟩
   rw [q,List.mem_append,List.mem_singleton,List.mem_cons]
   constructor
   ·rintro((k | k) | k)
    ·exact .inl k
    ·subst k;exact .inr ⟨.inl rfl,hy.1⟩
    ·exact .inr ⟨.inr k.1,k.2⟩
   ·rintro(k | ⟨k | k,k2⟩)
    ·exact .inl (.inl k)
    ·exact .inl (.inr k)
    ·exact .inr ⟨k,k2⟩
  ·rw [if_neg hy]
   rw [Bool.and_eq_true,Bool.not_eq_true',List.contains_eq_mem,decide_eq_false_iff_not] at hy
   obtain⟨p,q⟩:=vh l o h
   refine⟨p,fun x => ?_⟩
   rw [q,List.mem_cons]
   constructor
   ·rintro(k | k)
    ·exact .inl k
    ·exact .inr ⟨.inr k.1,k.2⟩
   ·rintro(k | ⟨k | k,k2⟩)
    ·exact .inl k
    ·subst k;left;exact Classical.byContradiction fun hn=>hy ⟨k2,hn⟩
    ·exact .inr ⟨k,k2⟩
theorem yx{l:List ga}(h:lm l):l.Nodup:=h.imp fun {a b} h e=>by subst e;rw [qC.2 rfl] at h;omega
theorem uV{a b:gt}{n:Int}(ha:iN a n)(hb:iN b n):(qn a b).Nodup ∧ ∀ x,x∈qn a b↔(x∈a.lives∧jU b x=true)∨(x∈b.lives∧jU a x=true):=by
 obtain⟨p,q⟩:=vh (a:=a) b.lives (a.lives.filter (jU b)) ((yx ha.ls).filter _)
 exact⟨p,fun x=>by rw [qn,q,List.mem_filter]⟩
theorem uU{a b:gt}{n:Int}(ha:iN a n)(hb:iN b n):oX (oF a b):=by
 unfold oF oX
 rw [List.pairwise_append]
 have key:∀ {l:List Tally},kp l→l.Pairwise fun a b=>gY a b ≠ 0:=fun h=>h.imp fun h=>by omega
 refine⟨key (List.Pairwise.filter _ ha.ts),key (List.Pairwise.filter _ hb.ts),fun x c y d e => ?_⟩
 rw [List.mem_filter,decide_eq_true_eq] at c d
 have:=(rN.1 e).2
 rw [this] at c
 omega
theorem BV{k a:Int}{l m:List Tally}(h:l.Perm m):jc k a l=jc k a m:=by
 induction h with
 | nil=>rfl
 | cons u _ ih=>simp only [jc,ih]
 | swap u v l=>simp only [jc];omega
 | trans _ _ a b=>exact a.trans b
theorem sE{α:Type}{f:α→α→Int}:∀ (l o:List α),(l.foldl (iz f) o).Perm (o++l)
 | [],o=>by simp
 | y :: l,o=>by
  rw [List.foldl_cons]
  refine(sE l _).trans ?_
  have p1:(iz f o y).Perm (o++[y]):=by
   unfold iz
   rw [List.append_assoc]
   have:(List.take (jo (fun z=>f z y) o) o++([y]++List.drop (jo (fun z=>f z y) o) o)).Perm (List.take (jo (fun z=>f z y) o) o++(List.drop (jo (fun z=>f z y) o) o++[y])):=List.Perm.append_left _ List.perm_append_comm
   have a:List.take (jo (fun z=>f z y) o) o++(List.drop (jo (fun z=>f z y) o) o++[y])=o++[y]:=by rw [← List.append_assoc,List.take_append_drop]
   rw [a] at this
   exact this
  have:=p1.append_right l
  simpa using this
theorem Br(k a:Int)(l:List Tally):jc k a (ny l)=jc k a l:=BV (by simpa [ny] using sE (f:=gY) l [])
theorem uw{k a:Int}{p:Tally→Bool}{b:Bool}:∀ {l:List Tally},(∀ t,kF k a t=true→p t=b)→jc k a (l.filter p)=if b=true then jc k a l else 0
 | [],h=>by simp [jc]
 | t :: l,h=>by
  have ih:=uw (k:=k) (a:=a) (p:=p) (b:=b) (l:=l) h
  by_cases hp:p t=true
  ·rw [List.filter_cons_of_pos hp]
   simp only [jc,ih]
   by_cases hh:kF k a t=true
   ·have:=h t hh;rw [hp] at this;subst this;simp
   ·simp only [hh];cases b <;> simp
  ·rw [List.filter_cons_of_neg hp,ih]
   simp only [jc]
   by_cases hh:kF k a t=true
   ·have:=h t hh;rw [this] at hp;simp [hp]
   ·simp only [hh];cases b <;> simp
theorem v6{a b:gt}{n:Int}(ha:iN a n)(hb:iN b n){x:ga}:x∈(pl a b).lives↔(x∈a.lives∧jU b x=true)∨(x∈b.lives∧jU a x=true):=by
 obtain⟨p,q⟩:=uV ha hb
 show x∈oB (qn a b)↔_
 rw [(uX p).2,q]
theorem CH{a b:gt}(k i:Int):jc k i (pl a b).tallies=if g6 b.clock i.toNat≤g6 a.clock i.toNat then jc k i a.tallies else jc k i b.tallies:=by
 show jc k i (ny (oF a b))=_
 rw [Br]
 unfold oF
 rw [nK,uw (b:=decide (g6 b.clock i.toNat≤g6 a.clock i.toNat)) (fun t c=>by rw [(mH.1 c).2]),uw (b:=decide (g6 a.clock i.toNat<g6 b.clock i.toNat)) (fun t c=>by rw [(mH.1 c).2])]
 by_cases h:g6 b.clock i.toNat≤g6 a.clock i.toNat
 ·rw [if_pos (by simpa using h),if_neg (by simpa using h),if_pos h];omega
 ·rw [if_neg (by simpa using h),if_pos (by simpa using h),if_neg h];omega
theorem uR{c:List Int}{n:Int}(h1:1≤n)(h2:n≤6)(h3:(c.length:Int)=n)(h4:∀ k,0≤g6 c k∧g6 c k≤1000):gb c n=0 :=
 wI h1 h2 h3 fun x hx=>by
  obtain⟨j,hj,e⟩:=List.getElem_of_mem hx
  rw [← e,← lX hj];exact h4 j
theorem pS{a b:List Int}{n:Int}(ha:gb a n=0)(hb:gb b n=0):gb (g8 a b) n=0:=by
 have c:=i7 ha;have d:=i7 hb
 refine uR c.1 c.2.1 (by rw [ph];omega) fun k => ?_
 have:=lO ha k;have:=lO hb k
 rw [lL];omega
theorem qH{a b:List Int}{n:Int}(ha:gb a n=0)(hb:gb b n=0):gb (k9 a b) n=0:=by
 have c:=i7 ha;have d:=i7 hb
 refine uR c.1 c.2.1 (by rw [rY];omega) fun k => ?_
 have:=lO ha k;have:=lO hb k
 rw [of];omega
theorem uZ{a b:gt}{n:Int}(ha:iN a n)(hb:iN b n):iN (pl a b) n:=by
 obtain⟨p,q⟩:=uV ha hb
 have d:=uU ha hb
 refine⟨pS ha.c hb.c,fun x e => ?_,(uX p).1,fun x e => ?_,(sA d).1⟩
 ·rcases(v6 ha hb).1 e with⟨h,_⟩ | ⟨h,_⟩
  ·obtain⟨f,g,i,m,o,r,j,s⟩:=ha.l x h
   exact⟨f,g,i,by show _≤g6 (g8 _ _) _;rw [lL];omega,o,r,j,s⟩
  ·obtain⟨f,g,i,m,o,r,j,s⟩:=hb.l x h
   exact⟨f,g,i,by show _≤g6 (g8 _ _) _;rw [lL];omega,o,r,j,s⟩
 ·have e:x∈ny (oF a b):=e
  rw [(sA d).2] at e
  unfold oF at e
  rw [List.mem_append,List.mem_filter,List.mem_filter,decide_eq_true_eq,decide_eq_true_eq] at e
  rcases e with⟨h,k⟩ | ⟨h,k⟩
  ·obtain⟨f,g,i,m,o,r,j⟩:=ha.t x h
   exact⟨f,g,i,m,by show _≤_;show -(1000 * g6 (g8 _ _) _)≤_;rw [lL];omega,by show _≤1000 * g6 (g8 _ _) _;rw [lL];omega,j⟩
  ·obtain⟨f,g,i,m,o,r,j⟩:=hb.t x h
   exact⟨f,g,i,m,by show -(1000 * g6 (g8 _ _) _)≤_;rw [lL];omega,by show _≤1000 * g6 (g8 _ _) _;rw [lL];omega,j⟩
def o9(n:Nat):gt:=⟨List.replicate n 0,[],[]⟩
theorem zj(n k:Nat):g6 (List.replicate n 0) k=0:=by
 rcases Nat.lt_or_ge k n with h | h
 ·rw [lX (by simpa using h)];simp
 ·exact oV (by simpa using h)
theorem ub{n:Nat}(h1:1≤n)(h2:n≤6):gb (List.replicate n 0) n=0:=uR (by omega) (by omega) (by simp) fun k=>by rw [zj];omega
theorem vU{n:Nat}(h1:1≤n)(h2:n≤6):iN (o9 n) n:=⟨ub h1 h2,by simp [o9],.nil,by simp [o9],.nil⟩
def lJ(A:List Int)(l:List fH):List fH:=l.filter (iJ A)
def k5(n:Nat)(l:List fH)(A:List Int):gt:=mZ (o9 n) (lJ A l)
def rB(A:List Int)(l:List fH):Prop:=∀ u∈l,iJ A u=true→gO A u.seen=true
theorem ms{A:List Int}{u:fH}{n:Int}(hA:gb A n=0)(h:n5 u n):iJ A u=true↔g6 u.seen u.author.toNat<g6 A u.author.toNat:=by
 have:=i7 hA;have:=h.len;have:=h.a0;have:=h.a1
 unfold iJ
 simp only [Bool.and_eq_true,decide_eq_true_eq]
 omega
theorem uA{n:Int}{A:List Int}(hA:gb A n=0):∀ {l:List fH} {c:List Int},gb c n=0→jv n c l→(jv n (k9 c A) (lJ A l)↔rB A l)
 | [],c,hc,h=>by simp [lJ,jv,rB]
 | u :: l,c,hc,h=>by
  obtain⟨h1,h2⟩:=h
  have hc':=mL hc h1
  have ih:=uA hA (l:=l) hc' h2
  have tk:=m0 hc h1
  unfold rB at ih ⊢
  unfold lJ at ih ⊢
  by_cases hu:iJ A u=true
  ·rw [List.filter_cons_of_pos hu]
   have hlt:=(ms hA h1.r).1 hu
   have e:=h1.eq
   have hm:kg (k9 c A) u n↔gO A u.seen=true:=by
    constructor
    ·intro k;exact ma (xK c A) k.sees
    ·intro k
     refine⟨h1.r,by rw [of];omega,?_⟩
     rw [ES,h1.sees,k];rfl
   have f:kg (k9 c A) u n→gD (k9 c A) u.author=k9 (gD c u.author) A:=fun k =>
    ot (by simp only [rG,rY]) fun j=>by
     rw [m0 (qH hc hA) k]
     simp only [of,tk]
     by_cases ej:j=u.author.toNat
     ·subst ej;rw [if_pos rfl,if_pos rfl];omega
     ·rw [if_neg ej,if_neg ej]
   show(kg (k9 c A) u n∧jv n (gD (k9 c A) u.author) (l.filter (iJ A)))↔_
   constructor
   ·rintro⟨a,b⟩
    rw [f a,ih] at b
    intro v d g
    rcases List.mem_cons.1 d with e | d
    ·subst e;exact hm.1 a
    ·exact b v d g
   ·intro k
    have a:=hm.2 (k u (by simp) hu)
    exact⟨a,by rw [f a,ih];exact fun v d=>k v (by simp [d])⟩
  ·rw [List.filter_cons_of_neg hu]
   have i:¬ g6 u.seen u.author.toNat<g6 A u.author.toNat:=fun k=>hu ((ms hA h1.r).2 k)
   have e:=h1.eq
   have f:k9 (gD c u.author) A=k9 c A:=ot (by simp only [rY,rG]) fun j=>by
    rw [of,of,tk]
    by_cases ej:j=u.author.toNat
    ·subst ej;rw [if_pos rfl];omega
    ·rw [if_neg ej]
   rw [f] at ih
   rw [ih]
   constructor
   ·intro k v d g
    rcases List.mem_cons.1 d with e | d
    ·subst e;exact absurd g hu
    ·exact k v d g
   ·intro k v d;exact k v (by simp [d])
theorem DM{n:Int}{A:List Int}(hA:gb A n=0){l:List fH}{c:List Int}(hc:gb c n=0)(h:jv n c l)(k:rB A l)(j:Nat):g6 (iL n (k9 c A) (lJ A l) 0).1 j=min (g6 (iL n c l 0).1 j) (g6 A j):=by
 have g:=(uA hA hc h).2 k
 rw [rE _ _ _ (qH hc hA) ((oJ (qH hc hA)).2 g),rE _ _ _ hc ((oJ hc).2 h),of]
 clear g k
 induction l generalizing c with
 | nil=>simp [lJ,nQ]
 | cons u l ih =>
  obtain⟨a,m⟩:=h
  have o:=mL hc a
  have tk:=m0 hc a j
  have ih:=ih o m
  have e:=a.eq
  have b:=lO hA j
  have i:∀ l:List fH,0≤nQ j l:=fun l=>by
   induction l with
   | nil=>exact Int.le_refl _
   | cons v l ih=>simp only [nQ];split <;> omega
  unfold lJ at ih ⊢
  by_cases f:iJ A u=true
  ·rw [List.filter_cons_of_pos f]
   have p:=(ms hA a.r).1 f
   simp only [nQ]
   rw [tk] at ih
   by_cases d:j=u.author.toNat
   ·subst d;rw [if_pos rfl] at ih ⊢;omega
   ·rw [if_neg d] at ih ⊢;omega
  ·rw [List.filter_cons_of_neg f]
   have q:¬ g6 u.seen u.author.toNat<g6 A u.author.toNat:=fun k=>f ((ms hA a.r).2 k)
   simp only [nQ]
   rw [tk] at ih
   by_cases d:j=u.author.toNat
   ·subst d;rw [if_pos rfl] at ih ⊢
    have:=i (l.filter (iJ A));have:=i l
    omega
   ·rw [if_neg d] at ih ⊢;omega
structure l5 (n:Nat) (l:List fH) (A:List Int):Prop where
 n1:1≤n
 n6:n≤6
 f:jv n (List.replicate n 0) l
 a:gb A n=0
 c:rB A l
theorem l5.all{n:Nat}{l:List fH}{A:List Int}(h:l5 n l A):gb (List.replicate n 0) n=0:=ub h.n1 h.n6
theorem zM{n:Nat}{A:List Int}(hA:gb A n=0):k9 (List.replicate n 0) A=List.replicate n 0:=by
 have:=i7 hA
 refine ot (by simp only [rY,List.length_replicate];omega) fun k => ?_
 have:=lO hA k
 rw [of,zj];omega
theorem l5.fits{n:Nat}{l:List fH}{A:List Int}(h:l5 n l A):jv n (List.replicate n 0) (lJ A l):=by
 have:=(uA h.a h.all h.f).2 h.c
 rwa [zM h.a] at this
theorem l5.played{n:Nat}{l:List fH}{A:List Int}(h:l5 n l A):sV (o9 n) (k5 n l A) (lJ A l) n∧(k5 n l A).clock=(iL n (List.replicate n 0) (lJ A l) 0).1 :=
 s7 (lJ A l) (o9 n) 0 (vU h.n1 h.n6) ((oJ h.all).2 h.fits)
theorem l5.clock{n:Nat}{l:List fH}{A:List Int}(h:l5 n l A)(j:Nat):g6 (k5 n l A).clock j=min (g6 (iL n (List.replicate n 0) l 0).1 j) (g6 A j):=by
 have:=DM h.a h.all h.f h.c j
 rw [zM h.a] at this
 rw [h.played.2,this]
theorem l5.join{n:Nat}{l:List fH}{A B:List Int}(h:l5 n l A)(k:l5 n l B):l5 n l (g8 A B):=by
 refine⟨h.n1,h.n6,h.f,pS h.a k.a,fun u b e => ?_⟩
 have d:=(mO h.all h.f b).1
 rw [ms (pS h.a k.a) d,lL] at e
 by_cases g:g6 u.seen u.author.toNat<g6 A u.author.toNat
 ·exact ma (pO A B) (h.c u b ((ms h.a d).2 g))
 ·exact ma (tA A B) (k.c u b ((ms k.a d).2 (by omega)))
theorem l5.mem{n:Nat}{l:List fH}{A:List Int}(h:l5 n l A){x:ga}:x∈(k5 n l A).lives↔(∃ u∈l,iJ A u=true∧mv u=true∧x=kA u) ∧ ∀ v∈l,iJ A v=true→jV v x=false:=by
 rw [h.played.1.m]
 unfold lJ
 simp only [List.mem_filter,o9,List.not_mem_nil,false_or]
 constructor
 ·rintro⟨⟨u,⟨a,b⟩,c⟩,d⟩;exact⟨⟨u,a,b,c⟩,fun v e f=>d v ⟨e,f⟩⟩
 ·rintro⟨⟨u,a,b,c⟩,d⟩;exact⟨⟨u,⟨a,b⟩,c⟩,fun v e=>d v e.1 e.2⟩
theorem wk{n:Int}{l:List fH}{c:List Int}(hc:gb c n=0)(h:jv n c l){u:fH}(hu:u∈l):g6 u.seen u.author.toNat<g6 (iL n c l 0).1 u.author.toNat:=by
 obtain⟨b,j,e⟩:=List.append_of_mem hu
 subst e
 have a:=(oJ (i:=0) hc).2 h
 have g:(iL n c b 0).2.1=0:=by
  by_cases d:(iL n c b 0).2.1=0
  ·exact d
  ·rw [y9 _ _ _ _ d] at a;exact absurd a d
 rw [x9 _ _ _ _ g] at a ⊢
 have f:=(qk b c 0 hc g).1
 obtain⟨s,e,k⟩:=sl f a
 rw [e]
 have:=jJ.1 (qk j _ _ (mL f s) k).2.1 u.author.toNat
 have:=m0 f s u.author.toNat
 rw [if_pos rfl] at this
 have:=s.eq
 omega
theorem l5.has_of{n:Nat}{l:List fH}{A:List Int}(h:l5 n l A){u:fH}(hu:u∈l):iJ A u=true↔g6 u.seen u.author.toNat<g6 (k5 n l A).clock u.author.toNat:=by
 rw [ms h.a (mO h.all h.f hu).1,h.clock]
 have:=wk h.all h.f hu
 omega
theorem DW{n:Nat}{l:List fH}{A B:List Int}(h:l5 n l A)(k:l5 n l B):pl (k5 n l A) (k5 n l B)=k5 n l (g8 A B):=by
 have D:=h.join k
 have ra:=h.played.1.r
 have rb:=k.played.1.r
 have E:∀ {A:List Int} (h:l5 n l A) {u:fH},u∈l→(kK (k5 n l A).clock u.author (g6 u.seen u.author.toNat+1)=true↔iJ A u=true):=fun {A} h {u} b=>by
  rw [h.has_of b]
  have t:=(mO h.all h.f b).1
  have:=i7 h.played.1.r.c
  have:=t.a0;have:=t.a1
  unfold kK
  simp only [Bool.and_eq_true,decide_eq_true_eq]
  omega
 have union:∀ {u:fH},u∈l→(iJ (g8 A B) u=true↔iJ A u=true∨iJ B u=true):=fun {u} b=>by
  have t:=(mO h.all h.f b).1
  rw [ms (pS h.a k.a) t,ms h.a t,ms k.a t,lL];omega
 have seen:∀ {A:List Int} (h:l5 n l A) {u v:fH},u∈l→v∈l→iJ A v=true→jV v (kA u)=true→iJ A u=true:=fun {A} h {u v} b m d F=>by
  have H:=(wR (zI F)).2.2
  have N:=jJ.1 (h.c v m d) u.author.toNat
  have t:=(mO h.all h.f b).1
  rw [ms h.a t]
  have:(kA u).seq=g6 u.seen u.author.toNat+1:=rfl
  have:(kA u).author=u.author:=rfl
  rw [this] at H
  omega
 have stay:∀ {A:List Int} (h:l5 n l A) {u:fH},u∈l→mv u=true→(jU (k5 n l A) (kA u)=true ↔ ∀ v∈l,iJ A v=true→jV v (kA u)=false):=fun {A} h {u} b p=>by
  unfold jU
  rw [Bool.or_eq_true,List.contains_eq_mem,decide_eq_true_eq,Bool.not_eq_true']
  constructor
  ·rintro(w | w) v m d
   ·exact(h.mem.1 w).2 v m d
   ·rw [Bool.eq_false_iff];intro F
    have:=(E h b).2 (seen h b m d F)
    have w:kK (k5 n l A).clock u.author (g6 u.seen u.author.toNat+1)=false:=w
    rw [this] at w;cases w
  ·intro m
   by_cases d:iJ A u=true
   ·exact .inl (h.mem.2 ⟨⟨u,b,d,p,rfl⟩,m⟩)
   ·right
    rw [Bool.eq_false_iff];intro w
    exact d ((E h b).1 w)
 have I:∀ j,g6 (g8 (k5 n l A).clock (k5 n l B).clock) j=g6 (k5 n l (g8 A B)).clock j:=fun j=>by
  rw [lL,h.clock,k.clock,D.clock,lL];omega
 refine yY (uZ ra rb) D.played.1.r ?_ (fun x => ?_) (fun q i => ?_)
 ·show g8 _ _=_
  have H:=i7 (pS ra.c rb.c);have N:=i7 D.played.1.r.c
  exact ot (by omega) I
 ·rw [v6 ra rb,h.mem,k.mem,D.mem]
  constructor
  ·rintro(⟨⟨⟨u,b,d,p,rfl⟩,m⟩,y⟩ | ⟨⟨⟨u,b,d,p,rfl⟩,m⟩,y⟩)
   ·have y:=(stay k b p).1 y
    refine⟨⟨u,b,(union b).2 (.inl d),p,rfl⟩,fun v o g => ?_⟩
    rcases(union o).1 g with g | g
    ·exact m v o g
    ·exact y v o g
   ·have y:=(stay h b p).1 y
    refine⟨⟨u,b,(union b).2 (.inr d),p,rfl⟩,fun v o g => ?_⟩
    rcases(union o).1 g with g | g
    ·exact y v o g
    ·exact m v o g
  ·rintro⟨⟨u,b,d,p,rfl⟩,m⟩
   have J:∀ v∈l,iJ A v=true→jV v (kA u)=false:=fun v o g=>m v o ((union o).2 (.inl g))
   have K:∀ v∈l,iJ B v=true→jV v (kA u)=false:=fun v o g=>m v o ((union o).2 (.inr g))
   rcases(union b).1 d with d | d
   ·exact .inl ⟨⟨⟨u,b,d,p,rfl⟩,J⟩,(stay k b p).2 K⟩
   ·exact .inr ⟨⟨⟨u,b,d,p,rfl⟩,K⟩,(stay h b p).2 J⟩
 ·rw [CH,h.played.1.s,k.played.1.s,D.played.1.s]
  have z:jc q i (o9 n).tallies=0:=rfl
  rw [z]
  have same:∀ {A B:List Int},(∀ u∈l,u.author=i→(iJ A u=true↔iJ B u=true))→l0 q i (lJ A l)=l0 q i (lJ B l):=fun {A B} g=>by
   unfold lJ
   clear stay seen E union I
   generalize l=l at g
   induction l with
   | nil=>rfl
   | cons u l ih =>
    have ih:=ih fun v m=>g v (by simp [m])
    by_cases L:u.author=i
    ·have:=g u (by simp) L
     by_cases d:iJ A u=true
     ·rw [List.filter_cons_of_pos d,List.filter_cons_of_pos (this.1 d)];simp only [l0,ih]
     ·rw [List.filter_cons_of_neg d,List.filter_cons_of_neg (fun e=>d (this.2 e)),ih]
    ·have drop:∀ C:List Int,l0 q i ((u :: l).filter (iJ C))=l0 q i (l.filter (iJ C)):=fun C=>by
      by_cases M:iJ C u=true
      ·rw [List.filter_cons_of_pos M];simp only [l0];rw [if_neg (fun e=>L e.2.2)];omega
      ·rw [List.filter_cons_of_neg M]
     rw [drop,drop,ih]
  split
  ·rename_i O
   rw [same (A:=g8 A B) (B:=A) fun u b G => ?_]
   rw [union b]
   refine⟨fun e=>e.elim id fun e => ?_,.inl⟩
   rw [k.has_of b] at e
   rw [h.has_of b]
   subst G;omega
  ·rename_i O
   rw [same (A:=g8 A B) (B:=B) fun u b G => ?_]
   rw [union b]
   refine⟨fun e=>e.elim (fun e => ?_) id,.inr⟩
   rw [h.has_of b] at e
   rw [k.has_of b]
   subst G;omega
theorem sY{a b:gt}{n:Int}(ha:iN a n)(hb:iN b n):ip a b=(pl a b,0):=by
 have e:gn a.clock=n:=(i7 ha.c).2.2.1
 unfold ip
 rw [e,if_neg (fun k=>k (mQ.2 ha)),if_neg (fun k=>k (mQ.2 hb))]
theorem l5.right{n:Nat}{l:List fH}{A:List Int}(h:l5 n l A):iN (k5 n l A) n:=h.played.1.r
def mU(a b:ga):Bool:=decide (gQ a b<0)
def kW(x:ga)(p:List ga × Bool)(y:ga):List ga × Bool:=if p.2=false∧mU x y=true then(p.1++[x]++[y],true) else(p.1++[y],p.2)
def rA(x:ga)(p:List ga × Bool):List ga:=if p.2=false then p.1++[x] else p.1
def k6(l:List ga)(x:ga):List ga:=rA x (l.foldl (kW x) ([],false))
theorem zq(x:ga):∀ (l o:List ga),l.foldl (kW x) (o,true)=(o++l,true)
 | [],o=>by simp
 | y :: l,o=>by
  rw [List.foldl_cons]
  have:kW x (o,true) y=(o++[y],true):=by unfold kW;rw [if_neg (by simp)]
  rw [this,zq x l];simp
theorem xP{x:ga}:∀ {l:List ga} {o:List ga},x ∉ l→rA x (l.foldl (kW x) (o,false))=o++iz gQ l x
 | [],o,_=>by simp [rA,iz,jo]
 | y :: l,o,h=>by
  rw [List.foldl_cons]
  have hne:¬ x=y:=fun e=>h (by simp [e])
  by_cases ha:mU x y=true
  ·have e1:kW x (o,false) y=(o++[x]++[y],true):=by unfold kW;rw [if_pos ⟨rfl,ha⟩]
   rw [e1,zq]
   have d:=of_decide_eq_true ha
   have f:=qt (a:=x) (b:=y)
   have c:jo (fun z=>gQ z x) (y :: l)=0:=by unfold jo;rw [List.findIdx_cons,decide_eq_true (show 0≤gQ y x by omega)];rfl
   unfold rA iz
   rw [c,if_neg (by simp)];simp
  ·have e1:kW x (o,false) y=(o++[y],false):=by unfold kW;rw [if_neg (fun k=>ha k.2)]
   rw [e1,xP (fun k=>h (List.mem_cons_of_mem _ k))]
   have d:¬ gQ x y<0:=fun k=>ha (decide_eq_true k)
   have f:=qt (a:=x) (b:=y)
   have g:gQ x y ≠ 0:=fun k=>hne (qC.1 k)
   have c:jo (fun z=>gQ z x) (y :: l)=jo (fun z=>gQ z x) l+1:=by unfold jo;rw [List.findIdx_cons,decide_eq_false (show ¬ 0≤gQ y x by omega)];rfl
   unfold iz
   rw [c];simp
theorem vl{l:List ga}{x:ga}(h:x ∉ l):k6 l x=iz gQ l x:=by unfold k6;rw [xP h];simp
theorem vy{l:List ga}{x:ga}(h:lm l)(hn:x ∉ l):lm (iz gQ l x) :=
 sf (f:=gQ) (fun a b=>qt) rh h fun y hy e=>hn (by rw [← qC.1 e];exact hy)
def nX(x:ga)(l:List fH):Bool:=l.all fun v => !jV v x
theorem r8{x:ga}{l:List fH}:nX x l=true ↔ ∀ v∈l,jV v x=false:=by simp [nX]
def oE(l:List fH)(o:List ga)(x:ga):List ga:=if nX x l=true then k6 o x else o
def pA(l:List fH)(o:List ga)(i:Nat)(u:fH):List ga:=if mv u=true∧nX (kA u) (l.drop (i+1))=true then k6 o (kA u) else o
def nt:List ga→List fH→List ga
 | o,[]=>o
 | o,u :: r=>nt (if mv u=true∧nX (kA u) r=true then k6 o (kA u) else o) r
def s4(s:gt)(l:List fH):List ga:=nt (s.lives.foldl (oE l) []) l
theorem qB{l:List fH}{o:List ga}{k:Nat}{u:fH}(h:l[k]? = some u):nt o (l.drop k)=nt (pA l o k u) (l.drop (k+1)):=by
 obtain⟨a,e⟩:=List.getElem?_eq_some_iff.1 h
 rw [List.drop_eq_getElem_cons a,e];rfl
theorem vZ{l:List fH}:∀ {ls o:List ga},lm o→ls.Nodup→(∀ x∈ls,x ∉ o)→lm (ls.foldl (oE l) o) ∧ ∀ x,x∈ls.foldl (oE l) o↔x∈o∨(x∈ls∧nX x l=true)
 | [],o,h,_,_=>⟨h,by simp⟩
 | y :: ls,o,h,hn,hd=>by
  rw [List.foldl_cons]
  obtain⟨n1,n2⟩:=List.nodup_cons.1 hn
  by_cases hs:nX y l=true
  ·have e:oE l o y=iz gQ o y:=by unfold oE;rw [if_pos hs,vl (hd y (by simp))]
   rw [e]
   obtain⟨a,b⟩:=vZ (l:=l) (vy h (hd y (by simp))) n2 (fun x c k=>by
    rcases o5.1 k with k | k
    ·exact hd x (by simp [c]) k
    ·exact n1 (k ▸ c))
   refine⟨a,fun x => ?_⟩
   rw [b,o5]
   constructor
   ·rintro((k | rfl) | k)
    ·exact .inl k
    ·exact .inr ⟨by simp,hs⟩
    ·exact .inr ⟨by simp [k.1],k.2⟩
   ·rintro(k | ⟨k,d⟩)
    ·exact .inl (.inl k)
    ·rcases List.mem_cons.1 k with k | k
     ·exact .inl (.inr k)
     ·exact .inr ⟨k,d⟩
  ·have e:oE l o y=o:=by unfold oE;rw [if_neg hs]
   rw [e]
   obtain⟨a,b⟩:=vZ (l:=l) h n2 (fun x c=>hd x (by simp [c]))
   refine⟨a,fun x => ?_⟩
   rw [b]
   constructor
   ·rintro(k | k)
    ·exact .inl k
    ·exact .inr ⟨by simp [k.1],k.2⟩
   ·rintro(k | ⟨k,d⟩)
    ·exact .inl k
    ·rcases List.mem_cons.1 k with rfl | k
     ·exact absurd d hs
     ·exact .inr ⟨k,d⟩
theorem Db{u:fH}:jV u (kA u)=false:=tx (by show g6 u.seen u.author.toNat<g6 u.seen u.author.toNat+1;omega)
theorem uF{n:Int}:∀ {r:List fH} {c:List Int} {o:List ga},gb c n=0→jv n c r→lm o→(∀ x∈o,x.seq≤g6 c x.author.toNat) →
  lm (nt o r) ∧ ∀ x,x∈nt o r↔x∈o∨((∃ u∈r,mv u=true∧x=kA u) ∧ ∀ v∈r,jV v x=false)
 | [],c,o,_,_,h,_=>⟨h,by simp [nt]⟩
 | u :: r,c,o,hc,hf,h,hq=>by
  obtain⟨h1,h2⟩:=hf
  have hct:=mL hc h1
  have hta:=m0 hc h1
  have early:∀ v∈r,jV u (kA v)=false:=fun v hv=>by
   obtain⟨a,b⟩:=mO hct h2 hv
   refine tx ?_
   show g6 u.seen v.author.toNat<g6 v.seen v.author.toNat+1
   have:=jJ.1 h1.sees v.author.toNat
   rw [hta] at b
   have:=h1.eq
   split at b
   ·rename_i e;rw [e] at *;omega
   ·omega
  have hsq:(kA u).seq=g6 c u.author.toNat+1:=by show g6 u.seen u.author.toNat+1=_;rw [h1.eq]
  have p:∀ x∈o,x.seq≤g6 (gD c u.author) x.author.toNat:=fun x m=>by
   rw [hta]
   have:=hq x m
   split
   ·rename_i e;rw [e] at this;omega
   ·exact this
  by_cases l:mv u=true∧nX (kA u) r=true
  ·have q:kA u ∉ o:=fun k=>by have:=hq _ k;rw [hsq] at this;change g6 c u.author.toNat+1≤g6 c u.author.toNat at this;omega
   have e:nt o (u :: r)=nt (iz gQ o (kA u)) r:=by show nt (if _ then _ else _) r=_;rw [if_pos l,vl q]
   obtain⟨a,b⟩:=uF (r:=r) hct h2 (vy h q) (fun x m=>by
    rcases o5.1 m with k | k
    ·exact p x k
    ·subst k
     rw [hsq,hta]
     show _≤if u.author.toNat=u.author.toNat then _ else _
     rw [if_pos rfl];omega)
   rw [e]
   refine⟨a,fun x => ?_⟩
   rw [b,o5]
   constructor
   ·rintro((k | rfl) | ⟨⟨v,d,i,g⟩,j⟩)
    ·exact .inl k
    ·refine .inr ⟨⟨u,by simp,l.1,rfl⟩,fun v hv => ?_⟩
     rcases List.mem_cons.1 hv with rfl | hv
     ·exact Db
     ·exact r8.1 l.2 v hv
    ·refine .inr ⟨⟨v,by simp [d],i,g⟩,fun z f => ?_⟩
     rcases List.mem_cons.1 f with rfl | f
     ·rw [g];exact early v d
     ·exact j z f
   ·rintro(k | ⟨⟨v,d,i,g⟩,j⟩)
    ·exact .inl (.inl k)
    ·rcases List.mem_cons.1 d with rfl | d
     ·exact .inl (.inr g)
     ·exact .inr ⟨⟨v,d,i,g⟩,fun z f=>j z (by simp [f])⟩
  ·have e:nt o (u :: r)=nt o r:=by show nt (if _ then _ else _) r=_;rw [if_neg l]
   obtain⟨a,b⟩:=uF (r:=r) hct h2 h p
   rw [e]
   refine⟨a,fun x => ?_⟩
   rw [b]
   constructor
   ·rintro(k | ⟨⟨v,d,i,g⟩,j⟩)
    ·exact .inl k
    ·refine .inr ⟨⟨v,by simp [d],i,g⟩,fun z f => ?_⟩
     rcases List.mem_cons.1 f with rfl | f
     ·rw [g];exact early v d
     ·exact j z f
   ·rintro(k | ⟨⟨v,d,i,g⟩,j⟩)
    ·exact .inl k
    ·rcases List.mem_cons.1 d with rfl | d
     ·exact absurd ⟨i,r8.2 fun z f=>by rw [← g];exact j z (by simp [f])⟩ l
     ·exact .inr ⟨⟨v,d,i,g⟩,fun z f=>j z (by simp [f])⟩
def q9(s:gt)(l:List fH)(key a:Int):Int:=jc key a s.tallies+l0 key a l
def mR(s:gt)(l:List fH)(key a:Nat):List Tally:=if q9 s l key a ≠ 0 then [⟨key,a,q9 s l key a⟩] else []
def sD(s:gt)(l:List fH)(n:Nat):List Tally:=(List.range 16).flatMap fun key=>(List.range n).flatMap fun a=>mR s l key a
theorem rg{a b:Tally}:gY a b<0↔a.key<b.key∨(a.key=b.key∧a.author<b.author):=by
 rw [px];unfold pm
 rw [nZ,nZ]
 simp [kE]
theorem wD{n:Nat}{f:Nat→Nat→List Tally}(h1:∀ k a,∀ t∈f k a,t.key=k∧t.author=a)(h2:∀ k a,kp (f k a)):kp ((List.range 16).flatMap fun key=>(List.range n).flatMap fun a=>f key a):=by
 refine List.pairwise_flatMap.2 ⟨fun k _=>List.pairwise_flatMap.2 ⟨fun a _=>h2 k a,?_⟩,?_⟩
 ·refine List.pairwise_lt_range.imp fun {a b} e x c y d=>rg.2 ?_
  have:=h1 _ _ x c;have:=h1 _ _ y d;omega
 ·refine List.pairwise_lt_range.imp fun {a b} e x c y d=>rg.2 ?_
  obtain⟨i,_,c⟩:=List.mem_flatMap.1 c
  obtain⟨j,_,d⟩:=List.mem_flatMap.1 d
  have:=h1 _ _ x c;have:=h1 _ _ y d;omega
theorem ye{n:Nat}{f:Nat→Nat→List Tally}{t:Tally}:t∈((List.range 16).flatMap fun key=>(List.range n).flatMap fun a=>f key a) ↔ ∃ k a,k<16∧a<n∧t∈f k a:=by
 simp only [List.mem_flatMap,List.mem_range]
 constructor
 ·rintro⟨k,b,a,c,h⟩;exact⟨k,a,b,c,h⟩
 ·rintro⟨k,a,b,c,h⟩;exact⟨k,b,a,c,h⟩
theorem Dl{s t:gt}{l:List fH}{n:Int}(hP:sV s t l n):sD s l n.toNat=t.tallies:=by
 have f:∀ k a,kp (mR s l k a):=fun k a=>by unfold mR;split <;> simp [kp]
 refine tu (wD (fun k a t b=>by unfold mR at b;split at b <;> simp at b;subst b;exact⟨rfl,rfl⟩) f) hP.r.ts fun x => ?_
 unfold sD
 rw [ye]
 constructor
 ·rintro⟨k,a,_,_,h⟩
  unfold mR at h
  split at h
  ·rename_i c
   rw [List.mem_singleton] at h
   have e:q9 s l k a=jc k a t.tallies:=(hP.s k a).symm
   rw [e] at h c
   subst h
   exact sQ hP.r.ts c
  ·cases h
 ·intro h
  have ok:=hP.r.t x h
  have e:=s6 hP.r.ts h
  have d:=hP.s x.key x.author
  rw [e] at d
  have:=ok.a0;have:=ok.a1;have:=ok.k0;have:=ok.k1
  refine⟨x.key.toNat,x.author.toNat,by omega,by omega,?_⟩
  unfold mR
  have g:q9 s l ((x.key.toNat:Nat):Int) ((x.author.toNat:Nat):Int)=x.sum:=by unfold q9;rw [Int.toNat_of_nonneg (by omega),Int.toNat_of_nonneg (by omega)];exact d.symm
  rw [g,if_pos ok.ne,List.mem_singleton]
  obtain⟨k,a,v⟩:=x
  dsimp only at *
  rw [Int.toNat_of_nonneg (by omega),Int.toNat_of_nonneg (by omega)]
theorem Et{s:gt}{l:List fH}{n:Int}(hs:iN s n)(hf:jv n s.clock l){t:gt}(hP:sV s t l n):s4 s l=t.lives:=by
 obtain⟨a,b⟩:=vZ (l:=l) (ls:=s.lives) (o:=[]) .nil (yx hs.ls) (by simp)
 obtain⟨c,d⟩:=uF (o:=s.lives.foldl (oE l) []) hs.c hf a (fun x g=>by
  rcases(b x).1 g with k | k
  ·cases k
  ·exact(hs.l x k.1).q1)
 refine tL c hP.r.ls fun x => ?_
 unfold s4
 rw [d,hP.m,b]
 constructor
 ·rintro((k | ⟨f,e⟩) | ⟨f,e⟩)
  ·cases k
  ·exact⟨.inl f,r8.1 e⟩
  ·exact⟨.inr f,e⟩
 ·rintro⟨k | k,e⟩
  ·exact .inl (.inr ⟨k,r8.2 e⟩)
  ·exact .inr ⟨k,e⟩
theorem BA{s:gt}{l:List fH}(h:(gj s (gn s.clock)).1=0)(k:(gc s.clock l (gn s.clock)).2.1=0):g5 s l=(⟨(gc s.clock l (gn s.clock)).1,s4 s l,sD s l s.clock.length⟩,0,0):=by
 have a:=mQ.1 h
 obtain⟨c,d,e⟩:=sh k
 rw [e] at k ⊢
 obtain⟨b,f⟩:=s7 l s 0 a k
 rw [CB a k d,Et a ((oJ c).1 k) b,← f]
 have:=Dl b
 rw [show(gn s.clock).toNat=s.clock.length from by unfold gn;omega] at this
 rw [this]
def pe(o:gt)(x:ga):Bool:=o.lives.contains x || decide (g6 o.clock x.author.toNat<x.seq)
def m5(o:gt)(out:List ga)(x:ga):List ga:=if out.contains x=true then out else if pe o x=true then k6 out x else out
def sX(a b:gt):List ga:=b.lives.foldl (m5 a) (a.lives.foldl (m5 b) [])
theorem tE{o:gt}{x:ga}(h0:0≤x.author)(h1:x.author<o.clock.length):pe o x=jU o x:=by
 unfold pe jU kK
 rw [decide_eq_true h0,decide_eq_true h1]
 simp only [Bool.true_and]
 congr 1
 rw [Bool.eq_iff_iff];simp
theorem sg{o:gt}:∀ {ls out:List ga},lm out→lm (ls.foldl (m5 o) out) ∧ ∀ x,x∈ls.foldl (m5 o) out↔x∈out∨(x∈ls∧pe o x=true)
 | [],out,h=>⟨h,by simp⟩
 | y :: ls,out,h=>by
  rw [List.foldl_cons]
  by_cases hc:out.contains y=true
  ·have e:m5 o out y=out:=by unfold m5;rw [if_pos hc]
   rw [e]
   obtain⟨a,b⟩:=sg (o:=o) (ls:=ls) h
   refine⟨a,fun x => ?_⟩
   rw [b]
   constructor
   ·rintro(k | k)
    ·exact .inl k
    ·exact .inr ⟨by simp [k.1],k.2⟩
   ·rintro(k | ⟨k,c⟩)
    ·exact .inl k
    ·rcases List.mem_cons.1 k with rfl | k
     ·exact .inl (List.contains_iff_mem.1 hc)
     ·exact .inr ⟨k,c⟩
  ·by_cases d:pe o y=true
   ·have f:y ∉ out:=fun k=>hc (List.contains_iff_mem.2 k)
    have e:m5 o out y=iz gQ out y:=by unfold m5;rw [if_neg hc,if_pos d,vl f]
    rw [e]
    obtain⟨a,b⟩:=sg (o:=o) (ls:=ls) (vy h f)
    refine⟨a,fun x => ?_⟩
    rw [b,o5]
    constructor
    ·rintro((k | rfl) | k)
     ·exact .inl k
     ·exact .inr ⟨by simp,d⟩
     ·exact .inr ⟨by simp [k.1],k.2⟩
    ·rintro(k | ⟨k,c⟩)
     ·exact .inl (.inl k)
     ·rcases List.mem_cons.1 k with rfl | k
      ·exact .inl (.inr rfl)
      ·exact .inr ⟨k,c⟩
   ·have e:m5 o out y=out:=by unfold m5;rw [if_neg hc,if_neg d]
    rw [e]
    obtain⟨a,b⟩:=sg (o:=o) (ls:=ls) h
    refine⟨a,fun x => ?_⟩
    rw [b]
    constructor
    ·rintro(k | k)
     ·exact .inl k
     ·exact .inr ⟨by simp [k.1],k.2⟩
    ·rintro(k | ⟨k,c⟩)
     ·exact .inl k
     ·rcases List.mem_cons.1 k with rfl | k
      ·exact absurd c d
      ·exact .inr ⟨k,c⟩
def mX(a b:gt)(i:Nat):gt:=if g6 a.clock i<g6 b.clock i then b else a
def ss(a b:gt)(n:Nat):List Tally:=(List.range 16).flatMap fun(key:Nat)=>(List.range n).flatMap fun(i:Nat)=>(mX a b i).tallies.filter (kF (key:Nat) (i:Nat))
theorem Af{a b:gt}{n:Int}(ha:iN a n)(hb:iN b n):ip a b=(⟨g8 a.clock b.clock,sX a b,ss a b a.clock.length⟩,0):=by
 rw [sY ha hb]
 have j:=uZ ha hb
 have B:=i7 ha.c;have C:=i7 hb.c
 have q:(pl a b).lives=sX a b:=by
  obtain⟨r,s⟩:=sg (o:=b) (ls:=a.lives) (out:=[]) .nil
  obtain⟨u,v⟩:=sg (o:=a) (ls:=b.lives) r
  refine tL j.ls u fun x => ?_
  unfold sX
  rw [v6 ha hb,v,s]
  constructor
  ·rintro(⟨d,e⟩ | ⟨d,e⟩)
   ·exact .inl (.inr ⟨d,by rw [tE (ha.l x d).a0 (by have:=(ha.l x d).a1;omega)];exact e⟩)
   ·exact .inr ⟨d,by rw [tE (hb.l x d).a0 (by have:=(hb.l x d).a1;omega)];exact e⟩
  ·rintro((k | ⟨d,e⟩) | ⟨d,e⟩)
   ·cases k
   ·exact .inl ⟨d,by rw [← tE (ha.l x d).a0 (by have:=(ha.l x d).a1;omega)];exact e⟩
   ·exact .inr ⟨d,by rw [← tE (hb.l x d).a0 (by have:=(hb.l x d).a1;omega)];exact e⟩
 have w:(pl a b).tallies=ss a b a.clock.length:=by
  refine tu j.ts (wD (f:=fun key i=>(mX a b i).tallies.filter (kF (key:Nat) (i:Nat))) (fun k i t y => ?_) (fun k i => ?_)) fun x => ?_
  ·exact mH.1 (List.mem_filter.1 y).2
  ·unfold mX;split
   ·exact hb.ts.sublist List.filter_sublist
   ·exact ha.ts.sublist List.filter_sublist
  ·have z:x∈(pl a b).tallies↔x∈oF a b:=(sA (uU ha hb)).2 x
   rw [z]
   unfold ss
   rw [ye]
   unfold oF
   rw [List.mem_append,List.mem_filter,List.mem_filter]
   constructor
   ·rintro(⟨d,e⟩ | ⟨d,e⟩)
    ·have e:=of_decide_eq_true e
     have ok:=ha.t x d;have:=ok.a0;have:=ok.a1;have:=ok.k0;have:=ok.k1
     refine⟨x.key.toNat,x.author.toNat,by omega,by omega,List.mem_filter.2 ⟨?_,mH.2 ⟨by omega,by omega⟩⟩⟩
     unfold mX;rw [if_neg (by omega)];exact d
    ·have e:=of_decide_eq_true e
     have ok:=hb.t x d;have:=ok.a0;have:=ok.a1;have:=ok.k0;have:=ok.k1
     refine⟨x.key.toNat,x.author.toNat,by omega,by omega,List.mem_filter.2 ⟨?_,mH.2 ⟨by omega,by omega⟩⟩⟩
     unfold mX;rw [if_pos (by omega)];exact d
   ·rintro⟨k,i,_,_,h⟩
    obtain⟨g,A⟩:=List.mem_filter.1 h
    obtain⟨_,_⟩:=mH.1 A
    have m:x.author.toNat=i:=by omega
    unfold mX at g
    split at g
    ·rename_i p;exact .inr ⟨g,decide_eq_true (by rw [m];exact p)⟩
    ·rename_i p;exact .inl ⟨g,decide_eq_true (by rw [m];omega)⟩
 rw [← q,← w]
 rfl
end Go.Proofs.YtkjknlnhffmkkacGreat
