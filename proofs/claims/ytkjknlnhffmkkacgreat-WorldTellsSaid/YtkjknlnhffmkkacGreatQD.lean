/- Part of the proof of WorldTells: lemmas; no condition. -/
import Derived.Test.YtkjknlnhffmkkacGreatQA
import Derived.Test.YtkjknlnhffmkkacGreatQC
set_option linter.unusedVariables false
set_option linter.unusedSimpArgs false
set_option maxRecDepth 100000
set_option maxHeartbeats 16000000
namespace Go.Proofs.YtkjknlnhffmkkacGreat
open Go.RowKit
theorem Dc{a b:ga}:mU a b=true↔gQ a b<0:=by unfold mU;exact decide_eq_true_iff
theorem xr{a b:ga}(h:a.set ≠ b.set):mU a b=b.set:=by
 unfold mU
 rw [po]
 cases c:a.set <;> cases d:b.set
 ·exact absurd (c.trans d.symm) h
 ·refine decide_eq_true ?_;unfold nF;rw [c,d,nZ];simp
 ·refine decide_eq_false fun q => ?_;unfold nF at q;rw [c,d,nZ] at q;simp at q
 ·exact absurd (c.trans d.symm) h
theorem zA{a b:ga}(h:a.set=b.set):mU a b=decide (a.key<b.key∨(a.key=b.key∧(a.item<b.item∨(a.item=b.item∧(a.author<b.author∨(a.author=b.author∧a.seq<b.seq)))))):=by
 unfold mU
 rw [po]
 unfold nF
 rw [h]
 refine decide_eq_decide.2 ?_
 rw [nZ,nZ,nZ,nZ,nZ]
 simp [kE]
theorem zC{a b:ga}(h:a.set=b.set)(he:∀ p∈([⟨a.key,b.key⟩,⟨a.item,b.item⟩,⟨a.author,b.author⟩,⟨a.seq,b.seq⟩]:List jQ),p.key=p.sum):mU a b=false:=by
 rw [zA h]
 have c:=he ⟨a.key,b.key⟩ (by simp);have d:=he ⟨a.item,b.item⟩ (by simp);have e:=he ⟨a.author,b.author⟩ (by simp);have f:=he ⟨a.seq,b.seq⟩ (by simp)
 simp only at c d e f
 exact decide_eq_false (by omega)
theorem sM{a b:ga}{i:Nat}{z:jQ}(h:a.set=b.set)(he:∀ p∈([⟨a.key,b.key⟩,⟨a.item,b.item⟩,⟨a.author,b.author⟩,⟨a.seq,b.seq⟩]:List jQ).take i,p.key=p.sum)(hz:([⟨a.key,b.key⟩,⟨a.item,b.item⟩,⟨a.author,b.author⟩,⟨a.seq,b.seq⟩]:List jQ)[i]? = some z)(hne:¬ z.key=z.sum):mU a b=decide (z.key<z.sum):=by
 rw [zA h]
 refine decide_eq_decide.2 ?_
 match i,hz with
 | 0,hz=>simp at hz;subst hz;simp only at hne ⊢;omega
 | 1,hz =>
  simp at hz;subst hz;simp only at hne ⊢
  have c:=he ⟨a.key,b.key⟩ (by simp);simp only at c;omega
 | 2,hz =>
  simp at hz;subst hz;simp only at hne ⊢
  have c:=he ⟨a.key,b.key⟩ (by simp);have d:=he ⟨a.item,b.item⟩ (by simp);simp only at c d;omega
 | 3,hz =>
  simp at hz;subst hz;simp only at hne ⊢
  have c:=he ⟨a.key,b.key⟩ (by simp);have d:=he ⟨a.item,b.item⟩ (by simp);have e:=he ⟨a.author,b.author⟩ (by simp);simp only at c d e;omega
 | i+4,hz=>simp at hz
theorem yK{u:fH}{x:ga}(h:u.kind=5∨u.kind=3):jV u x=false:=by
 unfold jV;rcases h with h | h <;> simp [h]
theorem yg{u:fH}{x:ga}(h:decide (u.kind=3∨u.kind=4) ≠ x.set):jV u x=false:=by
 unfold jV ie;rw [show(x.set == decide (u.kind=3∨u.kind=4))=false from beq_eq_false_iff_ne.2 fun e=>h e.symm];simp
theorem wB{u:fH}{x:ga}(h:¬ u.key=x.key):jV u x=false:=by
 unfold jV ie;rw [show(x.key == u.key)=false from beq_eq_false_iff_ne.2 fun e=>h e.symm];simp
theorem u6{u:fH}{x:ga}(h:(u.seen.length:Int)≤x.author∨g6 u.seen x.author.toNat<x.seq):jV u x=false:=by
 rw [Bool.eq_false_iff];intro q
 unfold jV ie kK at q
 simp only [Bool.and_eq_true,decide_eq_true_eq] at q
 omega
theorem vG{u:fH}{x:ga}(h5:¬ u.kind=5)(h3:¬ u.kind=3)(hs:decide (u.kind=3∨u.kind=4)=x.set)(hk:u.key=x.key)(h0:0≤x.author)(h1:x.author<u.seen.length)(hq:¬ g6 u.seen x.author.toNat<x.seq):jV u x=(!x.set || decide (x.item=u.item)):=by
 have e:kK u.seen x.author x.seq=true:=by unfold kK;simp [h0,h1];omega
 unfold jV ie
 rw [hs,e,hk]
 rw [show(x.item == u.item)=decide (x.item=u.item) from by by_cases e:x.item=u.item <;> simp [e]]
 simp [h5,h3]
theorem Aa{l o:List ga}{x z:ga}{k:Nat}{d:Bool}(hz:l[k]? = some z)(hp:(o,d)=(l.take k).foldl (kW x) ([],false))(hd:d=true):(o++[z],d)=(l.take (k+1)).foldl (kW x) ([],false):=by
 subst hd;rw [jl hz,List.foldl_append,← hp];simp [kW]
theorem Dp{l o:List ga}{x z:ga}{k:Nat}{d:Bool}(hz:l[k]? = some z)(hp:(o,d)=(l.take k).foldl (kW x) ([],false))(hd:d=false)(ha:mU x z=true):(o++[x]++[z],true)=(l.take (k+1)).foldl (kW x) ([],false):=by
 subst hd;rw [jl hz,List.foldl_append,← hp];simp [kW,ha]
theorem E0{l o:List ga}{x z:ga}{k:Nat}{d:Bool}(hz:l[k]? = some z)(hp:(o,d)=(l.take k).foldl (kW x) ([],false))(hd:d=false)(ha:mU x z=false):(o++[z],d)=(l.take (k+1)).foldl (kW x) ([],false):=by
 subst hd;rw [jl hz,List.foldl_append,← hp];simp [kW,ha]
theorem uW{x:ga}:∀ {l:List ga} {p:List ga × Bool},(l.foldl (kW x) p).1.length+(if p.2=true then 1 else 0)=p.1.length+l.length+(if(l.foldl (kW x) p).2=true then 1 else 0)
 | [],p=>by simp only [List.foldl_nil,List.length_nil,Nat.add_zero];rfl
 | y :: l,p=>by
  rw [List.foldl_cons]
  have:=uW (x:=x) (l:=l) (p:=kW x p y)
  obtain⟨o,d⟩:=p
  cases d
  ·by_cases ha:mU x y=true
   ·simp [kW,ha] at this ⊢;omega
   ·simp [kW,ha] at this ⊢;omega
  ·simp [kW] at this ⊢;omega
theorem DO{l o:List ga}{x:ga}{k:Nat}{d:Bool}(hp:(o,d)=(l.take k).foldl (kW x) ([],false)):o.length≤k+1:=by
 have:=uW (x:=x) (l:=l.take k) (p:=([],false))
 rw [← hp] at this
 have a:=List.length_take_le k l
 simp at this
 split at this <;> omega
theorem xQ{l o:List ga}{x:ga}{d:Bool}{r:List ga}(hp:(o,d)=l.foldl (kW x) ([],false))(h:r=rA x (o,d)):k6 l x=r:=by
 unfold k6;rw [← hp,h]
theorem ry(l:List ga)(x:ga):(k6 l x).length=l.length+1:=by
 have:=uW (x:=x) (l:=l) (p:=([],false))
 unfold k6 rA
 generalize l.foldl (kW x) ([],false)=q at *
 obtain⟨o,d⟩:=q
 cases d <;> simp at this ⊢ <;> omega
theorem vt(rd:Rd)(W:World)(hle:Rd.le rd (fX W))(v v2:Value)(a b:ga)(h:fW gB rd v a)(h2:fW gB rd v2 b) :
    Calls Tryz.prog 90 #[v,v2] W (fun e w'=>e = .returned (.bool (mU a b))∧Below W.heap.size W w'):=by
 obtain⟨N,rfl,h⟩:=h;have O:N=[.bool a.set,ni a.key,ni a.item,ni a.author,ni a.seq]:=h;subst O;obtain⟨P,rfl,h2⟩:=h2;have Q:P=[.bool b.set,ni b.key,ni b.item,ni b.author,ni b.seq]:=h2;subst Q;have ab:=il;have S:St [] W rd rd [] [] W:=St.start hle;refine io (args:=[.agg (kL a),.agg (kL b)]) 51 Tryz.func90 rfl rfl rfl ?_;refine er (ix (u:=.agg (kL a)) (cs:=(kL a)) S rfl rfl fun m _ S=>ix (u:=.agg (kL b)) (cs:=(kL b)) S rfl rfl fun l _ S=>ly (.bool false) S Ya (ln (fJ (er (ly (pa m 0) S (Yb n3) ?_)))))
 rcases Bool.eq_false_or_eq_true a.set with x | x
 ·
  refine ly (.bool true) S (jA (fI 0 T4) x) (ly (pa l 0) S (Yb n3) ?_)
  rcases Bool.eq_false_or_eq_true b.set with g | g
  ·
   refine ly (.bool true) S (jA (fI 1 T4) g) (ly (.bool false) S (pE U4 rfl rfl rfl) (ln (fV rfl (g1 (fM (fJ (er (ly (pa m 1) S (Yb mu) ?_))))))));have y:a.set=b.set:=by rw [x,g]
   skip
   refine ly (ni a.key) S (fI 0 T3) (ly (pa l 1) S (Yb mu) (ly (ni b.key) S (fI 1 T3) (ly (.agg #[ni a.key,ni b.key]) S (gy (ps:=[(0,ni a.key),(1,ni b.key)]) rfl (fun _=>by kernel_rfl)) (ly (pa m 2) S (Yb mJ) (ly (ni a.item) S (fI 0 T3) (ly (pa l 2) S (Yb mJ) (ly (ni b.item) S (fI 1 T3) (ly (.agg #[ni a.item,ni b.item]) S (gy (ps:=[(0,ni a.item),(1,ni b.item)]) rfl (fun _=>by kernel_rfl)) (ly (pa m 3) S (Yb ld) (ly (ni a.author) S (fI 0 T3) (ly (pa l 3) S (Yb ld) (ly (ni b.author) S (fI 1 T3) (ly (.agg #[ni a.author,ni b.author]) S (gy (ps:=[(0,ni a.author),(1,ni b.author)]) rfl (fun _=>by kernel_rfl)) (ly (pa m 4) S (Yb lZ) (ly (ni a.seq) S (fI 0 T3) ?_)))))))))))))));refine ly (pa l 4) S (Yb lZ) (ly (ni b.seq) S (fI 1 T3) (ly (.agg #[ni a.seq,ni b.seq]) S (gy (ps:=[(0,ni a.seq),(1,ni b.seq)]) rfl (fun _=>by kernel_rfl)) (iZ (ps:=[(0,.agg #[ni a.key,ni b.key]),(1,.agg #[ni a.item,ni b.item]),(2,.agg #[ni a.author,ni b.author]),(3,.agg #[ni a.seq,ni b.seq])]) (cs:=#[ni a.key,ni b.key,ni a.item,ni b.item,ni a.author,ni b.author,ni a.seq,ni b.seq]) S re qe tU rfl rfl rfl (by kernel_rfl) fun H _ S => ?_)));obtain⟨T,S,_,U⟩:=S.frz' (i:=2) rfl rfl;have F:=U (size:=2) (R:=uz) (xs:=([(⟨a.key,b.key⟩:jQ),(⟨a.item,b.item⟩:jQ),(⟨a.author,b.author⟩:jQ),(⟨a.seq,b.seq⟩:jQ)]:List jQ)) (n:=4) (c:=4) rfl (Nat.le_refl _) (by simp [maxLen]) ⟨[ni a.key,ni b.key],_,rfl,rfl,rfl,⟨[ni a.item,ni b.item],_,rfl,rfl,rfl,⟨[ni a.author,ni b.author],_,rfl,rfl,rfl,⟨[ni a.seq,ni b.seq],_,rfl,rfl,rfl,rfl⟩⟩⟩⟩;refine ly (ni 4) S (Yl re) (ly (ni 0) S Ym (ln (go ?_)));refine et [(34,sb H 0 4 4),(35,ni 4),(36,ni (0:Int))] (fun q => ?_);refine j1 (fun(A:Nat) ov w=>match A with | i => ∃ rd' q,ov=[(34,sb H 0 4 4),(35,ni 4),(36,ni (i:Int))]++q∧St [] W rd rd' [(m,104,(kL a)),(l,104,(kL b))] [] w∧Rd.le T rd'∧i≤4∧(∀ p∈([(⟨a.key,b.key⟩:jQ),(⟨a.item,b.item⟩:jQ),(⟨a.author,b.author⟩:jQ),(⟨a.seq,b.seq⟩:jQ)]:List jQ).take i,p.key=p.sum)) (fun A=>match A with | i=>4 - i) 0 ⟨_,q,rfl,(S.rw' rfl rfl),fZ,(by omega),(fun p j=>by simp at j)⟩ ?_;rintro i _ _ ⟨_,q,rfl,S,I,V,s⟩;replace F:=fm F I;refine er ?_;by_cases J:(i:Int)<4
   ·
    refine ly (.bool true) S (gJ rfl rfl J) (ln (fJ (fS rfl (g1 (fM (fJ (go (er ?_))))))));obtain⟨d,B⟩:∃ z,(([(⟨a.key,b.key⟩:jQ),(⟨a.item,b.item⟩:jQ),(⟨a.author,b.author⟩:jQ),(⟨a.seq,b.seq⟩:jQ)]:List jQ))[i]? = some z:=gX (by simp;omega);obtain⟨X,Y,Z,_,a0,a1⟩:=hD re qe F B;have a2:Y=[ni d.key,ni d.sum]:=a0;subst a2;refine ly X S (a1 rfl rfl (by first | rfl | omega)) (ly (.agg #[ni d.key,ni d.sum]) S (jd Z xu) (gk (cs:=wh) S tU rfl fun C _ S=>fT (u:=.agg #[ni d.key,ni d.sum]) (i:=2) (cs':=#[ni d.key,ni d.sum]) S rfl rfl rfl qe rfl rfl rfl fun _ S=>ln (er (ly (pa C 0) S (oL (k:=0) py iX (by decide) rfl rfl rfl rfl) (ly (ni d.key) S (fI 2 T3) (ly (pa C 1) S (oL (k:=1) py iX (by decide) rfl rfl rfl rfl) (ly (ni d.sum) S (fI 2 T3) ?_)))))));by_cases o:d.key=d.sum
    ·
     refine ly (.bool false) S (iT rfl rfl o) (ln (fV rfl (g1 (gA (nr (ly (ni ((i:Int)+1)) S (gw (r:=(i:Int)+1) rfl rfl (gl (by omega) (by omega))) (ly (ni ((i:Int)+1)) S Ym (fL ?_))))))));refine fK ⟨(i+1),_,fk,⟨_,_,rfl,(S.tt 2 0),(fY I fZ),(by omega),(by rw [jl B];intro p j;rcases List.mem_append.1 j with j | j;exact s p j;rw [List.mem_singleton.1 j];exact o)⟩,?_⟩
     show _<_;dsimp only;omega
    refine ly (.bool true) S (j4 rfl rfl o) (ln (fS rfl (er (ly (pa C 0) S (oL (k:=0) py iX (by decide) rfl rfl rfl rfl) (ly (ni d.key) S (fI 2 T3) (ly (pa C 1) S (oL (k:=1) py iX (by decide) rfl rfl rfl rfl) (ly (ni d.sum) S (fI 2 T3) ?_)))))));by_cases t:d.key<d.sum
    ·
     refine ly (.bool true) S (gJ rfl rfl t) (ly (.bool true) S Ya (ln (fR ?_)));refine g3 (v:=.bool true) rfl rfl ?_;rw [sM y s B o];exact⟨im (decide_eq_true t).symm,S.below⟩
    refine ly (.bool false) S (gH rfl rfl t) (ly (.bool false) S Ya (ln (fR ?_)));refine g3 (v:=.bool false) rfl rfl ?_;rw [sM y s B o];exact⟨im (decide_eq_false t).symm,S.below⟩
   refine ly (.bool false) S (gH rfl rfl J) (ln (fJ (fV rfl (iP (iQ (j0 (iR (fM (er (ly (.bool false) S Ya (ln (fR ?_))))))))))));refine g3 (v:=.bool false) rfl rfl ?_;rw [zC y (by rwa [List.take_of_length_le (by simp;omega)] at s)];exact⟨rfl,S.below⟩
  refine ly (.bool false) S (jA (fI 1 T4) g) (ly (.bool true) S (pE U4 rfl rfl rfl) (ln (fS rfl (er (ly (pa l 0) S (Yb n3) (ly (.bool false) S (jA (fI 1 T4) g) (ly (.bool false) S Ya (ln (fR ?_)))))))));refine g3 (v:=.bool false) rfl rfl ?_;rw [xr (a:=a) (b:=b) (by rw [x,g];decide),g];exact⟨rfl,S.below⟩
 refine ly (.bool false) S (jA (fI 0 T4) x) (ly (pa l 0) S (Yb n3) ?_)
 rcases Bool.eq_false_or_eq_true b.set with g | g
 ·
  refine ly (.bool true) S (jA (fI 1 T4) g) (ly (.bool true) S (pE U4 rfl rfl rfl) (ln (fS rfl (er (ly (pa l 0) S (Yb n3) (ly (.bool true) S (jA (fI 1 T4) g) (ly (.bool true) S Ya (ln (fR ?_)))))))));refine g3 (v:=.bool true) rfl rfl ?_;rw [xr (a:=a) (b:=b) (by rw [x,g];decide),g];exact⟨rfl,S.below⟩
 refine ly (.bool false) S (jA (fI 1 T4) g) (ly (.bool false) S (pE U4 rfl rfl rfl) (ln (fV rfl (g1 (fM (fJ (er (ly (pa m 1) S (Yb mu) ?_))))))));have y:a.set=b.set:=by rw [x,g]
 skip
 refine ly (ni a.key) S (fI 0 T3) (ly (pa l 1) S (Yb mu) (ly (ni b.key) S (fI 1 T3) (ly (.agg #[ni a.key,ni b.key]) S (gy (ps:=[(0,ni a.key),(1,ni b.key)]) rfl (fun _=>by kernel_rfl)) (ly (pa m 2) S (Yb mJ) (ly (ni a.item) S (fI 0 T3) (ly (pa l 2) S (Yb mJ) (ly (ni b.item) S (fI 1 T3) (ly (.agg #[ni a.item,ni b.item]) S (gy (ps:=[(0,ni a.item),(1,ni b.item)]) rfl (fun _=>by kernel_rfl)) (ly (pa m 3) S (Yb ld) (ly (ni a.author) S (fI 0 T3) (ly (pa l 3) S (Yb ld) (ly (ni b.author) S (fI 1 T3) (ly (.agg #[ni a.author,ni b.author]) S (gy (ps:=[(0,ni a.author),(1,ni b.author)]) rfl (fun _=>by kernel_rfl)) (ly (pa m 4) S (Yb lZ) (ly (ni a.seq) S (fI 0 T3) ?_)))))))))))))));refine ly (pa l 4) S (Yb lZ) (ly (ni b.seq) S (fI 1 T3) (ly (.agg #[ni a.seq,ni b.seq]) S (gy (ps:=[(0,ni a.seq),(1,ni b.seq)]) rfl (fun _=>by kernel_rfl)) (iZ (ps:=[(0,.agg #[ni a.key,ni b.key]),(1,.agg #[ni a.item,ni b.item]),(2,.agg #[ni a.author,ni b.author]),(3,.agg #[ni a.seq,ni b.seq])]) (cs:=#[ni a.key,ni b.key,ni a.item,ni b.item,ni a.author,ni b.author,ni a.seq,ni b.seq]) S re qe tU rfl rfl rfl (by kernel_rfl) fun K _ S => ?_)));obtain⟨a3,S,_,a4⟩:=S.frz' (i:=2) rfl rfl;have G:=a4 (size:=2) (R:=uz) (xs:=([(⟨a.key,b.key⟩:jQ),(⟨a.item,b.item⟩:jQ),(⟨a.author,b.author⟩:jQ),(⟨a.seq,b.seq⟩:jQ)]:List jQ)) (n:=4) (c:=4) rfl (Nat.le_refl _) (by simp [maxLen]) ⟨[ni a.key,ni b.key],_,rfl,rfl,rfl,⟨[ni a.item,ni b.item],_,rfl,rfl,rfl,⟨[ni a.author,ni b.author],_,rfl,rfl,rfl,⟨[ni a.seq,ni b.seq],_,rfl,rfl,rfl,rfl⟩⟩⟩⟩;refine ly (ni 4) S (Yl re) (ly (ni 0) S Ym (ln (go ?_)));refine et [(34,sb K 0 4 4),(35,ni 4),(36,ni (0:Int))] (fun q => ?_);refine j1 (fun(A:Nat) ov w=>match A with | i => ∃ rd' q,ov=[(34,sb K 0 4 4),(35,ni 4),(36,ni (i:Int))]++q∧St [] W rd rd' [(m,104,(kL a)),(l,104,(kL b))] [] w∧Rd.le a3 rd'∧i≤4∧(∀ p∈([(⟨a.key,b.key⟩:jQ),(⟨a.item,b.item⟩:jQ),(⟨a.author,b.author⟩:jQ),(⟨a.seq,b.seq⟩:jQ)]:List jQ).take i,p.key=p.sum)) (fun A=>match A with | i=>4 - i) 0 ⟨_,q,rfl,(S.rw' rfl rfl),fZ,(by omega),(fun p j=>by simp at j)⟩ ?_;rintro i _ _ ⟨_,q,rfl,S,L,V,s⟩;replace G:=fm G L;refine er ?_;by_cases M:(i:Int)<4
 ·
  refine ly (.bool true) S (gJ rfl rfl M) (ln (fJ (fS rfl (g1 (fM (fJ (go (er ?_))))))));obtain⟨f,D⟩:∃ z,(([(⟨a.key,b.key⟩:jQ),(⟨a.item,b.item⟩:jQ),(⟨a.author,b.author⟩:jQ),(⟨a.seq,b.seq⟩:jQ)]:List jQ))[i]? = some z:=gX (by simp;omega);obtain⟨a5,a6,a7,_,a8,a9⟩:=hD re qe G D;have aa:a6=[ni f.key,ni f.sum]:=a8;subst aa;refine ly a5 S (a9 rfl rfl (by first | rfl | omega)) (ly (.agg #[ni f.key,ni f.sum]) S (jd a7 xu) (gk (cs:=wh) S tU rfl fun E _ S=>fT (u:=.agg #[ni f.key,ni f.sum]) (i:=2) (cs':=#[ni f.key,ni f.sum]) S rfl rfl rfl qe rfl rfl rfl fun _ S=>ln (er (ly (pa E 0) S (oL (k:=0) py iX (by decide) rfl rfl rfl rfl) (ly (ni f.key) S (fI 2 T3) (ly (pa E 1) S (oL (k:=1) py iX (by decide) rfl rfl rfl rfl) (ly (ni f.sum) S (fI 2 T3) ?_)))))));by_cases o:f.key=f.sum
  ·
   refine ly (.bool false) S (iT rfl rfl o) (ln (fV rfl (g1 (gA (nr (ly (ni ((i:Int)+1)) S (gw (r:=(i:Int)+1) rfl rfl (gl (by omega) (by omega))) (ly (ni ((i:Int)+1)) S Ym (fL ?_))))))));refine fK ⟨(i+1),_,fk,⟨_,_,rfl,(S.tt 2 0),(fY L fZ),(by omega),(by rw [jl D];intro p j;rcases List.mem_append.1 j with j | j;exact s p j;rw [List.mem_singleton.1 j];exact o)⟩,?_⟩
   show _<_;dsimp only;omega
  refine ly (.bool true) S (j4 rfl rfl o) (ln (fS rfl (er (ly (pa E 0) S (oL (k:=0) py iX (by decide) rfl rfl rfl rfl) (ly (ni f.key) S (fI 2 T3) (ly (pa E 1) S (oL (k:=1) py iX (by decide) rfl rfl rfl rfl) (ly (ni f.sum) S (fI 2 T3) ?_)))))));by_cases t:f.key<f.sum
  ·
   refine ly (.bool true) S (gJ rfl rfl t) (ly (.bool true) S Ya (ln (fR ?_)));refine g3 (v:=.bool true) rfl rfl ?_;rw [sM y s D o];exact⟨im (decide_eq_true t).symm,S.below⟩
  refine ly (.bool false) S (gH rfl rfl t) (ly (.bool false) S Ya (ln (fR ?_)));refine g3 (v:=.bool false) rfl rfl ?_;rw [sM y s D o];exact⟨im (decide_eq_false t).symm,S.below⟩
 refine ly (.bool false) S (gH rfl rfl M) (ln (fJ (fV rfl (iP (iQ (j0 (iR (fM (er (ly (.bool false) S Ya (ln (fR ?_))))))))))));refine g3 (v:=.bool false) rfl rfl ?_;rw [zC y (by rwa [List.take_of_length_le (by simp;omega)] at s)];exact⟨rfl,S.below⟩
theorem zh(rd:Rd)(W:World)(hle:Rd.le rd (fX W))(v v2:Value)(a b:Tally)(h:fW h8 rd v a)(h2:fW h8 rd v2 b) :
    Calls Tryz.prog 92 #[v,v2] W (fun e w'=>e = .returned (.bool (decide (gY a b<0)))∧Below W.heap.size W w'):=by
 obtain⟨j,rfl,h⟩:=h;have k:j=[ni a.key,ni a.author,ni a.sum]:=h;subst k;obtain⟨l,rfl,h2⟩:=h2;have m:l=[ni b.key,ni b.author,ni b.sum]:=h2;subst m;have n:=il;have S:St [] W rd rd [] [] W:=St.start hle;refine io (args:=[.agg #[ni a.key,ni a.author,ni a.sum],.agg #[ni b.key,ni b.author,ni b.sum]]) 24 Tryz.func92 rfl rfl rfl ?_;refine er (ix (u:=.agg #[ni a.key,ni a.author,ni a.sum]) (cs:=#[ni a.key,ni a.author,ni a.sum]) S rfl rfl fun c _ S=>ix (u:=.agg #[ni b.key,ni b.author,ni b.sum]) (cs:=#[ni b.key,ni b.author,ni b.sum]) S rfl rfl fun d _ S=>ly (.bool false) S Ya (ln (er (ly (pa c 0) S (Yb nW) (ly (ni a.key) S (fI 0 T3) (ly (pa d 0) S (Yb nW) (ly (ni b.key) S (fI 1 T3) ?_)))))));by_cases f:a.key<b.key
 ·
  refine ly (.bool true) S (gJ rfl rfl f) (ly (.bool true) S Ym (ls 10 (ls 10 (ls 10 (ls 10 (ls 10 (ls 10 (kB (d':=16) rfl rfl (kB (d':=16) rfl rfl (kB (d':=16) rfl rfl (kB (d':=16) rfl rfl (kB (d':=16) rfl rfl (ls 10 (ly (.bool true) S Yt (ly (.bool true) S Ya ?_)))))))))))))));refine ln (fR ?_);refine g3 (v:=.bool true) rfl rfl ?_;exact⟨im (decide_eq_true (rg.2 (by omega))).symm,S.below⟩
 refine ly (.bool false) S (gH rfl rfl f) (ly (.bool false) S Ym (lg 10 (pa c 0) S (Yb nW) (lg 10 (ni a.key) S (fI 0 T3) (lg 10 (pa d 0) S (Yb nW) (lg 10 (ni b.key) S (fI 1 T3) ?_)))));by_cases g:a.key=b.key
 ·
  refine lg 10 (.bool true) S (iw rfl rfl g) (lg 10 (.bool true) S Ym (lg 16 (pa c 1) S (Yb mg) (lg 16 (ni a.author) S (fI 0 T3) (lg 16 (pa d 1) S (Yb mg) (lg 16 (ni b.author) S (fI 1 T3) ?_)))));by_cases i:a.author<b.author
  ·
   refine lg 16 (.bool true) S (gJ rfl rfl i) (lg 10 (.bool true) S Yt (ly (.bool true) S Yf (ly (.bool true) S Ya (ln (fR ?_)))));refine g3 (v:=.bool true) rfl rfl ?_;exact⟨im (decide_eq_true (rg.2 (by omega))).symm,S.below⟩
  refine lg 16 (.bool false) S (gH rfl rfl i) (lg 10 (.bool false) S Yt (ly (.bool false) S Yf (ly (.bool false) S Ya (ln (fR ?_)))));refine g3 (v:=.bool false) rfl rfl ?_;exact⟨im (decide_eq_false (fun q=>by have:=rg.1 q;omega)).symm,S.below⟩
 refine lg 10 (.bool false) S (i5 rfl rfl g) (lg 10 (.bool false) S Ym (ls 16 (ls 16 (ls 16 (ls 16 (ls 16 (lg 10 (.bool false) S Yf (ly (.bool false) S Yf (ly (.bool false) S Ya (ln (fR ?_)))))))))));refine g3 (v:=.bool false) rfl rfl ?_;exact⟨im (decide_eq_false (fun q=>by have:=rg.1 q;omega)).symm,S.below⟩
theorem zX(rd:Rd)(W:World)(hle:Rd.le rd (fX W))(v:Value)(u:fH)(h:fW gM rd v u) :
    Calls Tryz.prog 122 #[v] W (fun e w'=>e = .returned (.bool (decide (u.kind=3∨u.kind=4)))∧Below W.heap.size W w'):=by
 obtain⟨_,rfl,h⟩:=h;obtain⟨a,b,rfl,_,_⟩:=h.d;have i:=il;have S:St [] W rd rd [] [] W:=St.start hle;refine io (args:=[.agg (kU u a b)]) 11 Tryz.func122 rfl rfl rfl ?_;refine er (ix (u:=.agg (kU u a b)) (cs:=(kU u a b)) S rfl rfl fun c _ S=>ly (.bool false) S Ya (ln (er (ly (pa c 2) S (Yb jG) (ly (ni u.kind) S (fI 0 T3) ?_)))));by_cases f:u.kind=3
 ·
  refine ly (.bool true) S (iw rfl rfl f) (ly (.bool true) S Ym (ls 6 (ls 6 (ls 6 (ly (.bool true) S Yt (ly (.bool true) S Ya (ln (fR ?_))))))));refine g3 (v:=.bool true) rfl rfl ?_;exact⟨im (decide_eq_true (by omega)).symm,S.below⟩
 refine ly (.bool false) S (i5 rfl rfl f) (ly (.bool false) S Ym (lg 6 (pa c 2) S (Yb jG) (lg 6 (ni u.kind) S (fI 0 T3) ?_)));by_cases g:u.kind=4
 ·
  refine lg 6 (.bool true) S (iw rfl rfl g) (ly (.bool true) S Yf (ly (.bool true) S Ya (ln (fR ?_))));refine g3 (v:=.bool true) rfl rfl ?_;exact⟨im (decide_eq_true (by omega)).symm,S.below⟩
 refine lg 6 (.bool false) S (i5 rfl rfl g) (ly (.bool false) S Yf (ly (.bool false) S Ya (ln (fR ?_))));refine g3 (v:=.bool false) rfl rfl ?_;exact⟨im (decide_eq_false (by omega)).symm,S.below⟩
theorem Em(rd:Rd)(W:World)(hle:Rd.le rd (fX W))(v v2:Value)(u:fH)(x:ga)(h:fW gM rd v u)(h2:fW gB rd v2 x)(h0:0≤x.author) :
    Calls Tryz.prog 98 #[v,v2] W (fun e w'=>e = .returned (.bool (jV u x))∧Below W.heap.size W w'):=by
 obtain⟨_,rfl,h⟩:=h;obtain⟨c,f,rfl,o,_⟩:=h.d;obtain⟨E,rfl,h2⟩:=h2;have F:E=[.bool x.set,ni x.key,ni x.item,ni x.author,ni x.seq]:=h2;subst F;have P:=il;have S:St [] W rd rd [] [] W:=St.start hle;refine io (args:=[.agg (kU u c f),.agg (kL x)]) 56 Tryz.func98 rfl rfl rfl ?_;refine er (ix (u:=.agg (kU u c f)) (cs:=(kU u c f)) S rfl rfl fun i _ S=>ix (u:=.agg (kL x)) (cs:=(kL x)) S rfl rfl fun b _ S=>ly (.bool false) S Ya (ln (fJ (fJ ?_))));refine jZ MX (by kernel_rfl) S.drew ?_;refine qy (pa i 2) (Yb jG) (qy (ni u.kind) (fI 0 T3) ?_);by_cases l:u.kind=5
 ·
  refine qy (.bool true) (iw rfl rfl l) (qy (.bool true) Ym (qs 8 (qs 8 (qs 8 (qy (.bool true) Yt (qy (.bool true) Ym (qs 13 (qs 13 (qs 13 (qs 13 (qs 13 (qy (.bool true) Yt (qy (.bool true) Ym (qs 20 (qs 20 ?_)))))))))))))));refine qs 20 (qs 20 (qs 20 (qy (.bool true) Yt (qy (.bool true) Ym (qs 27 (qs 27 (qs 27 (qs 27 (qs 27 (qs 27 (qy (.bool true) Yt (qy (.bool true) Ym (qs 35 (qs 35 (qs 35 ?_)))))))))))))));refine qs 35 (qs 35 (qs 35 (qs 35 (qs 35 (qs 35 (qy (.bool true) Yt (ig fun _ S=>fM (fS rfl (er (ly (.bool false) S Ya (ln (fR ?_))))))))))));refine g3 (v:=.bool false) rfl rfl ?_;rw [yK (.inl l)];exact⟨rfl,S.below⟩
 refine qy (.bool false) (i5 rfl rfl l) (qy (.bool false) Ym (qg 8 (pa i 2) (Yb jG) (qg 8 (ni u.kind) (fI 0 T3) ?_)));by_cases m:u.kind=3
 ·
  refine qg 8 (.bool true) (iw rfl rfl m) (qy (.bool true) Yf (qy (.bool true) Ym (qs 13 (qs 13 (qs 13 (qs 13 (qs 13 (qy (.bool true) Yt (qy (.bool true) Ym (qs 20 (qs 20 (qs 20 (qs 20 (qs 20 (qy (.bool true) Yt ?_)))))))))))))));refine qy (.bool true) Ym (qs 27 (qs 27 (qs 27 (qs 27 (qs 27 (qs 27 (qy (.bool true) Yt (qy (.bool true) Ym (qs 35 (qs 35 (qs 35 (qs 35 (qs 35 (qs 35 (qs 35 ?_)))))))))))))));refine qs 35 (qs 35 (qy (.bool true) Yt (ig fun _ S=>fM (fS rfl (er (ly (.bool false) S Ya (ln (fR ?_))))))));refine g3 (v:=.bool false) rfl rfl ?_;rw [yK (.inr m)];exact⟨rfl,S.below⟩
 refine qg 8 (.bool false) (i5 rfl rfl m) (qy (.bool false) Yf (qy (.bool false) Ym (qg 13 (.agg (kU u c f)) (gf 0 jx) ?_)))
 cases n:decide (u.kind=3∨u.kind=4)
 ·
  refine nR (d':=13) (v:=.bool false) (g4 (vs:=[.agg (kU u c f)]) (CF 122 _) rfl rfl) rfl rfl (fun w S=>(zX _ _ S.le _ u (⟨_,rfl,⟨_,rfl,o⟩⟩:fW gM rd _ u)).mono (by rintro e w' ⟨rfl,k⟩;exact⟨im ‹_›,(S.callq k)⟩)) ?_;refine qg 13 (pa b 0) (Yb n3) ?_
  rcases Bool.eq_false_or_eq_true x.set with a | a
  ·
   refine qg 13 (.bool true) (jA (fI 1 T4) a) (qg 13 (.bool true) (pE U4 rfl rfl rfl) (qy (.bool true) Yf (qy (.bool true) Ym (qs 20 (qs 20 (qs 20 (qs 20 (qs 20 (qy (.bool true) Yt (qy (.bool true) Ym (qs 27 (qs 27 (qs 27 (qs 27 (qs 27 ?_)))))))))))))));refine qs 27 (qy (.bool true) Yt (qy (.bool true) Ym (qs 35 (qs 35 (qs 35 (qs 35 (qs 35 (qs 35 (qs 35 (qs 35 (qs 35 (qy (.bool true) Yt (ig fun _ S=>fM (fS rfl ?_))))))))))))));refine er (ly (.bool false) S Ya (ln (fR ?_)));refine g3 (v:=.bool false) rfl rfl ?_;rw [yg (by rw [n,a];decide)];exact⟨rfl,S.below⟩
  refine qg 13 (.bool false) (jA (fI 1 T4) a) (qg 13 (.bool false) (pE U4 rfl rfl rfl) (qy (.bool false) Yf (qy (.bool false) Ym (qg 20 (pa i 3) (Yb nH) (qg 20 (ni u.key) (fI 0 T3) (qg 20 (pa b 1) (Yb mu) (qg 20 (ni x.key) (fI 1 T3) ?_)))))));by_cases g:u.key=x.key
  ·
   refine qg 20 (.bool false) (iT rfl rfl g) (qy (.bool false) Yf (qy (.bool false) Ym (qg 27 (pa b 3) (Yb ld) (qg 27 (ni x.author) (fI 1 T3) (qg 27 (pa i 1) (Yb mY) (qg 27 (sc c u.seen.length f) (fI 0 gL) (qg 27 (ni (u.seen.length:Int)) (Yl jH) ?_)))))));by_cases j:(u.seen.length:Int)≤x.author
   ·
    refine qg 27 (.bool true) (jY rfl rfl j) (qy (.bool true) Yf (qy (.bool true) Ym (qs 35 (qs 35 (qs 35 (qs 35 (qs 35 (qs 35 (qs 35 (qs 35 (qs 35 (qy (.bool true) Yt (ig fun _ S=>fM (fS rfl ?_))))))))))))));refine er (ly (.bool false) S Ya (ln (fR ?_)));refine g3 (v:=.bool false) rfl rfl ?_;rw [u6 (.inl j)];exact⟨rfl,S.below⟩
   refine qg 27 (.bool false) (k4 rfl rfl j) (qy (.bool false) Yf (qy (.bool false) Ym (qg 35 (pa i 1) (Yb mY) (qg 35 (sc c u.seen.length f) (fI 0 gL) (qg 35 (pa b 3) (Yb ld) (qg 35 (ni x.author) (fI 1 T3) ?_))))));obtain⟨r,A⟩:∃ z,(u.seen)[x.author.toNat]? = some z:=gX (by omega);have G:=mi A;obtain⟨H,I,J,_,s,K⟩:=hD jH iX o A;have s:I=[ni r]:=s;subst s;refine qg 35 H (K rfl rfl (by first | rfl | omega)) (qg 35 (ni r) (iE J T3) (qg 35 (pa b 4) (Yb lZ) (qg 35 (ni x.seq) (fI 1 T3) ?_)));by_cases B:r<x.seq
   ·
    refine qg 35 (.bool true) (gJ rfl rfl B) (qy (.bool true) Yf (ig fun _ S=>fM (fS rfl (er (ly (.bool false) S Ya (ln (fR ?_)))))));refine g3 (v:=.bool false) rfl rfl ?_;rw [u6 (.inr (by omega))];exact⟨rfl,S.below⟩
   refine qg 35 (.bool false) (gH rfl rfl B) (qy (.bool false) Yf (ig fun _ S=>fM (fV rfl (g1 (fM (er (ly (pa b 0) S (Yb n3) (ly (.bool false) S (jA (fI 1 T4) a) (ly (.bool true) S (iH rfl rfl) (ly (.bool true) S Ym (ls 49 (ls 49 (ls 49 ?_)))))))))))));refine ls 49 (ls 49 (ly (.bool true) S Yt (ly (.bool true) S Ya (ln (fR ?_)))));refine g3 (v:=.bool true) rfl rfl ?_;rw [vG l m (n.trans a.symm) g h0 (by omega) (by omega),a];exact⟨im rfl,S.below⟩
  refine qg 20 (.bool true) (j4 rfl rfl g) (qy (.bool true) Yf (qy (.bool true) Ym (qs 27 (qs 27 (qs 27 (qs 27 (qs 27 (qs 27 (qy (.bool true) Yt (qy (.bool true) Ym (qs 35 (qs 35 (qs 35 (qs 35 (qs 35 ?_)))))))))))))));refine qs 35 (qs 35 (qs 35 (qs 35 (qy (.bool true) Yt (ig fun _ S=>fM (fS rfl (er (ly (.bool false) S Ya (ln (fR ?_))))))))));refine g3 (v:=.bool false) rfl rfl ?_;rw [wB g];exact⟨rfl,S.below⟩
 refine nR (d':=13) (v:=.bool true) (g4 (vs:=[.agg (kU u c f)]) (CF 122 _) rfl rfl) rfl rfl (fun w S=>(zX _ _ S.le _ u (⟨_,rfl,⟨_,rfl,o⟩⟩:fW gM rd _ u)).mono (by rintro e w' ⟨rfl,k⟩;exact⟨im ‹_›,(S.callq k)⟩)) ?_;refine qg 13 (pa b 0) (Yb n3) ?_
 rcases Bool.eq_false_or_eq_true x.set with a | a
 ·
  refine qg 13 (.bool true) (jA (fI 1 T4) a) (qg 13 (.bool false) (pE U4 rfl rfl rfl) (qy (.bool false) Yf (qy (.bool false) Ym (qg 20 (pa i 3) (Yb nH) (qg 20 (ni u.key) (fI 0 T3) (qg 20 (pa b 1) (Yb mu) (qg 20 (ni x.key) (fI 1 T3) ?_)))))));by_cases g:u.key=x.key
  ·
   refine qg 20 (.bool false) (iT rfl rfl g) (qy (.bool false) Yf (qy (.bool false) Ym (qg 27 (pa b 3) (Yb ld) (qg 27 (ni x.author) (fI 1 T3) (qg 27 (pa i 1) (Yb mY) (qg 27 (sc c u.seen.length f) (fI 0 gL) (qg 27 (ni (u.seen.length:Int)) (Yl jH) ?_)))))));by_cases j:(u.seen.length:Int)≤x.author
   ·
    refine qg 27 (.bool true) (jY rfl rfl j) (qy (.bool true) Yf (qy (.bool true) Ym (qs 35 (qs 35 (qs 35 (qs 35 (qs 35 (qs 35 (qs 35 (qs 35 (qs 35 (qy (.bool true) Yt (ig fun _ S=>fM (fS rfl ?_))))))))))))));refine er (ly (.bool false) S Ya (ln (fR ?_)));refine g3 (v:=.bool false) rfl rfl ?_;rw [u6 (.inl j)];exact⟨rfl,S.below⟩
   refine qg 27 (.bool false) (k4 rfl rfl j) (qy (.bool false) Yf (qy (.bool false) Ym (qg 35 (pa i 1) (Yb mY) (qg 35 (sc c u.seen.length f) (fI 0 gL) (qg 35 (pa b 3) (Yb ld) (qg 35 (ni x.author) (fI 1 T3) ?_))))));obtain⟨t,C⟩:∃ z,(u.seen)[x.author.toNat]? = some z:=gX (by omega);have G:=mi C;obtain⟨L,M,N,_,y,O⟩:=hD jH iX o C;have y:M=[ni t]:=y;subst y;refine qg 35 L (O rfl rfl (by first | rfl | omega)) (qg 35 (ni t) (iE N T3) (qg 35 (pa b 4) (Yb lZ) (qg 35 (ni x.seq) (fI 1 T3) ?_)));by_cases D:t<x.seq
   ·
    refine qg 35 (.bool true) (gJ rfl rfl D) (qy (.bool true) Yf (ig fun _ S=>fM (fS rfl (er (ly (.bool false) S Ya (ln (fR ?_)))))));refine g3 (v:=.bool false) rfl rfl ?_;rw [u6 (.inr (by omega))];exact⟨rfl,S.below⟩
   refine qg 35 (.bool false) (gH rfl rfl D) (qy (.bool false) Yf (ig fun _ S=>fM (fV rfl (g1 (fM (er (ly (pa b 0) S (Yb n3) (ly (.bool true) S (jA (fI 1 T4) a) (ly (.bool false) S (iH rfl rfl) (ly (.bool false) S Ym (lg 49 (pa i 4) S (Yb nv) (lg 49 (ni u.item) S (fI 0 T3) (lg 49 (pa b 2) S (Yb mJ) ?_)))))))))))));refine lg 49 (ni x.item) S (fI 1 T3) ?_;by_cases p:u.item=x.item
   ·
    refine lg 49 (.bool true) S (iw rfl rfl p) (ly (.bool true) S Yf (ly (.bool true) S Ya (ln (fR ?_))));refine g3 (v:=.bool true) rfl rfl ?_;rw [vG l m (n.trans a.symm) g h0 (by omega) (by omega),a];exact⟨im (decide_eq_true p.symm).symm,S.below⟩
   refine lg 49 (.bool false) S (i5 rfl rfl p) (ly (.bool false) S Yf (ly (.bool false) S Ya (ln (fR ?_))));refine g3 (v:=.bool false) rfl rfl ?_;rw [vG l m (n.trans a.symm) g h0 (by omega) (by omega),a];exact⟨im (decide_eq_false (fun q=>p q.symm)).symm,S.below⟩
  refine qg 20 (.bool true) (j4 rfl rfl g) (qy (.bool true) Yf (qy (.bool true) Ym (qs 27 (qs 27 (qs 27 (qs 27 (qs 27 (qs 27 (qy (.bool true) Yt (qy (.bool true) Ym (qs 35 (qs 35 (qs 35 (qs 35 (qs 35 ?_)))))))))))))));refine qs 35 (qs 35 (qs 35 (qs 35 (qy (.bool true) Yt (ig fun _ S=>fM (fS rfl (er (ly (.bool false) S Ya (ln (fR ?_))))))))));refine g3 (v:=.bool false) rfl rfl ?_;rw [wB g];exact⟨rfl,S.below⟩
 refine qg 13 (.bool false) (jA (fI 1 T4) a) (qg 13 (.bool true) (pE U4 rfl rfl rfl) (qy (.bool true) Yf (qy (.bool true) Ym (qs 20 (qs 20 (qs 20 (qs 20 (qs 20 (qy (.bool true) Yt (qy (.bool true) Ym (qs 27 (qs 27 (qs 27 (qs 27 (qs 27 ?_)))))))))))))));refine qs 27 (qy (.bool true) Yt (qy (.bool true) Ym (qs 35 (qs 35 (qs 35 (qs 35 (qs 35 (qs 35 (qs 35 (qs 35 (qs 35 (qy (.bool true) Yt (ig fun _ S=>fM (fS rfl ?_))))))))))))));refine er (ly (.bool false) S Ya (ln (fR ?_)));refine g3 (v:=.bool false) rfl rfl ?_;rw [yg (by rw [n,a];decide)];exact⟨rfl,S.below⟩
theorem ug(rd:Rd)(W:World)(hle:Rd.le rd (fX W))(v v2:Value)(l:List ga)(x:ga)(h:fN 5 gB rd v l)(h2:fW gB rd v2 x) :
    Calls Tryz.prog 102 #[v,v2] W (fun e w'=>e = .returned (.bool (l.contains x))∧Below W.heap.size W w'):=by
 obtain⟨c,d,rfl,_,_⟩:=h.val;obtain⟨s,rfl,h2⟩:=h2;have t:s=[.bool x.set,ni x.key,ni x.item,ni x.author,ni x.seq]:=h2;subst t;have G:=il;have S:St [] W rd rd [] [] W:=St.start hle;refine io (args:=[sc c l.length d,.agg (kL x)]) 17 Tryz.func102 rfl rfl rfl ?_;refine er (ix (u:=.agg (kL x)) (cs:=(kL x)) S rfl rfl fun j _ S=>ly (.bool false) S Ya (ln (fJ (er (ly (sc c l.length d) S Ym (ly (ni (l.length:Int)) S (Yl iD) (ly (ni 0) S Ym (ln (go ?_)))))))));refine et [(3,pa j 0),(7,sc c l.length d),(8,ni (l.length:Int)),(9,ni (0:Int))] (fun f => ?_);refine j1 (fun(k:Nat) ov w=>match k with | i => ∃ rd' f,ov=[(3,pa j 0),(7,sc c l.length d),(8,ni (l.length:Int)),(9,ni (i:Int))]++f∧St [] W rd rd' [(j,104,(kL x))] [] w∧Rd.le rd rd'∧i≤l.length∧(∀ y∈l.take i,¬ x=y)) (fun k=>match k with | i=>l.length - i) 0 ⟨_,f,rfl,(S.rw' rfl rfl),fZ,(by omega),(fun y b=>by simp at b)⟩ ?_;rintro i _ _ ⟨_,f,rfl,S,n,_,o⟩;replace h:=fm h n;refine er ?_;by_cases p:(i:Int)<(l.length:Int)
 ·
  refine ly (.bool true) S (gJ rfl rfl p) (ln (fJ (fS rfl (g1 (fM (fJ (go (er ?_))))))));obtain⟨a,m⟩:∃ z,(l)[i]? = some z:=gX (by omega);obtain⟨A,B,C,_,D,E⟩:=hD iD iY h m;have F:B=[.bool a.set,ni a.key,ni a.item,ni a.author,ni a.seq]:=D;subst F;refine ly A S (E rfl rfl (by first | rfl | omega)) (ly (.agg (kL a)) S (jd C j6) (gk (cs:=nj) S lv rfl fun _ _ S=>fT (u:=.agg (kL a)) (i:=1) (cs':=(kL a)) S rfl rfl rfl iY rfl rfl rfl fun _ S=>ln (er (ly (.agg (kL x)) S (gf 0 j6) (ly (.agg (kL a)) S (gf 1 j6) ?_)))));by_cases g:x=a
  ·
   refine ly (.bool true) S (pH (fun _ _ _=>by kernel_rfl) (fun w=>yB w g) rfl rfl) (ln (fS rfl (er (ly (.bool true) S Ya (ln (fR ?_))))));refine g3 (v:=.bool true) rfl rfl ?_;exact⟨im (by rw [g];exact(List.contains_iff_mem.2 (List.mem_of_getElem? m)).symm),S.below⟩
  refine ly (.bool false) S (pH (fun _ _ _=>by kernel_rfl) (fun w=>yD w g) rfl rfl) (ln (fV rfl (g1 (gA (nr (ly (ni ((i:Int)+1)) S (gw (r:=(i:Int)+1) rfl rfl (gl (by omega) (by omega))) (ly (ni ((i:Int)+1)) S Ym (fL ?_))))))));refine fK ⟨(i+1),_,fk,⟨_,_,rfl,(S.tt 1 0),(fY n fZ),(by omega),(by rw [jl m];intro y b;rcases List.mem_append.1 b with b | b;exact o y b;rw [List.mem_singleton.1 b];exact g)⟩,?_⟩
  show _<_;dsimp only;omega
 refine ly (.bool false) S (gH rfl rfl p) (ln (fJ (fV rfl (iP (iQ (j0 (iR (fM (er (ly (.bool false) S Ya (ln (fR ?_))))))))))));refine g3 (v:=.bool false) rfl rfl ?_;exact⟨im (Bool.eq_false_iff.2 fun q=>o x (by rw [List.take_of_length_le (by omega)];exact List.contains_iff_mem.1 q) rfl).symm,S.below⟩
theorem qJ(rd:Rd)(W:World)(hle:Rd.le rd (fX W))(v v2:Value)(l:List ga)(x:ga)(h:fN 5 gB rd v l)(h2:fW gB rd v2 x)(hb:l.length≤2000000000) :
    Calls Tryz.prog 99 #[v,v2] W (fun e w' => ∃ v',e = .returned v'∧fN 5 gB (ext rd W w') v' (k6 l x)∧Below W.heap.size W w'):=by
 obtain⟨j,m,rfl,_,_⟩:=h.val;obtain⟨N,rfl,h2⟩:=h2;have O:N=[.bool x.set,ni x.key,ni x.item,ni x.author,ni x.seq]:=h2;subst O;have a9:=il;have S:St [] W rd rd [] [] W:=St.start hle;refine io (args:=[sc j l.length m,.agg (kL x)]) 38 Tryz.func99 rfl rfl rfl ?_;refine er (ix (u:=.agg (kL x)) (cs:=(kL x)) S rfl rfl fun y _ S=>ly sn S Ya (ln (er (ly sn S Ya (ln (er (ly (.bool false) S Ya (ln ?_))))))));refine fJ (er (ly (sc j l.length m) S Ym (ly (ni (l.length:Int)) S (Yl iD) (ly (ni 0) S Ym (ln (go ?_))))));have S:=S.ownNil 104 5;have P:fQ 5 gB rd [] []:=rfl;refine et [(3,pa y 0),(4,sn),(9,sc j l.length m),(10,ni (l.length:Int)),(11,ni (0:Int)),(5,sn),(6,.bool false)] (fun n => ?_);refine j1 (fun(B:Nat × (List ga) × (Option Addr) × Nat × Nat × (List Value) × Bool) ov w=>match B with | (k,o,AO,nO,cO,xsO,d) => ∃ rd' n,ov=[(3,pa y 0),(4,sn),(9,sc j l.length m),(10,ni (l.length:Int)),(11,ni (k:Int)),(5,sc AO nO cO),(6,.bool d)]++n∧St [] W rd rd' [(y,104,(kL x))] [⟨104,5,sc AO nO cO,nO,xsO⟩] w∧Rd.le rd rd'∧(fQ 5 gB rd' xsO o∧nO=o.length)∧k≤l.length∧(o,d)=(l.take k).foldl (kW x) ([],false)) (fun B=>match B with | (k,o,AO,nO,cO,xsO,d)=>(l).length - k) (0,[],none,0,0,[],false) ⟨_,n,rfl,(S.rw' rfl rfl),fZ,⟨P,(by first | rfl | assumption | omega | simp)⟩,(by omega),rfl⟩ ?_;rintro⟨k,o,AO,nO,cO,xsO,d⟩ _ _ ⟨C,n,rfl,S,p,⟨OO,_⟩,_,b⟩;replace h:=fm h p;have aa:o.length≤k+1:=DO b;refine er ?_;by_cases D:(k:Int)<(l.length:Int)
 ·
  refine ly (.bool true) S (gJ rfl rfl D) (ln (fJ (fS rfl (g1 (fM (fJ (go (er ?_))))))));obtain⟨a,q⟩:∃ z,(l)[k]? = some z:=gX (by omega);obtain⟨Q,R,T,_,U,V⟩:=hD iD iY h q;have X:R=[.bool a.set,ni a.key,ni a.item,ni a.author,ni a.seq]:=U;subst X;refine ly Q S (V rfl rfl (by first | rfl | omega)) (ly (.agg (kL a)) S (jd T j6) (gk (cs:=nj) S lv rfl fun _ _ S=>fT (u:=.agg (kL a)) (i:=1) (cs':=(kL a)) S rfl rfl rfl iY rfl rfl rfl fun _ S=>ln (fJ (er (ly (.bool d) S Ym ?_)))))
  rcases Bool.eq_false_or_eq_true d with f | f
  ·
   refine ly (.bool false) S (iH rfl (by rw [f];rfl)) (ly (.bool false) S Ym (ls 17 (ls 17 (ls 17 (ly (.bool false) S Yf (ln (fV rfl (g1 (nr (ly (sc AO nO cO) S Ym (ly (.agg (kL a)) S (gf 1 j6) (iZ (ps:=[(0,.agg (kL a))]) (cs:=#[.bool a.set,ni a.key,ni a.item,ni a.author,ni a.seq]) S iD iY lv rfl rfl rfl (by kernel_rfl) fun _ _ S => ?_))))))))))));refine js (e':=0) (i:=0) (i':=2) S og rfl rfl rfl rfl rfl rfl rfl (by simp only [maxLen];omega) (by first | omega | (dsimp only;omega)) fun Y _ S => ?_
   have OO:=fQ.push (x:=a) (cs:=(kL a).toList) OO rfl rfl;obtain⟨E,F,Z,_,_⟩:∃ A c,Y = .slice A (nO+1) c∧(nO+1)≤c∧c≤maxLen:=i8 S (i:=0) rfl;subst Z;refine ly (sc E (nO+1) F) S Ya (fL (gA (nr (ly (ni ((k:Int)+1)) S (gw (r:=(k:Int)+1) rfl rfl (gl (by omega) (by omega))) (ly (ni ((k:Int)+1)) S Ym (fL ?_))))));refine fK ⟨(k+1,o++[a],E,nO+1,F,(xsO++(kL a).toList),d),_,fk,⟨_,_,rfl,(S.tt 1 1),(fY p fZ),⟨OO,(by first | omega | (simp;omega))⟩,(by omega),(Aa q b f)⟩,?_⟩
   show _<_;dsimp only;omega
  refine ly (.bool true) S (iH rfl (by rw [f];rfl)) (ly (.bool true) S Ym (lg 17 (.agg (kL x)) S (gf 0 j6) (lg 17 (.agg (kL a)) S (gf 1 j6) ?_)));refine lj (d':=17) (g4 (vs:=[.agg (kL x),.agg (kL a)]) (CF 90 _) rfl rfl) rfl rfl (vt _ _ S.le _ _ x a (⟨_,rfl,rfl⟩:fW gB C _ x) (⟨_,rfl,rfl⟩:fW gB C _ a)) ?_;rintro e _ ⟨rfl,a0⟩;have S:=S.callq a0
  cases G:mU x a
  ·
   refine g9 (ly (.bool false) S Yt (ln (fV rfl (g1 (nr (ly (sc AO nO cO) S Ym (ly (.agg (kL a)) S (gf 1 j6) (iZ (ps:=[(0,.agg (kL a))]) (cs:=#[.bool a.set,ni a.key,ni a.item,ni a.author,ni a.seq]) S iD iY lv rfl rfl rfl (by kernel_rfl) fun _ _ S => ?_))))))));refine js (e':=0) (i:=0) (i':=2) S og rfl rfl rfl rfl rfl rfl rfl (by simp only [maxLen];omega) (by first | omega | (dsimp only;omega)) fun a1 _ S => ?_
   have OO:=fQ.push (x:=a) (cs:=(kL a).toList) OO rfl rfl;obtain⟨H,I,a2,_,_⟩:∃ A c,a1 = .slice A (nO+1) c∧(nO+1)≤c∧c≤maxLen:=i8 S (i:=0) rfl;subst a2;refine ly (sc H (nO+1) I) S Ya (fL (gA (nr (ly (ni ((k:Int)+1)) S (gw (r:=(k:Int)+1) rfl rfl (gl (by omega) (by omega))) (ly (ni ((k:Int)+1)) S Ym (fL ?_))))));refine fK ⟨(k+1,o++[a],H,nO+1,I,(xsO++(kL a).toList),d),_,fk,⟨_,_,rfl,(S.tt 1 1),(fY p fZ),⟨OO,(by first | omega | (simp;omega))⟩,(by omega),(E0 q b f G)⟩,?_⟩
   show _<_;dsimp only;omega
  refine g9 (ly (.bool true) S Yt (ln (fS rfl (er (ly (sc AO nO cO) S Ym (ly (.agg (kL x)) S (gf 0 j6) (iZ (ps:=[(0,.agg (kL x))]) (cs:=#[.bool x.set,ni x.key,ni x.item,ni x.author,ni x.seq]) S iD iY lv rfl rfl rfl (by kernel_rfl) fun _ _ S => ?_)))))));refine js (e':=0) (i:=0) (i':=2) S og rfl rfl rfl rfl rfl rfl rfl (by simp only [maxLen];omega) (by first | omega | (dsimp only;omega)) fun a3 _ S => ?_
  have OO:=fQ.push (x:=x) (cs:=(kL x).toList) OO rfl rfl;obtain⟨J,K,a4,_,_⟩:∃ A c,a3 = .slice A (nO+1) c∧(nO+1)≤c∧c≤maxLen:=i8 S (i:=0) rfl;subst a4;refine ly (sc J (nO+1) K) S Ya (ln (gU (ly (.bool true) S Ya (ln (gU (ly (sc J (nO+1) K) S Ym (ly (.agg (kL a)) S (gf 1 j6) (iZ (ps:=[(0,.agg (kL a))]) (cs:=#[.bool a.set,ni a.key,ni a.item,ni a.author,ni a.seq]) S iD iY lv rfl rfl rfl (by kernel_rfl) fun _ _ S => ?_))))))));refine js (e':=0) (i:=0) (i':=3) S og rfl rfl rfl rfl rfl rfl rfl (by simp only [maxLen];omega) (by first | omega | (dsimp only;omega)) fun a5 _ S => ?_
  have OO:=fQ.push (x:=a) (cs:=(kL a).toList) OO rfl rfl;obtain⟨L,M,a6,_,_⟩:∃ A c,a5 = .slice A ((nO+1)+1) c∧((nO+1)+1)≤c∧c≤maxLen:=i8 S (i:=0) rfl;subst a6;refine ly (sc L ((nO+1)+1) M) S Ya (fL (gA (nr (ly (ni ((k:Int)+1)) S (gw (r:=(k:Int)+1) rfl rfl (gl (by omega) (by omega))) (ly (ni ((k:Int)+1)) S Ym (fL ?_))))));refine fK ⟨(k+1,(o++[x])++[a],L,(nO+1)+1,M,((xsO++(kL x).toList)++(kL a).toList),true),_,fk,⟨_,_,rfl,(S.tt 1 1),(fY p fZ),⟨OO,(by first | omega | (simp;omega))⟩,(by omega),(Dp q b f G)⟩,?_⟩
  show _<_;dsimp only;omega
 refine ly (.bool false) S (gH rfl rfl D) (ln (fJ (fV rfl (iP (iQ (j0 (iR (fM (fJ (er (ly (.bool d) S Ym ?_)))))))))))
 rcases Bool.eq_false_or_eq_true d with g | g
 ·
  refine ly (.bool false) S (iH rfl (by rw [g];rfl)) (ln (fV rfl (g1 (fM (er (ly (sc AO nO cO) S Ym (ly (sc AO nO cO) S Ya (ln (fR ?_)))))))));refine g3 (v:=sc AO nO cO) rfl rfl ?_;have es:k6 l x=o:=xQ (o:=o) (d:=d) (by rwa [List.take_of_length_le (by omega)] at b) (by rw [g];rfl);rw [es];exact⟨_,rfl,(S.rowOut (i:=0) rfl rfl (by first | assumption | (simp;omega)) rfl OO),S.below⟩
 refine ly (.bool true) S (iH rfl (by rw [g];rfl)) (ln (fS rfl (gU (ly (sc AO nO cO) S Ym (ly (.agg (kL x)) S (gf 0 j6) (iZ (ps:=[(0,.agg (kL x))]) (cs:=#[.bool x.set,ni x.key,ni x.item,ni x.author,ni x.seq]) S iD iY lv rfl rfl rfl (by kernel_rfl) fun _ _ S => ?_))))));refine js (e':=0) (i:=0) (i':=1) S og rfl rfl rfl rfl rfl rfl rfl (by simp only [maxLen];omega) (by first | omega | (dsimp only;omega)) fun a7 _ S => ?_
 have OO:=fQ.push (x:=x) (cs:=(kL x).toList) OO rfl rfl;obtain⟨s,t,a8,_,_⟩:∃ A c,a7 = .slice A (nO+1) c∧(nO+1)≤c∧c≤maxLen:=i8 S (i:=0) rfl;subst a8;refine ly (sc s (nO+1) t) S Ya (ln (er (ly (sc s (nO+1) t) S Ym (ly (sc s (nO+1) t) S Ya (ln (fR ?_))))));refine g3 (v:=sc s (nO+1) t) rfl rfl ?_;have es:k6 l x=o++[x]:=xQ (o:=o) (d:=d) (by rwa [List.take_of_length_le (by omega)] at b) (by rw [g];rfl);rw [es];exact⟨_,rfl,(S.rowOut (i:=0) rfl rfl (by first | assumption | (simp;omega)) rfl OO),S.below⟩
theorem tT(rd:Rd)(W:World)(hle:Rd.le rd (fX W))(v v2:Value)(x:ga)(l:List fH)(h:fW gB rd v x)(h2:fN 5 gM rd v2 l)(h0:0≤x.author) :
    Calls Tryz.prog 97 #[v,v2] W (fun e w'=>e = .returned (.bool (nX x l))∧Below W.heap.size W w'):=by
 obtain⟨C,rfl,h⟩:=h;have D:C=[.bool x.set,ni x.key,ni x.item,ni x.author,ni x.seq]:=h;subst D;obtain⟨g,j,rfl,_,_⟩:=h2.val;have K:=il;have S:St [] W rd rd [] [] W:=St.start hle;refine io (args:=[.agg (kL x),sc g l.length j]) 17 Tryz.func97 rfl rfl rfl ?_;refine er (ix (u:=.agg (kL x)) (cs:=(kL x)) S rfl rfl fun m _ S=>ly (.bool false) S Ya (ln (fJ (er (ly (sc g l.length j) S Ym (ly (ni (l.length:Int)) S (Yl iF) (ly (ni 0) S Ym (ln (go ?_)))))))));refine et [(2,pa m 0),(7,sc g l.length j),(8,ni (l.length:Int)),(9,ni (0:Int))] (fun k => ?_);refine j1 (fun(n:Nat) ov w=>match n with | i => ∃ rd' k,ov=[(2,pa m 0),(7,sc g l.length j),(8,ni (l.length:Int)),(9,ni (i:Int))]++k∧St [] W rd rd' [(m,104,(kL x))] [] w∧Rd.le rd rd'∧i≤l.length∧(∀ u∈l.take i,jV u x=false)) (fun n=>match n with | i=>l.length - i) 0 ⟨_,k,rfl,(S.rw' rfl rfl),fZ,(by omega),(fun y b=>by simp at b)⟩ ?_;rintro i _ _ ⟨p,k,rfl,S,s,_,t⟩;replace h2:=fm h2 s;refine er ?_;by_cases A:(i:Int)<(l.length:Int)
 ·
  refine ly (.bool true) S (gJ rfl rfl A) (ln (fJ (fS rfl (g1 (fM (fJ (go (er ?_))))))));obtain⟨a,o⟩:∃ z,(l)[i]? = some z:=gX (by omega);obtain⟨E,_,F,_,G,H⟩:=hD iF jg h2 o;obtain⟨c,f,rfl,I,_⟩:=G.d;refine ly E S (H rfl rfl (by first | rfl | omega)) (ly (.agg (kU a c f)) S (jd F jx) (gk (cs:=p9) S kH rfl fun _ _ S=>fT (u:=.agg (kU a c f)) (i:=1) (cs':=(kU a c f)) S rfl rfl rfl jg rfl rfl rfl fun _ S=>ln (er (ly (.agg (kU a c f)) S (gf 1 jx) (ly (.agg (kL x)) S (gf 0 j6) ?_)))));refine g7 (g4 (vs:=[.agg (kU a c f),.agg (kL x)]) (CF 98 _) rfl rfl) (Em _ _ S.le _ _ a x (⟨_,rfl,⟨_,rfl,I⟩⟩:fW gM p _ a) (⟨_,rfl,rfl⟩:fW gB p _ x) h0) ?_;rintro e _ ⟨rfl,J⟩;have S:=S.callq J
  cases B:jV a x
  ·
   refine kn (fM (fV rfl (g1 (gA (nr (ly (ni ((i:Int)+1)) S (gw (r:=(i:Int)+1) rfl rfl (gl (by omega) (by omega))) (ly (ni ((i:Int)+1)) S Ym (fL ?_))))))));refine fK ⟨(i+1),_,fk,⟨_,_,rfl,(S.tt 1 0),(fY s fZ),(by omega),(by rw [jl o];intro y b;rcases List.mem_append.1 b with b | b;exact t y b;rw [List.mem_singleton.1 b];exact B)⟩,?_⟩
   show _<_;dsimp only;omega
  refine kn (fM (fS rfl (er (ly (.bool false) S Ya (ln (fR ?_))))));refine g3 (v:=.bool false) rfl rfl ?_;exact⟨im (Bool.eq_false_iff.2 fun q=>by have:=r8.1 q _ (List.mem_of_getElem? o);rw [B] at this;cases this).symm,S.below⟩
 refine ly (.bool false) S (gH rfl rfl A) (ln (fJ (fV rfl (iP (iQ (j0 (iR (fM (er (ly (.bool true) S Ya (ln (fR ?_))))))))))));refine g3 (v:=.bool true) rfl rfl ?_;exact⟨im (r8.2 (by rwa [List.take_of_length_le (by omega)] at t)).symm,S.below⟩
theorem pj(rd:Rd)(W:World)(hle:Rd.le rd (fX W))(ee:Int)(p:Value)(i:Int)(h:j2 rd p [ni i]) :
    Calls Tryz.prog 89 #[(.int .i64 ee),p] W (fun e w'=>e = .returned (.agg #[ni ee,ni i])∧Below W.heap.size W w'):=by
 have a:=il;have S:St [] W rd rd [] [] W:=St.start hle;refine io (args:=[ni ee,p]) 7 Tryz.func89 rfl rfl rfl ?_;refine er (gk (cs:=mr) S mn rfl fun _ _ S=>ln (er (ly (ni ee) S Ym (ly (ni i) S (iE h T3) (ly (.agg #[ni ee,ni i]) S (gy (ps:=[(0,ni ee),(1,ni i)]) rfl (fun _=>by kernel_rfl)) (fT (u:=.agg #[ni ee,ni i]) (i:=0) (cs':=#[ni ee,ni i]) S rfl rfl rfl iS rfl rfl rfl fun _ S=>ln (fR ?_)))))));refine g3 (v:=.agg #[ni ee,ni i]) rfl ⟨_,rfl,gu (i:=0) (vs:=[ni ee,ni i]) S rfl jh rfl rfl⟩ ?_;exact⟨rfl,S.below⟩
theorem q3(rd:Rd)(W:World)(hle:Rd.le rd (fX W))(ee:Int)(p:Value)(i:Int)(h:j2 rd p [ni i]) :
    Calls Tryz.prog 91 #[(.int .i64 ee),p] W (fun e w'=>e = .returned (.agg #[ni ee,ni i])∧Below W.heap.size W w'):=by
 have a:=il;have S:St [] W rd rd [] [] W:=St.start hle;refine io (args:=[ni ee,p]) 7 Tryz.func91 rfl rfl rfl ?_;refine er (gk (cs:=mr) S mn rfl fun _ _ S=>ln (er (ly (ni ee) S Ym (ly (ni i) S (iE h T3) (ly (.agg #[ni ee,ni i]) S (gy (ps:=[(0,ni ee),(1,ni i)]) rfl (fun _=>by kernel_rfl)) (fT (u:=.agg #[ni ee,ni i]) (i:=0) (cs':=#[ni ee,ni i]) S rfl rfl rfl iS rfl rfl rfl fun _ S=>ln (fR ?_)))))));refine g3 (v:=.agg #[ni ee,ni i]) rfl ⟨_,rfl,gu (i:=0) (vs:=[ni ee,ni i]) S rfl jh rfl rfl⟩ ?_;exact⟨rfl,S.below⟩
theorem C0{a b:ga}(h:mU a b=false):0≤gQ a b:=by have:=of_decide_eq_false h;omega
theorem vp(rd:Rd)(W:World)(hle:Rd.le rd (fX W))(v:Value)(s:gt)(n:Int)(h:fW iW rd v s) :
    Calls Tryz.prog 51 #[v,(.int .i64 n)] W (fun e w'=>e = .returned (.agg #[.int .i64 (gj s n).1,.int .i64 (gj s n).2])∧Below W.heap.size W w'):=by
 obtain⟨_,rfl,h⟩:=h;obtain⟨A,B,C,D,E,F,rfl,K,R,M,_⟩:=h.d;have b2:=il;have S:St [] W rd rd [] [] W:=St.start hle;refine io (args:=[.agg (kS s A B C D E F),ni n]) 168 Tryz.func51 rfl rfl rfl ?_;refine er (ix (u:=.agg (kS s A B C D E F)) (cs:=(kS s A B C D E F)) S rfl rfl fun m _ S=>gk (cs:=mr) S mn rfl fun N _ S=>ln (fJ (er (ly (pa m 0) S (Yb iO) (ly (sc A s.clock.length B) S (fI 0 gL) (ly (ni n) S Ym ?_))))));refine g7 (g4 (vs:=[sc A s.clock.length B,ni n]) (CF 53 _) rfl rfl) (sq _ _ _ _ (fm K S.le)) ?_;rintro e _ ⟨rfl,rfl⟩;refine g9 (ly (ni (gb s.clock n)) S Ya (ln (er (ly (ni (gb s.clock n)) S Ym ?_))));by_cases f:gb s.clock n=0
 ·
  refine ly (.bool false) S (iT rfl rfl f) (ln (fV rfl (g1 (fM (fJ (er ?_))))));have ao:=i7 f;refine ly (pa m 1) S (Yb jn) (ly (sc C s.lives.length D) S (fI 0 k7) (ly (ni (s.lives.length:Int)) S (Yl iD) (ly (ni 0) S Ym (ln (go ?_)))));refine et [(1,ni n),(2,pa m 0),(4,pa N 0),(21,sc C s.lives.length D),(22,ni (s.lives.length:Int)),(23,ni (0:Int))] (fun G => ?_);refine j1 (fun(L:Nat) ov w=>match L with | k => ∃ rd' G,ov=[(1,ni n),(2,pa m 0),(4,pa N 0),(21,sc C s.lives.length D),(22,ni (s.lives.length:Int)),(23,ni (k:Int))]++G∧St [] W rd rd' [(m,27,(kS s A B C D E F)),(N,84,#[ni 0,ni 0])] [] w∧Rd.le rd rd'∧k≤s.lives.length∧mj s.clock n none s.lives 0=mj s.clock n (nh s.lives k) (s.lives.drop k) k) (fun L=>match L with | k=>s.lives.length - k) 0 ⟨_,G,rfl,(S.rw' rfl rfl),fZ,(by omega),rfl⟩ ?_;rintro k _ _ ⟨O,G,rfl,S,P,ap,p⟩;replace K:=fm K P;replace R:=fm R P;replace M:=fm M P;refine er ?_;by_cases a3:(k:Int)<(s.lives.length:Int)
  ·
   refine ly (.bool true) S (gJ rfl rfl a3) (ln (fJ (fS rfl (g1 (fM (fJ (go (er (ly (ni (k:Int)) S Ym ?_)))))))));obtain⟨b,o⟩:∃ z,(s.lives)[k]? = some z:=gX (by omega);obtain⟨aq,ar,au,_,av,aw⟩:=hD iD iY R o;have ax:ar=[.bool b.set,ni b.key,ni b.item,ni b.author,ni b.seq]:=av;subst ax;refine ly aq S (aw rfl rfl (by first | rfl | omega)) (ly (.agg (kL b)) S (jd au j6) (gk (cs:=#[ni 0]) S Z3 rfl fun g _ S=>gk (cs:=nj) S lv rfl fun H _ S=>fT (u:=ni (k:Int)) (i:=2) (cs':=#[ni (k:Int)]) S rfl rfl rfl iX rfl rfl rfl fun _ S=>fT (u:=.agg (kL b)) (i:=3) (cs':=(kL b)) S rfl rfl rfl iY rfl rfl rfl fun _ S=>ln (er (ly (.func (.func 89) #[] #[pa g 0]) S (qq rfl rfl) (ly (.func (.func 89) #[] #[pa g 0]) S Ya (ln (fJ (fJ ?_))))))));refine gU (ly (pa H 3) S (Yb ld) (ly (ni b.author) S (fI 3 T3) ?_));by_cases a4:b.author<0
   ·
    refine ly (.bool true) S (gJ rfl rfl a4) (ly (.bool true) S Ym (ls 32 (ls 32 (ls 32 (ls 32 (ly (.bool true) S Yt (ly (.bool true) S Ym (ls 38 (ls 38 (ls 38 (ly (.bool true) S Yt (ly (.bool true) S Ym (ls 43 (ls 43 (ls 43 ?_)))))))))))))));refine ly (.bool true) S Yt (ly (.bool true) S Ym (ls 48 (ls 48 (ls 48 (ly (.bool true) S Yt (ly (.bool true) S Ym (ls 53 (ls 53 (ls 53 (ly (.bool true) S Yt (ly (.bool true) S Ym (ls 58 (ls 58 (ls 58 (ly (.bool true) S Yt ?_)))))))))))))));refine ln (fS rfl (er (ly (.func (.func 89) #[] #[pa g 0]) S Ym ?_)));refine g7 (lr (us:=[ni 3,pa g 0]) (CF 89 _) rfl rfl rfl) (pj (fX _) _ fZ 3 _ (k:Int) (S.boxPtr (i:=2) rfl)) ?_;rintro e _ ⟨rfl,c⟩;have S:=S.callq c;refine g9 (fT (u:=.agg #[ni 3,ni (k:Int)]) (i:=1) (cs':=#[ni 3,ni (k:Int)]) S rfl rfl rfl iS rfl rfl rfl fun _ S=>ln (fR ?_));refine g3 (v:=.agg #[ni 3,ni (k:Int)]) rfl ⟨_,rfl,gu (i:=1) (vs:=[ni 3,ni (k:Int)]) S rfl jh rfl rfl⟩ ?_;refine⟨jI (mI f (p.trans ?_) (by simp)),S.below⟩;rw [lQ o];rw [if_pos (by omega)]
   refine ly (.bool false) S (gH rfl rfl a4) (ly (.bool false) S Ym (lg 32 (pa H 3) S (Yb ld) (lg 32 (ni b.author) S (fI 3 T3) (lg 32 (ni n) S Ym ?_))));by_cases a5:n≤b.author
   ·
    refine lg 32 (.bool true) S (jY rfl rfl a5) (ly (.bool true) S Yf (ly (.bool true) S Ym (ls 38 (ls 38 (ls 38 (ly (.bool true) S Yt (ly (.bool true) S Ym (ls 43 (ls 43 (ls 43 (ly (.bool true) S Yt (ly (.bool true) S Ym (ls 48 (ls 48 (ls 48 ?_)))))))))))))));refine ly (.bool true) S Yt (ly (.bool true) S Ym (ls 53 (ls 53 (ls 53 (ly (.bool true) S Yt (ly (.bool true) S Ym (ls 58 (ls 58 (ls 58 (ly (.bool true) S Yt (ln (fS rfl (er ?_)))))))))))));refine ly (.func (.func 89) #[] #[pa g 0]) S Ym (g7 (lr (us:=[ni 3,pa g 0]) (CF 89 _) rfl rfl rfl) (pj (fX _) _ fZ 3 _ (k:Int) (S.boxPtr (i:=2) rfl)) ?_);rintro e _ ⟨rfl,c⟩;have S:=S.callq c;refine g9 (fT (u:=.agg #[ni 3,ni (k:Int)]) (i:=1) (cs':=#[ni 3,ni (k:Int)]) S rfl rfl rfl iS rfl rfl rfl fun _ S=>ln (fR ?_));refine g3 (v:=.agg #[ni 3,ni (k:Int)]) rfl ⟨_,rfl,gu (i:=1) (vs:=[ni 3,ni (k:Int)]) S rfl jh rfl rfl⟩ ?_;refine⟨jI (mI f (p.trans ?_) (by simp)),S.below⟩;rw [lQ o];rw [if_pos (by omega)]
   refine lg 32 (.bool false) S (k4 rfl rfl a5) (ly (.bool false) S Yf (ly (.bool false) S Ym (lg 38 (pa H 4) S (Yb lZ) (lg 38 (ni b.seq) S (fI 3 T3) ?_))));by_cases a6:b.seq<1
   ·
    refine lg 38 (.bool true) S (gJ rfl rfl a6) (ly (.bool true) S Yf (ly (.bool true) S Ym (ls 43 (ls 43 (ls 43 (ly (.bool true) S Yt (ly (.bool true) S Ym (ls 48 (ls 48 (ls 48 (ly (.bool true) S Yt (ly (.bool true) S Ym (ls 53 (ls 53 (ls 53 ?_)))))))))))))));refine ly (.bool true) S Yt (ly (.bool true) S Ym (ls 58 (ls 58 (ls 58 (ly (.bool true) S Yt (ln (fS rfl (er (ly (.func (.func 89) #[] #[pa g 0]) S Ym ?_)))))))));refine g7 (lr (us:=[ni 3,pa g 0]) (CF 89 _) rfl rfl rfl) (pj (fX _) _ fZ 3 _ (k:Int) (S.boxPtr (i:=2) rfl)) ?_;rintro e _ ⟨rfl,c⟩;have S:=S.callq c;refine g9 (fT (u:=.agg #[ni 3,ni (k:Int)]) (i:=1) (cs':=#[ni 3,ni (k:Int)]) S rfl rfl rfl iS rfl rfl rfl fun _ S=>ln (fR ?_));refine g3 (v:=.agg #[ni 3,ni (k:Int)]) rfl ⟨_,rfl,gu (i:=1) (vs:=[ni 3,ni (k:Int)]) S rfl jh rfl rfl⟩ ?_;refine⟨jI (mI f (p.trans ?_) (by simp)),S.below⟩;rw [lQ o];rw [if_pos (by omega)]
   refine lg 38 (.bool false) S (gH rfl rfl a6) (ly (.bool false) S Yf (ly (.bool false) S Ym (lg 43 (pa H 1) S (Yb mu) (lg 43 (ni b.key) S (fI 3 T3) ?_))));by_cases a7:b.key<0
   ·
    refine lg 43 (.bool true) S (gJ rfl rfl a7) (ly (.bool true) S Yf (ly (.bool true) S Ym (ls 48 (ls 48 (ls 48 (ly (.bool true) S Yt (ly (.bool true) S Ym (ls 53 (ls 53 (ls 53 (ly (.bool true) S Yt (ly (.bool true) S Ym (ls 58 (ls 58 (ls 58 ?_)))))))))))))));refine ly (.bool true) S Yt (ln (fS rfl (er (ly (.func (.func 89) #[] #[pa g 0]) S Ym ?_))));refine g7 (lr (us:=[ni 3,pa g 0]) (CF 89 _) rfl rfl rfl) (pj (fX _) _ fZ 3 _ (k:Int) (S.boxPtr (i:=2) rfl)) ?_;rintro e _ ⟨rfl,c⟩;have S:=S.callq c;refine g9 (fT (u:=.agg #[ni 3,ni (k:Int)]) (i:=1) (cs':=#[ni 3,ni (k:Int)]) S rfl rfl rfl iS rfl rfl rfl fun _ S=>ln (fR ?_));refine g3 (v:=.agg #[ni 3,ni (k:Int)]) rfl ⟨_,rfl,gu (i:=1) (vs:=[ni 3,ni (k:Int)]) S rfl jh rfl rfl⟩ ?_;refine⟨jI (mI f (p.trans ?_) (by simp)),S.below⟩;rw [lQ o];rw [if_pos (by omega)]
   refine lg 43 (.bool false) S (gH rfl rfl a7) (ly (.bool false) S Yf (ly (.bool false) S Ym (lg 48 (pa H 1) S (Yb mu) (lg 48 (ni b.key) S (fI 3 T3) ?_))));by_cases a8:15<b.key
   ·
    refine lg 48 (.bool true) S (ko rfl rfl a8) (ly (.bool true) S Yf (ly (.bool true) S Ym (ls 53 (ls 53 (ls 53 (ly (.bool true) S Yt (ly (.bool true) S Ym (ls 58 (ls 58 (ls 58 (ly (.bool true) S Yt (ln (fS rfl (fJ ?_))))))))))))));refine gU (ly (.func (.func 89) #[] #[pa g 0]) S Ym ?_);refine g7 (lr (us:=[ni 3,pa g 0]) (CF 89 _) rfl rfl rfl) (pj (fX _) _ fZ 3 _ (k:Int) (S.boxPtr (i:=2) rfl)) ?_;rintro e _ ⟨rfl,c⟩;have S:=S.callq c;refine g9 (fT (u:=.agg #[ni 3,ni (k:Int)]) (i:=1) (cs':=#[ni 3,ni (k:Int)]) S rfl rfl rfl iS rfl rfl rfl fun _ S=>ln (fR ?_));refine g3 (v:=.agg #[ni 3,ni (k:Int)]) rfl ⟨_,rfl,gu (i:=1) (vs:=[ni 3,ni (k:Int)]) S rfl jh rfl rfl⟩ ?_;refine⟨jI (mI f (p.trans ?_) (by simp)),S.below⟩;rw [lQ o];rw [if_pos (by omega)]
   refine lg 48 (.bool false) S (kt rfl rfl a8) (ly (.bool false) S Yf (ly (.bool false) S Ym (lg 53 (pa H 2) S (Yb mJ) (lg 53 (ni b.item) S (fI 3 T3) ?_))));by_cases a9:b.item<(-1000)
   ·
    refine lg 53 (.bool true) S (gJ rfl rfl a9) (ly (.bool true) S Yf (ly (.bool true) S Ym (ls 58 (ls 58 (ls 58 (ly (.bool true) S Yt (ln (fS rfl (er (ly (.func (.func 89) #[] #[pa g 0]) S Ym ?_))))))))));refine g7 (lr (us:=[ni 3,pa g 0]) (CF 89 _) rfl rfl rfl) (pj (fX _) _ fZ 3 _ (k:Int) (S.boxPtr (i:=2) rfl)) ?_;rintro e _ ⟨rfl,c⟩;have S:=S.callq c;refine g9 (fT (u:=.agg #[ni 3,ni (k:Int)]) (i:=1) (cs':=#[ni 3,ni (k:Int)]) S rfl rfl rfl iS rfl rfl rfl fun _ S=>ln (fR ?_));refine g3 (v:=.agg #[ni 3,ni (k:Int)]) rfl ⟨_,rfl,gu (i:=1) (vs:=[ni 3,ni (k:Int)]) S rfl jh rfl rfl⟩ ?_;refine⟨jI (mI f (p.trans ?_) (by simp)),S.below⟩;rw [lQ o];rw [if_pos (by omega)]
   refine lg 53 (.bool false) S (gH rfl rfl a9) (ly (.bool false) S Yf (ly (.bool false) S Ym (lg 58 (pa H 2) S (Yb mJ) (lg 58 (ni b.item) S (fI 3 T3) ?_))));by_cases aa:1000<b.item
   ·
    refine lg 58 (.bool true) S (ko rfl rfl aa) (ly (.bool true) S Yf (ln (fS rfl (er (ly (.func (.func 89) #[] #[pa g 0]) S Ym ?_)))));refine g7 (lr (us:=[ni 3,pa g 0]) (CF 89 _) rfl rfl rfl) (pj (fX _) _ fZ 3 _ (k:Int) (S.boxPtr (i:=2) rfl)) ?_;rintro e _ ⟨rfl,c⟩;have S:=S.callq c;refine g9 (fT (u:=.agg #[ni 3,ni (k:Int)]) (i:=1) (cs':=#[ni 3,ni (k:Int)]) S rfl rfl rfl iS rfl rfl rfl fun _ S=>ln (fR ?_));refine g3 (v:=.agg #[ni 3,ni (k:Int)]) rfl ⟨_,rfl,gu (i:=1) (vs:=[ni 3,ni (k:Int)]) S rfl jh rfl rfl⟩ ?_;refine⟨jI (mI f (p.trans ?_) (by simp)),S.below⟩;rw [lQ o];rw [if_pos (by omega)]
   refine lg 58 (.bool false) S (kt rfl rfl aa) (ly (.bool false) S Yf (ln (fV rfl (g1 (fM (fJ (fJ ?_)))))));refine jZ MX (by kernel_rfl) S.drew ?_;refine qy (pa m 0) (Yb iO) (qy (sc A s.clock.length B) (fI 0 gL) (qy (pa H 3) (Yb ld) (qy (ni b.author) (fI 3 T3) ?_)));obtain⟨X,ab⟩:∃ z,(s.clock)[(b.author).toNat]? = some z:=gX (by first | assumption | omega);have ac:=mi ab;obtain⟨ay,az,aA,_,Y,aB⟩:=hD jH iX K ab;have Y:az=[ni X]:=Y;subst Y;refine qy ay (aB rfl rfl (by first | rfl | omega)) (qy (ni X) (iE aA T3) (qy (pa H 4) (Yb lZ) (qy (ni b.seq) (fI 3 T3) ?_)));by_cases ad:X<b.seq
   ·
    refine qy (.bool true) (gJ rfl rfl ad) (ig fun _ S=>fM (fS rfl (er (ly (.func (.func 89) #[] #[pa g 0]) S Ym ?_))));refine g7 (lr (us:=[ni 8,pa g 0]) (CF 89 _) rfl rfl rfl) (pj (fX _) _ fZ 8 _ (k:Int) (S.boxPtr (i:=2) rfl)) ?_;rintro e _ ⟨rfl,c⟩;have S:=S.callq c;refine g9 (fT (u:=.agg #[ni 8,ni (k:Int)]) (i:=1) (cs':=#[ni 8,ni (k:Int)]) S rfl rfl rfl iS rfl rfl rfl fun _ S=>ln (fR ?_));refine g3 (v:=.agg #[ni 8,ni (k:Int)]) rfl ⟨_,rfl,gu (i:=1) (vs:=[ni 8,ni (k:Int)]) S rfl jh rfl rfl⟩ ?_;refine⟨jI (mI f (p.trans ?_) (by simp)),S.below⟩;rw [lQ o];rw [if_neg (by omega),if_pos (by omega)]
   refine qy (.bool false) (gH rfl rfl ad) (ig fun _ S=>fM (fV rfl (g1 (fM (fJ ?_)))));refine jZ MX (by kernel_rfl) S.drew ?_;refine qy (ni (k:Int)) (fI 2 T3) ?_;by_cases ae:0<(k:Int)
   ·
    refine qy (.bool true) (ko rfl rfl ae) (qy (.bool true) Ym (qg 78 (pa m 1) (Yb jn) (qg 78 (sc C s.lives.length D) (fI 0 k7) (qg 78 (ni (k:Int)) (fI 2 T3) (qg 78 (ni ((k:Int) - 1)) (qX (r:=(k:Int) - 1) rfl rfl (gl (by omega) (by omega))) ?_)))));obtain⟨q,Z⟩:∃ z,(s.lives)[(k - 1)]? = some z:=gX (by first | assumption | omega);obtain⟨aC,aD,aE,_,aF,aG⟩:=hD iD iY R Z;have aH:aD=[.bool q.set,ni q.key,ni q.item,ni q.author,ni q.seq]:=aF;subst aH;refine qg 78 aC (aG rfl rfl (by first | rfl | omega)) (qg 78 (.agg (kL q)) (jd aE j6) (qg 78 (.agg (kL b)) (gf 3 j6) ?_))
    cases Q:mU q b
    ·
     refine nR (d':=78) (v:=.bool false) (g4 (vs:=[.agg (kL q),.agg (kL b)]) (CF 90 _) rfl rfl) rfl rfl (fun w S=>(vt _ _ S.le _ _ q b (⟨_,rfl,rfl⟩:fW gB O _ q) (⟨_,rfl,rfl⟩:fW gB O _ b)).mono (by rintro e w' ⟨rfl,k⟩;exact⟨im ‹_›,(S.callq k)⟩)) ?_;refine qg 78 (.bool true) (iH rfl rfl) (qy (.bool true) Yt (ig fun _ S=>fM (fS rfl (er (ly (.func (.func 89) #[] #[pa g 0]) S Ym ?_)))));refine g7 (lr (us:=[ni 2,pa g 0]) (CF 89 _) rfl rfl rfl) (pj (fX _) _ fZ 2 _ (k:Int) (S.boxPtr (i:=2) rfl)) ?_;rintro e _ ⟨rfl,c⟩;have S:=S.callq c;refine g9 (fT (u:=.agg #[ni 2,ni (k:Int)]) (i:=1) (cs':=#[ni 2,ni (k:Int)]) S rfl rfl rfl iS rfl rfl rfl fun _ S=>ln (fR ?_));refine g3 (v:=.agg #[ni 2,ni (k:Int)]) rfl ⟨_,rfl,gu (i:=1) (vs:=[ni 2,ni (k:Int)]) S rfl jh rfl rfl⟩ ?_;refine⟨jI (mI f (p.trans ?_) (by simp)),S.below⟩;rw [lQ o];rw [if_neg (by omega),if_neg (by omega),pq (by omega) Z,if_pos (decide_eq_true (C0 Q))]
    refine nR (d':=78) (v:=.bool true) (g4 (vs:=[.agg (kL q),.agg (kL b)]) (CF 90 _) rfl rfl) rfl rfl (fun w S=>(vt _ _ S.le _ _ q b (⟨_,rfl,rfl⟩:fW gB O _ q) (⟨_,rfl,rfl⟩:fW gB O _ b)).mono (by rintro e w' ⟨rfl,k⟩;exact⟨im ‹_›,(S.callq k)⟩)) ?_;refine qg 78 (.bool false) (iH rfl rfl) (qy (.bool false) Yt (ig fun _ S=>fM (fV rfl (g1 (gA (nr (ly (ni ((k:Int)+1)) S (gw (r:=(k:Int)+1) rfl rfl (gl (by omega) (by omega))) (ly (ni ((k:Int)+1)) S Ym (fL ?_)))))))));refine fK ⟨(k+1),_,fk,⟨_,_,rfl,(S.tt 2 0),(fY P fZ),(by omega),(by rw [p,lQ o,if_neg (by omega),if_neg (by omega),pq (by omega) Z,if_neg (by rw [decide_eq_true_eq];have:=Dc.1 Q;omega),pJ,o])⟩,?_⟩
    show _<_;dsimp only;omega
   refine qy (.bool false) (kt rfl rfl ae) (qy (.bool false) Ym (qs 78 (qs 78 (qs 78 (qs 78 (qs 78 (qs 78 (qs 78 (qs 78 (qs 78 (qy (.bool false) Yf (ig fun _ S=>fM (fV rfl (g1 ?_))))))))))))));refine gA (nr (ly (ni ((k:Int)+1)) S (gw (r:=(k:Int)+1) rfl rfl (gl (by omega) (by omega))) (ly (ni ((k:Int)+1)) S Ym (fL ?_))));refine fK ⟨(k+1),_,fk,⟨_,_,rfl,(S.tt 2 0),(fY P fZ),(by omega),(by rw [p,lQ o,if_neg (by omega),if_neg (by omega),show nh s.lives k=none by unfold nh;rw [if_pos (by omega)],if_neg (by simp),pJ,o])⟩,?_⟩
   show _<_;dsimp only;omega
  refine ly (.bool false) S (gH rfl rfl a3) (ln (fJ (fV rfl (iP (iQ (j0 (iR (fM (fJ (er (ly (pa m 2) S (Yb kQ) (ly (sc E s.tallies.length F) S (fI 0 lP) (ly (ni (s.tallies.length:Int)) S (Yl iK) ?_)))))))))))));refine ly (ni 0) S Ym (ln (go ?_));have I:(mj s.clock n none s.lives 0).1=0:=by rw [p,wm (by omega)]
  clear p;refine et [(1,ni n),(2,pa m 0),(4,pa N 0),(93,sc E s.tallies.length F),(94,ni (s.tallies.length:Int)),(95,ni (0:Int))] (fun G => ?_);refine j1 (fun(L:Nat) ov w=>match L with | k => ∃ rd' G,ov=[(1,ni n),(2,pa m 0),(4,pa N 0),(93,sc E s.tallies.length F),(94,ni (s.tallies.length:Int)),(95,ni (k:Int))]++G∧St [] W rd rd' [(m,27,(kS s A B C D E F)),(N,84,#[ni 0,ni 0])] [] w∧Rd.le O rd'∧k≤s.tallies.length∧n7 s.clock n none s.tallies 0=n7 s.clock n (nh s.tallies k) (s.tallies.drop k) k) (fun L=>match L with | k=>s.tallies.length - k) 0 ⟨_,G,rfl,(S.rw' rfl rfl),fZ,(by omega),rfl⟩ ?_;rintro k _ _ ⟨T,G,rfl,S,U,ap,x⟩;replace K:=fm K U;replace M:=fm M U;refine er ?_;by_cases af:(k:Int)<(s.tallies.length:Int)
  ·
   refine ly (.bool true) S (gJ rfl rfl af) (ln (fJ (fS rfl (g1 (fM (fJ (go (er (ly (ni (k:Int)) S Ym ?_)))))))));obtain⟨a,t⟩:∃ z,(s.tallies)[k]? = some z:=gX (by omega);obtain⟨aI,aJ,aK,_,aL,aM⟩:=hD iK jf M t;have aN:aJ=[ni a.key,ni a.author,ni a.sum]:=aL;subst aN;refine ly aI S (aM rfl rfl (by first | rfl | omega)) (ly (.agg #[ni a.key,ni a.author,ni a.sum]) S (jd aK kX) (gk (cs:=#[ni 0]) S Z3 rfl fun j _ S=>gk (cs:=qb) S nl rfl fun J _ S=>fT (u:=ni (k:Int)) (i:=2) (cs':=#[ni (k:Int)]) S rfl rfl rfl iX rfl rfl rfl fun _ S=>fT (u:=.agg #[ni a.key,ni a.author,ni a.sum]) (i:=3) (cs':=#[ni a.key,ni a.author,ni a.sum]) S rfl rfl rfl jf rfl rfl rfl fun _ S=>ln (er (ly (.func (.func 91) #[] #[pa j 0]) S (qq rfl rfl) (ly (.func (.func 91) #[] #[pa j 0]) S Ya (ln (fJ (fJ ?_))))))));refine jZ MX (by kernel_rfl) S.drew ?_;refine qy (pa J 1) (Yb mg) (qy (ni a.author) (fI 3 T3) ?_);by_cases ag:a.author<0
   ·
    refine qy (.bool true) (gJ rfl rfl ag) (qy (.bool true) Ym (qs 104 (qs 104 (qs 104 (qs 104 (qy (.bool true) Yt (qy (.bool true) Ym (qs 110 (qs 110 (qs 110 (qy (.bool true) Yt (qy (.bool true) Ym (qs 115 (qs 115 (qs 115 ?_)))))))))))))));refine qy (.bool true) Yt (qy (.bool true) Ym (qs 120 (qs 120 (qs 120 (qy (.bool true) Yt (qy (.bool true) Ym (qs 125 (qs 125 (qs 125 (qs 125 (qs 125 (qs 125 (qs 125 (qs 125 (qs 125 ?_)))))))))))))));refine qs 125 (qy (.bool true) Yt (qy (.bool true) Ym (qs 137 (qs 137 (qs 137 (qs 137 (qs 137 (qs 137 (qs 137 (qs 137 (qs 137 (qs 137 (qy (.bool true) Yt (ig fun _ S=>fM ?_))))))))))))));refine fS rfl (er (ly (.func (.func 91) #[] #[pa j 0]) S Ym ?_));refine g7 (lr (us:=[ni 3,pa j 0]) (CF 91 _) rfl rfl rfl) (q3 (fX _) _ fZ 3 _ (k:Int) (S.boxPtr (i:=2) rfl)) ?_;rintro e _ ⟨rfl,c⟩;have S:=S.callq c;refine g9 (fT (u:=.agg #[ni 3,ni (k:Int)]) (i:=1) (cs':=#[ni 3,ni (k:Int)]) S rfl rfl rfl iS rfl rfl rfl fun _ S=>ln (fR ?_));refine g3 (v:=.agg #[ni 3,ni (k:Int)]) rfl ⟨_,rfl,gu (i:=1) (vs:=[ni 3,ni (k:Int)]) S rfl jh rfl rfl⟩ ?_;refine⟨jI (mG f I (x.trans ?_)),S.below⟩;rw [mt t];rw [if_pos (by omega)]
   refine qy (.bool false) (gH rfl rfl ag) (qy (.bool false) Ym (qg 104 (pa J 1) (Yb mg) (qg 104 (ni a.author) (fI 3 T3) (qg 104 (ni n) Ym ?_))));by_cases ah:n≤a.author
   ·
    refine qg 104 (.bool true) (jY rfl rfl ah) (qy (.bool true) Yf (qy (.bool true) Ym (qs 110 (qs 110 (qs 110 (qy (.bool true) Yt (qy (.bool true) Ym (qs 115 (qs 115 (qs 115 (qy (.bool true) Yt (qy (.bool true) Ym (qs 120 (qs 120 (qs 120 ?_)))))))))))))));refine qy (.bool true) Yt (qy (.bool true) Ym (qs 125 (qs 125 (qs 125 (qs 125 (qs 125 (qs 125 (qs 125 (qs 125 (qs 125 (qs 125 (qy (.bool true) Yt (qy (.bool true) Ym (qs 137 (qs 137 ?_)))))))))))))));refine qs 137 (qs 137 (qs 137 (qs 137 (qs 137 (qs 137 (qs 137 (qs 137 (qy (.bool true) Yt (ig fun _ S=>fM (fS rfl (er (ly (.func (.func 91) #[] #[pa j 0]) S Ym ?_))))))))))));refine g7 (lr (us:=[ni 3,pa j 0]) (CF 91 _) rfl rfl rfl) (q3 (fX _) _ fZ 3 _ (k:Int) (S.boxPtr (i:=2) rfl)) ?_;rintro e _ ⟨rfl,c⟩;have S:=S.callq c;refine g9 (fT (u:=.agg #[ni 3,ni (k:Int)]) (i:=1) (cs':=#[ni 3,ni (k:Int)]) S rfl rfl rfl iS rfl rfl rfl fun _ S=>ln (fR ?_));refine g3 (v:=.agg #[ni 3,ni (k:Int)]) rfl ⟨_,rfl,gu (i:=1) (vs:=[ni 3,ni (k:Int)]) S rfl jh rfl rfl⟩ ?_;refine⟨jI (mG f I (x.trans ?_)),S.below⟩;rw [mt t];rw [if_pos (by omega)]
   refine qg 104 (.bool false) (k4 rfl rfl ah) (qy (.bool false) Yf (qy (.bool false) Ym (qg 110 (pa J 0) (Yb nW) (qg 110 (ni a.key) (fI 3 T3) ?_))));by_cases ai:a.key<0
   ·
    refine qg 110 (.bool true) (gJ rfl rfl ai) (qy (.bool true) Yf (qy (.bool true) Ym (qs 115 (qs 115 (qs 115 (qy (.bool true) Yt (qy (.bool true) Ym (qs 120 (qs 120 (qs 120 (qy (.bool true) Yt (qy (.bool true) Ym (qs 125 (qs 125 (qs 125 ?_)))))))))))))));refine qs 125 (qs 125 (qs 125 (qs 125 (qs 125 (qs 125 (qs 125 (qy (.bool true) Yt (qy (.bool true) Ym (qs 137 (qs 137 (qs 137 (qs 137 (qs 137 (qs 137 (qs 137 ?_)))))))))))))));refine qs 137 (qs 137 (qs 137 (qy (.bool true) Yt (ig fun _ S=>fM (fS rfl (er (ly (.func (.func 91) #[] #[pa j 0]) S Ym ?_)))))));refine g7 (lr (us:=[ni 3,pa j 0]) (CF 91 _) rfl rfl rfl) (q3 (fX _) _ fZ 3 _ (k:Int) (S.boxPtr (i:=2) rfl)) ?_;rintro e _ ⟨rfl,c⟩;have S:=S.callq c;refine g9 (fT (u:=.agg #[ni 3,ni (k:Int)]) (i:=1) (cs':=#[ni 3,ni (k:Int)]) S rfl rfl rfl iS rfl rfl rfl fun _ S=>ln (fR ?_));refine g3 (v:=.agg #[ni 3,ni (k:Int)]) rfl ⟨_,rfl,gu (i:=1) (vs:=[ni 3,ni (k:Int)]) S rfl jh rfl rfl⟩ ?_;refine⟨jI (mG f I (x.trans ?_)),S.below⟩;rw [mt t];rw [if_pos (by omega)]
   refine qg 110 (.bool false) (gH rfl rfl ai) (qy (.bool false) Yf (qy (.bool false) Ym (qg 115 (pa J 0) (Yb nW) (qg 115 (ni a.key) (fI 3 T3) ?_))));by_cases aj:15<a.key
   ·
    refine qg 115 (.bool true) (ko rfl rfl aj) (qy (.bool true) Yf (qy (.bool true) Ym (qs 120 (qs 120 (qs 120 (qy (.bool true) Yt (qy (.bool true) Ym (qs 125 (qs 125 (qs 125 (qs 125 (qs 125 (qs 125 (qs 125 (qs 125 ?_)))))))))))))));refine qs 125 (qs 125 (qy (.bool true) Yt (qy (.bool true) Ym (qs 137 (qs 137 (qs 137 (qs 137 (qs 137 (qs 137 (qs 137 (qs 137 (qs 137 (qs 137 (qy (.bool true) Yt (ig fun _ S => ?_)))))))))))))));refine fM (fS rfl (er (ly (.func (.func 91) #[] #[pa j 0]) S Ym ?_)));refine g7 (lr (us:=[ni 3,pa j 0]) (CF 91 _) rfl rfl rfl) (q3 (fX _) _ fZ 3 _ (k:Int) (S.boxPtr (i:=2) rfl)) ?_;rintro e _ ⟨rfl,c⟩;have S:=S.callq c;refine g9 (fT (u:=.agg #[ni 3,ni (k:Int)]) (i:=1) (cs':=#[ni 3,ni (k:Int)]) S rfl rfl rfl iS rfl rfl rfl fun _ S=>ln (fR ?_));refine g3 (v:=.agg #[ni 3,ni (k:Int)]) rfl ⟨_,rfl,gu (i:=1) (vs:=[ni 3,ni (k:Int)]) S rfl jh rfl rfl⟩ ?_;refine⟨jI (mG f I (x.trans ?_)),S.below⟩;rw [mt t];rw [if_pos (by omega)]
   refine qg 115 (.bool false) (kt rfl rfl aj) (qy (.bool false) Yf (qy (.bool false) Ym (qg 120 (pa J 2) (Yb nu) (qg 120 (ni a.sum) (fI 3 T3) ?_))));by_cases ak:a.sum=0
   ·
    refine qg 120 (.bool true) (iw rfl rfl ak) (qy (.bool true) Yf (qy (.bool true) Ym (qs 125 (qs 125 (qs 125 (qs 125 (qs 125 (qs 125 (qs 125 (qs 125 (qs 125 (qs 125 (qy (.bool true) Yt (qy (.bool true) Ym (qs 137 ?_)))))))))))))));refine qs 137 (qs 137 (qs 137 (qs 137 (qs 137 (qs 137 (qs 137 (qs 137 (qs 137 (qy (.bool true) Yt (ig fun _ S=>fM (fS rfl (er (ly (.func (.func 91) #[] #[pa j 0]) S Ym ?_)))))))))))));refine g7 (lr (us:=[ni 3,pa j 0]) (CF 91 _) rfl rfl rfl) (q3 (fX _) _ fZ 3 _ (k:Int) (S.boxPtr (i:=2) rfl)) ?_;rintro e _ ⟨rfl,c⟩;have S:=S.callq c;refine g9 (fT (u:=.agg #[ni 3,ni (k:Int)]) (i:=1) (cs':=#[ni 3,ni (k:Int)]) S rfl rfl rfl iS rfl rfl rfl fun _ S=>ln (fR ?_));refine g3 (v:=.agg #[ni 3,ni (k:Int)]) rfl ⟨_,rfl,gu (i:=1) (vs:=[ni 3,ni (k:Int)]) S rfl jh rfl rfl⟩ ?_;refine⟨jI (mG f I (x.trans ?_)),S.below⟩;rw [mt t];rw [if_pos (by omega)]
   refine qg 120 (.bool false) (i5 rfl rfl ak) (qy (.bool false) Yf (qy (.bool false) Ym (qg 125 (pa J 2) (Yb nu) (qg 125 (ni a.sum) (fI 3 T3) (qg 125 (pa m 0) (Yb iO) (qg 125 (sc A s.clock.length B) (fI 0 gL) (qg 125 (pa J 1) (Yb mg) (qg 125 (ni a.author) (fI 3 T3) ?_))))))));obtain⟨y,V⟩:∃ z,(s.clock)[(a.author).toNat]? = some z:=gX (by first | assumption | omega);have ac:=mi V;have b3:=ao.2.2.2 _ (List.mem_of_getElem? V);have b4:mh s.clock n a=1000 * y:=by unfold mh;rw [if_pos (by omega),ac]
   obtain⟨aO,aP,aQ,_,a0,aR⟩:=hD jH iX K V;have a0:aP=[ni y]:=a0;subst a0;refine qg 125 aO (aR rfl rfl (by first | rfl | omega)) (qg 125 (ni y) (iE aQ T3) (qg 125 (ni (1000 * y)) (v8 (r:=1000 * y) rfl rfl (gl (by omega) (by omega))) ?_));by_cases al:1000 * y<a.sum
   ·
    refine qg 125 (.bool true) (ko rfl rfl al) (qy (.bool true) Yf (qy (.bool true) Ym (qs 137 (qs 137 (qs 137 (qs 137 (qs 137 (qs 137 (qs 137 (qs 137 (qs 137 (qs 137 (qy (.bool true) Yt (ig fun _ S=>fM ?_))))))))))))));refine fS rfl (er (ly (.func (.func 91) #[] #[pa j 0]) S Ym ?_));refine g7 (lr (us:=[ni 3,pa j 0]) (CF 91 _) rfl rfl rfl) (q3 (fX _) _ fZ 3 _ (k:Int) (S.boxPtr (i:=2) rfl)) ?_;rintro e _ ⟨rfl,c⟩;have S:=S.callq c;refine g9 (fT (u:=.agg #[ni 3,ni (k:Int)]) (i:=1) (cs':=#[ni 3,ni (k:Int)]) S rfl rfl rfl iS rfl rfl rfl fun _ S=>ln (fR ?_));refine g3 (v:=.agg #[ni 3,ni (k:Int)]) rfl ⟨_,rfl,gu (i:=1) (vs:=[ni 3,ni (k:Int)]) S rfl jh rfl rfl⟩ ?_;refine⟨jI (mG f I (x.trans ?_)),S.below⟩;rw [mt t];rw [if_pos (by omega)]
   refine qg 125 (.bool false) (kt rfl rfl al) (qy (.bool false) Yf (qy (.bool false) Ym (qg 137 (pa J 2) (Yb nu) (qg 137 (ni a.sum) (fI 3 T3) (qg 137 (pa m 0) (Yb iO) (qg 137 (sc A s.clock.length B) (fI 0 gL) (qg 137 (pa J 1) (Yb mg) (qg 137 (ni a.author) (fI 3 T3) ?_))))))));obtain⟨aS,aT,aU,_,a1,aV⟩:=hD jH iX K V;have a1:aT=[ni y]:=a1;subst a1;refine qg 137 aS (aV rfl rfl (by first | rfl | omega)) (qg 137 (ni y) (iE aU T3) (qg 137 (ni ((-1000) * y)) (v8 (r:=(-1000) * y) rfl rfl (gl (by omega) (by omega))) ?_));by_cases am:a.sum<(-1000) * y
   ·
    refine qg 137 (.bool true) (gJ rfl rfl am) (qy (.bool true) Yf (ig fun _ S=>fM (fS rfl (er (ly (.func (.func 91) #[] #[pa j 0]) S Ym ?_)))));refine g7 (lr (us:=[ni 3,pa j 0]) (CF 91 _) rfl rfl rfl) (q3 (fX _) _ fZ 3 _ (k:Int) (S.boxPtr (i:=2) rfl)) ?_;rintro e _ ⟨rfl,c⟩;have S:=S.callq c;refine g9 (fT (u:=.agg #[ni 3,ni (k:Int)]) (i:=1) (cs':=#[ni 3,ni (k:Int)]) S rfl rfl rfl iS rfl rfl rfl fun _ S=>ln (fR ?_));refine g3 (v:=.agg #[ni 3,ni (k:Int)]) rfl ⟨_,rfl,gu (i:=1) (vs:=[ni 3,ni (k:Int)]) S rfl jh rfl rfl⟩ ?_;refine⟨jI (mG f I (x.trans ?_)),S.below⟩;rw [mt t];rw [if_pos (by omega)]
   refine qg 137 (.bool false) (gH rfl rfl am) (qy (.bool false) Yf (ig fun _ S=>fM (fV rfl (g1 (fM (fJ ?_))))));refine jZ MX (by kernel_rfl) S.drew ?_;refine qy (ni (k:Int)) (fI 2 T3) ?_;by_cases an:0<(k:Int)
   ·
    refine qy (.bool true) (ko rfl rfl an) (qy (.bool true) Ym (qg 153 (pa m 2) (Yb kQ) (qg 153 (sc E s.tallies.length F) (fI 0 lP) (qg 153 (ni (k:Int)) (fI 2 T3) (qg 153 (ni ((k:Int) - 1)) (qX (r:=(k:Int) - 1) rfl rfl (gl (by omega) (by omega))) ?_)))));obtain⟨l,a2⟩:∃ z,(s.tallies)[(k - 1)]? = some z:=gX (by first | assumption | omega);obtain⟨aW,aX,aY,_,aZ,b0⟩:=hD iK jf M a2;have b1:aX=[ni l.key,ni l.author,ni l.sum]:=aZ;subst b1;refine qg 153 aW (b0 rfl rfl (by first | rfl | omega)) (qg 153 (.agg #[ni l.key,ni l.author,ni l.sum]) (jd aY kX) (qg 153 (.agg #[ni a.key,ni a.author,ni a.sum]) (gf 3 kX) ?_))
    cases Q:decide (gY l a<0)
    ·
     refine nR (d':=153) (v:=.bool false) (g4 (vs:=[.agg #[ni l.key,ni l.author,ni l.sum],.agg #[ni a.key,ni a.author,ni a.sum]]) (CF 92 _) rfl rfl) rfl rfl (fun w S=>(zh _ _ S.le _ _ l a (⟨_,rfl,rfl⟩:fW h8 T _ l) (⟨_,rfl,rfl⟩:fW h8 T _ a)).mono (by rintro e w' ⟨rfl,k⟩;exact⟨im ‹_›,(S.callq k)⟩)) ?_;refine qg 153 (.bool true) (iH rfl rfl) (qy (.bool true) Yt (ig fun _ S=>fM (fS rfl (er (ly (.func (.func 91) #[] #[pa j 0]) S Ym ?_)))));refine g7 (lr (us:=[ni 2,pa j 0]) (CF 91 _) rfl rfl rfl) (q3 (fX _) _ fZ 2 _ (k:Int) (S.boxPtr (i:=2) rfl)) ?_;rintro e _ ⟨rfl,c⟩;have S:=S.callq c;refine g9 (fT (u:=.agg #[ni 2,ni (k:Int)]) (i:=1) (cs':=#[ni 2,ni (k:Int)]) S rfl rfl rfl iS rfl rfl rfl fun _ S=>ln (fR ?_));refine g3 (v:=.agg #[ni 2,ni (k:Int)]) rfl ⟨_,rfl,gu (i:=1) (vs:=[ni 2,ni (k:Int)]) S rfl jh rfl rfl⟩ ?_;refine⟨jI (mG f I (x.trans ?_)),S.below⟩;rw [mt t];rw [if_neg (by omega),pq (by omega) a2,if_pos (decide_eq_true (by have:=of_decide_eq_false Q;omega))]
    refine nR (d':=153) (v:=.bool true) (g4 (vs:=[.agg #[ni l.key,ni l.author,ni l.sum],.agg #[ni a.key,ni a.author,ni a.sum]]) (CF 92 _) rfl rfl) rfl rfl (fun w S=>(zh _ _ S.le _ _ l a (⟨_,rfl,rfl⟩:fW h8 T _ l) (⟨_,rfl,rfl⟩:fW h8 T _ a)).mono (by rintro e w' ⟨rfl,k⟩;exact⟨im ‹_›,(S.callq k)⟩)) ?_;refine qg 153 (.bool false) (iH rfl rfl) (qy (.bool false) Yt (ig fun _ S=>fM (fV rfl (g1 (gA (nr (ly (ni ((k:Int)+1)) S (gw (r:=(k:Int)+1) rfl rfl (gl (by omega) (by omega))) (ly (ni ((k:Int)+1)) S Ym (fL ?_)))))))));refine fK ⟨(k+1),_,fk,⟨_,_,rfl,(S.tt 2 0),(fY U fZ),(by omega),(by rw [x,mt t,if_neg (by omega),pq (by omega) a2,if_neg (by rw [decide_eq_true_eq];have:=of_decide_eq_true Q;omega),pJ,t])⟩,?_⟩
    show _<_;dsimp only;omega
   refine qy (.bool false) (kt rfl rfl an) (qy (.bool false) Ym (qs 153 (qs 153 (qs 153 (qs 153 (qs 153 (qs 153 (qs 153 (qs 153 (qs 153 (qy (.bool false) Yf (ig fun _ S=>fM (fV rfl (g1 ?_))))))))))))));refine gA (nr (ly (ni ((k:Int)+1)) S (gw (r:=(k:Int)+1) rfl rfl (gl (by omega) (by omega))) (ly (ni ((k:Int)+1)) S Ym (fL ?_))));refine fK ⟨(k+1),_,fk,⟨_,_,rfl,(S.tt 2 0),(fY U fZ),(by omega),(by rw [x,mt t,if_neg (by omega),show nh s.tallies k=none by unfold nh;rw [if_pos (by omega)],if_neg (by simp),pJ,t])⟩,?_⟩
   show _<_;dsimp only;omega
  refine ly (.bool false) S (gH rfl rfl af) (ln (fJ (fV rfl (iP (iQ (j0 (iR (fM (er (ly (.agg #[ni 0,ni 0]) S (gy (ps:=[]) rfl (fun _=>by kernel_rfl)) (fT (u:=.agg #[ni 0,ni 0]) (i:=1) (cs':=#[ni 0,ni 0]) S rfl rfl rfl iS rfl rfl rfl fun _ S=>ln ?_)))))))))));refine fR (g3 (v:=.agg #[ni 0,ni 0]) rfl ⟨_,rfl,gu (i:=1) (vs:=[ni 0,ni 0]) S rfl jh rfl rfl⟩ ?_);exact⟨jI (mG f I (x.trans (zb (by omega)))),S.below⟩
 refine ly (.bool true) S (j4 rfl rfl f) (ln (fS rfl (er (ly (ni (gb s.clock n)) S Ym (ly (.agg #[ni (gb s.clock n),ni 0]) S (gy (ps:=[(0,ni (gb s.clock n))]) rfl (fun _=>by kernel_rfl)) (fT (u:=.agg #[ni (gb s.clock n),ni 0]) (i:=1) (cs':=#[ni (gb s.clock n),ni 0]) S rfl rfl rfl iS rfl rfl rfl fun _ S=>ln (fR ?_)))))));refine g3 (v:=.agg #[ni (gb s.clock n),ni 0]) rfl ⟨_,rfl,gu (i:=1) (vs:=[ni (gb s.clock n),ni 0]) S rfl jh rfl rfl⟩ ?_;exact⟨jI (yA f),S.below⟩
theorem sd(v:Value)(u:fH)(w:World)(h:fW gM (fX w) v u)(h0:0≤u.author)(h1:u.author<u.seen.length) :
    Calls Tryz.prog 84 #[v] w fun e w'=>e = .returned (.int .i64 (hG u))∧Below w.heap.size w w':=by
  obtain⟨_,rfl,_,rfl,a⟩:=h
  obtain⟨_,se,ki,ke,it⟩:=u
  simp only at a h0 h1 ⊢
  obtain⟨k,rfl⟩:=Int.eq_ofNat_of_zero_le h0
  have d:k<se.length:=by omega
  have e:hG ⟨k,se,ki,ke,it⟩=wrap64 (se[k]+1):=by unfold hG;simp only;rw [Int.toNat_natCast,lX d]
  rw [e]
  obtain⟨A,c,rfl,_,f⟩:=a.val
  obtain⟨b,o,rfl,_⟩:=a.at_ d
  have g:∀ X:Obj,(w.alloc X).cell? ⟨b,o+k,none⟩=some (.int .i64 se[k]):=fun X=>iC.cell a (rt w X) d
  unfold maxLen at f
  go_enter Tryz.func84,Tryz.ntmps84
  go_wp2
  go_ret
  exact⟨rfl,lh _ _⟩
theorem wU(v:Value)(u:fH)(rd:Rd)(w:World)(h:fW gM rd v u)(hle:Rd.le rd (fX w))(hbig:u.seen.length * 8≤140737488355328) :
    Calls Tryz.prog 77 #[v] w fun e w' => ∃ r,e = .returned r∧fW gM (newer w' w.heap.size) r u∧Below w.heap.size w w':=by
  obtain⟨_,rfl,sv,rfl,d⟩:=h
  obtain⟨au,se,ki,ke,it⟩:=u
  simp only at d hbig ⊢
  go_enter Tryz.func77,Tryz.ntmps77
  go_wp2_with fail
  refine(vm _ _ rd _ d (fY hle (fY (rt _ _) (rt _ _))) hbig).mono ?_
  rintro e a ⟨r,rfl,f,k⟩
  obtain⟨A,c,rfl,_,_⟩:=f.val
  simp only [World.size_alloc] at k
  have b:=(lh (w.alloc (.cells #[.int .i64 au,sv,.int .i64 ki,.int .i64 ke,.int .i64 it] 42)) (.cells #[.int .i64 0,.slice none 0 0,.int .i64 0,.int .i64 0,.int .i64 0] 42)).trans (k.mono (by simp))
  simp only [World.size_alloc] at b
  have n:a.cell? ⟨w.heap.size,0,none⟩=some (.int .i64 au):=oU rfl b 0
  have o:a.cell? ⟨w.heap.size,1,none⟩=some (sv):=oU rfl b 1
  have p:a.cell? ⟨w.heap.size,2,none⟩=some (.int .i64 ki):=oU rfl b 2
  have q:a.cell? ⟨w.heap.size,3,none⟩=some (.int .i64 ke):=oU rfl b 3
  have s:a.cell? ⟨w.heap.size,4,none⟩=some (.int .i64 it):=oU rfl b 4
  have g:a.cell? ⟨w.heap.size+1,0,none⟩=some (.int .i64 0):=oU (by simp) k 0
  have i:a.cell? ⟨w.heap.size+1,1,none⟩=some (.slice none 0 0):=oU (by simp) k 1
  have j:a.cell? ⟨w.heap.size+1,2,none⟩=some (.int .i64 0):=oU (by simp) k 2
  have l:a.cell? ⟨w.heap.size+1,3,none⟩=some (.int .i64 0):=oU (by simp) k 3
  have m:a.cell? ⟨w.heap.size+1,4,none⟩=some (.int .i64 0):=oU (by simp) k 4
  have t:a.frozen? ⟨w.heap.size+1,0,none⟩=false:=qT (by simp) k 0
  have x:a.frozen? ⟨w.heap.size+1,1,none⟩=false:=qT (by simp) k 1
  have y:a.frozen? ⟨w.heap.size+1,2,none⟩=false:=qT (by simp) k 2
  have z:a.frozen? ⟨w.heap.size+1,3,none⟩=false:=qT (by simp) k 3
  have C:a.frozen? ⟨w.heap.size+1,4,none⟩=false:=qT (by simp) k 4
  have D:a.frozen? ⟨w.heap.size,1,none⟩=false:=qT rfl b 1
  go_wp2
  refine bodyPost_ret (v:=.agg #[.int .i64 au,.slice A se.length c,.int .i64 ki,.int .i64 ke,.int .i64 it]) (by simp [results,Tryz.results77,go_sem,g,i,j,l,m]) rfl ⟨_,rfl,⟨_,rfl,_,rfl,?_⟩,?_⟩
  · refine iC.mono f.ints_newer (fY ?_ (uD (B:=w.heap.size+2) (by omega)))
    simp only [World.size_alloc]
    iterate 5 refine fY ?_ (sy (by show w.heap.size+1<w.heap.size+2;omega) _)
    exact sy (by show w.heap.size<w.heap.size+2;omega) _
  · refine Below.setCell ?_ (by show _≤w.heap.size+1;omega) _
    iterate 4 refine Below.setCell ?_ (by show _≤w.heap.size+1;omega) _
    refine Below.setCell ?_ (by show _≤w.heap.size;omega) _
    exact(lF w _ _).trans (k.mono (by omega))
theorem yX(v v':Value)(a b:fH)(w:World)(h:fW gM (fX w) v a)(h':fW gM (fX w) v' b) :
    Calls Tryz.prog 85 #[v,v'] w fun e w'=>e = .returned (.bool (nw a b))∧Below w.heap.size w w':=by
  obtain⟨_,rfl,_,rfl,d⟩:=h
  obtain⟨_,rfl,_,rfl,f⟩:=h'
  obtain⟨au,se,ki,ke,it⟩:=a
  obtain⟨au',se',ki',ke',it'⟩:=b
  simp only at d f ⊢
  by_cases eau:au=au'
  rotate_left
  · rw [show nw ⟨au,se,ki,ke,it⟩ ⟨au',se',ki',ke',it'⟩=false by unfold nw;simp [eau]]
    have c:(au == au')=false:=by simp [eau]
    clear eau
    go_enter Tryz.func85,Tryz.ntmps85
    go_wp2
    go_ret
    exact⟨rfl,lF _ _ _⟩
  by_cases eki:ki=ki'
  rotate_left
  · rw [show nw ⟨au,se,ki,ke,it⟩ ⟨au',se',ki',ke',it'⟩=false by unfold nw;simp [eki]]
    have c:(ki == ki')=false:=by simp [eki]
    have qau:(au == au')=true:=by simp [eau]
    clear eki eau
    go_enter Tryz.func85,Tryz.ntmps85
    go_wp2
    go_ret
    exact⟨rfl,lF _ _ _⟩
  by_cases eke:ke=ke'
  rotate_left
  · rw [show nw ⟨au,se,ki,ke,it⟩ ⟨au',se',ki',ke',it'⟩=false by unfold nw;simp [eke]]
    have c:(ke == ke')=false:=by simp [eke]
    have qau:(au == au')=true:=by simp [eau]
    have qki:(ki == ki')=true:=by simp [eki]
    clear eke eau eki
    go_enter Tryz.func85,Tryz.ntmps85
    go_wp2
    go_ret
    exact⟨rfl,lF _ _ _⟩
  by_cases eit:it=it'
  rotate_left
  · rw [show nw ⟨au,se,ki,ke,it⟩ ⟨au',se',ki',ke',it'⟩=false by unfold nw;simp [eit]]
    have c:(it == it')=false:=by simp [eit]
    have qau:(au == au')=true:=by simp [eau]
    have qki:(ki == ki')=true:=by simp [eki]
    have qke:(ke == ke')=true:=by simp [eke]
    clear eit eau eki eke
    go_enter Tryz.func85,Tryz.ntmps85
    go_wp2
    go_ret
    exact⟨rfl,lF _ _ _⟩
  subst eau eki eke eit
  rw [show nw ⟨au,se,ki,ke,it⟩ ⟨au,se',ki,ke,it⟩=jM se se' by unfold nw jM;simp]
  have c:(au == au)=true:=by simp
  have g:(ki == ki)=true:=by simp
  have i:(ke == ke)=true:=by simp
  have j:(it == it)=true:=by simp
  go_enter Tryz.func85,Tryz.ntmps85
  go_wp2_with (go_at_call 16;refine(pY _ _ _ _ _ (fN.up d (lF _ _ _)) (fN.up f (lF _ _ _))).mono ?_;rintro e w' ⟨rfl,k⟩)
  go_ret
  exact⟨rfl,ng (ng k)⟩
theorem s8(v p:Value)(c:List Int)(u:fH)(w:World)(h:iC (fX w) v c)(hp:zH gM (fX w) p u) :
    Calls Tryz.prog 81 #[v,p] w fun e w'=>e = .returned (.bool (iJ c u))∧Below w.heap.size w w':=by
  obtain⟨_,_,_,rfl,⟨_,rfl,g⟩,a⟩:=hp
  obtain⟨au,se,ki,ke,it⟩:=u
  simp only [fX] at g a ⊢
  have j:=a 0 _ rfl
  have t:=a 1 _ rfl
  clear a
  rw [Nat.add_zero] at j
  obtain⟨A,_,rfl,_,l⟩:=h.val
  obtain⟨_,_,rfl,_,m⟩:=iC.mono (rd':=fX w) g fZ |>.val
  unfold maxLen at l m
  by_cases i:au<0
  · rw [show iJ c ⟨au,se,ki,ke,it⟩=false by unfold iJ;simp;omega]
    have x:decide (0≤au)=false:=decide_eq_false (by omega)
    go_enter Tryz.func81,Tryz.ntmps81
    go_wp2
    go_quiet (fail)
    go_wp2
    go_ret
    exact⟨rfl,p6 _ _ _⟩
  obtain⟨k,rfl⟩:=Int.eq_ofNat_of_zero_le (Int.not_lt.1 i)
  clear i
  by_cases d:k<c.length
  rotate_left
  · rw [show iJ c ⟨k,se,ki,ke,it⟩=false by unfold iJ;simp;omega]
    have n:decide (k<c.length)=false:=decide_eq_false d
    go_enter Tryz.func81,Tryz.ntmps81
    go_wp2
    go_quiet (fail)
    go_wp2
    go_ret
    exact⟨rfl,p6 _ _ _⟩
  have n:decide (k<c.length)=true:=decide_eq_true d
  by_cases f:k<se.length
  rotate_left
  · rw [show iJ c ⟨k,se,ki,ke,it⟩=false by unfold iJ;simp;omega]
    have q:decide (k<se.length)=false:=decide_eq_false f
    go_enter Tryz.func81,Tryz.ntmps81
    go_wp2
    go_quiet (fail)
    go_wp2
    go_ret
    exact⟨rfl,p6 _ _ _⟩
  have q:decide (k<se.length)=true:=decide_eq_true f
  rw [Cu d f]
  obtain⟨b,o,rfl,r⟩:=h.at_ d
  obtain⟨_,_,rfl,s⟩:=iC.at_ g f
  simp only [fX] at r s
  go_enter Tryz.func81,Tryz.ntmps81
  go_wp2
  go_quiet (fail)
  go_wp2
  go_ret
  exact⟨rfl,p6 _ _ _⟩
theorem y5(v v':Value)(c:List Int)(u:fH)(w:World)(h:iC (fX w) v c)(h':fW gM (fX w) v' u)(a0:0≤u.author)(a1:u.author<u.seen.length) :
    Calls Tryz.prog 63 #[v,v'] w fun e w'=>e = .returned (.bool (decide (g6 u.seen u.author.toNat<g6 c u.author.toNat)))∧Below w.heap.size w w':=by
  obtain⟨_,rfl,_,rfl,d⟩:=h'
  obtain⟨_,se,_,_,_⟩:=u
  simp only at d a0 a1 ⊢
  obtain⟨k,rfl⟩:=Int.eq_ofNat_of_zero_le a0
  have f:k<se.length:=by omega
  rw [Int.toNat_natCast,lX f]
  obtain⟨_,_,rfl,_,g⟩:=d.val
  obtain⟨b,o,rfl,_⟩:=d.at_ f
  have i:∀ X:Obj,(w.alloc X).cell? ⟨b,o+k,none⟩=some (.int .i64 se[k]):=fun X=>iC.cell d (rt w X) f
  unfold maxLen at g
  go_enter Tryz.func63,Tryz.ntmps63
  go_wp2
  go_quiet ((go_at_call 95;exact Calls.quiet_of_same ((q5 _ _ _ _ (iC.mono h (fY (rt _ _) (p2 (p6 _ _ _) (Nat.le_refl _))))).mono fun _ _ ⟨a,b⟩=>⟨a,b.symm⟩)))
  go_wp2
  go_ret
  exact⟨rfl,(lh _ _).trans (p6 _ _ _)⟩
theorem ut{n:Int}{c:List Int}{l:List fH}{k:Nat}{e:Int}{u:fH}(hu:l[k]? = some u)(he:kv c u n=e)(h0:e ≠ 0):iL n c (l.drop k) k=([],e,(k:Int)):=by
 obtain⟨a,rfl⟩:=List.getElem?_eq_some_iff.1 hu
 exact tf a he h0
theorem Ag{n:Int}{c:List Int}{l:List fH}{k:Nat}{u:fH}(hu:l[k]? = some u)(he:kv c u n=0):iL n c (l.drop k) k=iL n (gD c u.author) (l.drop (k+1)) (k+1):=by
 obtain⟨a,rfl⟩:=List.getElem?_eq_some_iff.1 hu
 exact wo a he
theorem uB{c:List Int}{u:fH}(h:u.author<0∨(u.seen.length:Int)≤u.author∨(c.length:Int)≤u.author):iJ c u=false:=by
 rw [Bool.eq_false_iff];intro k;unfold iJ at k;simp only [Bool.and_eq_true,decide_eq_true_eq] at k;omega
theorem vd{c:List Int}{u:fH}(h:decide (g6 u.seen u.author.toNat<g6 c u.author.toNat)=false):iJ c u=false:=by
 unfold iJ;rw [h];simp
theorem z7{c:List Int}{u:fH}(h0:0≤u.author)(h1:u.author<c.length)(h2:u.author<u.seen.length)(h:decide (g6 u.seen u.author.toNat<g6 c u.author.toNat)=true):iJ c u=true:=by
 unfold iJ;rw [h];simp [h0,h1,h2]
theorem DE{c:List Int}{u:fH}{n:Int}(h:¬ j7 u n=0):kv c u n=j7 u n:=by unfold kv;rw [if_pos h]
theorem EZ{c:List Int}{u:fH}{n p s:Int}(hU:j7 u n=0)(hc:gb c n=0)(hp:g6 c u.author.toNat=p)(hs:g6 u.seen u.author.toNat=s)(hH:s<p):kv c u n=7:=by
 have r:=od.1 hU
 have:=r.len;have:=r.a0;have:=r.a1;have:=i7 hc
 unfold kv
 rw [if_neg (fun q=>q hU),if_pos (z7 (by omega) (by omega) (by omega) (decide_eq_true (by omega)))]
theorem Dh{c:List Int}{u:fH}{n p s:Int}(hU:j7 u n=0)(hc:gb c n=0)(hp:g6 c u.author.toNat=p)(hs:g6 u.seen u.author.toNat=s)(hH:¬ s<p)(hS:gO c u.seen=false):kv c u n=8:=by
 unfold kv
 rw [if_neg (fun q=>q hU),vd (decide_eq_false (by omega)),if_neg (by simp),if_pos hS]
theorem E3{c:List Int}{u:fH}{n p s:Int}(hU:j7 u n=0)(hc:gb c n=0)(hp:g6 c u.author.toNat=p)(hs:g6 u.seen u.author.toNat=s)(hH:¬ s<p)(hS:gO c u.seen=true):kv c u n=0:=by
 unfold kv
 rw [if_neg (fun q=>q hU),vd (decide_eq_false (by omega)),if_neg (by simp),if_neg (by simp [hS])]
theorem yV{c:List Int}{a n p:Int}(hc:gb c n=0)(a0:0≤a)(a1:a<n)(hp:g6 c a.toNat=p):gD c a=c.set a.toNat (p+1):=by
 have b:=i7 hc
 have d:=lO hc a.toNat
 unfold gD
 rw [if_pos ⟨a0,by omega⟩,hp,vz (by omega) (by omega)]
theorem tK{o l:List fH}{c:List Int}{k:Nat}{z:fH}(ho:o=i4 (l.take k) c)(hz:l[k]? = some z)(h:iJ c z=false):o++[z]=i4 (l.take (k+1)) c:=by
 obtain⟨a,rfl⟩:=List.getElem?_eq_some_iff.1 hz
 rw [zd a h,ho]
theorem AD{o l:List fH}{c:List Int}{k:Nat}{z:fH}(ho:o=i4 (l.take k) c)(hz:l[k]? = some z)(h:iJ c z=true):o=i4 (l.take (k+1)) c:=by
 obtain⟨a,rfl⟩:=List.getElem?_eq_some_iff.1 hz
 rw [zO a h,ho]
theorem uT(rd:Rd)(W:World)(hle:Rd.le rd (fX W))(ee:Int)(p:Value)(i:Int)(h:j2 rd p [ni i]) :
    Calls Tryz.prog 93 #[(.int .i64 ee),p] W (fun e w'=>e = .returned (.tuple #[sn,.agg #[ni ee,ni i]])∧Below W.heap.size W w'):=by
 have a:=il;have S:St [] W rd rd [] [] W:=St.start hle;refine io (args:=[ni ee,p]) 8 Tryz.func93 rfl rfl rfl ?_;refine er (ly sn S Ya (gk (cs:=mr) S mn rfl fun _ _ S=>ln (fJ ?_)));refine iV (fun w=>St [] W rd rd [] [] w) MX rfl ?_;have S:=S.drew;have b:=S.sup;have SC:=((S.tt 1 0).del 0);refine tk (ni ee) 0 rfl rfl SC Ym (tk (ni i) 1 rfl rfl SC (iE h T3) (tk (.agg #[ni ee,ni i]) 2 rfl rfl SC (gy (ps:=[(0,ni ee),(1,ni i)]) rfl (fun _=>by kernel_rfl)) (tk sn 3 rfl rfl SC Ya ?_)));refine aO 4 rfl (by kernel_rfl) (fT (u:=.agg #[ni ee,ni i]) (i:=0) (cs':=#[ni ee,ni i]) S rfl rfl rfl iS rfl rfl rfl fun _ S=>fL ?_)
 have SC:=((S.tt 1 0).del 0);refine fK (ak SC ?_);refine gE (by kernel_rfl) ?_;refine fM (fR ?_);refine iv (v:=sn) (v':=.agg #[ni ee,ni i]) rfl rfl ⟨_,rfl,gu (i:=0) (vs:=[ni ee,ni i]) S rfl jh rfl rfl⟩ ?_;exact⟨rfl,S.below⟩
theorem xc(rd:Rd)(W:World)(hle:Rd.le rd (fX W))(v v2:Value)(base:List Int)(l:List fH)(n:Int)(h:fN 1 ge rd v base)(h2:fN 5 gM rd v2 l) :
    Calls Tryz.prog 52 #[v,v2,(.int .i64 n)] W (fun e w' => ∃ v',e = .returned (.tuple #[v',.agg #[.int .i64 (gc base l n).2.1,.int .i64 (gc base l n).2.2]])∧fN 1 ge (ext rd W w') v' (gc base l n).1∧Below W.heap.size W w'):=by
 obtain⟨F,G,rfl,_,_⟩:=h.val;obtain⟨x,y,rfl,_,_⟩:=h2.val;have ay:=il;have S:St [] W rd rd [] [] W:=St.start hle;refine io (args:=[sc F base.length G,sc x l.length y,ni n]) 81 Tryz.func52 rfl rfl rfl ?_;refine er (ly sn S Ya (gk (cs:=mr) S mn rfl fun J _ S=>ln (fJ (er (ly (sc F base.length G) S Ym (ly (ni n) S Ym ?_))))));refine g7 (g4 (vs:=[sc F base.length G,ni n]) (CF 53 _) rfl rfl) (sq _ _ _ _ (fm h S.le)) ?_;rintro e _ ⟨rfl,rfl⟩;refine g9 (ly (ni (gb base n)) S Ya (ln (er (ly (ni (gb base n)) S Ym ?_))));by_cases s:gb base n=0
 ·
  refine ly (.bool false) S (iT rfl rfl s) (ln (fV rfl (g1 (fM (fJ (er (ly (sc x l.length y) S Ym (ly (ni (l.length:Int)) S (Yl iF) ?_))))))));by_cases Z:300<(l.length:Int)
  ·
   refine ly (.bool true) S (ko rfl rfl Z) (ln (fS rfl (er (ly (.agg #[ni 5,ni 0]) S (gy (ps:=[(0,ni 5)]) rfl (fun _=>by kernel_rfl)) (ly sn S Ya (fT (u:=.agg #[ni 5,ni 0]) (i:=0) (cs':=#[ni 5,ni 0]) S rfl rfl rfl iS rfl rfl rfl fun _ S=>ln (fR ?_)))))));refine iv (v:=sn) (v':=.agg #[ni 5,ni 0]) rfl rfl ⟨_,rfl,gu (i:=0) (vs:=[ni 5,ni 0]) S rfl jh rfl rfl⟩ ?_;rw [show gc base l n=([],5,0) by unfold gc;rw [if_neg (fun q=>q s),if_pos (by omega)]];exact⟨_,rfl,fN.nil_ _,S.below⟩
  refine ly (.bool false) S (kt rfl rfl Z) (ln (fV rfl (g1 (fM (er ?_)))));have az:=i7 s;refine nn S nD iX fun _ _ S=>ly (sc F base.length G) S Ym ?_
  have S:=S.boxOwn (i:=1) rfl 1 0 0 rfl rfl (by simp [maxLen]);have K:fQ 1 ge rd [] []:=rfl;refine mP (i:=0) S o7 nD i9.one rfl rfl rfl rfl h (by simp only [maxLen];omega) (by first | omega | (dsimp only;omega)) fun ab _ ac ad S => ?_
  have K:=fQ.append K ad;obtain⟨ae,f,af,_,_⟩:∃ A c,ab = .slice A (0+base.length) c∧(0+base.length)≤c∧c≤maxLen:=i8 S (i:=0) rfl;subst af;refine ly (sc ae (0+base.length) f) S Ya (ln (fJ (er ?_)));have ag:gc base l n=iL n base (l.drop 0) 0:=tz s (by omega);obtain⟨gC,rfl⟩:=pp S (i:=0) rfl rfl (show 0+base.length ≠ 0 by omega)
  skip
  refine ly (sc x l.length y) S Ym (ly (ni (l.length:Int)) S (Yl iF) (ly (ni 0) S Ym (ln (go ?_))));refine et [(2,ni n),(7,pa J 0),(9,sb gC 0 (0+base.length) f),(28,sc x l.length y),(29,ni (l.length:Int)),(30,ni (0:Int))] (fun H => ?_);refine j1 (fun(L:Nat × (List Int) × (List Value)) ov w=>match L with | (k,c,xsC) => ∃ rd' H,ov=[(2,ni n),(7,pa J 0),(9,sb gC 0 (0+base.length) f),(28,sc x l.length y),(29,ni (l.length:Int)),(30,ni (k:Int))]++H∧St [] W rd rd' [(J,84,#[ni 0,ni 0])] [⟨3,1,sb gC 0 (0+base.length) f,0+base.length,xsC⟩] w∧Rd.le rd rd'∧(fQ 1 ge rd' xsC c∧0+base.length=c.length)∧k≤l.length∧gc base l n=iL n c (l.drop k) k∧gb c n=0) (fun L=>match L with | (k,c,xsC)=>l.length - k) (0,([]++base),([]++ac)) ⟨_,H,rfl,(S.rw' rfl rfl),fZ,⟨K,(by simp)⟩,(by omega),ag,s⟩ ?_;rintro⟨k,c,xsC⟩ _ _ ⟨M,H,rfl,S,a2,⟨OC,_⟩,_,B,g⟩;replace h2:=fm h2 a2;have aA:=i7 g;refine er ?_;by_cases a3:(k:Int)<(l.length:Int)
  ·
   refine ly (.bool true) S (gJ rfl rfl a3) (ln (fJ (fS rfl (g1 (fM (fJ (go (er (ly (ni (k:Int)) S Ym ?_)))))))));obtain⟨a,C⟩:∃ z,(l)[k]? = some z:=gX (by omega);obtain⟨ah,_,ai,_,aj,ak⟩:=hD iF jg h2 C;obtain⟨j,m,rfl,N,_⟩:=aj.d;refine ly ah S (ak rfl rfl (by first | rfl | omega)) (ly (.agg (kU a j m)) S (jd ai jx) (gk (cs:=#[ni 0]) S Z3 rfl fun o _ S=>gk (cs:=p9) S kH rfl fun D _ S=>fT (u:=ni (k:Int)) (i:=1) (cs':=#[ni (k:Int)]) S rfl rfl rfl iX rfl rfl rfl fun _ S=>fT (u:=.agg (kU a j m)) (i:=2) (cs':=(kU a j m)) S rfl rfl rfl jg rfl rfl rfl fun _ S=>ln (er (ly (.func (.func 93) #[] #[pa o 0]) S (qq rfl rfl) (ly (.func (.func 93) #[] #[pa o 0]) S Ya (ln (fJ (fJ ?_))))))));refine gU (ly (.agg (kU a j m)) S (gf 2 jx) (ly (ni n) S Ym ?_));refine g7 (g4 (vs:=[.agg (kU a j m),ni n]) (CF 62 _) rfl rfl) (xC _ a n _ (am (⟨_,rfl,⟨_,rfl,N⟩⟩:fW gM M _ a) S.le)) ?_;rintro e _ ⟨rfl,t⟩;have S:=S.callq t;refine g9 (ly (ni (j7 a n)) S Ya (ln (er (ly (ni (j7 a n)) S Ym ?_))));by_cases p:j7 a n=0
   ·
    refine ly (.bool false) S (iT rfl rfl p) (ln (fV rfl (g1 (fM (fJ (fJ ?_))))));refine jZ MX (by kernel_rfl) S.drew ?_;have O:=od.1 p;have a4:=O.a0;have a5:=O.a1;have aB:=O.len;refine qy (sb gC 0 (0+base.length) f) Ym (qy (pa D 0) (Yb kR) (qy (ni a.author) (fI 2 T3) (qy (pa gC (a.author.toNat * 1)) (j9 (k:=a.author.toNat) nD iX (by omega) (Nat.zero_add _) rfl rfl (by omega)) ?_)));obtain⟨P,a6⟩:∃ z,(c)[a.author.toNat]? = some z:=gX (by omega);obtain⟨al,_,Q,an⟩:=fQ.get a.author.toNat OC a6;have Q:al=[ni P]:=Q;subst Q;have I:=mi a6;have R:=lO g a.author.toNat;rw [I] at R;refine qy (ni P) (gG rfl (fun w S=>ky (i:=0) S rfl rfl T3 (an 0 _ rfl))) (qy (pa D 1) (Yb mY) (qy (sc j a.seen.length m) (fI 2 gL) (qy (pa D 0) (Yb kR) (qy (ni a.author) (fI 2 T3) ?_))));obtain⟨T,a7⟩:∃ z,(a.seen)[a.author.toNat]? = some z:=gX (by omega);have U:=mi a7;obtain⟨ao,ap,aq,_,V,ar⟩:=hD jH iX N a7;have V:ap=[ni T]:=V;subst V;refine qy ao (ar rfl rfl (by first | rfl | omega)) (qy (ni T) (iE aq T3) ?_);by_cases E:T<P
    ·
     refine qy (.bool true) (ko rfl rfl E) (ig fun _ S=>fM (fS rfl (er (ly (.func (.func 93) #[] #[pa o 0]) S Ym ?_))));refine g7 (lr (us:=[ni 7,pa o 0]) (CF 93 _) rfl rfl rfl) (uT (fX _) _ fZ 7 _ (k:Int) (S.boxPtr (i:=1) rfl)) ?_;rintro e _ ⟨rfl,t⟩;have S:=S.callq t;refine g9 (ly sn S Ye (ly (.agg #[ni 7,ni (k:Int)]) S Ye (ly sn S Ya (fT (u:=.agg #[ni 7,ni (k:Int)]) (i:=0) (cs':=#[ni 7,ni (k:Int)]) S rfl rfl rfl iS rfl rfl rfl fun _ S=>ln (fR ?_)))));refine iv (v:=sn) (v':=.agg #[ni 7,ni (k:Int)]) rfl rfl ⟨_,rfl,gu (i:=0) (vs:=[ni 7,ni (k:Int)]) S rfl jh rfl rfl⟩ ?_;rw [B,ut C (EZ p g I U E) (by decide)];exact⟨_,rfl,fN.nil_ _,S.below⟩
    refine qy (.bool false) (kt rfl rfl E) (ig fun _ S=>fM (fV rfl (g1 (fM (fJ (er (ly (sb gC 0 (0+base.length) f) S Ym (ly (pa D 1) S (Yb mY) (ly (sc j a.seen.length m) S (fI 2 gL) ?_)))))))));refine g7 (g4 (vs:=[sb gC 0 (0+base.length) f,sc j a.seen.length m]) (CF 54 _) rfl rfl) (qO _ _ _ _ _ (S.rowS (n:=0) (i:=0) rfl rfl (by omega) rfl OC) (fm N S.le)) ?_;rintro e _ ⟨rfl,rfl⟩
    cases a8:gO c a.seen
    ·
     refine g9 (ly (.bool true) S (iH rfl rfl) (ln (fS rfl (er (ly (.func (.func 93) #[] #[pa o 0]) S Ym ?_)))));refine g7 (lr (us:=[ni 8,pa o 0]) (CF 93 _) rfl rfl rfl) (uT (fX _) _ fZ 8 _ (k:Int) (S.boxPtr (i:=1) rfl)) ?_;rintro e _ ⟨rfl,t⟩;have S:=S.callq t;refine g9 (ly sn S Ye (ly (.agg #[ni 8,ni (k:Int)]) S Ye (ly sn S Ya (fT (u:=.agg #[ni 8,ni (k:Int)]) (i:=0) (cs':=#[ni 8,ni (k:Int)]) S rfl rfl rfl iS rfl rfl rfl fun _ S=>ln (fR ?_)))));refine iv (v:=sn) (v':=.agg #[ni 8,ni (k:Int)]) rfl rfl ⟨_,rfl,gu (i:=0) (vs:=[ni 8,ni (k:Int)]) S rfl jh rfl rfl⟩ ?_;rw [B,ut C (Dh p g I U E a8) (by decide)];exact⟨_,rfl,fN.nil_ _,S.below⟩
    refine g9 (ly (.bool false) S (iH rfl rfl) (ln (fV rfl (g1 (nr ?_)))));have a9:=E3 p g I U E a8
    skip
    refine ly (sb gC 0 (0+base.length) f) S Ym (ly (pa D 0) S (Yb kR) (ly (ni a.author) S (fI 2 T3) (ly (pa gC (a.author.toNat * 1)) S (j9 (k:=a.author.toNat) nD iX (by omega) (Nat.zero_add _) rfl rfl (by omega)) ?_)));obtain⟨b,aa⟩:∃ z,(c)[a.author.toNat]? = some z:=gX (by omega);obtain⟨au,_,X,av⟩:=fQ.get a.author.toNat OC aa;have X:au=[ni b]:=X;subst X;have Y:=mi aa;have R:=lO g a.author.toNat;rw [Y] at R;refine ly (ni b) S (gG rfl (fun w S=>ky (i:=0) S rfl rfl T3 (av 0 _ rfl))) (ly (ni (b+1)) S (gw (r:=b+1) rfl rfl (gl (by omega) (by omega))) (ly (pa gC (a.author.toNat * 1)) S (j9 (k:=a.author.toNat) nD iX (by omega) (Nat.zero_add _) rfl rfl (by omega)) ?_));have aw:fQ 1 ge M ((xsC).take (a.author.toNat * 1)++([ni (b+1)]:List Value)++(xsC).drop (a.author.toNat * 1+1)) ((c).set a.author.toNat (b+1)):=fQ.put (k:=a.author.toNat) (cs:=[ni (b+1)]) OC (show a.author.toNat<c.length by omega) rfl (show ge M [ni (b+1)] (b+1) from rfl);have ax:=(OC).len;refine mo (u:=ni (b+1)) (i:=0) (xs':=((xsC).take (a.author.toNat * 1)++([ni (b+1)]:List Value)++(xsC).drop (a.author.toNat * 1+1))) S rfl rfl rfl rfl iX (show a.author.toNat * 1+1≤(xsC).length by rw [ax];have:=(show a.author.toNat<c.length by omega);omega) rfl rfl fun _ S => ?_
    refine fL (gA (nr (ly (ni ((k:Int)+1)) S (gw (r:=(k:Int)+1) rfl rfl (gl (by omega) (by omega))) (ly (ni ((k:Int)+1)) S Ym (fL ?_)))));refine fK ⟨(k+1,((c).set a.author.toNat (b+1)),((xsC).take (a.author.toNat * 1)++([ni (b+1)]:List Value)++(xsC).drop (a.author.toNat * 1+1))),_,fk,⟨_,_,rfl,(S.tt 1 1),(fY a2 fZ),⟨aw,(by rw [List.length_set];omega)⟩,(by omega),(by rw [B,Ag C a9,yV g a4 a5 Y]),(by rw [← yV g a4 a5 Y];exact mL g (tF g a9))⟩,?_⟩
    show _<_;dsimp only;omega
   refine ly (.bool true) S (j4 rfl rfl p) (ln (fS rfl (er (ly (.func (.func 93) #[] #[pa o 0]) S Ym (ly (ni (j7 a n)) S Ym ?_)))));refine g7 (lr (us:=[ni (j7 a n),pa o 0]) (CF 93 _) rfl rfl rfl) (uT (fX _) _ fZ (j7 a n) _ (k:Int) (S.boxPtr (i:=1) rfl)) ?_;rintro e _ ⟨rfl,t⟩;have S:=S.callq t;refine g9 (ly sn S Ye (ly (.agg #[ni (j7 a n),ni (k:Int)]) S Ye (ly sn S Ya (fT (u:=.agg #[ni (j7 a n),ni (k:Int)]) (i:=0) (cs':=#[ni (j7 a n),ni (k:Int)]) S rfl rfl rfl iS rfl rfl rfl fun _ S=>ln (fR ?_)))));refine iv (v:=sn) (v':=.agg #[ni (j7 a n),ni (k:Int)]) rfl rfl ⟨_,rfl,gu (i:=0) (vs:=[ni (j7 a n),ni (k:Int)]) S rfl jh rfl rfl⟩ ?_;rw [B,ut C (DE p) p];exact⟨_,rfl,fN.nil_ _,S.below⟩
  refine ly (.bool false) S (gH rfl rfl a3) (ln (fJ (fV rfl (iP (iQ (j0 (iR (fM (er (ly (sb gC 0 (0+base.length) f) S Ym (ly (.agg #[ni 0,ni 0]) S (gy (ps:=[]) rfl (fun _=>by kernel_rfl)) (ly (sb gC 0 (0+base.length) f) S Ya (fT (u:=.agg #[ni 0,ni 0]) (i:=0) (cs':=#[ni 0,ni 0]) S rfl rfl rfl iS rfl rfl rfl fun _ S => ?_)))))))))))));refine ln (fR ?_);refine iv (v:=sb gC 0 (0+base.length) f) (v':=.agg #[ni 0,ni 0]) rfl rfl ⟨_,rfl,gu (i:=0) (vs:=[ni 0,ni 0]) S rfl jh rfl rfl⟩ ?_;rw [B,w7 (by omega)];exact⟨_,rfl,(S.rowOut (i:=0) rfl rfl (by omega) rfl OC),S.below⟩
 refine ly (.bool true) S (j4 rfl rfl s) (ln (fS rfl (er (ly (ni (gb base n)) S Ym (ly (.agg #[ni (gb base n),ni 0]) S (gy (ps:=[(0,ni (gb base n))]) rfl (fun _=>by kernel_rfl)) (ly sn S Ya (fT (u:=.agg #[ni (gb base n),ni 0]) (i:=0) (cs':=#[ni (gb base n),ni 0]) S rfl rfl rfl iS rfl rfl rfl fun _ S=>ln (fR ?_))))))));refine iv (v:=sn) (v':=.agg #[ni (gb base n),ni 0]) rfl rfl ⟨_,rfl,gu (i:=0) (vs:=[ni (gb base n),ni 0]) S rfl jh rfl rfl⟩ ?_;rw [show gc base l n=([],gb base n,0) by unfold gc;rw [if_pos s]];exact⟨_,rfl,fN.nil_ _,S.below⟩
theorem uS(rd:Rd)(W:World)(hle:Rd.le rd (fX W))(v v2:Value)(l:List fH)(c:List Int)(h:fN 5 gM rd v l)(h2:fN 1 ge rd v2 c)(hb:l.length * 56≤140737488355328) :
    Calls Tryz.prog 59 #[v,v2] W (fun e w' => ∃ v',e = .returned v'∧fN 5 gM (ext rd W w') v' (i4 l c)∧Below W.heap.size W w'):=by
 obtain⟨s,t,rfl,_,_⟩:=h.val;obtain⟨m,n,rfl,_,_⟩:=h2.val;have a7:=il;have S:St [] W rd rd [] [] W:=St.start hle;refine io (args:=[sc s l.length t,sc m c.length n]) 44 Tryz.func59 rfl rfl rfl ?_;refine er (ly sn S Ya (ln (er (ly sn S Ya (ln (fJ (er (ly (sc s l.length t) S Ym (ly (ni (l.length:Int)) S (Yl iF) (ly (ni 0) S Ym ?_))))))))));refine ln (go ?_);have S:=S.ownNil 42 5;have Q:fQ 5 gM rd [] []:=rfl;refine et [(1,sc m c.length n),(4,sn),(8,sc s l.length t),(9,ni (l.length:Int)),(10,ni (0:Int)),(5,sn)] (fun y => ?_);refine j1 (fun(C:Nat × (List fH) × (Option Addr) × Nat × Nat × (List Value)) ov w=>match C with | (k,o,AO,nO,cO,xsO) => ∃ rd' y,ov=[(1,sc m c.length n),(4,sn),(8,sc s l.length t),(9,ni (l.length:Int)),(10,ni (k:Int)),(5,sc AO nO cO)]++y∧St [] W rd rd' [] [⟨42,5,sc AO nO cO,nO,xsO⟩] w∧Rd.le rd rd'∧(fQ 5 gM rd' xsO o∧nO=o.length)∧k≤(l).length∧o=i4 (l.take k) c) (fun C=>match C with | (k,o,AO,nO,cO,xsO)=>(l).length - k) (0,[],none,0,0,[]) ⟨_,y,rfl,(S.rw' rfl rfl),fZ,⟨Q,(by first | rfl | assumption | omega | simp)⟩,(by omega),(by rfl)⟩ ?_;rintro⟨k,o,AO,nO,cO,xsO⟩ _ _ ⟨R,y,rfl,S,g,⟨OO,_⟩,_,j⟩;replace h:=fm h g;replace h2:=fm h2 g;have a8:o.length≤k:=by rw [j];exact Nat.le_trans (tw _ _) (List.length_take_le k l)
 refine er ?_;by_cases D:(k:Int)<(l.length:Int)
 ·
  refine ly (.bool true) S (gJ rfl rfl D) (ln (fJ (fS rfl (g1 (fM (fJ (go (er ?_))))))));obtain⟨a,p⟩:∃ z,(l)[k]? = some z:=gX (by omega);obtain⟨T,_,U,_,V,X⟩:=hD iF jg h p;obtain⟨b,f,rfl,q,_⟩:=V.d;refine ly T S (X rfl rfl (by first | rfl | omega)) (ly (.agg (kU a b f)) S (jd U jx) (gk (cs:=p9) S kH rfl fun B _ S=>fT (u:=.agg (kU a b f)) (i:=0) (cs':=(kU a b f)) S rfl rfl rfl jg rfl rfl rfl fun _ S=>ln (er (ly (pa B 0) S (Yb kR) (ly (ni a.author) S (fI 0 T3) ?_)))));by_cases E:a.author<0
  ·
   refine ly (.bool true) S (gJ rfl rfl E) (ly (.bool true) S Ym (ls 17 (ls 17 (ls 17 (ls 17 (ls 17 (ls 17 (ly (.bool true) S Yt (ly (.bool true) S Ym (ls 25 (ls 25 (ls 25 (ls 25 (ls 25 (ly (.bool true) S Yt ?_)))))))))))))));refine ly (.bool true) S Ym (ls 32 (ls 32 (ls 32 (ls 32 (ly (.bool true) S Yt (ln (fS rfl (gU (ly (sc AO nO cO) S Ym (ly (.agg (kU a b f)) S (gf 0 jx) (iZ (ps:=[(0,.agg (kU a b f))]) (cs:=#[ni a.author,sc b a.seen.length f,ni a.kind,ni a.key,ni a.item]) S iF jg kH rfl rfl rfl (by kernel_rfl) fun _ _ S => ?_)))))))))));refine js (e':=0) (i:=0) (i':=1) S lf rfl rfl rfl rfl rfl rfl rfl (by simp only [maxLen];omega) (by first | omega | (dsimp only;omega)) fun Y _ S => ?_
   have OO:=fQ.push (x:=a) (cs:=(kU a b f).toList) OO rfl ⟨_,rfl,q⟩;obtain⟨F,G,Z,_,_⟩:∃ A c,Y = .slice A (nO+1) c∧(nO+1)≤c∧c≤maxLen:=i8 S (i:=0) rfl;subst Z;refine ly (sc F (nO+1) G) S Ya (fL (gA (nr (ly (ni ((k:Int)+1)) S (gw (r:=(k:Int)+1) rfl rfl (gl (by omega) (by omega))) (ly (ni ((k:Int)+1)) S Ym (fL ?_))))));refine fK ⟨(k+1,o++[a],F,nO+1,G,(xsO++(kU a b f).toList)),_,fk,⟨_,_,rfl,(S.tt 0 1),(fY g fZ),⟨OO,(by first | omega | (simp;omega))⟩,(by omega),(tK j p (uB (by omega)))⟩,?_⟩
   show _<_;dsimp only;omega
  refine ly (.bool false) S (gH rfl rfl E) (ly (.bool false) S Ym (lg 17 (pa B 0) S (Yb kR) (lg 17 (ni a.author) S (fI 0 T3) (lg 17 (pa B 1) S (Yb mY) (lg 17 (sc b a.seen.length f) S (fI 0 gL) (lg 17 (ni (a.seen.length:Int)) S (Yl jH) ?_))))));by_cases H:(a.seen.length:Int)≤a.author
  ·
   refine lg 17 (.bool true) S (jY rfl rfl H) (ly (.bool true) S Yf (ly (.bool true) S Ym (ls 25 (ls 25 (ls 25 (ls 25 (ls 25 (ly (.bool true) S Yt (ly (.bool true) S Ym (ls 32 (ls 32 (ls 32 (ls 32 (ly (.bool true) S Yt (fL ?_)))))))))))))));refine fM (fS rfl (gU (ly (sc AO nO cO) S Ym (ly (.agg (kU a b f)) S (gf 0 jx) (iZ (ps:=[(0,.agg (kU a b f))]) (cs:=#[ni a.author,sc b a.seen.length f,ni a.kind,ni a.key,ni a.item]) S iF jg kH rfl rfl rfl (by kernel_rfl) fun _ _ S => ?_)))));refine js (e':=0) (i:=0) (i':=1) S lf rfl rfl rfl rfl rfl rfl rfl (by simp only [maxLen];omega) (by first | omega | (dsimp only;omega)) fun a0 _ S => ?_
   have OO:=fQ.push (x:=a) (cs:=(kU a b f).toList) OO rfl ⟨_,rfl,q⟩;obtain⟨I,J,a1,_,_⟩:∃ A c,a0 = .slice A (nO+1) c∧(nO+1)≤c∧c≤maxLen:=i8 S (i:=0) rfl;subst a1;refine ly (sc I (nO+1) J) S Ya (fL (gA (nr (ly (ni ((k:Int)+1)) S (gw (r:=(k:Int)+1) rfl rfl (gl (by omega) (by omega))) (ly (ni ((k:Int)+1)) S Ym (fL ?_))))));refine fK ⟨(k+1,o++[a],I,nO+1,J,(xsO++(kU a b f).toList)),_,fk,⟨_,_,rfl,(S.tt 0 1),(fY g fZ),⟨OO,(by first | omega | (simp;omega))⟩,(by omega),(tK j p (uB (by omega)))⟩,?_⟩
   show _<_;dsimp only;omega
  refine lg 17 (.bool false) S (k4 rfl rfl H) (ly (.bool false) S Yf (ly (.bool false) S Ym (lg 25 (pa B 0) S (Yb kR) (lg 25 (ni a.author) S (fI 0 T3) (lg 25 (sc m c.length n) S Ym (lg 25 (ni (c.length:Int)) S (Yl nD) ?_))))));by_cases K:(c.length:Int)≤a.author
  ·
   refine lg 25 (.bool true) S (jY rfl rfl K) (ly (.bool true) S Yf (ly (.bool true) S Ym (ls 32 (ls 32 (ls 32 (ls 32 (ly (.bool true) S Yt (ln (fS rfl (gU (ly (sc AO nO cO) S Ym (ly (.agg (kU a b f)) S (gf 0 jx) (iZ (ps:=[(0,.agg (kU a b f))]) (cs:=#[ni a.author,sc b a.seen.length f,ni a.kind,ni a.key,ni a.item]) S iF jg kH rfl rfl rfl (by kernel_rfl) fun _ _ S => ?_)))))))))))));refine js (e':=0) (i:=0) (i':=1) S lf rfl rfl rfl rfl rfl rfl rfl (by simp only [maxLen];omega) (by first | omega | (dsimp only;omega)) fun a2 _ S => ?_
   have OO:=fQ.push (x:=a) (cs:=(kU a b f).toList) OO rfl ⟨_,rfl,q⟩;obtain⟨L,M,a3,_,_⟩:∃ A c,a2 = .slice A (nO+1) c∧(nO+1)≤c∧c≤maxLen:=i8 S (i:=0) rfl;subst a3;refine ly (sc L (nO+1) M) S Ya (fL (gA (nr (ly (ni ((k:Int)+1)) S (gw (r:=(k:Int)+1) rfl rfl (gl (by omega) (by omega))) (ly (ni ((k:Int)+1)) S Ym (fL ?_))))));refine fK ⟨(k+1,o++[a],L,nO+1,M,(xsO++(kU a b f).toList)),_,fk,⟨_,_,rfl,(S.tt 0 1),(fY g fZ),⟨OO,(by first | omega | (simp;omega))⟩,(by omega),(tK j p (uB (by omega)))⟩,?_⟩
   show _<_;dsimp only;omega
  refine lg 25 (.bool false) S (k4 rfl rfl K) (ly (.bool false) S Yf (ly (.bool false) S Ym (lg 32 (sc m c.length n) S Ym (lg 32 (.agg (kU a b f)) S (gf 0 jx) ?_))));refine lj (d':=32) (g4 (vs:=[sc m c.length n,.agg (kU a b f)]) (CF 63 _) rfl rfl) rfl rfl (y5 _ _ c a _ (fm h2 S.le) (am (⟨_,rfl,⟨_,rfl,q⟩⟩:fW gM R _ a) S.le) (by omega) (by omega)) ?_;rintro e _ ⟨rfl,a4⟩;have S:=S.callq a4
  cases N:decide (g6 a.seen a.author.toNat<g6 c a.author.toNat)
  ·
   refine g9 (lg 32 (.bool true) S (iH rfl rfl) (ly (.bool true) S Yf (ln (fS rfl (gU (ly (sc AO nO cO) S Ym (ly (.agg (kU a b f)) S (gf 0 jx) (iZ (ps:=[(0,.agg (kU a b f))]) (cs:=#[ni a.author,sc b a.seen.length f,ni a.kind,ni a.key,ni a.item]) S iF jg kH rfl rfl rfl (by kernel_rfl) fun _ _ S => ?_))))))));refine js (e':=0) (i:=0) (i':=1) S lf rfl rfl rfl rfl rfl rfl rfl (by simp only [maxLen];omega) (by first | omega | (dsimp only;omega)) fun a5 _ S => ?_
   have OO:=fQ.push (x:=a) (cs:=(kU a b f).toList) OO rfl ⟨_,rfl,q⟩;obtain⟨O,P,a6,_,_⟩:∃ A c,a5 = .slice A (nO+1) c∧(nO+1)≤c∧c≤maxLen:=i8 S (i:=0) rfl;subst a6;refine ly (sc O (nO+1) P) S Ya (fL (gA (nr (ly (ni ((k:Int)+1)) S (gw (r:=(k:Int)+1) rfl rfl (gl (by omega) (by omega))) (ly (ni ((k:Int)+1)) S Ym (fL ?_))))));refine fK ⟨(k+1,o++[a],O,nO+1,P,(xsO++(kU a b f).toList)),_,fk,⟨_,_,rfl,(S.tt 0 1),(fY g fZ),⟨OO,(by first | omega | (simp;omega))⟩,(by omega),(tK j p (vd N))⟩,?_⟩
   show _<_;dsimp only;omega
  refine g9 (lg 32 (.bool false) S (iH rfl rfl) (ly (.bool false) S Yf (ln (fV rfl (g1 (gA (nr (ly (ni ((k:Int)+1)) S (gw (r:=(k:Int)+1) rfl rfl (gl (by omega) (by omega))) (ly (ni ((k:Int)+1)) S Ym (fL ?_))))))))));refine fK ⟨(k+1,o,AO,nO,cO,xsO),_,fk,⟨_,_,rfl,(S.tt 0 1),(fY g fZ),⟨OO,(by first | assumption | omega)⟩,(by omega),(AD j p (z7 (by omega) (by omega) (by omega) N))⟩,?_⟩
  show _<_;dsimp only;omega
 refine ly (.bool false) S (gH rfl rfl D) (ln (fJ (fV rfl (iP (iQ (j0 (iR (fM (er (ly (sc AO nO cO) S Ym (ly (sc AO nO cO) S Ya (ln ?_))))))))))));refine fR (g3 (v:=sc AO nO cO) rfl rfl ?_);rw [show i4 l c=o by rw [j,List.take_of_length_le (by omega)]];exact⟨_,rfl,(S.rowOut (i:=0) rfl rfl ‹_› rfl OO),S.below⟩
end Go.Proofs.YtkjknlnhffmkkacGreat
