/- WorldTells: Play tells the world behind whatever happens, and what came of each thing, as the document's answer does. For every input; no condition. -/
import Derived.Test.YtkjknlnhffmkkacGreatQL
import Derived.Test.YtkjknlnhffmkkacGreatQJ
import Derived.Test.YtkjknlnhffmkkacGreatQA
import Derived.ProofKit
import Derived.SizedLaws
import Derived.ChangeArms
import Derived.ChangeShapes
import Derived.Deep.Slices
import Derived.Deep.Fields
import Derived.Test.YtkjknlnhffmkkacGreatRows
import Derived.JoinedOf
import Derived.Handed
import Derived.Test.YtkjknlnhffmkkacGreatQF
import Derived.Test.YtkjknlnhffmkkacGreatQK
set_option linter.unusedVariables false
set_option linter.unusedSimpArgs false
set_option maxRecDepth 100000
set_option maxHeartbeats 16000000
namespace Go.Proofs.YtkjknlnhffmkkacGreat
open Go.RowKit
def p3(m k:Nat):List gh:=(List.range k).map fun(x:Nat)=>oa (x:Int) (m:Int)
theorem zy{m k:Nat}(hk:k<m)(h6:m≤6):p3 m (k+1)=p3 m k++[(i6 (k:Int) (m:Int)).1]:=by
 unfold p3
 rw [List.range_succ,List.map_append]
 congr 1
 unfold i6
 rw [if_neg (by omega),if_neg (by omega)]
 rfl
theorem xm{rd:Rd}(m:Nat):fQ 1 mW rd (madeCells (Value.slice none 0 0).cells (m * 1)).toList (List.replicate m lB):=by
 have e:(madeCells (Value.slice none 0 0).cells (m * 1)).toList=List.replicate m lB:=by
  refine List.ext_getElem (by simp [madeCells]) fun i _ _ => ?_
  simp [madeCells,Value.cells,Nat.mod_one,lB]
 rw [e]
 exact mW.row fun v a=>by rw [List.eq_of_mem_replicate a];rfl
theorem zz{k m g0 c0:Nat}{vI:Nat→Value}(h:∀ y,y<k → ∃ g c,vI y = .slice (some ⟨g,0,none⟩) m c):∀ y,y<k+1 → ∃ g c,lz vI k (.slice (some ⟨g0,0,none⟩) m c0) y = .slice (some ⟨g,0,none⟩) m c:=fun y hy=>by
 unfold lz
 by_cases e:y=k
 ·exact⟨g0,c0,by rw [if_pos e]⟩
 ·obtain⟨g,c,h1⟩:=h y (by omega)
  exact⟨g,c,by rw [if_neg e];exact h1⟩
theorem mD.up{rd rd':Rd}{B n:Nat}{pr:PrF}{way:List (List (List i2))}(h:mD rd B n pr way)(k:Rd.le rd rd'):mD rd' B n pr way:=h.mono k (Nat.le_refl _)
theorem wn{m i:Nat}{l:List Do}{xw:iG}{d:Do}(hx:xw=(kC (kJ m) (l.take i)).1)(h:l[i]? = some d):(gR xw d).1=(kC (kJ m) (l.take (i+1))).1:=by rw [xi h,← hx]
theorem wC{m i:Nat}{l:List Do}{xw:iG}{es:List Int}{d:Do}(hx:xw=(kC (kJ m) (l.take i)).1)(he:es=(kC (kJ m) (l.take i)).2)(h:l[i]? = some d):es++[(gR xw d).2]=(kC (kJ m) (l.take (i+1))).2:=by rw [xi h,← hx,← he]
theorem B7:mV mN:=by simp [mV,mN]
theorem oT.bd{n:Nat}{L:List fH}{d e:gh}{p:i2}(h:oT n L d e p)(h1:1≤n)(h6:n≤6)(hL:L.length≤1000):vq p:=by
 have g:=i7 h.w
 rcases h.b with⟨e1,s⟩ | ⟨K,e1,hk,f,c,s,l⟩
 ·rw [e1]
  exact⟨s.p.right.bd,by show p.clock.length≤6;omega,Nat.zero_le _,fun u a=>by cases a⟩
 ·rw [e1]
  refine⟨B7,by show p.clock.length≤6;omega,?_,fun u a => ?_⟩
  ·exact Nat.le_trans (xx (vk hk f) l) hL
  ·have:=(mO hk f a).1.len
   omega
theorem lc.bd{n:Nat}{L:List fH}{w:iG}{rd:Rd}{B k:Nat}{pr:PrF}(I:lc n L w)(hL:L.length≤k)(hW:mD rd B n pr w.way)(hk:k≤1000∧B≤1000):∀ a,a<n → ∀ b,b<n→(iU w.way a b).length≤1000 ∧ ∀ p∈iU w.way a b,vq p:=fun a ha b hb =>
 ⟨by have:=(hW.p a ha b hb).l;have:=(hW.p a ha b hb).b;omega,fun p hp=>(I.way a ha b hb p hp).bd I.n1 I.n6 (by omega)⟩
theorem E2{TI TV n gV cV:Nat}{vI:Nat→Value}{pr:PrF}:∀ g∈nf [] ([⟨TV,1,.slice (some ⟨gV,0,none⟩) n cV,n,(List.range n).map vI⟩]++kZ TI n vI pr),(Value.slice (some ⟨gV,0,none⟩) n cV).ownBlock=some g ∨ ∃ x,x<n∧(vI x).ownBlock=some g:=fun g hg=>by
 rcases pN hg with⟨p,hp,_⟩ | ⟨q,hq,e⟩
 ·cases hp
 ·rcases List.mem_append.1 hq with hq | hq
  ·obtain rfl:=List.mem_singleton.1 hq;exact .inl e
  ·obtain⟨x,hx,rfl⟩:=List.mem_map.1 hq
   exact .inr ⟨x,List.mem_range.1 hx,e⟩
theorem CS(rd:Rd)(W:World)(hle:Rd.le rd (fX W))(n:Int)(v:Value)(l:List Do)(rl:Rd)(hls:Rd.le rl (fX W))(h:fN 8 oQ rl v l) :
    Calls Tryz.prog 32 #[(.int .i64 n),v] W (fun e w' => ∃ wv ev xs rd',e = .returned (.tuple #[wv,ev,.int .i64 (l3 n l).2.2])∧St [] W rd rd' [] [⟨35,1,ev,(l3 n l).2.1.length,xs⟩] w'∧fW mS rd' wv (l3 n l).1∧fQ 1 ge rd' xs (l3 n l).2.1):=by
 obtain⟨N,O,rfl,_,_⟩:=h.val;have bf:=il;have S:St [] W rd rd [] [] W:=St.start hle;refine io (args:=[ni n,sc N l.length O]) 83 Tryz.func32 rfl rfl rfl ?_;refine er (gk (cs:=rk) S qQ rfl fun G _ S=>ly sn S Ya (ly (ni 0) S Ya (ln (fJ (er (ly (ni n) S Ym ?_))))));by_cases af:n<1
 ·
  refine ly (.bool true) S (gJ rfl rfl af) (ly (.bool true) S Ym (ls 15 (ls 15 (ly (.bool true) S Yt (ly (.bool true) S Ym (ls 19 (ls 19 (ls 19 (ly (.bool true) S Yt (ln (fS rfl (er (ly (.agg #[sn,sn]) S (gy (ps:=[]) rfl (fun _=>by kernel_rfl)) ?_)))))))))))));refine fT (u:=.agg #[sn,sn]) (i:=0) (cs':=#[sn,sn]) S rfl rfl rfl np rfl rfl rfl fun _ S=>ly sn S Ya (ly (ni 5) S Ya (ln (fR ?_)))
  refine pX (v:=.agg #[sn,sn]) (v':=sn) (v'':=ni 5) rfl ⟨_,rfl,gu (i:=0) (vs:=[sn,sn]) S rfl nq rfl rfl⟩ rfl rfl ?_;have es':l3 n l=(nL,[],5):=by unfold l3;rw [if_pos (by omega)]
  rw [es'];have S:=S.ownNil 35 1;exact⟨_,_,_,_,rfl,(S.tt 0 1).rw' rfl rfl,⟨_,rfl,(⟨_,_,rfl,fU,fU⟩:mS rd _ nL)⟩,rfl⟩
 refine ly (.bool false) S (gH rfl rfl af) (ly (.bool false) S Ym (lg 15 (ni n) S Ym ?_));by_cases ag:6<n
 ·
  refine lg 15 (.bool true) S (ko rfl rfl ag) (ly (.bool true) S Yf (ly (.bool true) S Ym (ls 19 (ls 19 (ls 19 (ly (.bool true) S Yt (ln (fS rfl (er (ly (.agg #[sn,sn]) S (gy (ps:=[]) rfl (fun _=>by kernel_rfl)) (fT (u:=.agg #[sn,sn]) (i:=0) (cs':=#[sn,sn]) S rfl rfl rfl np rfl rfl rfl fun _ S=>ly sn S Ya (ly (ni 5) S Ya ?_))))))))))));refine ln (fR ?_);refine pX (v:=.agg #[sn,sn]) (v':=sn) (v'':=ni 5) rfl ⟨_,rfl,gu (i:=0) (vs:=[sn,sn]) S rfl nq rfl rfl⟩ rfl rfl ?_;have es':l3 n l=(nL,[],5):=by unfold l3;rw [if_pos (by omega)]
  rw [es'];have S:=S.ownNil 35 1;exact⟨_,_,_,_,rfl,(S.tt 0 1).rw' rfl rfl,⟨_,rfl,(⟨_,_,rfl,fU,fU⟩:mS rd _ nL)⟩,rfl⟩
 refine lg 15 (.bool false) S (kt rfl rfl ag) (ly (.bool false) S Yf (ly (.bool false) S Ym (lg 19 (sc N l.length O) S Ym (lg 19 (ni (l.length:Int)) S (Yl qP) ?_))));by_cases ah:150<(l.length:Int)
 ·
  refine lg 19 (.bool true) S (ko rfl rfl ah) (ly (.bool true) S Yf (ln (fS rfl (er (ly (.agg #[sn,sn]) S (gy (ps:=[]) rfl (fun _=>by kernel_rfl)) (fT (u:=.agg #[sn,sn]) (i:=0) (cs':=#[sn,sn]) S rfl rfl rfl np rfl rfl rfl fun _ S=>ly sn S Ya (ly (ni 5) S Ya (ln (fR ?_)))))))));refine pX (v:=.agg #[sn,sn]) (v':=sn) (v'':=ni 5) rfl ⟨_,rfl,gu (i:=0) (vs:=[sn,sn]) S rfl nq rfl rfl⟩ rfl rfl ?_;have es':l3 n l=(nL,[],5):=by unfold l3;rw [if_pos (by omega)]
  rw [es'];have S:=S.ownNil 35 1;exact⟨_,_,_,_,rfl,(S.tt 0 1).rw' rfl rfl,⟨_,rfl,(⟨_,_,rfl,fU,fU⟩:mS rd _ nL)⟩,rfl⟩
 refine lg 19 (.bool false) S (kt rfl rfl ah) (ly (.bool false) S Yf (ln (fV rfl (g1 (fM (er ?_))))));obtain⟨m,rfl⟩:∃ m:Nat,n=(m:Int):=⟨n.toNat,by omega⟩;have a3:1≤m:=by omega
 have Z:m≤6:=by omega
 have ai:l.length≤150:=by omega
 skip
 refine ly (.agg #[sn,sn]) S (gy (ps:=[]) rfl (fun _=>by kernel_rfl)) (ix (u:=.agg #[sn,sn]) (cs:=#[sn,sn]) S rfl rfl fun a _ S=>ly (pa a 0) S Ya (ln (fJ (er (ly (ni (m:Int)) S Ym (ly (ni 0) S Ym (ln (go ?_))))))));have S:=S.ownNil 31 7;have S:=S.ownNil 67 1;have aw:fQ 7 gT rd [] []:=rfl;have ax:fQ 1 mW rd [] []:=rfl;have S:St [] W rd rd [(G,58,#[sn,sn]),(a,109,#[sn,sn])] ([⟨31,7,sn,0,[]⟩,⟨67,1,sn,0,[]⟩]++mK 66 m (fun _=>lB) 0) _:=S.rw' rfl rfl;refine et [(0,ni (m:Int)),(1,sc N l.length O),(4,pa G 0),(5,sn),(6,ni 0),(7,pa a 0),(27,ni (m:Int)),(28,ni (0:Int))] (fun K => ?_);refine j1 (fun(P:Nat × (Option Addr) × Nat × (List Value) × (Option Addr) × Nat × (Nat→Value)) ov w=>match P with | (k,AN,cN,xsN,AV,cV,vI) => ∃ rd' K,ov=[(0,ni (m:Int)),(1,sc N l.length O),(4,pa G 0),(5,sn),(6,ni 0),(7,pa a 0),(27,ni (m:Int)),(28,ni (k:Int))]++K∧St [] W rd rd' [(G,58,#[sn,sn]),(a,109,#[sc AN k cN,sc AV k cV])] ([⟨31,7,sc AN k cN,k,xsN⟩,⟨67,1,sc AV k cV,k,(List.range k).map vI⟩]++(mK 66 m vI k)) w∧Rd.le rd rd'∧(fQ 7 gT rd' xsN (p3 m k)∧k=(p3 m k).length)∧(fQ 1 mW rd' ((List.range k).map vI) ((List.range k).map vI)∧k=((List.range k).map vI).length)∧k≤m∧(∀ y,y<k → ∃ g c,vI y = .slice (some ⟨g,0,none⟩) m c)) (fun P=>match P with | (k,AN,cN,xsN,AV,cV,vI)=>m - k) (0,none,0,[],none,0,(fun _=>lB)) ⟨_,K,rfl,(S.rw' rfl rfl),fZ,⟨aw,rfl⟩,⟨ax,rfl⟩,(by omega),(fun y ay=>absurd ay (Nat.not_lt_zero y))⟩ ?_;rintro⟨k,AN,cN,xsN,AV,cV,vI⟩ _ _ ⟨a0,K,rfl,S,az,⟨ON,_⟩,⟨OV,_⟩,_,aj⟩;refine er ?_;by_cases ak:(k:Int)<(m:Int)
 ·
  refine ly (.bool true) S (gJ rfl rfl ak) (ln (fJ (fS rfl (g1 (fM (fJ (go (er (ly (ni (k:Int)) S Ym (ly (ni (k:Int)) S Ya (ln (fJ ?_))))))))))));refine gU (ly (ni (k:Int)) S Ym (ly (ni (m:Int)) S Ym ?_));refine g7 (g4 (vs:=[ni (k:Int),ni (m:Int)]) (CF 17 _) rfl rfl) (Di _ _ S.le (k:Int) (m:Int)) ?_;rintro e _ ⟨_,rfl,X,Q⟩;obtain⟨R,S,a4,_,aA⟩:=S.call' Q;replace ON:=rm ON a4;replace OV:=rm OV a4;replace X:=am X aA;obtain⟨_,rfl,X⟩:=X;obtain⟨b,f,j,o,p,q,s,t,B,C,D,E,rfl,aB,aC,aD,aE,aF,aG,_⟩:=X.d;refine g9 (ly (.tuple #[.agg (kN ((i6 (k:Int) (m:Int)).1) b f j o p q s t B C D E),ni ((i6 (k:Int) (m:Int)).2)]) S Ym (ly (.agg (kN ((i6 (k:Int) (m:Int)).1) b f j o p q s t B C D E)) S Ye (ly (ni ((i6 (k:Int) (m:Int)).2)) S Ye (gk (cs:=jR) S jE rfl fun T _ S=>fT (u:=.agg (kN ((i6 (k:Int) (m:Int)).1) b f j o p q s t B C D E)) (i:=2) (cs':=(kN ((i6 (k:Int) (m:Int)).1) b f j o p q s t B C D E)) S rfl rfl rfl hY rfl rfl rfl fun _ S=>ly (ni ((i6 (k:Int) (m:Int)).2)) S Ya (ln (fJ ?_))))));refine nC (fun w=>St [] W rd R [(G,58,#[sn,sn]),(a,109,#[sc AN k cN,sc AV k cV]),(T,31,(kN ((i6 (k:Int) (m:Int)).1) b f j o p q s t B C D E))] [] w) (fun w=>St [] W rd R [(G,58,#[sn,sn]),(T,31,(kN ((i6 (k:Int) (m:Int)).1) b f j o p q s t B C D E))] [] w) 12 MX rfl ?_;have S:=S.drew;have bg:=S.sup;have SC:=S.tt 3 0;refine tb (pa a 0) 0 [9,10,11,12] rfl rfl SC Ym (tb (pa a 0) 1 [2,3,4,5,8,9,10,11,12] rfl rfl SC Ym (tb (pa a 0) 2 [3,4,5,8,9,10,11,12] rfl rfl SC Yn (tb (pa a 0) 3 [4,5,8,9,10,11,12] rfl rfl SC (Yb lC) (tb (pa a 0) 4 [5,8,9,10,11,12] rfl rfl SC (Yb lG) (tb (sc AN k cN) 5 [8,9,10,11,12] rfl rfl SC (fI 1 m9) (tb (.agg (kN ((i6 (k:Int) (m:Int)).1) b f j o p q s t B C D E)) 6 [7,8,9,10,11,12] rfl rfl SC (gf 2 ij) ?_))))));refine bO 7 rfl (by kernel_rfl) (iZ (ps:=[(0,.agg (kN ((i6 (k:Int) (m:Int)).1) b f j o p q s t B C D E))]) (cs:=#[ni ((i6 (k:Int) (m:Int)).1.self),sc b (((i6 (k:Int) (m:Int)).1.state.clock).length) f,sc j (((i6 (k:Int) (m:Int)).1.state.lives).length) o,sc p (((i6 (k:Int) (m:Int)).1.state.tallies).length) q,sc s (((i6 (k:Int) (m:Int)).1.base).length) t,sc B (((i6 (k:Int) (m:Int)).1.log).length) C,sc D (((i6 (k:Int) (m:Int)).1.known).length) E]) S lU hY jE rfl rfl rfl (by kernel_rfl) fun a1 _ S=>fL ?_)
  have SC:=S.tt 3 0;refine fK (bk SC ?_);refine bO 8 rfl (by kernel_rfl) (js (e':=0) (i:=0) (i':=3) S wP rfl rfl rfl rfl rfl rfl rfl (by simp only [maxLen];omega) (by first | omega | (dsimp only;omega)) fun aH _ S => ?_)
  have ON:=fQ.push (x:=(i6 (k:Int) (m:Int)).1) (cs:=(kN ((i6 (k:Int) (m:Int)).1) b f j o p q s t B C D E).toList) ON rfl ⟨_,_,_,_,_,_,rfl,aB,aC,aD,aE,aF,aG⟩;obtain⟨I,J,aI,_,_⟩:∃ A c,aH = .slice A (k+1) c∧(k+1)≤c∧c≤maxLen:=i8 S (i:=0) rfl;subst aI;refine fL ?_;have SC:=S.tt 3 0;refine fK (bk SC ?_);refine tb (pa a 0) 9 [10,11,12] rfl rfl SC Yn (tb (pa a 0) 10 [11,12] rfl rfl SC (Yb lC) (tb (pa a 0) 11 [12] rfl rfl SC (Yb lG) ?_));refine bO 12 rfl (by kernel_rfl) (fT (u:=sc I (k+1) J) (i:=1) (cs':=#[sc I (k+1) J,sc AV k cV]) S rfl rfl rfl tI rfl rfl rfl fun _ S=>fL ?_)
  have SC:=((S.tt 3 0).del 1);refine fK (bs SC ?_);refine gE (by kernel_rfl) ?_;refine fM (nC (fun w=>St [] W rd R [(G,58,#[sn,sn]),(a,109,#[sc I (k+1) J,sc AV k cV]),(T,31,(kN ((i6 (k:Int) (m:Int)).1) b f j o p q s t B C D E)),(a1,31,(kN ((i6 (k:Int) (m:Int)).1) b f j o p q s t B C D E))] [] w) (fun w=>St [] W rd R [(G,58,#[sn,sn]),(T,31,(kN ((i6 (k:Int) (m:Int)).1) b f j o p q s t B C D E)),(a1,31,(kN ((i6 (k:Int) (m:Int)).1) b f j o p q s t B C D E))] [] w) 13 MX rfl ?_);have S:=S.drew;have bh:=S.sup;have SC:=S.tt 4 0;refine tb (pa a 0) 0 [10,11,12,13] rfl rfl SC Ym (tb (pa a 0) 1 [2,3,4,5,9,10,11,12,13] rfl rfl SC Ym (tb (pa a 0) 2 [3,4,5,9,10,11,12,13] rfl rfl SC Yn (tb (pa a 0) 3 [4,5,9,10,11,12,13] rfl rfl SC (Yb lC) (tb (pa a 1) 4 [5,9,10,11,12,13] rfl rfl SC (Yb l9) (tb (sc AV k cV) 5 [9,10,11,12,13] rfl rfl SC (fI 1 lA) (tb (ni (m:Int)) 6 [7,8,9,10,11,12,13] rfl rfl SC Ym ?_))))));refine bO 7 rfl (by kernel_rfl) (mm (m:=m) (size:=1) S zZ x8 rfl rfl rfl rfl (by omega) (by simp only [maxLen];omega) fun H _ S => ?_)
  have aJ:fQ 1 mW R ((madeCells (Value.slice none 0 0).cells (m * 1)).toList) (List.replicate m lB):=xm m;have S:St [] W rd R [(G,58,#[sn,sn]),(a,109,#[sc I (k+1) J,sc AV k cV]),(T,31,(kN ((i6 (k:Int) (m:Int)).1) b f j o p q s t B C D E)),(a1,31,(kN ((i6 (k:Int) (m:Int)).1) b f j o p q s t B C D E))] ([⟨31,7,sc I (k+1) J,k+1,xsN++(kN ((i6 (k:Int) (m:Int)).1) b f j o p q s t B C D E).toList⟩,⟨67,1,sc AV k cV,k,(List.range k).map vI⟩,⟨66,1,sb H 0 m m,m,(madeCells (Value.slice none 0 0).cells (m * 1)).toList⟩]++(mK 66 m vI k)) _:=(St.rotO (l:=[⟨31,7,sc I (k+1) J,k+1,xsN++(kN ((i6 (k:Int) (m:Int)).1) b f j o p q s t B C D E).toList⟩,⟨67,1,sc AV k cV,k,(List.range k).map vI⟩]) (F:=mK 66 m vI k) (m:=[⟨66,1,sb H 0 m m,m,(madeCells (Value.slice none 0 0).cells (m * 1)).toList⟩]) S).rw' rfl rfl;refine fL ?_;have SC:=S.tt 4 0;refine fK (bk SC ?_);refine bO 8 rfl (by kernel_rfl) (iZ (ps:=[(0,sb H 0 m m)]) (cs:=#[sb H 0 m m]) S lw lV y8 rfl rfl rfl (by kernel_rfl) fun aK _ S=>fL ?_)
  have SC:=S.tt 4 0;refine fK (bk SC ?_);refine bO 9 rfl (by kernel_rfl) (js (e':=0) (i:=1) (i':=4) S xA rfl rfl rfl rfl rfl rfl rfl (by simp only [maxLen];omega) (by first | omega | (dsimp only;omega)) fun aL _ S => ?_)
  have OV:=fQ.push (x:=(sb H 0 m m)) (cs:=[sb H 0 m m]) OV rfl ⟨rfl,rfl⟩;obtain⟨U,V,aM,_,_⟩:∃ A c,aL = .slice A (k+1) c∧(k+1)≤c∧c≤maxLen:=i8 S (i:=1) rfl;subst aM;refine fL ?_;have SC:=S.tt 4 0;refine fK (bk SC ?_);refine tb (pa a 0) 10 [11,12,13] rfl rfl SC Yn (tb (pa a 0) 11 [12,13] rfl rfl SC (Yb lC) (tb (pa a 1) 12 [13] rfl rfl SC (Yb l9) ?_));refine bO 13 rfl (by kernel_rfl) (fT (u:=sc U (k+1) V) (i:=1) (cs':=#[sc I (k+1) J,sc U (k+1) V]) S rfl rfl rfl u1 rfl rfl rfl fun _ S=>fL ?_)
  have SC:=((S.tt 4 0).del 1);refine fK (bs SC ?_);refine gE (by kernel_rfl) ?_;refine gA (nr (ly (ni ((k:Int)+1)) S (gw (r:=(k:Int)+1) rfl rfl (gl (by omega) (by omega))) (ly (ni ((k:Int)+1)) S Ym (fL ?_))));rw [mW.eq aJ] at S;have S:=S.toEndO (i:=2) rfl;have S:St [] W rd R [(G,58,#[sn,sn]),(a,109,#[sc I (k+1) J,sc U (k+1) V]),(T,31,(kN ((i6 (k:Int) (m:Int)).1) b f j o p q s t B C D E)),(a1,31,(kN ((i6 (k:Int) (m:Int)).1) b f j o p q s t B C D E)),(aK,67,#[sb H 0 m m])] ([⟨31,7,sc I (k+1) J,k+1,xsN++(kN ((i6 (k:Int) (m:Int)).1) b f j o p q s t B C D E).toList⟩,⟨67,1,sc U (k+1) V,k+1,((List.range k).map vI)++[sb H 0 m m]⟩]++mK 66 m (lz vI k (sb H 0 m m)) (k+1)) _:=S.rw' rfl (by rw [yv];rfl);rw [← zy (by omega) Z] at ON;rw [← xq] at OV S;refine fK ⟨(k+1,I,J,(xsN++(kN ((i6 (k:Int) (m:Int)).1) b f j o p q s t B C D E).toList),U,V,(lz vI k (sb H 0 m m))),_,fk,⟨_,_,rfl,(St.tkF (l:=[⟨31,7,sc I (k+1) J,k+1,xsN++(kN ((i6 (k:Int) (m:Int)).1) b f j o p q s t B C D E).toList⟩,⟨67,1,sc U (k+1) V,k+1,(List.range (k+1)).map (lz vI k (sb H 0 m m))⟩]) (F:=mK 66 m (lz vI k (sb H 0 m m)) (k+1)) S 2 2 rfl rfl).rw' rfl rfl,(fY az (fY fZ a4)),⟨ON,(by unfold p3;simp)⟩,⟨OV,(by simp)⟩,(by omega),(zz aj)⟩,?_⟩
  show _<_;dsimp only;omega
 refine ly (.bool false) S (gH rfl rfl ak) (ln (fJ (fV rfl (iP (iQ (j0 (iR (fM (er ?_)))))))));have aN:m=k:=by omega
 subst aN;obtain⟨gN,rfl⟩:=pp S (i:=0) rfl rfl (show m ≠ 0 by omega);obtain⟨gV,rfl⟩:=pp S (i:=1) rfl rfl (show m ≠ 0 by omega);have S:=St.begun (TP:=33) (A:=[⟨31,7,sb gN 0 m cN,m,xsN⟩,⟨67,1,sb gV 0 m cV,m,(List.range m).map vI⟩]) S;have S:=S.ownNil 35 1;have aO:fQ 1 ge a0 [] []:=rfl;have S:St [] W rd a0 [(G,58,#[sn,sn]),(a,109,#[sb gN 0 m cN,sb gV 0 m cV])] ([⟨35,1,sn,0,[]⟩,⟨31,7,sb gN 0 m cN,m,xsN⟩,⟨67,1,sb gV 0 m cV,m,(List.range m).map vI⟩]++(oy m vI oM)) _:=S.permO (List.perm_append_singleton _ _).symm;have al:(kJ m).nodes.length=m:=by simp [kJ]
 have aP:=mD.start a0 m;have an:=aj;obtain⟨gW,aQ⟩:∃ gW,gW=a:=⟨_,rfl⟩;subst aQ
 skip
 refine ly sn S Ya (ln (fJ (er (ly (sc N l.length O) S Ym (ly (ni (l.length:Int)) S (Yl qP) (ly (ni 0) S Ym (ln (go ?_))))))));refine et [(1,sc N l.length O),(4,pa G 0),(5,sn),(6,ni 0),(7,pa gW 0),(64,ni (l.length:Int)),(65,ni (0:Int)),(11,sn)] (fun K => ?_);refine j1 (fun(P:Nat × (iG) × (List Int) × PrF × (List Value) × (Option Addr) × Nat × Nat × (List Value)) ov w=>match P with | (i,xw,es,pr,xsN,AO,nO,cO,xsO) => ∃ rd' K,ov=[(1,sc N l.length O),(4,pa G 0),(5,sn),(6,ni 0),(7,pa gW 0),(64,ni (l.length:Int)),(65,ni (i:Int)),(11,sc AO nO cO)]++K∧St [] W rd rd' [(G,58,#[sn,sn]),(gW,109,#[sb gN 0 m cN,sb gV 0 m cV])] ([⟨35,1,sc AO nO cO,nO,xsO⟩,⟨31,7,sb gN 0 m cN,m,xsN⟩,⟨67,1,sb gV 0 m cV,m,(List.range m).map vI⟩]++(oy m vI pr)) w∧Rd.le a0 rd'∧(fQ 1 ge rd' xsO es∧nO=es.length)∧(fQ 7 gT rd' xsN xw.nodes∧m=xw.nodes.length)∧mD rd' i m pr xw.way∧i≤l.length∧xw=(kC (kJ m) (l.take i)).1∧es=(kC (kJ m) (l.take i)).2∧xw.nodes.length=m) (fun P=>match P with | (i,xw,es,pr,xsN,AO,nO,cO,xsO)=>l.length - i) (0,(kJ m),[],oM,xsN,none,0,0,[]) ⟨_,K,rfl,(S.rw' rfl rfl),fZ,⟨aO,rfl⟩,⟨ON,al.symm⟩,aP,(by omega),rfl,rfl,al⟩ ?_;rintro⟨i,xw,es,pr,xsN,AO,nO,cO,xsO⟩ _ _ ⟨aR,K,rfl,S,aS,⟨OO,_⟩,⟨ON,_⟩,L,_,Y,a2,ao⟩;have bi:es.length≤150:=by rw [a2,uG];exact Nat.le_trans (List.length_take_le' _ _) ai
 refine er ?_;by_cases ap:(i:Int)<(l.length:Int)
 ·
  refine ly (.bool true) S (gJ rfl rfl ap) (ln (fJ (fS rfl (g1 (fM (fJ (go (er (ly (ni (i:Int)) S Ym (ly (ni (i:Int)) S Ya (ln (gU ?_))))))))))));refine ly (sc AO nO cO) S Ym (ly (pa gW 0) S Ym (ly (sc N l.length O) S Ym (ly (ni (i:Int)) S Ym ?_)));obtain⟨M,a5⟩:∃ z,(l)[i]? = some z:=gX (by first | assumption | omega);obtain⟨a6,_,aT,_,aU,aV⟩:=hD qP sw h a5;obtain⟨aW,aX,rfl,aY,_⟩:=aU.d;refine ly a6 S (aV rfl rfl (by first | rfl | omega)) ?_;have S:=S.toEndB (i:=1) rfl;have S:St [] W rd aR ([(G,58,#[sn,sn])]++[(gW,109,#[sb gN 0 m cN,sb gV 0 m cV])]) ([⟨35,1,sc AO nO cO,nO,xsO⟩]++([⟨31,7,sb gN 0 m cN,m,xsN⟩,⟨67,1,sb gV 0 m cV,m,(List.range m).map vI⟩]++(oy m vI pr))) _:=S.rw' rfl rfl;refine g7 (g4 (vs:=[pa gW 0,a6]) (CF 70 _) rfl rfl) (CO _ _ gW gN gV m cN cV i xw vI pr xsN ao an a3 (by omega) (S.give (bxk:=[(G,58,#[sn,sn])]) (bx0:=[(gW,109,#[sb gN 0 m cN,sb gV 0 m cV])]) (owk:=[⟨35,1,sc AO nO cO,nO,xsO⟩]) (ow0:=([⟨31,7,sb gN 0 m cN,m,xsN⟩,⟨67,1,sb gV 0 m cV,m,(List.range m).map vI⟩]++(oy m vI pr))) rfl rfl) ON L M a6 rl aW aX (S.leX hls (fun g aZ=>by cases aZ)) (S.newX hls) aY aT) ?_;rintro e _ ⟨b0,a7,a8,rfl,Q,b1,aq,b2⟩;have ar:=Q.sup;have S:=S.comp (bxk:=[(G,58,#[sn,sn])]) (bx0:=[(gW,109,#[sb gN 0 m cN,sb gV 0 m cV])]) (owk:=[⟨35,1,sc AO nO cO,nO,xsO⟩]) (ow0:=([⟨31,7,sb gN 0 m cN,m,xsN⟩,⟨67,1,sb gV 0 m cV,m,(List.range m).map vI⟩]++(oy m vI pr))) rfl rfl Q;replace OO:=rm OO ar;have S:St [] W rd b0 [(G,58,#[sn,sn]),(gW,109,#[sb gN 0 m cN,sb gV 0 m cV])] ([⟨35,1,sc AO nO cO,nO,xsO⟩,⟨31,7,sb gN 0 m cN,m,a7⟩,⟨67,1,sb gV 0 m cV,m,(List.range m).map vI⟩]++(oy m vI a8)) _:=S.rw' rfl rfl;refine g9 (iZ (ps:=[(0,ni ((gR xw M).2))]) (cs:=#[ni ((gR xw M).2)]) S pL qS yi rfl rfl rfl (by kernel_rfl) fun _ _ S => ?_);refine js (e':=0) (i:=0) (i':=2) S zP rfl rfl rfl rfl rfl rfl rfl (by simp only [maxLen];omega) (by first | omega | (dsimp only;omega)) fun b3 _ S => ?_
  have OO:=fQ.push (x:=(gR xw M).2) (cs:=[ni ((gR xw M).2)]) OO rfl rfl;obtain⟨a9,aa,b4,_,_⟩:∃ A c,b3 = .slice A (nO+1) c∧(nO+1)≤c∧c≤maxLen:=i8 S (i:=0) rfl;subst b4
  skip
  refine ly (sc a9 (nO+1) aa) S Ya (fL (gA (nr (ly (ni ((i:Int)+1)) S (gw (r:=(i:Int)+1) rfl rfl (gl (by omega) (by omega))) (ly (ni ((i:Int)+1)) S Ym (fL ?_))))));refine fK ⟨(i+1,(gR xw M).1,es++[(gR xw M).2],a8,a7,a9,nO+1,aa,(xsO++[ni ((gR xw M).2)])),_,fk,⟨_,_,rfl,(St.tkF (l:=[⟨35,1,sc a9 (nO+1) aa,nO+1,xsO++[ni ((gR xw M).2)]⟩,⟨31,7,sb gN 0 m cN,m,a7⟩,⟨67,1,sb gV 0 m cV,m,(List.range m).map vI⟩]) (F:=oy m vI a8) S 2 3 rfl rfl).rw' rfl rfl,(fY aS (fY fZ ar)),⟨OO,(by simp;omega)⟩,⟨b1,aq.symm⟩,b2,(by omega),(wn Y a5),(wC Y a2 a5),aq⟩,?_⟩
  show _<_;dsimp only;omega
 refine ly (.bool false) S (gH rfl rfl ap) (ln (fJ (fV rfl (iP (iQ (j0 (iR (fM (er ?_)))))))));obtain rfl:i=l.length:=by omega
 rw [List.take_of_length_le (Nat.le_refl _)] at Y a2;have au:=lc.run (l:=l) (yI a3 Z);rw [← Y,List.nil_append] at au;have b5:=lc.bd au (yj l _) L (by omega)
 skip
 refine ly (pa gW 0) S Ym (ly (pa gW 0) S Yn (ly (pa gW 0) S (Yb lC) (ly (.agg #[sb gN 0 m cN,sb gV 0 m cV]) S (gf 1 nq) ?_)));obtain⟨b6,S,ab,b7⟩:=St.frzP (l:=[⟨35,1,sc AO nO cO,nO,xsO⟩,⟨31,7,sb gN 0 m cN,m,xsN⟩,⟨67,1,sb gV 0 m cV,m,(List.range m).map vI⟩]) (vI:=vI) (pr:=pr) S L;replace ON:=rm ON ab;replace L:=mD.up L ab;replace OO:=rm OO ab;have S:St [] W rd b6 ([(G,58,#[sn,sn]),(gW,109,#[sb gN 0 m cN,sb gV 0 m cV])]++[]) ([⟨35,1,sc AO nO cO,nO,xsO⟩,⟨31,7,sb gN 0 m cN,m,xsN⟩]++([⟨67,1,sb gV 0 m cV,m,(List.range m).map vI⟩]++kZ 66 m vI pr)) _:=S.rw' (by simp) rfl;refine g7 (g4 (vs:=[.agg #[sb gN 0 m cN,sb gV 0 m cV]]) (CF 71 _) rfl rfl) (E4 _ _ gV m cV (some ⟨gN,0,none⟩) m cN vI pr _ (S.give (bxk:=[(G,58,#[sn,sn]),(gW,109,#[sb gN 0 m cN,sb gV 0 m cV])]) (bx0:=[]) (owk:=[⟨35,1,sc AO nO cO,nO,xsO⟩,⟨31,7,sb gN 0 m cN,m,xsN⟩]) (ow0:=([⟨67,1,sb gV 0 m cV,m,(List.range m).map vI⟩]++kZ 66 m vI pr)) rfl rfl) Z b7 an (E2) b5) ?_;rintro e _ ⟨_,b8,rfl,Q,b9⟩;have ac:=Q.sup;have S:=S.comp (bxk:=[(G,58,#[sn,sn]),(gW,109,#[sb gN 0 m cN,sb gV 0 m cV])]) (bx0:=[]) (owk:=[⟨35,1,sc AO nO cO,nO,xsO⟩,⟨31,7,sb gN 0 m cN,m,xsN⟩]) (ow0:=([⟨67,1,sb gV 0 m cV,m,(List.range m).map vI⟩]++kZ 66 m vI pr)) rfl rfl Q;replace ON:=rm ON ac;replace L:=mD.up L ac;replace OO:=rm OO ac;obtain⟨ba,S,av,ad⟩:=St.frzW (l:=[⟨35,1,sc AO nO cO,nO,xsO⟩,⟨31,7,sb gN 0 m cN,m,xsN⟩]) (vI:=vI) (pr:=b8) (S.rw' rfl rfl) L.l L.r b9;replace ON:=rm ON av;replace OO:=rm OO av;have S:St [] W rd ba [(G,58,#[sn,sn]),(gW,109,#[sb gN 0 m cN,sb gV 0 m cV])] [⟨35,1,sc AO nO cO,nO,xsO⟩,⟨31,7,sb gN 0 m cN,m,xsN⟩] _:=S.rw' (by simp) rfl;refine g9 ?_;obtain⟨bb,S,ae,bc⟩:=S.frzo' (i:=1) rfl rfl;replace ON:=rm ON ae;replace OO:=rm OO ae;replace ad:=fm ad ae;have be:fN 7 gT bb (sb gN 0 m cN) xw.nodes:=bc ao.symm ON;refine ly (sc AO nO cO) S Ym (fT (u:=.agg #[sb gN 0 m cN,sb gV 0 m cV]) (i:=0) (cs':=#[sb gN 0 m cN,sb gV 0 m cV]) S rfl rfl rfl np rfl rfl rfl fun _ S=>ly (sc AO nO cO) S Ya (ly (ni 0) S Ya (ln (fR ?_))));refine pX (v:=.agg #[sb gN 0 m cN,sb gV 0 m cV]) (v':=sc AO nO cO) (v'':=ni 0) rfl ⟨_,rfl,gu (i:=0) (vs:=[sb gN 0 m cN,sb gV 0 m cV]) S rfl nq rfl rfl⟩ rfl rfl ?_;have es':l3 (m:Int) l=(xw,es,0):=by rw [ze a3 Z ai,← Y,← a2]
 rw [es'];obtain rfl:nO=es.length:=by assumption
 exact⟨_,_,_,_,rfl,(S.tt 0 1).rw' rfl rfl,⟨_,rfl,⟨_,_,rfl,be,ad⟩⟩,OO⟩
abbrev qG(gW gN gV n cN cV:Nat):List je:=[(gW,58,#[.slice (some ⟨gN,0,none⟩) n cN,.slice (some ⟨gV,0,none⟩) n cV])]
structure mf (rd:Rd) (n:Nat) (pr:PrF) (way:List (List (List i2))):Prop where
 s:n8 rd n pr way
 l:way.length=n
 r:∀ x∈way,x.length=n
 h:∀ a,a<n → ∀ b,b<n→(iU way a b).length≤20
theorem mf.mono{rd rd':Rd}{n:Nat}{pr:PrF}{way:List (List (List i2))}(h:mf rd n pr way)(k:Rd.le rd rd'):mf rd' n pr way:=⟨h.s.mono k,h.l,h.r,h.h⟩
theorem mf.put{rd:Rd}{n a b:Nat}{pr:PrF}{way:List (List (List i2))}{v:Value}{q:List i2}(h:mf rd n pr way)(ha:a<n)(hb:b<n)(hv:fN 6 j5 rd v q)(hq:q.length≤20):mf rd n (lK pr (a,b) ⟨lB,0,0,[],v⟩) (kT way a b q):=by
 obtain⟨f,g⟩:=vj (q:=q) (b:=b) h.l h.r ha
 refine⟨fun x c z d => ?_,f,g,fun x c z d => ?_⟩
 ·rw [qY h.l h.r ha hb]
  unfold lK
  by_cases e:x=a∧z=b
  ·rw [if_pos e,if_pos (by rw [e.1,e.2])];exact hv
  ·rw [if_neg e,if_neg (fun k=>e (by injection k with i j;exact⟨i,j⟩))];exact h.s x c z d
 ·rw [qY h.l h.r ha hb]
  split
  ·exact hq
  ·exact h.h x c z d
theorem mf.start(rd:Rd)(n:Nat):mf rd n oM (kJ n).way:=⟨fun a ha b hb=>by
  show fN 6 j5 rd lB (iU (List.replicate n (List.replicate n [])) a b)
  rw [uk ha hb]
  exact fN.nil_ _,by simp [kJ],fun x hx=>by
  have:=List.eq_of_mem_replicate hx;subst this;simp,fun a ha b hb=>by
  show(iU (List.replicate n (List.replicate n [])) a b).length≤20
  rw [uk ha hb];exact Nat.zero_le _⟩
theorem Du{X:List Nat}(rd:Rd)(W:World)(gW gN gV m cN cV:Nat)(x:iG)(vI:Nat→Value)(pr:PrF)(xsN:List Value)(hn:x.nodes.length=m)(hV:∀ y,y<m → ∃ g c,vI y = .slice (some ⟨g,0,none⟩) m c)(hm:1≤m)
  (S0:St X W rd rd (qG gW gN gV m cN cV) ([mF gN m cN xsN,mw gV m cV vI]++kZ 66 m vI pr) W) (ON:fQ 7 gT rd xsN x.nodes) (hW:mf rd m pr x.way) (d:Do) (rl:Rd) (As:Option Addr) (cs:Nat) (hls:Rd.le rl (fX W)) (hlX:∀ g∈nf (qG gW gN gV m cN cV) ([mF gN m cN xsN,mw gV m cV vI]++kZ 66 m vI pr),∀ o,rl g o=none)
  (hs:fN 1 ge rl (.slice As d.update.seen.length cs) d.update.seen) :
  Calls Tryz.prog 72 #[(pa gW 0),(.agg (kD d As cs))] W (fun e w' => ∃ rd' xsN' pr',e = .returned (.int .i64 (gR x d).2)∧St X W rd rd' (qG gW gN gV m cN cV) ([mF gN m cN xsN',mw gV m cV vI]++kZ 66 m vI pr') w'∧fQ 7 gT rd' xsN' (gR x d).1.nodes∧(gR x d).1.nodes.length=m∧mf rd' m pr' (gR x d).1.way):=by
 obtain⟨a,b,f,j,C,D⟩:=zK hm d.n d.to
 obtain⟨gI,cI,t⟩:=hV a f
 have u:=hW.s a f b j
 obtain⟨At,ct,z,_,_⟩:=u.val
 rw [z] at u
 have A:∀ (xs:List Value) (v:h7),([mF gN m cN xs,mw gV m cV vI]++[v]++lE 66 m vI pr a).Perm (lE 66 m vI pr a++[mF gN m cN xs,mw gV m cV vI,v]):=fun xs v=>List.perm_append_comm
 have B:St X W rd rd ([]++qG gW gN gV m cN cV) (lE 66 m vI pr a++[mF gN m cN xsN,mw gV m cV vI,⟨66,1,.slice (some ⟨gI,0,none⟩) m cI,m,ju m pr a⟩]) W:=by
  have h:=St.permO (St.pickI S0 f) (A xsN _).symm
  rw [t] at h
  exact h
 have E:(ju m pr a)[b]? = some (.slice At (iU x.way a b).length ct):=by rw [tP j,z]
 refine(Eh rd W gW gN gV gI m cN cV cI a b ct x (iU x.way a b) At xsN ((List.range m).map vI) (ju m pr a) (fun g w => ?_) f j hn rfl (hW.h a f b j) hW.l hW.r (by simp) (rp m pr a) (B.give rfl rfl) ON
  (by rw [List.getElem?_map,List.getElem?_range f,Option.map_some,t]) E u d rl As cs hls (fun g w => ?_) hs C D).mono ?_
 ·rcases pN w with⟨q,hq,rfl⟩ | ⟨q,hq,e⟩
  ·obtain rfl:=List.mem_singleton.1 hq;exact .inl rfl
  ·simp only [List.mem_cons,List.not_mem_nil,or_false] at hq
   rcases hq with rfl | rfl | rfl <;> (injection e with e;subst e)
   ·exact .inr (.inl rfl)
   ·exact .inr (.inr (.inl rfl))
   ·exact .inr (.inr (.inr rfl))
 ·rcases pN w with⟨q,hq,rfl⟩ | ⟨q,hq,e⟩
  ·exact hlX _ (vo hq)
  ·simp only [List.mem_cons,List.not_mem_nil,or_false] at hq
   rcases hq with rfl | rfl | rfl
   ·exact hlX g (rR (List.mem_append_left _ (.head _)) e)
   ·exact hlX g (rR (List.mem_append_left _ (.tail _ (.head _))) e)
   ·exact hlX g (rR (q:=lW 66 m vI pr a) (List.mem_append_right _ (List.mem_map.2 ⟨a,List.mem_range.2 f,rfl⟩)) (by show(vI a).ownBlock=_;rw [t];exact e))
 ·rintro e w' ⟨rd',xsN',_,v',rfl,k,p⟩
  have L:=k.sup
  have F:=B.comp (bxk:=[]) (bx0:=qG gW gN gV m cN cV) (owk:=lE 66 m vI pr a) rfl rfl k
  have G:St X W rd rd' (qG gW gN gV m cN cV) (([mF gN m cN xsN',mw gV m cV vI]++[⟨66,1,vI a,m,ju m (lK pr (a,b) ⟨lB,0,0,[],v'⟩) a⟩])++lE 66 m vI (lK pr (a,b) ⟨lB,0,0,[],v'⟩) a) w':=by
   rw [xy,wM j,t]
   refine St.permO ?_ (A xsN' _)
   have h:=F
   rw [p.i] at h
   exact h
  refine⟨rd',xsN',_,rfl,St.putI G f,p.nodes,p.len,?_⟩
  rw [p.way]
  exact(hW.mono L).put f j p.s p.l
theorem Bi(rd:Rd)(W:World)(hle:Rd.le rd (fX W))(n:Int)(v:Value)(l:List Do)(rl:Rd)(hls:Rd.le rl (fX W))(h:fN 8 oQ rl v l)(P:iG × List Int × Int)(hP:P=l3 n l) :
    Calls Tryz.prog 33 #[(.int .i64 n),v] W (fun e w' => ∃ wv ev,e = .returned (.tuple #[wv,ev,.int .i64 P.2.2])∧fW mS (ext rd W w') wv P.1∧fN 1 ge (ext rd W w') ev P.2.1∧Below W.heap.size W w'):=by
 obtain⟨T,U,rfl,_,_⟩:=h.val;have bd:=il;have S:St [] W rd rd [] [] W:=St.start hle;refine io (args:=[ni n,sc T l.length U]) 65 Tryz.func33 rfl rfl rfl ?_;refine er (gk (cs:=rk) S qQ rfl fun G _ S=>ly sn S Ya (ly (ni 0) S Ya (ln (fJ (er (ly (ni n) S Ym ?_))))));by_cases al:n<1
 ·
  refine ly (.bool true) S (gJ rfl rfl al) (ly (.bool true) S Ym (ls 16 (ls 16 (ly (.bool true) S Yt (ly (.bool true) S Ym (ls 20 (ls 20 (ls 20 (ly (.bool true) S Yt (ln (fS rfl (er (ly (.agg #[sn,sn]) S (gy (ps:=[]) rfl (fun _=>by kernel_rfl)) ?_)))))))))))));refine fT (u:=.agg #[sn,sn]) (i:=0) (cs':=#[sn,sn]) S rfl rfl rfl np rfl rfl rfl fun _ S=>ly sn S Ya (ly (ni 5) S Ya (ln (fR ?_)))
  refine pX (v:=.agg #[sn,sn]) (v':=sn) (v'':=ni 5) rfl ⟨_,rfl,gu (i:=0) (vs:=[sn,sn]) S rfl nq rfl rfl⟩ rfl rfl ?_;have es':l3 n l=(nL,[],5):=by unfold l3;rw [if_pos (by omega)]
  rw [hP,es'];exact⟨_,_,rfl,⟨_,rfl,(⟨_,_,rfl,fU,fU⟩:mS _ _ nL)⟩,fU,S.below⟩
 refine ly (.bool false) S (gH rfl rfl al) (ly (.bool false) S Ym (lg 16 (ni n) S Ym ?_));by_cases an:6<n
 ·
  refine lg 16 (.bool true) S (ko rfl rfl an) (ly (.bool true) S Yf (ly (.bool true) S Ym (ls 20 (ls 20 (ls 20 (ly (.bool true) S Yt (ln (fS rfl (er (ly (.agg #[sn,sn]) S (gy (ps:=[]) rfl (fun _=>by kernel_rfl)) (fT (u:=.agg #[sn,sn]) (i:=0) (cs':=#[sn,sn]) S rfl rfl rfl np rfl rfl rfl fun _ S=>ly sn S Ya (ly (ni 5) S Ya ?_))))))))))));refine ln (fR ?_);refine pX (v:=.agg #[sn,sn]) (v':=sn) (v'':=ni 5) rfl ⟨_,rfl,gu (i:=0) (vs:=[sn,sn]) S rfl nq rfl rfl⟩ rfl rfl ?_;have es':l3 n l=(nL,[],5):=by unfold l3;rw [if_pos (by omega)]
  rw [hP,es'];exact⟨_,_,rfl,⟨_,rfl,(⟨_,_,rfl,fU,fU⟩:mS _ _ nL)⟩,fU,S.below⟩
 refine lg 16 (.bool false) S (kt rfl rfl an) (ly (.bool false) S Yf (ly (.bool false) S Ym (lg 20 (sc T l.length U) S Ym (lg 20 (ni (l.length:Int)) S (Yl qP) ?_))));by_cases ao:150<(l.length:Int)
 ·
  refine lg 20 (.bool true) S (ko rfl rfl ao) (ly (.bool true) S Yf (ln (fS rfl (er (ly (.agg #[sn,sn]) S (gy (ps:=[]) rfl (fun _=>by kernel_rfl)) (fT (u:=.agg #[sn,sn]) (i:=0) (cs':=#[sn,sn]) S rfl rfl rfl np rfl rfl rfl fun _ S=>ly sn S Ya (ly (ni 5) S Ya (ln (fR ?_)))))))));refine pX (v:=.agg #[sn,sn]) (v':=sn) (v'':=ni 5) rfl ⟨_,rfl,gu (i:=0) (vs:=[sn,sn]) S rfl nq rfl rfl⟩ rfl rfl ?_;have es':l3 n l=(nL,[],5):=by unfold l3;rw [if_pos (by omega)]
  rw [hP,es'];exact⟨_,_,rfl,⟨_,rfl,(⟨_,_,rfl,fU,fU⟩:mS _ _ nL)⟩,fU,S.below⟩
 refine lg 20 (.bool false) S (kt rfl rfl ao) (ly (.bool false) S Yf (ln (fV rfl (g1 (fM (er ?_))))));obtain⟨m,rfl⟩:∃ m:Nat,n=(m:Int):=⟨n.toNat,by omega⟩;have ap:1≤m:=by omega
 have aq:m≤6:=by omega
 have ar:l.length≤150:=by omega
 skip
 refine ly (.agg #[sn,sn]) S (gy (ps:=[]) rfl (fun _=>by kernel_rfl)) (gk (cs:=rk) S qQ rfl fun I _ S=>fT (u:=.agg #[sn,sn]) (i:=1) (cs':=#[sn,sn]) S rfl rfl rfl np rfl rfl rfl fun _ S=>ln (fJ (er (ly (ni 0) S Ya (ln (go ?_))))));have S:=S.ownNil 31 7;have S:=S.ownNil 67 1;have aB:fQ 7 gT rd [] []:=rfl;have aC:fQ 1 mW rd [] []:=rfl;have S:St [] W rd rd [(G,58,#[sn,sn]),(I,58,#[sn,sn])] ([⟨31,7,sn,0,[]⟩,⟨67,1,sn,0,[]⟩]++mK 66 m (fun _=>lB) 0) _:=S.rw' rfl rfl;refine et [(0,ni (m:Int)),(1,sc T l.length U),(4,pa G 0),(5,sn),(6,ni 0),(7,pa I 0),(8,ni (0:Int))] (fun R => ?_);refine j1 (fun(V:Nat × (Option Addr) × Nat × (List Value) × (Option Addr) × Nat × (Nat→Value)) ov w=>match V with | (k,AN,cN,xsN,AV,cV,vI) => ∃ rd' R,ov=[(0,ni (m:Int)),(1,sc T l.length U),(4,pa G 0),(5,sn),(6,ni 0),(7,pa I 0),(8,ni (k:Int))]++R∧St [] W rd rd' [(G,58,#[sn,sn]),(I,58,#[sc AN k cN,sc AV k cV])] ([⟨31,7,sc AN k cN,k,xsN⟩,⟨67,1,sc AV k cV,k,(List.range k).map vI⟩]++(mK 66 m vI k)) w∧Rd.le rd rd'∧(fQ 7 gT rd' xsN (p3 m k)∧k=(p3 m k).length)∧(fQ 1 mW rd' ((List.range k).map vI) ((List.range k).map vI)∧k=((List.range k).map vI).length)∧k≤m∧(∀ y,y<k → ∃ g c,vI y = .slice (some ⟨g,0,none⟩) m c)) (fun V=>match V with | (k,AN,cN,xsN,AV,cV,vI)=>m - k) (0,none,0,[],none,0,(fun _=>lB)) ⟨_,R,rfl,(S.rw' rfl rfl),fZ,⟨aB,rfl⟩,⟨aC,rfl⟩,(by omega),(fun y aD=>absurd aD (Nat.not_lt_zero y))⟩ ?_;rintro⟨k,AN,cN,xsN,AV,cV,vI⟩ _ _ ⟨Z,R,rfl,S,aE,⟨ON,_⟩,⟨OV,_⟩,_,au⟩;refine fJ (er (ly (ni (k:Int)) S Ym (ly (ni (m:Int)) S Ym ?_)));by_cases av:(k:Int)<(m:Int)
 ·
  refine ly (.bool true) S (gJ rfl rfl av) (ln (fS rfl (g1 (fM (fJ (go (er (ly (ni (k:Int)) S Ym (ly (ni (m:Int)) S Ym ?_)))))))));refine g7 (g4 (vs:=[ni (k:Int),ni (m:Int)]) (CF 18 _) rfl rfl) (Cy _ _ S.le  (k:Int) (m:Int) ) ?_;rintro e _ ⟨_,rfl,a0,a5⟩;obtain⟨a1,S,ad,_,aF⟩:=S.call' a5;replace ON:=rm ON ad;replace OV:=rm OV ad;replace a0:=am a0 aF;obtain⟨_,rfl,a0⟩:=a0;obtain⟨a,b,f,j,o,p,q,t,B,C,D,E,rfl,aG,aH,aI,aJ,aK,aL,_⟩:=a0.d;refine g9 (ly (.tuple #[.agg (kN ((i6 (k:Int) (m:Int)).1) a b f j o p q t B C D E),ni ((i6 (k:Int) (m:Int)).2)]) S Ym (ly (.agg (kN ((i6 (k:Int) (m:Int)).1) a b f j o p q t B C D E)) S Ye (ly (ni ((i6 (k:Int) (m:Int)).2)) S Ye (gk (cs:=jR) S jE rfl fun a6 _ S=>fT (u:=.agg (kN ((i6 (k:Int) (m:Int)).1) a b f j o p q t B C D E)) (i:=2) (cs':=(kN ((i6 (k:Int) (m:Int)).1) a b f j o p q t B C D E)) S rfl rfl rfl hY rfl rfl rfl fun _ S=>ly (ni ((i6 (k:Int) (m:Int)).2)) S Ya (ln (er (ly (pa I 0) S (Yb lG) (ly (sc AN k cN) S (fI 1 m9) (ly (.agg (kN ((i6 (k:Int) (m:Int)).1) a b f j o p q t B C D E)) S (gf 2 ij) (iZ (ps:=[(0,.agg (kN ((i6 (k:Int) (m:Int)).1) a b f j o p q t B C D E))]) (cs:=#[ni ((i6 (k:Int) (m:Int)).1.self),sc a (((i6 (k:Int) (m:Int)).1.state.clock).length) b,sc f (((i6 (k:Int) (m:Int)).1.state.lives).length) j,sc o (((i6 (k:Int) (m:Int)).1.state.tallies).length) p,sc q (((i6 (k:Int) (m:Int)).1.base).length) t,sc B (((i6 (k:Int) (m:Int)).1.log).length) C,sc D (((i6 (k:Int) (m:Int)).1.known).length) E]) S lU hY jE rfl rfl rfl (by kernel_rfl) fun a7 _ S => ?_))))))))));refine js (e':=0) (i:=0) (i':=3) S wP rfl rfl rfl rfl rfl rfl rfl (by simp only [maxLen];omega) (by first | omega | (dsimp only;omega)) fun aM _ S => ?_
  have ON:=fQ.push (x:=(i6 (k:Int) (m:Int)).1) (cs:=(kN ((i6 (k:Int) (m:Int)).1) a b f j o p q t B C D E).toList) ON rfl ⟨_,_,_,_,_,_,rfl,aG,aH,aI,aJ,aK,aL⟩;obtain⟨L,M,aN,_,_⟩:∃ A c,aM = .slice A (k+1) c∧(k+1)≤c∧c≤maxLen:=i8 S (i:=0) rfl;subst aN;refine ly (pa I 0) S (Yb lG) (fT (u:=sc L (k+1) M) (i:=1) (cs':=#[sc L (k+1) M,sc AV k cV]) S rfl rfl rfl tI rfl rfl rfl fun _ S=>ln ?_);refine nC (fun w=>St [] W rd a1 [(G,58,#[sn,sn]),(I,58,#[sc L (k+1) M,sc AV k cV]),(a6,31,(kN ((i6 (k:Int) (m:Int)).1) a b f j o p q t B C D E)),(a7,31,(kN ((i6 (k:Int) (m:Int)).1) a b f j o p q t B C D E))] [] w) (fun w=>St [] W rd a1 [(G,58,#[sn,sn]),(a6,31,(kN ((i6 (k:Int) (m:Int)).1) a b f j o p q t B C D E)),(a7,31,(kN ((i6 (k:Int) (m:Int)).1) a b f j o p q t B C D E))] [] w) 7 MX rfl ?_;have S:=S.drew;have be:=S.sup;have SC:=S.tt 4 0;refine tb (pa I 1) 0 [1,5,6,7] rfl rfl SC (Yb l9) (tb (sc AV k cV) 1 [5,6,7] rfl rfl SC (fI 1 lA) (tb (ni (m:Int)) 2 [3,4,5,6,7] rfl rfl SC Ym ?_));refine bO 3 rfl (by kernel_rfl) (mm (m:=m) (size:=1) S zZ x8 rfl rfl rfl rfl (by omega) (by simp only [maxLen];omega) fun J _ S => ?_)
  have aO:fQ 1 mW a1 ((madeCells (Value.slice none 0 0).cells (m * 1)).toList) (List.replicate m lB):=xm m;have S:St [] W rd a1 [(G,58,#[sn,sn]),(I,58,#[sc L (k+1) M,sc AV k cV]),(a6,31,(kN ((i6 (k:Int) (m:Int)).1) a b f j o p q t B C D E)),(a7,31,(kN ((i6 (k:Int) (m:Int)).1) a b f j o p q t B C D E))] ([⟨31,7,sc L (k+1) M,k+1,xsN++(kN ((i6 (k:Int) (m:Int)).1) a b f j o p q t B C D E).toList⟩,⟨67,1,sc AV k cV,k,(List.range k).map vI⟩,⟨66,1,sb J 0 m m,m,(madeCells (Value.slice none 0 0).cells (m * 1)).toList⟩]++(mK 66 m vI k)) _:=(St.rotO (l:=[⟨31,7,sc L (k+1) M,k+1,xsN++(kN ((i6 (k:Int) (m:Int)).1) a b f j o p q t B C D E).toList⟩,⟨67,1,sc AV k cV,k,(List.range k).map vI⟩]) (F:=mK 66 m vI k) (m:=[⟨66,1,sb J 0 m m,m,(madeCells (Value.slice none 0 0).cells (m * 1)).toList⟩]) S).rw' rfl rfl;refine fL ?_;have SC:=S.tt 4 0;refine fK (bk SC ?_);refine bO 4 rfl (by kernel_rfl) (iZ (ps:=[(0,sb J 0 m m)]) (cs:=#[sb J 0 m m]) S lw lV y8 rfl rfl rfl (by kernel_rfl) fun aP _ S=>fL ?_)
  have SC:=S.tt 4 0;refine fK (bk SC ?_);refine bO 5 rfl (by kernel_rfl) (js (e':=0) (i:=1) (i':=4) S xA rfl rfl rfl rfl rfl rfl rfl (by simp only [maxLen];omega) (by first | omega | (dsimp only;omega)) fun aQ _ S => ?_)
  have OV:=fQ.push (x:=(sb J 0 m m)) (cs:=[sb J 0 m m]) OV rfl ⟨rfl,rfl⟩;obtain⟨X,Y,aR,_,_⟩:∃ A c,aQ = .slice A (k+1) c∧(k+1)≤c∧c≤maxLen:=i8 S (i:=1) rfl;subst aR;refine fL ?_;have SC:=S.tt 4 0;refine fK (bk SC ?_);refine tb (pa I 1) 6 [7] rfl rfl SC (Yb l9) (bO 7 rfl (by kernel_rfl) ?_);refine fT (u:=sc X (k+1) Y) (i:=1) (cs':=#[sc L (k+1) M,sc X (k+1) Y]) S rfl rfl rfl u1 rfl rfl rfl fun _ S=>fL ?_
  have SC:=((S.tt 4 0).del 1);refine fK (bs SC ?_);refine gE (by kernel_rfl) ?_;refine gA (nr (ly (ni (k:Int)) S Ym (ly (ni ((k:Int)+1)) S (gw (r:=(k:Int)+1) rfl rfl (gl (by omega) (by omega))) (ly (ni ((k:Int)+1)) S Ya (fL ?_)))));rw [mW.eq aO] at S;have S:=S.toEndO (i:=2) rfl;have S:St [] W rd a1 [(G,58,#[sn,sn]),(I,58,#[sc L (k+1) M,sc X (k+1) Y]),(a6,31,(kN ((i6 (k:Int) (m:Int)).1) a b f j o p q t B C D E)),(a7,31,(kN ((i6 (k:Int) (m:Int)).1) a b f j o p q t B C D E)),(aP,67,#[sb J 0 m m])] ([⟨31,7,sc L (k+1) M,k+1,xsN++(kN ((i6 (k:Int) (m:Int)).1) a b f j o p q t B C D E).toList⟩,⟨67,1,sc X (k+1) Y,k+1,((List.range k).map vI)++[sb J 0 m m]⟩]++mK 66 m (lz vI k (sb J 0 m m)) (k+1)) _:=S.rw' rfl (by rw [yv];rfl);rw [← zy (by omega) aq] at ON;rw [← xq] at OV S;refine fK ⟨(k+1,L,M,(xsN++(kN ((i6 (k:Int) (m:Int)).1) a b f j o p q t B C D E).toList),X,Y,(lz vI k (sb J 0 m m))),_,fk,⟨_,_,rfl,(St.tkF (l:=[⟨31,7,sc L (k+1) M,k+1,xsN++(kN ((i6 (k:Int) (m:Int)).1) a b f j o p q t B C D E).toList⟩,⟨67,1,sc X (k+1) Y,k+1,(List.range (k+1)).map (lz vI k (sb J 0 m m))⟩]) (F:=mK 66 m (lz vI k (sb J 0 m m)) (k+1)) S 2 2 rfl rfl).rw' rfl rfl,(fY aE (fY fZ ad)),⟨ON,(by unfold p3;simp)⟩,⟨OV,(by simp)⟩,(by omega),(zz au)⟩,?_⟩
  show _<_;dsimp only;omega
 refine ly (.bool false) S (gH rfl rfl av) (ln (fV rfl (iP (iQ (j0 (iR (fM (er ?_))))))));have aS:m=k:=by omega
 subst aS;obtain⟨gN,rfl⟩:=pp S (i:=0) rfl rfl (show m ≠ 0 by omega);obtain⟨gV,rfl⟩:=pp S (i:=1) rfl rfl (show m ≠ 0 by omega);have S:St [] W rd Z [(G,58,#[sn,sn]),(I,58,#[sb gN 0 m cN,sb gV 0 m cV])] ([⟨31,7,sb gN 0 m cN,m,xsN⟩,⟨67,1,sb gV 0 m cV,m,(List.range m).map vI⟩]++kZ 66 m vI oM) _:=S.rw' rfl (by rw [wO]);have S:=S.ownNil 35 1;have aT:fQ 1 ge Z [] []:=rfl;have S:St [] W rd Z [(G,58,#[sn,sn]),(I,58,#[sb gN 0 m cN,sb gV 0 m cV])] ([⟨35,1,sn,0,[]⟩,⟨31,7,sb gN 0 m cN,m,xsN⟩,⟨67,1,sb gV 0 m cV,m,(List.range m).map vI⟩]++(kZ 66 m vI oM)) _:=S.permO (List.perm_append_singleton _ _).symm;have aw:(kJ m).nodes.length=m:=by simp [kJ]
 have N:=mf.start Z m;have aU:=au;obtain⟨gW,aV⟩:∃ gW,gW=I:=⟨_,rfl⟩;subst aV
 skip
 refine ly sn S Ya (ln (fJ (er (ly (sc T l.length U) S Ym (ly (ni (l.length:Int)) S (Yl qP) (ly (ni 0) S Ym (ln (go ?_))))))));refine et [(4,pa G 0),(5,sn),(6,ni 0),(7,pa gW 0),(51,sc T l.length U),(52,ni (l.length:Int)),(53,ni (0:Int)),(11,sn)] (fun R => ?_);refine j1 (fun(V:Nat × (iG) × (List Int) × PrF × (List Value) × (Option Addr) × Nat × Nat × (List Value)) ov w=>match V with | (i,xw,es,pr,xsN,AO,nO,cO,xsO) => ∃ rd' R,ov=[(4,pa G 0),(5,sn),(6,ni 0),(7,pa gW 0),(51,sc T l.length U),(52,ni (l.length:Int)),(53,ni (i:Int)),(11,sc AO nO cO)]++R∧St [] W rd rd' [(G,58,#[sn,sn]),(gW,58,#[sb gN 0 m cN,sb gV 0 m cV])] ([⟨35,1,sc AO nO cO,nO,xsO⟩,⟨31,7,sb gN 0 m cN,m,xsN⟩,⟨67,1,sb gV 0 m cV,m,(List.range m).map vI⟩]++(kZ 66 m vI pr)) w∧Rd.le Z rd'∧(fQ 1 ge rd' xsO es∧nO=es.length)∧(fQ 7 gT rd' xsN xw.nodes∧m=xw.nodes.length)∧mf rd' m pr xw.way∧i≤l.length∧xw=(kC (kJ m) (l.take i)).1∧es=(kC (kJ m) (l.take i)).2∧xw.nodes.length=m) (fun V=>match V with | (i,xw,es,pr,xsN,AO,nO,cO,xsO)=>l.length - i) (0,(kJ m),[],oM,xsN,none,0,0,[]) ⟨_,R,rfl,(S.rw' rfl rfl),fZ,⟨aT,rfl⟩,⟨ON,aw.symm⟩,N,(by omega),rfl,rfl,aw⟩ ?_;rintro⟨i,xw,es,pr,xsN,AO,nO,cO,xsO⟩ _ _ ⟨aW,R,rfl,S,ax,⟨OO,_⟩,⟨ON,_⟩,K,_,a8,a9,ay⟩;replace N:=mf.mono N ax;have bf:es.length≤150:=by rw [a9,uG];exact Nat.le_trans (List.length_take_le' _ _) ar
 refine er ?_;by_cases az:(i:Int)<(l.length:Int)
 ·
  refine ly (.bool true) S (gJ rfl rfl az) (ln (fJ (fS rfl (g1 (fM (fJ (go (er ?_))))))));obtain⟨H,ae⟩:∃ z,(l)[i]? = some z:=gX (by first | assumption | omega);obtain⟨aX,_,aY,_,aZ,b0⟩:=hD qP sw h ae;obtain⟨O,Q,rfl,b1,_⟩:=aZ.d;refine ly aX S (b0 rfl rfl (by first | rfl | omega)) (ly (.agg (kD H O Q)) S (gG rfl (fun w S=>vx (S.leX hls (fun g af=>by cases af)) aY yw rfl rfl)) (gk (cs:=Dg) S AW rfl fun aa _ S=>fT (u:=.agg (kD H O Q)) (i:=2) (cs':=(kD H O Q)) S rfl rfl rfl sw rfl rfl rfl fun _ S=>ln (gU (ly (sc AO nO cO) S Ym (ly (.agg (kD H O Q)) S (gf 2 yw) ?_)))));have S:=S.toEndB (i:=1) rfl;have S:St [] W rd aW ([(G,58,#[sn,sn]),(aa,65,(kD H O Q))]++[(gW,58,#[sb gN 0 m cN,sb gV 0 m cV])]) ([⟨35,1,sc AO nO cO,nO,xsO⟩]++([⟨31,7,sb gN 0 m cN,m,xsN⟩,⟨67,1,sb gV 0 m cV,m,(List.range m).map vI⟩]++(kZ 66 m vI pr))) _:=S.rw' rfl rfl;refine g7 (g4 (vs:=[pa gW 0,.agg (kD H O Q)]) (CF 72 _) rfl rfl) (Du _ _ gW gN gV m cN cV xw vI pr xsN ay aU ap (S.give (bxk:=[(G,58,#[sn,sn]),(aa,65,(kD H O Q))]) (bx0:=[(gW,58,#[sb gN 0 m cN,sb gV 0 m cV])]) (owk:=[⟨35,1,sc AO nO cO,nO,xsO⟩]) (ow0:=([⟨31,7,sb gN 0 m cN,m,xsN⟩,⟨67,1,sb gV 0 m cV,m,(List.range m).map vI⟩]++(kZ 66 m vI pr))) rfl rfl) ON K H rl O Q (S.leX hls (fun g af=>by cases af)) (S.newX hls) b1) ?_;rintro e _ ⟨b2,ag,ah,rfl,a5,b3,aA,b4⟩;have ab:=a5.sup;have S:=S.comp (bxk:=[(G,58,#[sn,sn]),(aa,65,(kD H O Q))]) (bx0:=[(gW,58,#[sb gN 0 m cN,sb gV 0 m cV])]) (owk:=[⟨35,1,sc AO nO cO,nO,xsO⟩]) (ow0:=([⟨31,7,sb gN 0 m cN,m,xsN⟩,⟨67,1,sb gV 0 m cV,m,(List.range m).map vI⟩]++(kZ 66 m vI pr))) rfl rfl a5;replace N:=mf.mono N ab;replace K:=mf.mono K ab;replace OO:=rm OO ab;have S:St [] W rd b2 [(G,58,#[sn,sn]),(aa,65,(kD H O Q)),(gW,58,#[sb gN 0 m cN,sb gV 0 m cV])] ([⟨35,1,sc AO nO cO,nO,xsO⟩,⟨31,7,sb gN 0 m cN,m,ag⟩,⟨67,1,sb gV 0 m cV,m,(List.range m).map vI⟩]++(kZ 66 m vI ah)) _:=S.rw' rfl rfl;have S:=S.toEndB (i:=0) rfl;have S:=S.toEndB (i:=1) rfl;have S:=S.toEndB (i:=0) rfl;refine g9 (iZ (ps:=[(0,ni ((gR xw H).2))]) (cs:=#[ni ((gR xw H).2)]) S pL qS yi rfl rfl rfl (by kernel_rfl) fun _ _ S => ?_);refine js (e':=0) (i:=0) (i':=3) S zP rfl rfl rfl rfl rfl rfl rfl (by simp only [maxLen];omega) (by first | omega | (dsimp only;omega)) fun b5 _ S => ?_
  have OO:=fQ.push (x:=(gR xw H).2) (cs:=[ni ((gR xw H).2)]) OO rfl rfl;obtain⟨ai,aj,b6,_,_⟩:∃ A c,b5 = .slice A (nO+1) c∧(nO+1)≤c∧c≤maxLen:=i8 S (i:=0) rfl;subst b6
  skip
  refine ly (sc ai (nO+1) aj) S Ya (fL (gA (nr (ly (ni ((i:Int)+1)) S (gw (r:=(i:Int)+1) rfl rfl (gl (by omega) (by omega))) (ly (ni ((i:Int)+1)) S Ym (fL ?_))))));refine fK ⟨(i+1,(gR xw H).1,es++[(gR xw H).2],ah,ag,ai,nO+1,aj,(xsO++[ni ((gR xw H).2)])),_,fk,⟨_,_,rfl,(St.tkF (l:=[⟨35,1,sc ai (nO+1) aj,nO+1,xsO++[ni ((gR xw H).2)]⟩,⟨31,7,sb gN 0 m cN,m,ag⟩,⟨67,1,sb gV 0 m cV,m,(List.range m).map vI⟩]) (F:=kZ 66 m vI ah) S 2 3 rfl rfl).rw' rfl rfl,(fY ax (fY fZ ab)),⟨OO,(by simp;omega)⟩,⟨b3,aA.symm⟩,b4,(by omega),(wn a8 ae),(wC a8 a9 ae),aA⟩,?_⟩
  show _<_;dsimp only;omega
 refine ly (.bool false) S (gH rfl rfl az) (ln (fJ (fV rfl (iP (iQ (j0 (iR (fM (er ?_)))))))));obtain rfl:i=l.length:=by omega
 rw [List.take_of_length_le (Nat.le_refl _)] at a8 a9;obtain⟨b7,S,ac,a2⟩:=St.frzW (l:=[⟨35,1,sc AO nO cO,nO,xsO⟩,⟨31,7,sb gN 0 m cN,m,xsN⟩]) (vI:=vI) (pr:=pr) (S.rw' rfl rfl) K.l K.r K.s;replace ON:=rm ON ac;replace N:=mf.mono N ac;replace K:=mf.mono K ac;replace OO:=rm OO ac;have S:St [] W rd b7 [(G,58,#[sn,sn]),(gW,58,#[sb gN 0 m cN,sb gV 0 m cV])] [⟨35,1,sc AO nO cO,nO,xsO⟩,⟨31,7,sb gN 0 m cN,m,xsN⟩] _:=S.rw' rfl rfl;obtain⟨b8,S,a3,b9⟩:=S.frzo' (i:=1) rfl rfl;replace ON:=rm ON a3;replace N:=mf.mono N a3;replace K:=mf.mono K a3;replace OO:=rm OO a3;replace a2:=fm a2 a3;have ak:fN 7 gT b8 (sb gN 0 m cN) xw.nodes:=b9 ay.symm ON;obtain⟨ba,S,a4,bb⟩:=S.frzo' (i:=0) rfl rfl;replace N:=mf.mono N a4;replace K:=mf.mono K a4;replace OO:=rm OO a4;replace a2:=fm a2 a4;replace ak:=fm ak a4;have bc:fN 1 ge ba (sc AO nO cO) es:=bb ‹_› OO
 skip
 refine ly (.agg #[sb gN 0 m cN,sb gV 0 m cV]) S (gf 1 nq) (ly (sc AO nO cO) S Ym (fT (u:=.agg #[sb gN 0 m cN,sb gV 0 m cV]) (i:=0) (cs':=#[sb gN 0 m cN,sb gV 0 m cV]) S rfl rfl rfl np rfl rfl rfl fun _ S=>ly (sc AO nO cO) S Ya (ly (ni 0) S Ya (ln (fR ?_)))));refine pX (v:=.agg #[sb gN 0 m cN,sb gV 0 m cV]) (v':=sc AO nO cO) (v'':=ni 0) rfl ⟨_,rfl,gu (i:=0) (vs:=[sb gN 0 m cN,sb gV 0 m cV]) S rfl nq rfl rfl⟩ rfl rfl ?_;have es':l3 (m:Int) l=(xw,es,0):=by rw [ze ap aq ar,← a8,← a9]
 rw [hP,es'];exact⟨_,_,rfl,⟨_,rfl,⟨_,_,rfl,(fm ak S.out),(fm a2 S.out)⟩⟩,(fm bc S.out),S.below⟩
theorem Ek(rd:Rd)(W:World)(hle:Rd.le rd (fX W))(v v2:Value)(a:iG)(h:fW mS rd v a)(h2:fW mS rd v2 a)(hl:a.way.length=a.nodes.length) :
    Calls Tryz.prog 34 #[v,v2] W (fun e w'=>e = .returned (.bool true)∧Below W.heap.size W w'):=by
 obtain⟨_,rfl,h⟩:=h;obtain⟨s,t,l,m,rfl,ap,G,_⟩:=h.d;obtain⟨_,rfl,h2⟩:=h2;obtain⟨A,B,o,p,rfl,aq,H,_⟩:=h2.d;have c2:=il;have S:St [] W rd rd [] [] W:=St.start hle;refine io (args:=[.agg #[sc s a.nodes.length t,sc l a.way.length m],.agg #[sc A a.nodes.length B,sc o a.way.length p]]) 107 Tryz.func34 rfl rfl rfl ?_;refine er (ix (u:=.agg #[sc s a.nodes.length t,sc l a.way.length m]) (cs:=#[sc s a.nodes.length t,sc l a.way.length m]) S rfl rfl fun f _ S=>ix (u:=.agg #[sc A a.nodes.length B,sc o a.way.length p]) (cs:=#[sc A a.nodes.length B,sc o a.way.length p]) S rfl rfl fun g _ S=>ly (.bool false) S Ya (ln (fJ (er (ly (pa f 0) S (Yb lG) (ly (sc s a.nodes.length t) S (fI 0 m9) (ly (ni (a.nodes.length:Int)) S (Yl lU) (ly (pa g 0) S (Yb lG) (ly (sc A a.nodes.length B) S (fI 1 m9) (ly (ni (a.nodes.length:Int)) S (Yl lU) ?_))))))))));have b8:(a.nodes.length:Int)=(a.nodes.length:Int):=rfl;refine ly (.bool false) S (iT rfl rfl b8) (ly (.bool false) S Ym (lg 17 (pa f 1) S (Yb l9) (lg 17 (sc l a.way.length m) S (fI 0 lA) (lg 17 (ni (a.way.length:Int)) S (Yl lw) (lg 17 (pa g 1) S (Yb l9) (lg 17 (sc o a.way.length p) S (fI 1 lA) (lg 17 (ni (a.way.length:Int)) S (Yl lw) ?_)))))));have b9:(a.way.length:Int)=(a.way.length:Int):=rfl;refine lg 17 (.bool false) S (iT rfl rfl b9) (ly (.bool false) S Yf (ln (fV rfl (g1 (fM (fJ (er (ly (pa f 0) S (Yb lG) (ly (sc s a.nodes.length t) S (fI 0 m9) (ly (ni (a.nodes.length:Int)) S (Yl lU) (ly (ni 0) S Ym (ln ?_))))))))))));refine go (et [(2,pa f 0),(3,pa g 0),(28,ni (a.nodes.length:Int)),(29,ni (0:Int))] (fun q => ?_));refine j1 (fun(C:Nat) ov w=>match C with | i => ∃ rd' q,ov=[(2,pa f 0),(3,pa g 0),(28,ni (a.nodes.length:Int)),(29,ni (i:Int))]++q∧St [] W rd rd' [(f,58,#[sc s a.nodes.length t,sc l a.way.length m]),(g,58,#[sc A a.nodes.length B,sc o a.way.length p])] [] w∧Rd.le rd rd'∧i≤a.nodes.length) (fun C=>match C with | i=>a.nodes.length - i) 0 ⟨_,q,rfl,(S.rw' rfl rfl),fZ,(by omega)⟩ ?_;rintro i _ _ ⟨ar,q,rfl,S,a8,_⟩;replace ap:=fm ap a8;replace G:=fm G a8;replace aq:=fm aq a8;replace H:=fm H a8;refine er ?_;by_cases aE:(i:Int)<(a.nodes.length:Int)
 ·
  refine ly (.bool true) S (gJ rfl rfl aE) (ln (fJ (fS rfl (g1 (fM (fJ (go (er (ly (ni (i:Int)) S Ym (ly (ni (i:Int)) S Ya (ln (fJ ?_))))))))))));refine fJ (jZ MX (by kernel_rfl) S.drew ?_);refine qy (pa f 0) (Yb lG) (qy (sc s a.nodes.length t) (fI 0 m9) (qy (ni (i:Int)) Ym ?_));obtain⟨n,aF⟩:∃ z,(a.nodes)[i]? = some z:=gX (by first | assumption | omega);obtain⟨a9,_,ba,_,bb,bc⟩:=hD lU hY ap aF;obtain⟨I,J,K,L,M,N,O,P,Q,R,T,U,rfl,bd,be,bf,bg,bh,bi,_⟩:=bb.d;refine qy a9 (bc rfl rfl (by first | rfl | omega)) (qy (.agg (kN n I J K L M N O P Q R T U)) (jd ba ij) (qy (pa g 0) (Yb lG) (qy (sc A a.nodes.length B) (fI 1 m9) (qy (ni (i:Int)) Ym ?_))));obtain⟨aa,_,bj,_,bk,bl⟩:=hD lU hY aq aF;obtain⟨V,X,Y,Z,a0,a1,a2,a3,a4,a5,a6,a7,rfl,bm,bn,bo,bp,bq,br,_⟩:=bk.d;refine qy aa (bl rfl rfl (by first | rfl | omega)) (qy (.agg (kN n V X Y Z a0 a1 a2 a3 a4 a5 a6 a7)) (jd bj ij) ?_);have c3:yf n n=true:=decide_eq_true rfl;refine n0 (v:=.bool true) (g4 (vs:=[.agg (kN n I J K L M N O P Q R T U),.agg (kN n V X Y Z a0 a1 a2 a3 a4 a5 a6 a7)]) (CF 15 _) rfl rfl) (fun w S=>(Ai _ _ S.le _ _ n n (⟨_,rfl,⟨_,_,_,_,_,_,rfl,bd,be,bf,bg,bh,bi⟩⟩:fW gT ar _ n) (⟨_,rfl,⟨_,_,_,_,_,_,rfl,bm,bn,bo,bp,bq,br⟩⟩:fW gT ar _ n)).mono (by rintro e w' ⟨rfl,k⟩;exact⟨im ‹_›,(S.callq k)⟩)) ?_;refine qy (.bool false) (iH rfl rfl) (qy (.bool false) Ym (qg 44 (pa f 1) (Yb l9) (qg 44 (sc l a.way.length m) (fI 0 lA) (qg 44 (ni (i:Int)) Ym ?_))));obtain⟨b,ab⟩:∃ z,(a.way)[i]? = some z:=gX (by first | assumption | omega);obtain⟨ac,_,bs,_,aG,bt⟩:=hD lw lV G ab;obtain⟨ad,ae,rfl,aG,_⟩:=aG.d;refine qg 44 ac (bt rfl rfl (by first | rfl | omega)) (qg 44 (sc ad b.length ae) (iE bs mB) (qg 44 (ni (b.length:Int)) (Yl lY) (qg 44 (pa g 1) (Yb l9) (qg 44 (sc o a.way.length p) (fI 1 lA) (qg 44 (ni (i:Int)) Ym ?_)))));obtain⟨af,_,bu,_,aH,bv⟩:=hD lw lV H ab;obtain⟨ag,ah,rfl,aH,_⟩:=aH.d;refine qg 44 af (bv rfl rfl (by first | rfl | omega)) (qg 44 (sc ag b.length ah) (iE bu mB) (qg 44 (ni (b.length:Int)) (Yl lY) ?_));have bw:(b.length:Int)=(b.length:Int):=rfl;refine qg 44 (.bool false) (iT rfl rfl bw) (qy (.bool false) Yf (ig fun _ S=>fM (fV rfl (g1 (fM (er (ly (pa f 1) S (Yb l9) (ly (sc l a.way.length m) S (fI 0 lA) (ly (ni (i:Int)) S Ym ?_)))))))));obtain⟨ai,_,bx,_,aI,bz⟩:=hD lw lV G ab;obtain⟨aj,ak,rfl,aI,_⟩:=aI.d;refine ly ai S (bz rfl rfl (by first | rfl | omega)) (ly (sc aj b.length ak) S (iE bx mB) (ly (ni (b.length:Int)) S (Yl lY) (ly (ni 0) S Ym (ln (go ?_)))));refine et [(2,pa f 0),(3,pa g 0),(28,ni (a.nodes.length:Int)),(29,ni (i:Int)),(30,.bool true),(31,ni (i:Int)),(5,ni (i:Int)),(32,pa f 0),(33,sc s a.nodes.length t),(34,ni (i:Int)),(35,a9),(36,.agg (kN n I J K L M N O P Q R T U)),(37,pa g 0),(38,sc A a.nodes.length B),(39,ni (i:Int)),(40,aa),(41,.agg (kN n V X Y Z a0 a1 a2 a3 a4 a5 a6 a7)),(42,.bool true),(43,.bool false),(44,.bool false),(45,pa f 1),(46,sc l a.way.length m),(47,ni (i:Int)),(48,ac),(49,sc ad b.length ae),(50,ni (b.length:Int)),(51,pa g 1),(52,sc o a.way.length p),(53,ni (i:Int)),(54,af),(55,sc ag b.length ah),(56,ni (b.length:Int)),(57,.bool false),(58,.bool false),(59,pa f 1),(60,sc l a.way.length m),(61,ni (i:Int)),(62,ai),(63,sc aj b.length ak),(64,ni (b.length:Int)),(65,ni (0:Int))] (fun q => ?_);refine j1 (fun(C:Nat) ov w=>match C with | k => ∃ rd' q,ov=[(2,pa f 0),(3,pa g 0),(28,ni (a.nodes.length:Int)),(29,ni (i:Int)),(30,.bool true),(31,ni (i:Int)),(5,ni (i:Int)),(32,pa f 0),(33,sc s a.nodes.length t),(34,ni (i:Int)),(35,a9),(36,.agg (kN n I J K L M N O P Q R T U)),(37,pa g 0),(38,sc A a.nodes.length B),(39,ni (i:Int)),(40,aa),(41,.agg (kN n V X Y Z a0 a1 a2 a3 a4 a5 a6 a7)),(42,.bool true),(43,.bool false),(44,.bool false),(45,pa f 1),(46,sc l a.way.length m),(47,ni (i:Int)),(48,ac),(49,sc ad b.length ae),(50,ni (b.length:Int)),(51,pa g 1),(52,sc o a.way.length p),(53,ni (i:Int)),(54,af),(55,sc ag b.length ah),(56,ni (b.length:Int)),(57,.bool false),(58,.bool false),(59,pa f 1),(60,sc l a.way.length m),(61,ni (i:Int)),(62,ai),(63,sc aj b.length ak),(64,ni (b.length:Int)),(65,ni (k:Int))]++q∧St [] W rd rd' [(f,58,#[sc s a.nodes.length t,sc l a.way.length m]),(g,58,#[sc A a.nodes.length B,sc o a.way.length p])] [] w∧Rd.le ar rd'∧k≤b.length) (fun C=>match C with | k=>b.length - k) 0 ⟨_,q,rfl,(S.rw' rfl rfl),fZ,(by omega)⟩ ?_;rintro k _ _ ⟨bA,q,rfl,S,an,_⟩;replace G:=fm G an;replace H:=fm H an;refine er ?_;by_cases aJ:(k:Int)<(b.length:Int)
  ·
   refine ly (.bool true) S (gJ rfl rfl aJ) (ln (fJ (fS rfl (g1 (fM (fJ (go (er (ly (ni (k:Int)) S Ym (ly (ni (k:Int)) S Ya (ln (fJ ?_))))))))))));refine jZ MX (by kernel_rfl) S.drew ?_;refine qy (pa f 1) (Yb l9) (qy (sc l a.way.length m) (fI 0 lA) (qy (ni (i:Int)) Ym ?_));obtain⟨au,_,bB,_,av,bC⟩:=hD lw lV G ab;obtain⟨aw,ax,rfl,av,_⟩:=av.d;refine qy au (bC rfl rfl (by first | rfl | omega)) (qy (sc aw b.length ax) (iE bB mB) (qy (ni (k:Int)) Ym ?_));obtain⟨c,aK⟩:∃ z,(b)[k]? = some z:=gX (by first | assumption | omega);obtain⟨ay,_,bD,_,al,bE⟩:=hD lY kV av aK;obtain⟨x,y,rfl,al,_⟩:=al.d;refine qy ay (bE rfl rfl (by first | rfl | omega)) (qy (sc x c.length y) (iE bD na) (qy (pa g 1) (Yb l9) (qy (sc o a.way.length p) (fI 1 lA) (qy (ni (i:Int)) Ym ?_))));obtain⟨az,_,bF,_,aA,bG⟩:=hD lw lV H ab;obtain⟨aB,aC,rfl,aA,_⟩:=aA.d;refine qy az (bG rfl rfl (by first | rfl | omega)) (qy (sc aB b.length aC) (iE bF mB) (qy (ni (k:Int)) Ym ?_));obtain⟨aD,_,bH,_,am,bI⟩:=hD lY kV aA aK;obtain⟨D,E,rfl,am,_⟩:=am.d;refine qy aD (bI rfl rfl (by first | rfl | omega)) (qy (sc D c.length E) (iE bH na) (qy (sc x c.length y) Ya (qy (sc D c.length E) Ya (ig fun _ S=>fM (fJ (er (ly (sc x c.length y) S Ym (ly (ni (c.length:Int)) S (Yl jT) (ly (sc D c.length E) S Ym (ly (ni (c.length:Int)) S (Yl jT) ?_))))))))));have bJ:(c.length:Int)=(c.length:Int):=rfl;refine ly (.bool false) S (iT rfl rfl bJ) (ln (fV rfl (g1 (fM (er (ly (sc x c.length y) S Ym (ly (ni (c.length:Int)) S (Yl jT) (ly (ni 0) S Ym (ln (go ?_))))))))));refine et [(2,pa f 0),(3,pa g 0),(28,ni (a.nodes.length:Int)),(29,ni (i:Int)),(30,.bool true),(31,ni (i:Int)),(5,ni (i:Int)),(32,pa f 0),(33,sc s a.nodes.length t),(34,ni (i:Int)),(35,a9),(36,.agg (kN n I J K L M N O P Q R T U)),(37,pa g 0),(38,sc A a.nodes.length B),(39,ni (i:Int)),(40,aa),(41,.agg (kN n V X Y Z a0 a1 a2 a3 a4 a5 a6 a7)),(42,.bool true),(43,.bool false),(44,.bool false),(45,pa f 1),(46,sc l a.way.length m),(47,ni (i:Int)),(48,ac),(49,sc ad b.length ae),(50,ni (b.length:Int)),(51,pa g 1),(52,sc o a.way.length p),(53,ni (i:Int)),(54,af),(55,sc ag b.length ah),(56,ni (b.length:Int)),(57,.bool false),(58,.bool false),(59,pa f 1),(60,sc l a.way.length m),(61,ni (i:Int)),(62,ai),(63,sc aj b.length ak),(64,ni (b.length:Int)),(65,ni (k:Int)),(66,.bool true),(67,ni (k:Int)),(6,ni (k:Int)),(68,pa f 1),(69,sc l a.way.length m),(70,ni (i:Int)),(71,au),(72,sc aw b.length ax),(73,ni (k:Int)),(74,ay),(75,sc x c.length y),(76,pa g 1),(77,sc o a.way.length p),(78,ni (i:Int)),(79,az),(80,sc aB b.length aC),(81,ni (k:Int)),(82,aD),(83,sc D c.length E),(7,sc x c.length y),(8,sc D c.length E),(84,sc x c.length y),(85,ni (c.length:Int)),(86,sc D c.length E),(87,ni (c.length:Int)),(88,.bool false),(89,sc x c.length y),(90,ni (c.length:Int)),(91,ni (0:Int))] (fun q => ?_);refine j1 (fun(C:Nat) ov w=>match C with | j => ∃ rd' q,ov=[(2,pa f 0),(3,pa g 0),(28,ni (a.nodes.length:Int)),(29,ni (i:Int)),(30,.bool true),(31,ni (i:Int)),(5,ni (i:Int)),(32,pa f 0),(33,sc s a.nodes.length t),(34,ni (i:Int)),(35,a9),(36,.agg (kN n I J K L M N O P Q R T U)),(37,pa g 0),(38,sc A a.nodes.length B),(39,ni (i:Int)),(40,aa),(41,.agg (kN n V X Y Z a0 a1 a2 a3 a4 a5 a6 a7)),(42,.bool true),(43,.bool false),(44,.bool false),(45,pa f 1),(46,sc l a.way.length m),(47,ni (i:Int)),(48,ac),(49,sc ad b.length ae),(50,ni (b.length:Int)),(51,pa g 1),(52,sc o a.way.length p),(53,ni (i:Int)),(54,af),(55,sc ag b.length ah),(56,ni (b.length:Int)),(57,.bool false),(58,.bool false),(59,pa f 1),(60,sc l a.way.length m),(61,ni (i:Int)),(62,ai),(63,sc aj b.length ak),(64,ni (b.length:Int)),(65,ni (k:Int)),(66,.bool true),(67,ni (k:Int)),(6,ni (k:Int)),(68,pa f 1),(69,sc l a.way.length m),(70,ni (i:Int)),(71,au),(72,sc aw b.length ax),(73,ni (k:Int)),(74,ay),(75,sc x c.length y),(76,pa g 1),(77,sc o a.way.length p),(78,ni (i:Int)),(79,az),(80,sc aB b.length aC),(81,ni (k:Int)),(82,aD),(83,sc D c.length E),(7,sc x c.length y),(8,sc D c.length E),(84,sc x c.length y),(85,ni (c.length:Int)),(86,sc D c.length E),(87,ni (c.length:Int)),(88,.bool false),(89,sc x c.length y),(90,ni (c.length:Int)),(91,ni (j:Int))]++q∧St [] W rd rd' [(f,58,#[sc s a.nodes.length t,sc l a.way.length m]),(g,58,#[sc A a.nodes.length B,sc o a.way.length p])] [] w∧Rd.le bA rd'∧j≤c.length) (fun C=>match C with | j=>c.length - j) 0 ⟨_,q,rfl,(S.rw' rfl rfl),fZ,(by omega)⟩ ?_;rintro j _ _ ⟨aL,q,rfl,S,ao,_⟩;replace al:=fm al ao;replace am:=fm am ao;refine er ?_;by_cases aM:(j:Int)<(c.length:Int)
   ·
    refine ly (.bool true) S (gJ rfl rfl aM) (ln (fJ (fS rfl (g1 (fM (fJ (go (er (ly (ni (j:Int)) S Ym (ly (ni (j:Int)) S Ya (ln (fJ ?_))))))))))));refine jZ MX (by kernel_rfl) S.drew ?_;refine qy (sc x c.length y) Ym (qy (ni (j:Int)) Ym ?_);obtain⟨F,aN⟩:∃ z,(c)[j]? = some z:=gX (by first | assumption | omega);obtain⟨bK,_,bL,_,bM,bN⟩:=hD jT jF al aN;obtain⟨aO,aP,aQ,aR,aS,aT,aU,aV,aW,aX,rfl,bO,bP,bQ,bR,bS,_⟩:=bM.d;refine qy bK (bN rfl rfl (by first | rfl | omega)) (qy (.agg (kP F aO aP aQ aR aS aT aU aV aW aX)) (jd bL lS) (qy (sc D c.length E) Ym (qy (ni (j:Int)) Ym ?_)));obtain⟨bT,_,bU,_,bV,bW⟩:=hD jT jF am aN;obtain⟨aY,aZ,b0,b1,b2,b3,b4,b5,b6,b7,rfl,bX,bY,bZ,c0,c1,_⟩:=bV.d;refine qy bT (bW rfl rfl (by first | rfl | omega)) (qy (.agg (kP F aY aZ b0 b1 b2 b3 b4 b5 b6 b7)) (jd bU lS) ?_);have c4:xD F F=true:=decide_eq_true rfl;refine n0 (v:=.bool true) (g4 (vs:=[.agg (kP F aO aP aQ aR aS aT aU aV aW aX),.agg (kP F aY aZ b0 b1 b2 b3 b4 b5 b6 b7)]) (CF 25 _) rfl rfl) (fun w S=>(AC _ _ S.le _ _ F F (⟨_,rfl,⟨_,_,_,_,_,rfl,bO,bP,bQ,bR,bS⟩⟩:fW j5 aL _ F) (⟨_,rfl,⟨_,_,_,_,_,rfl,bX,bY,bZ,c0,c1⟩⟩:fW j5 aL _ F)).mono (by rintro e w' ⟨rfl,k⟩;exact⟨im ‹_›,(S.callq k)⟩)) ?_;refine qy (.bool false) (iH rfl rfl) (ig fun _ S=>fM (fV rfl (g1 (gA (nr (ly (ni ((j:Int)+1)) S (gw (r:=(j:Int)+1) rfl rfl (gl (by omega) (by omega))) (ly (ni ((j:Int)+1)) S Ym (fL ?_))))))));refine fK ⟨(j+1),_,fk,⟨_,_,rfl,(S.tt 2 0),(fY ao fZ),(by omega)⟩,?_⟩
    show _<_;dsimp only;omega
   refine ly (.bool false) S (gH rfl rfl aM) (ln (fJ (fV rfl (iP (iQ (j0 (iR (gA (nr (ly (ni ((k:Int)+1)) S (gw (r:=(k:Int)+1) rfl rfl (gl (by omega) (by omega))) (ly (ni ((k:Int)+1)) S Ym (fL ?_))))))))))));refine fK ⟨(k+1),_,fk,⟨_,_,rfl,(S.tt 2 0),(fY an (fY fZ ao)),(by omega)⟩,?_⟩
   show _<_;dsimp only;omega
  refine ly (.bool false) S (gH rfl rfl aJ) (ln (fJ (fV rfl (iP (iQ (j0 (iR (gA (nr (ly (ni ((i:Int)+1)) S (gw (r:=(i:Int)+1) rfl rfl (gl (by omega) (by omega))) (ly (ni ((i:Int)+1)) S Ym (fL ?_))))))))))));refine fK ⟨(i+1),_,fk,⟨_,_,rfl,(S.tt 2 0),(fY a8 (fY fZ an)),(by omega)⟩,?_⟩
  show _<_;dsimp only;omega
 refine ly (.bool false) S (gH rfl rfl aE) (ln (fJ (fV rfl (iP (iQ (j0 (iR (fM (er (ly (.bool true) S Ya (ln (fR ?_))))))))))));refine g3 (v:=.bool true) rfl rfl ?_;exact⟨rfl,S.below⟩
theorem Ee(rd:Rd)(W:World)(hle:Rd.le rd (fX W))(n:Int)(v:Value)(l:List Do)(rl:Rd)(hls:Rd.le rl (fX W))(h:fN 8 oQ rl v l)(P:iG × List Int × Int)(hP:P=l3 n l):Calls Tryz.prog 32 #[.int .i64 n,v] W (fun e w' => ∃ wv ev xs rd',e = .returned (.tuple #[wv,ev,.int .i64 P.2.2])∧St [] W rd rd' [] [⟨35,1,ev,P.2.1.length,xs⟩] w'∧fW mS rd' wv P.1∧fQ 1 ge rd' xs P.2.1):=by
 subst hP;exact CS rd W hle n v l rl hls h
theorem CD(rd:Rd)(W:World)(hle:Rd.le rd (fX W))(n:Int)(v:Value)(l:List Do)(rl:Rd)(hls:Rd.le rl (fX W))(h:fN 8 oQ rl v l)(P:iG × List Int × Int)(hP:P=l3 n l):Calls Tryz.prog 32 #[.int .i64 n,v] W (fun e w' => ∃ wv ev,e = .returned (.tuple #[wv,ev,.int .i64 P.2.2])∧fW mS (ext rd W w') wv P.1∧fN 1 ge (ext rd W w') ev P.2.1∧Below W.heap.size W w') :=
 (Ee rd W hle n v l rl hls h P hP).mono fun e w' ⟨wv,ev,xs,rd',h1,S,h2,h3⟩=>⟨wv,ev,h1,am h2 S.out,S.rowOut (i:=0) rfl rfl rfl rfl h3,S.below⟩
section
open Go.ChangeAt Go.ChangeShapes Go.WideShapes
theorem oG{H:Type}{P:Program}{t:TypeId}{ts:List TypeId}{d:DataW H}{ds:List (DataW H)}{q:Nat→Bool}(h:(DataW.weightsEach P (t :: ts) (d :: ds)).all q=true) :
  (d.weights P t).all q=true∧(DataW.weightsEach P ts ds).all q=true:=by
 simpa [DataW.weightsEach,List.all_append,Bool.and_eq_true] using h
def nb(P:Program)(t:TypeId){α:Type}(R:CR α)(Bd:α→Prop):Prop:=∀ {H:Type} (enc:TypeId × Value→H) (w:World) (fuel:Nat) (cs:List Value) (x:DataW H × List MemPlace),
 DataW.trod enc P w 0 (fun _=>true) true fuel t cs=some x→(x.1.weights P t).all (· ≤ reachBytes)=true → ∃ a,R (fX w) cs a∧Bd a
theorem CJ{P:Program}{t:TypeId}(ht:P.underlying t=some (.int .i64)):nb P t ge (fun n=>(Lit.int .i64 n).wf=true):=by
 intro H enc w fuel cs x h _
 obtain⟨n,rfl,rfl,a⟩:=DataW.trod_int ht h
 exact⟨n,rfl,a⟩
theorem xF{H:Type}{P:Program}{e:TypeId}:∀ {l:List (DataW H)} {d:DataW H},d∈l → ∀ n∈d.weights P e,n∈DataW.weightsAll P e l
 | d' :: l,d,hd,n,hn=>by
  simp only [DataW.weightsAll,List.mem_append]
  rcases List.mem_cons.1 hd with h | h
  ·subst h;exact .inl hn
  ·exact .inr (xF h n hn)
theorem yr{α:Type}{size:Nat}{R:CR α}{Bd:α→Prop}{rd:Rd}{b o:Nat}:∀ (len:Nat),
  (∀ i,i<len → ∃ cs a,cs.length=size∧(∀ j u,cs[j]? = some u→rd b (o+(i * size+j))=some u)∧R rd cs a∧Bd a) →
  ∃ xs l,l.length=len∧fQ size R rd xs l∧(∀ j u,xs[j]? = some u→rd b (o+j)=some u) ∧ ∀ a∈l,Bd a
 | 0,_=>⟨[],[],rfl,rfl,by simp,by simp⟩
 | n+1,h=>by
  obtain⟨xs,l,h1,h2,h3,h4⟩:=yr n fun i hi=>h i (by omega)
  obtain⟨cs,a,e1,e2,e3,e4⟩:=h n (by omega)
  have hlen:=h2.len
  refine⟨xs++cs,l++[a],by simp [h1],h2.push e1 e3,fun j u hu => ?_,fun a' ha => ?_⟩
  ·rcases Nat.lt_or_ge j xs.length with hj | hj
   ·rw [List.getElem?_append_left hj] at hu
    exact h3 j u hu
   ·rw [List.getElem?_append_right hj] at hu
    have:=e2 _ u hu
    rw [hlen,h1] at this hj
    rw [show n * size+(j - n * size)=j by omega] at this
    exact this
  ·rcases List.mem_append.1 ha with h | h
   ·exact h4 a' h
   ·rw [List.mem_singleton.1 h];exact e4
theorem yR{P:Program}{t e:TypeId}{α:Type}{size bytes:Nat}{R:CR α}{Bd:α→Prop}(ht:P.underlying t=some (.slice e))(hc:P.cellsOf e=size)(hby:P.bytesOf e=bytes)(hs:0<size)(ho:nb P e R Bd) :
  nb P t (jy size R) (fun l=>l.length * bytes≤reachBytes ∧ ∀ a∈l,Bd a):=by
 intro H enc w fuel cs x h r
 rcases Go.Deep.open_slice ht h with⟨rfl,rfl⟩ | ⟨a,len,cap,m,n,D,Pl,rfl,hb,hl,hm,hmm,rfl,hi⟩
 ·exact⟨[],⟨_,rfl,fN.nil_ _⟩,by simp,by simp⟩
 ·have M:len≤m:=by rw [hmm];split <;> omega
  simp only [DataW.weights,ht,List.all_cons,Bool.and_eq_true,decide_eq_true_eq,List.length_map,List.length_range,hby] at r
  obtain⟨B,s⟩:=r
  by_cases C:len=0
  ·subst C
   exact⟨[],⟨_,rfl,fN.empty_ _ _ _ hm⟩,by simp,by simp⟩
  ·have v:a.spot=none∨P.cellsOf e=0:=by
    obtain⟨cs',f,_⟩:=hi 0 (by omega)
    obtain⟨_,g,k⟩:=World.cells?_some f
    rcases Nat.eq_zero_or_pos (P.cellsOf e) with c | c
    ·exact .inr c
    ·have:=k 0 c
     rw [← g] at c
     rw [List.getElem?_eq_getElem c] at this
     simp only [Nat.zero_mul,Addr.add,if_pos] at this
     refine .inl ?_
     unfold World.cell? at this
     split at this
     ·split at this
      ·cases this
      ·rename_i p;simpa using p
     ·cases this
   obtain⟨b,o,sp⟩:=a
   have key:∃ xs l,l.length=len∧fQ size R (fX w) xs l∧(∀ j u,xs[j]? = some u→fX w b (o+j)=some u) ∧ ∀ a∈l,Bd a:=by
    refine yr len fun i E => ?_
    obtain⟨cs',f,F⟩:=hi i (by omega)
    obtain⟨_,g,k⟩:=World.cells?_some f
    obtain⟨y,G,I⟩:=ho enc w n cs' _ F (by
     rw [List.all_eq_true] at s ⊢
     intro z c
     refine s z (List.mem_append.2 (.inl (xF (d:=D i) ?_ z c)))
     exact List.mem_map.2 ⟨i,List.mem_range.2 E,rfl⟩)
    refine⟨cs',y,g.trans hc,fun j u A => ?_,G,I⟩
    have N:j<cs'.length:=(List.getElem?_eq_some_iff.1 A).1
    have p:sp=none:=by
     rcases v with h | h
     ·exact h
     ·omega
    subst p
    have:=k j (by omega)
    rw [A,hc] at this
    rw [show(Addr.add (Addr.add ⟨b,o,none⟩ (i * size)) j)=⟨b,o+(i * size+j),none⟩ by unfold Addr.add;split <;> split <;> simp_all <;> omega] at this
    exact this
   obtain⟨xs,l,q,J,K,L⟩:=key
   rcases l with _ | ⟨y,l⟩
   ·simp at q;omega
   ·refine⟨y :: l,⟨_,rfl,some ⟨b,o,sp⟩,cap,xs,by rw [q],by omega,hm,J,fun _=>⟨b,o,?_,K⟩⟩,?_,L⟩
    ·rcases v with h | h
     ·simp only at h;rw [h]
     ·omega
    ·rw [q]
     refine Nat.le_trans (Nat.mul_le_mul_right _ ?_) B
     omega
theorem xv{H:Type}{enc:TypeId × Value→H}{P:Program}(hl:laidOutB P=true){W W':World}(hb:Below W.heap.size W W'):∀ {ts:List TypeId} {vs:List Value} {ds:List (DataW H)} {ps:List MemPlace},
  ts.all (fun t=>P.readableRec t && decide (t<P.types.size))=true→DataW.TrodAll enc P W 0 (fun _=>true) true ts vs ds ps→(∀ x∈ps,x.block<W.heap.size)→DataW.TrodAll enc P W' 0 (fun b=>decide (b<W.heap.size)) true ts vs ds ps
 | [],[],[],_,_,h,_=>h
 | t :: ts,v :: vs,d :: ds,ps,hr,⟨p,q,h1,h2,e⟩,hlt=>by
  simp only [List.all_cons,Bool.and_eq_true,decide_eq_true_eq] at hr
  subst e
  exact⟨p,q,Below.trod hl hr.1.1 hr.1.2 h1 hb (fun x hx=>hlt x (List.mem_append.2 (.inl hx))),xv hl hb hr.2 h2 (fun x hx=>hlt x (List.mem_append.2 (.inr hx))),rfl⟩
 | [],_ :: _,_,_,_,h,_=>h.elim
 | [],[],_ :: _,_,_,h,_=>h.elim
 | _ :: _,[],_,_,_,h,_=>h.elim
 | _ :: _,_ :: _,[],_,_,h,_=>h.elim
theorem Dv{H:Type}{enc:TypeId × Value→H}{P:Program}{f:Func}{s:ChangeSpec}{W W':World}{args:Array Value}{ds gs:List (DataW H)}{before:List MemPlace}{tb:TypeId}(hl:laidOutB P=true)
  (hr:f.params.toList.all (fun t=>P.readableRec t && decide (t<P.types.size))=true) (hvars:s.vars=[]) (hfn:∀ gs:List (DataW H),gs=[]→s.fn H (ds++gs) = { results:=[.lit (.bool true)],args:=ds })
  (hres:f.resultTypes = #[tb]) (htb:P.underlying tb=some .bool) (hW:DataW.Whole enc P f.params.toList s.vars false W args.toList ds gs before) (hb:Below W.heap.size W W') :
  s.post enc P f false true false false W args (.bool true) W':=by
 have a:=hW
 obtain⟨p,q,c,b,e,_,_⟩:=hW
 rw [hvars] at b
 obtain⟨rfl,rfl⟩:=trodVars_none b
 rw [List.append_nil] at e
 subst e
 have hfn:=hfn [] rfl
 refine⟨ds,[],before,[],before,[],a,?_,?_,?_,hb.frame _,fun h=>by cases h⟩
 ·rw [hfn,hres]
  exact trodAll_mk1 (shut_bool htb true)
 ·rw [hfn]
  exact xv hl hb hr c fun x d=>by simpa using a.lt x d
 ·rw [hfn,hvars]
  rfl
theorem BU{H:Type}{enc:TypeId × Value→H}{P:Program}{t:TypeId}{α:Type}{R:CR α}{Bd:α→Prop}(ho:nb P t R Bd){w:World}{v:Value}{d:DataW H}{p:List MemPlace}(h:DataW.Trod enc P w 0 (fun _=>true) true t v d p)
  (hw:(d.weights P t).all (· ≤ reachBytes)=true):∃ a,R (fX w) v.cells.toList a∧Bd a:=by
 obtain⟨fuel,b⟩:=h
 exact ho enc w fuel _ _ b hw
theorem D2{H:Type}{enc:TypeId × Value→H}{P:Program}{t e:TypeId}{α:Type}{size:Nat}{R:CR α}{Bd:List α→Prop}(ht:P.underlying t=some (.slice e))(ho:nb P t (jy size R) Bd){r:Reach}{b0:Nat}{w:World}{v:Value}{d:DataW H}{p:List MemPlace}
  (hv:Value.okWide P w r b0 t v) (h:DataW.Trod enc P w 0 (fun _=>true) true t v d p) (hw:(d.weights P t).all (· ≤ reachBytes)=true):∃ l,fN size R (fX w) v l∧Bd l:=by
 obtain⟨l,⟨_,e,a⟩,b⟩:=BU ho h hw
 obtain⟨_,_,_,rfl⟩:=okWide_slice ht hv
 simp [Value.cells] at e
 subst e
 exact⟨l,a,b⟩
open Go.Deep in
theorem Eo{P:Program}{t:TypeId}{f0 f1 f2 f3 f4:Field}{α0:Type}{R0:CR α0}{B0:α0→Prop}{α1:Type}{R1:CR α1}{B1:α1→Prop}{α2:Type}{R2:CR α2}{B2:α2→Prop}{α3:Type}{R3:CR α3}{B3:α3→Prop}{α4:Type}{R4:CR α4}{B4:α4→Prop}(ht:P.underlying t=some (.struct #[f0,f1,f2,f3,f4]))(hone:oneCellFields P #[f0,f1,f2,f3,f4]=true)(hC:P.cellsOf t=5)(o0:nb P f0.type R0 B0)(o1:nb P f1.type R1 B1)(o2:nb P f2.type R2 B2)(o3:nb P f3.type R3 B3)(o4:nb P f4.type R4 B4)
  {H:Type} (enc:TypeId × Value→H) (w:World) (fuel:Nat) (cs:List Value) (x:DataW H × List MemPlace) (h:DataW.trod enc P w 0 (fun _=>true) true fuel t cs=some x) (hw:(x.1.weights P t).all (· ≤ reachBytes)=true) :
  ∃ c0 c1 c2 c3 c4 a0 a1 a2 a3 a4,cs=[c0,c1,c2,c3,c4]∧R0 (fX w) [c0] a0∧B0 a0∧R1 (fX w) [c1] a1∧B1 a1∧R2 (fX w) [c2] a2∧B2 a2∧R3 (fX w) [c3] a3∧B3 a3∧R4 (fX w) [c4] a4∧B4 a4:=by
 obtain⟨xs,m,_,rfl,b,i,a⟩:=DataW.trod_struct ht h
 rw [hC] at b
 match cs,b,xs,i with
 | [c0,c1,c2,c3,c4],_,[y0,y1,y2,y3,y4],_ =>
  simp only [DataW.weights,ht,List.map_cons,List.map_nil] at hw
  obtain⟨j,k⟩:=hone_of hone 0 f0 rfl
  have c:=a 0 f0 rfl
  rw [j,k] at c
  obtain⟨l,hw⟩:=oG hw
  obtain⟨a0,n,o⟩:=o0 enc w m [c0] y0 (by simpa using c) l
  obtain⟨p,q⟩:=hone_of hone 1 f1 rfl
  have d:=a 1 f1 rfl
  rw [p,q] at d
  obtain⟨r,hw⟩:=oG hw
  obtain⟨a1,s,u⟩:=o1 enc w m [c1] y1 (by simpa using d) r
  obtain⟨v,y⟩:=hone_of hone 2 f2 rfl
  have e:=a 2 f2 rfl
  rw [v,y] at e
  obtain⟨z,hw⟩:=oG hw
  obtain⟨a2,A,B⟩:=o2 enc w m [c2] y2 (by simpa using e) z
  obtain⟨C,D⟩:=hone_of hone 3 f3 rfl
  have f:=a 3 f3 rfl
  rw [C,D] at f
  obtain⟨E,hw⟩:=oG hw
  obtain⟨a3,F,G⟩:=o3 enc w m [c3] y3 (by simpa using f) E
  obtain⟨I,J⟩:=hone_of hone 4 f4 rfl
  have g:=a 4 f4 rfl
  rw [I,J] at g
  obtain⟨K,hw⟩:=oG hw
  obtain⟨a4,L,M⟩:=o4 enc w m [c4] y4 (by simpa using g) K
  exact⟨c0,c1,c2,c3,c4,a0,a1,a2,a3,a4,rfl,n,o,s,u,A,B,F,G,L,M⟩
end
section
open Go.ChangeAt Go.ChangeShapes Go.WideShapes
theorem Be:ownKnob Tryz.prog.godebug=none:=by kernel_rfl
theorem Am:laidOutB Tryz.prog=true:=by kernel_rfl
theorem pw:nb Tryz.prog 3 ge (fun n=>(Lit.int .i64 n).wf=true):=CJ Tryz.underlying3
abbrev Ex(l:List Int):Prop:=l.length * 8≤reachBytes ∧ ∀ x∈l,(Lit.int .i64 x).wf=true
theorem Dt:nb Tryz.prog 23 (jy 1 ge) (fun l=>l.length * 8≤reachBytes ∧ ∀ a∈l,(Lit.int .i64 a).wf=true):=yR Tryz.underlying23 (by kernel_rfl) (by kernel_rfl) (by omega) pw
end
section
open Go.ChangeAt Go.ChangeShapes Go.WideShapes
abbrev wW(u:fH):Prop:=Ex u.seen
theorem DK:nb Tryz.prog 42 gM wW:=by
 intro H enc w fuel cs x h a
 obtain⟨_,_,_,_,_,b,c,d,f,g,rfl,i,_,⟨_,e,j⟩,k,l,_,m,_,n,_⟩:=Eo Tryz.underlying42 (by kernel_rfl) (by kernel_rfl) pw Dt pw pw pw enc w fuel cs x h a
 cases i;cases l;cases m;cases n;cases e
 exact⟨⟨b,c,d,f,g⟩,⟨_,rfl,j⟩,k⟩
end
section
open Go.ChangeAt Go.ChangeShapes Go.WideShapes
theorem AX{P:Program}{t:TypeId}{f0 f1 f2 f3:Field}{k0 k1 k2 k3 o0 o1 o2 o3:Nat}(ht:P.underlying t=some (.struct #[f0,f1,f2,f3]))(hk:[(P.cellsOf f0.type,f0.offset),(P.cellsOf f1.type,f1.offset),(P.cellsOf f2.type,f2.offset),(P.cellsOf f3.type,f3.offset)]=([(k0,o0),(k1,o1),(k2,o2),(k3,o3)]:List (Nat × Nat))){H:Type}{enc:TypeId × Value→H}{w:World}{fuel:Nat}{cs:List Value}{x:DataW H × List MemPlace}
  (h:DataW.trod enc P w 0 (fun _=>true) true fuel t cs=some x) (hw:(x.1.weights P t).all (· ≤ reachBytes)=true):∃ m y0 y1 y2 y3,cs.length=P.cellsOf t∧DataW.trod enc P w 0 (fun _=>true) true m f0.type ((cs.drop o0).take k0)=some y0∧(y0.1.weights P f0.type).all (· ≤ reachBytes)=true∧DataW.trod enc P w 0 (fun _=>true) true m f1.type ((cs.drop o1).take k1)=some y1∧(y1.1.weights P f1.type).all (· ≤ reachBytes)=true∧DataW.trod enc P w 0 (fun _=>true) true m f2.type ((cs.drop o2).take k2)=some y2∧(y2.1.weights P f2.type).all (· ≤ reachBytes)=true∧DataW.trod enc P w 0 (fun _=>true) true m f3.type ((cs.drop o3).take k3)=some y3∧(y3.1.weights P f3.type).all (· ≤ reachBytes)=true:=by
 obtain⟨xs,m,_,rfl,f,g,a⟩:=DataW.trod_struct ht h
 simp only [List.cons.injEq,Prod.mk.injEq,and_true] at hk
 match xs,g with
 | [y0,y1,y2,y3],_ =>
  simp only [DataW.weights,ht,List.map_cons,List.map_nil] at hw
  obtain⟨i,hw⟩:=oG hw
  obtain⟨j,hw⟩:=oG hw
  obtain⟨k,hw⟩:=oG hw
  obtain⟨l,hw⟩:=oG hw
  have b:=a 0 f0 rfl
  have c:=a 1 f1 rfl
  have d:=a 2 f2 rfl
  have e:=a 3 f3 rfl
  obtain⟨⟨n,o⟩,⟨p,q⟩,⟨r,s⟩,⟨u,v⟩⟩:=hk
  rw [n,o] at b
  rw [p,q] at c
  rw [r,s] at d
  rw [u,v] at e
  exact⟨m,y0,y1,y2,y3,f,b,i,c,j,d,k,e,l⟩
end
section
open Go.ChangeAt Go.ChangeShapes Go.WideShapes
def uu(d:Do):Prop:=wW d.update
theorem EP:nb Tryz.prog 65 oQ uu:=by
 intro H enc w fuel cs x h b
 obtain⟨m,c,d,e,f,a,g,i,j,k,l,n,o,p⟩:=AX (k0:=1) (o0:=0) (k1:=1) (o1:=1) (k2:=1) (o2:=2) (k3:=5) (o3:=3) Tryz.underlying65 (by kernel_rfl) h b
 rw [show Tryz.prog.cellsOf 65=8 from by kernel_rfl] at a
 match cs,a with
 | [c0,c1,c2,c3,c4,c5,c6,c7],_ =>
  obtain⟨q,r,_⟩:=pw enc w m [c0] c (by simpa using g) i
  obtain⟨s,t,_⟩:=pw enc w m [c1] d (by simpa using j) k
  obtain⟨u,v,_⟩:=pw enc w m [c2] e (by simpa using l) n
  obtain⟨y,⟨_,z,A⟩,B⟩:=DK enc w m [c3,c4,c5,c6,c7] f (by simpa using o) p
  cases r;cases t;cases v;cases z
  exact⟨⟨q,s,u,y⟩,⟨_,rfl,A⟩,B⟩
theorem CM:nb Tryz.prog 54 (jy 8 oQ) (fun l=>l.length * 80≤reachBytes ∧ ∀ a∈l,uu a):=yR Tryz.underlying54 (by kernel_rfl) (by kernel_rfl) (by omega) EP
end
section
open Go.ChangeAt Go.ChangeShapes Go.WideShapes
theorem Dn(n:Int)(l:List Do):(l3 n l).1.way.length=(l3 n l).1.nodes.length:=by
 unfold l3
 split
 ·rfl
 ·rename_i h
  have I:=lc.run (l:=l) (yI (n:=n.toNat) (by omega) (by omega))
  exact I.wl.trans I.len.symm
theorem CE(W:World)(n:Int)(hw:(Lit.int IntKind.i64 n).wf=true)(v2:Value)(l:List Do)(q:fN 8 oQ (fX W) v2 l)(hb:l.length * 80≤reachBytes ∧ ∀ a∈l,uu a) :
    Calls Tryz.prog 6 #[(.int .i64 n),v2] W (fun e w'=>e = .returned (.bool true)∧Below W.heap.size W w'):=by
 obtain⟨B,C,rfl,_,_⟩:=q.val;have ae:=il;have S:St [] W (fX W) (fX W) [] [] W:=St.start fZ;refine io (args:=[ni n,sc B l.length C]) 57 Tryz.func6 rfl rfl rfl ?_;refine er (ly (.bool false) S Ya (ln (er (ly (ni n) S Ym (ly (sc B l.length C) S Ym ?_)))));obtain⟨P,H⟩:∃ z,z=l3 n l:=⟨_,rfl⟩;refine g7 (g4 (vs:=[ni n,sc B l.length C]) (CF 32 _) rfl rfl) (CD _ _ S.le n _ l (fX W) S.le q P H) ?_;rintro e _ ⟨_,_,rfl,D,b,E⟩;obtain⟨X,S,Y,_,R⟩:=S.call' E;replace q:=fm q Y;replace D:=am D R;obtain⟨_,rfl,D⟩:=D;obtain⟨g,h,j,k,rfl,I,J,_⟩:=D.d;replace b:=fm b R;obtain⟨c,f,rfl,_,_⟩:=b.val;refine g9 (ly (.tuple #[.agg #[sc g P.1.nodes.length h,sc j P.1.way.length k],sc c P.2.1.length f,ni P.2.2]) S Ym (ly (.agg #[sc g P.1.nodes.length h,sc j P.1.way.length k]) S Ye (ly (sc c P.2.1.length f) S Ye (ly (ni P.2.2) S Ye (gk (cs:=rk) S qQ rfl fun Z _ S=>fT (u:=.agg #[sc g P.1.nodes.length h,sc j P.1.way.length k]) (i:=0) (cs':=#[sc g P.1.nodes.length h,sc j P.1.way.length k]) S rfl rfl rfl np rfl rfl rfl fun _ S=>ly (sc c P.2.1.length f) S Ya (ly (ni P.2.2) S Ya (ln (er (ly (ni n) S Ym (ly (sc B l.length C) S Ym ?_))))))))));refine g7 (g4 (vs:=[ni n,sc B l.length C]) (CF 33 _) rfl rfl) (Bi _ _ S.le n _ l X S.le q P H) ?_;rintro e _ ⟨_,_,rfl,F,y,E⟩;obtain⟨K,S,L,_,T⟩:=S.call' E;replace I:=fm I L;replace J:=fm J L;replace b:=fm b L;replace F:=am F T;obtain⟨_,rfl,F⟩:=F;obtain⟨m,o,p,s,rfl,a0,a1,_⟩:=F.d;replace y:=fm y T;obtain⟨t,x,rfl,_,_⟩:=y.val;refine g9 (ly (.tuple #[.agg #[sc m P.1.nodes.length o,sc p P.1.way.length s],sc t P.2.1.length x,ni P.2.2]) S Ym (ly (.agg #[sc m P.1.nodes.length o,sc p P.1.way.length s]) S Ye (ly (sc t P.2.1.length x) S Ye (ly (ni P.2.2) S Ye (gk (cs:=rk) S qQ rfl fun a2 _ S=>fT (u:=.agg #[sc m P.1.nodes.length o,sc p P.1.way.length s]) (i:=1) (cs':=#[sc m P.1.nodes.length o,sc p P.1.way.length s]) S rfl rfl rfl np rfl rfl rfl fun _ S=>ly (sc t P.2.1.length x) S Ya (ly (ni P.2.2) S Ya (ln (fJ (er (ly (ni P.2.2) S Ym (ly (ni P.2.2) S Ym ?_)))))))))));have a3:P.2.2=P.2.2:=rfl;refine ly (.bool false) S (iT rfl rfl a3) (ly (.bool false) S Ym (lg 29 (.agg #[sc g P.1.nodes.length h,sc j P.1.way.length k]) S (gf 0 nq) (lg 29 (.agg #[sc m P.1.nodes.length o,sc p P.1.way.length s]) S (gf 1 nq) ?_)));refine lj (d':=29) (g4 (vs:=[.agg #[sc g P.1.nodes.length h,sc j P.1.way.length k],.agg #[sc m P.1.nodes.length o,sc p P.1.way.length s]]) (CF 34 _) rfl rfl) rfl rfl (Ek _ _ S.le _ _ P.1 (⟨_,rfl,⟨_,_,rfl,I,J⟩⟩:fW mS K _ P.1) (⟨_,rfl,⟨_,_,rfl,a0,a1⟩⟩:fW mS K _ P.1) (by rw [H];exact Dn _ _)) ?_;rintro e _ ⟨rfl,E⟩;have S:=S.callq E;refine g9 (lg 29 (.bool false) S (iH rfl rfl) (ly (.bool false) S Yf (ly (.bool false) S Ym (lg 35 (sc c P.2.1.length f) S Ym (lg 35 (ni (P.2.1.length:Int)) S (Yl pL) (lg 35 (sc t P.2.1.length x) S Ym (lg 35 (ni (P.2.1.length:Int)) S (Yl pL) ?_)))))));have a4:(P.2.1.length:Int)=(P.2.1.length:Int):=rfl;refine lg 35 (.bool false) S (iT rfl rfl a4) (ly (.bool false) S Yf (ln (fV rfl (g1 (fM (fJ (er (ly (sc c P.2.1.length f) S Ym (ly (ni (P.2.1.length:Int)) S (Yl pL) (ly (ni 0) S Ym (ln (go ?_))))))))))));refine et [(6,sc c P.2.1.length f),(9,sc t P.2.1.length x),(43,ni (P.2.1.length:Int)),(44,ni (0:Int))] (fun G => ?_);refine j1 (fun(M:Nat) ov w=>match M with | i => ∃ rd' G,ov=[(6,sc c P.2.1.length f),(9,sc t P.2.1.length x),(43,ni (P.2.1.length:Int)),(44,ni (i:Int))]++G∧St [] W (fX W) rd' [(Z,58,#[sc g P.1.nodes.length h,sc j P.1.way.length k]),(a2,58,#[sc m P.1.nodes.length o,sc p P.1.way.length s])] [] w∧Rd.le K rd'∧i≤P.2.1.length) (fun M=>match M with | i=>P.2.1.length - i) 0 ⟨_,G,rfl,(S.rw' rfl rfl),fZ,(by omega)⟩ ?_;rintro i _ _ ⟨_,G,rfl,S,N,_⟩;replace b:=fm b N;replace y:=fm y N;refine er ?_;by_cases U:(i:Int)<(P.2.1.length:Int)
 ·
  refine ly (.bool true) S (gJ rfl rfl U) (ln (fJ (fS rfl (g1 (fM (fJ (go (er (ly (ni (i:Int)) S Ym (ly (ni (i:Int)) S Ya (ln (fJ ?_))))))))))));refine jZ MX (by kernel_rfl) S.drew ?_;refine qy (sc c P.2.1.length f) Ym (qy (ni (i:Int)) Ym ?_);obtain⟨A,V⟩:∃ z,(P.2.1)[i]? = some z:=gX (by first | assumption | omega);obtain⟨a5,a6,a7,_,O,a8⟩:=hD pL qS b V;have O:a6=[ni A]:=O;subst O;refine qy a5 (a8 rfl rfl (by first | rfl | omega)) (qy (ni A) (iE a7 l8) (qy (sc t P.2.1.length x) Ym (qy (ni (i:Int)) Ym ?_)));obtain⟨a9,aa,ab,_,Q,ac⟩:=hD pL qS y V;have Q:aa=[ni A]:=Q;subst Q;refine qy a9 (ac rfl rfl (by first | rfl | omega)) (qy (ni A) (iE ab l8) ?_);have ad:A=A:=rfl;refine qy (.bool false) (iT rfl rfl ad) (ig fun _ S=>fM (fV rfl (g1 (gA (nr (ly (ni ((i:Int)+1)) S (gw (r:=(i:Int)+1) rfl rfl (gl (by omega) (by omega))) (ly (ni ((i:Int)+1)) S Ym (fL ?_))))))));refine fK ⟨(i+1),_,fk,⟨_,_,rfl,(S.tt 2 0),(fY N fZ),(by omega)⟩,?_⟩
  show _<_;dsimp only;omega
 refine ly (.bool false) S (gH rfl rfl U) (ln (fJ (fV rfl (iP (iQ (j0 (iR (fM (er (ly (.bool true) S Ya (ln (fR ?_))))))))))));refine g3 (v:=.bool true) rfl rfl ?_;exact⟨rfl,S.below⟩
theorem DV(os:Os)(started:os.Started)(H:Type)(enc:TypeId × Value→H) :
  ReturnsInHanded {} Tryz.checked os 6 .any (Rows.worldTellsSpec.pre6 enc Tryz.prog Tryz.f6 Rows.worldTellsRow.domain false) (Rows.worldTellsSpec.post enc Tryz.prog Tryz.f6 false true false false):=by
 refine returnsInHanded_of_change_sized (C:=Tryz.checked) Be started (by kernel_rfl) Tryz.func6
  (ChangeSpec.witness6 (enc:=enc) (C:=Tryz.checked) false ⟨#[],#[.int .i64 0,.slice none 0 0],[]⟩ 8 (by kernel_rfl) (by kernel_rfl) (by kernel_rfl) (by kernel_rfl)) ?_
 intro W base args ds gs before i d _ k _
 have b:∀ (j:Nat) t v,Tryz.f6.params[j]? = some t→args[j]? = some v→Value.okWide Tryz.prog W .any base t v:=i
 have a:(DataW.weightsEach Tryz.prog (Tryz.f6.params.toList++Rows.worldTellsSpec.plain.varTypes Tryz.prog) (ds++gs)).all (· ≤ reachBytes)=true:=k
 have l:=d
 obtain⟨p,q,m,n,rfl,_,_⟩:=d
 obtain⟨rfl,rfl⟩:=trodVars_none n
 have f:DataW.TrodAll enc Tryz.prog W 0 (fun _=>true) true Tryz.f6.params.toList args.toList ds p:=m
 rw [Tryz.params6] at f b a
 obtain⟨g,_,_,_,_,_,_,rfl,rfl,o,r⟩:=trodAll_cons f
 obtain⟨c,_,_,_,_,_,rfl,rfl,rfl,s,u⟩:=trodAll_cons r
 obtain⟨rfl,rfl,rfl⟩:=trodAll_nil u
 obtain rfl:args = #[g,c]:=by cases args;simp_all
 obtain⟨_,a⟩:=oG a
 obtain⟨w,a⟩:=oG a
 obtain⟨x,rfl,rfl,rfl,y⟩:=open_int Tryz.underlying3 (b 0 _ g rfl rfl) o
 obtain⟨z,A,B⟩:=D2 Tryz.underlying54 CM (b 1 _ c rfl rfl) s w
 refine(CE W x y c z A B).mono fun e _ ⟨D,E⟩ => ?_
 subst D
 exact⟨_,rfl,Dv Am (by kernel_rfl) rfl (fun gs h=>by subst h;rfl) rfl (tb:=4) Tryz.underlying4 l E⟩
theorem WorldTells_holds:Rows.WorldTellsSaid :=
 OpenClaim.holds_of_wide 6 Tryz.f6 rfl rfl rfl rfl rfl rfl rfl ⟨rfl,rfl,rfl,rfl,rfl⟩ rfl rfl rfl rfl rfl (by kernel_rfl) Tryz.func6 (by kernel_rfl)
  (of_decide_eq_true (by kernel_rfl)) (by unfold Func.isWrapper;first | (rw [if_pos (by decide +kernel)];kernel_rfl) | (rw [if_neg (by decide +kernel)];exact⟨rfl,rfl⟩))
  (fun os started H enc _=>DV os started H enc)
#print axioms WorldTells_holds
end
end Go.Proofs.YtkjknlnhffmkkacGreat
