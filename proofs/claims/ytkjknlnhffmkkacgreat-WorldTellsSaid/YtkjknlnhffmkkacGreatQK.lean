/- Part of the proof of WorldTells: lemmas; no condition. -/
import Derived.Test.YtkjknlnhffmkkacGreatQI
import Derived.Test.YtkjknlnhffmkkacGreatQC
import Derived.Test.YtkjknlnhffmkkacGreatQA
import Derived.Test.YtkjknlnhffmkkacGreatQF
import Derived.Test.YtkjknlnhffmkkacGreatQJ
set_option linter.unusedVariables false
set_option linter.unusedSimpArgs false
set_option maxRecDepth 100000
set_option maxHeartbeats 16000000
namespace Go.Proofs.YtkjknlnhffmkkacGreat
open Go.RowKit
theorem BC{s:gt}{u:fH}(h:(gF s u).2=0):(gF s u).1.clock.length≤6:=by
 obtain⟨a,b,c⟩:=tH h
 rw [c];exact(sJ a b).clock_len
theorem yb(rd:Rd)(W:World)(hle:Rd.le rd (fX W))(v v2:Value)(d:gh)(u:fH)(ru:Rd)(h:fW gT rd v d)(h2:fW gM ru v2 u) :
    Calls Tryz.prog 21 #[v,v2] W (fun e w' => ∃ v',e = .returned (.tuple #[v',.int .i64 (i3 d u).2])∧fW gT (ext rd W w') v' (i3 d u).1∧Below W.heap.size W w'):=by
 obtain⟨_,rfl,h⟩:=h;obtain⟨n,o,p,r,s,t,E,F,y,z,G,H,rfl,O,T,U,a4,a5,a6,_⟩:=h.d;obtain⟨_,rfl,h2⟩:=h2;obtain⟨aj,al,rfl,_,_⟩:=h2.d;have aQ:=il;have S:St [] W rd rd [] [] W:=St.start hle;refine io (args:=[.agg (kN d n o p r s t E F y z G H),.agg (kU u aj al)]) 59 Tryz.func21 rfl rfl rfl ?_;refine er (ix (u:=.agg (kN d n o p r s t E F y z G H)) (cs:=(kN d n o p r s t E F y z G H)) S rfl rfl fun I _ S=>ix (u:=.agg (kU u aj al)) (cs:=(kU u aj al)) S rfl rfl fun V _ S=>gk (cs:=jR) S jE rfl fun a7 _ S=>ly (ni 0) S Ya (ln (fJ (er (ly (.agg (kN d n o p r s t E F y z G H)) S (gf 0 ij) ?_)))));refine g7 (g4 (vs:=[.agg (kN d n o p r s t E F y z G H)]) (CF 19 _) rfl rfl) (te _ _ S.le _ d (⟨_,rfl,⟨_,_,_,_,_,_,rfl,O,T,U,a4,a5,a6⟩⟩:fW gT rd _ d)) ?_;rintro e _ ⟨rfl,L⟩;have S:=S.callq L;refine g9 (ly (ni (iu d)) S Ya (ln (er (ly (ni (iu d)) S Ym ?_))));by_cases X:iu d=0
 ·
  refine ly (.bool false) S (iT rfl rfl X) (ln (fV rfl (g1 (fM (fJ ?_)))));refine iV (fun w=>St [] W rd rd [(I,31,(kN d n o p r s t E F y z G H)),(a7,31,#[ni 0,sn,sn,sn,sn,sn,sn])] [] w) MX rfl ?_;have S:=S.drew;have az:=S.sup;have SC:=((S.tt 3 0).del 1);have a8:=oo.1 X;have aR:=a8.len;have aS:=a8.l;have aT:=a8.k;have aU:=a8.a0;have aV:=a8.a1;refine tk (pa I 0) 0 rfl rfl SC (Yb mA) (tk (ni d.self) 1 rfl rfl SC (fI 0 T3) (tk (pa I 1) 2 rfl rfl SC (Yb jt) (tk (pa I 1) 3 rfl rfl SC (Yb iO) (tk (sc n d.state.clock.length o) 4 rfl rfl SC (fI 0 gL) (tk (pa V 0) 6 rfl rfl SC (Yb kR) ?_)))));refine aO 5 rfl (by kernel_rfl) (g7 (g4 (vs:=[sc n d.state.clock.length o]) (CF 45 _) rfl rfl) (oY _ _ S.le _ d.state.clock O (by omega)) ?_);rintro e _ ⟨_,rfl,M,L⟩;obtain⟨aB,S,N,_,aG⟩:=S.call' L;replace O:=fm O N;replace T:=fm T N;replace U:=fm U N;replace a4:=fm a4 N;replace a5:=fm a5 N;replace a6:=fm a6 N;replace M:=fm M aG;obtain⟨B,C,rfl,_,_⟩:=M.val;refine kn ?_;have SC:=(((S.tt 3 0).del 1).weak az N);refine fK (ak SC ?_);refine aO 7 rfl (by kernel_rfl) (fT (u:=ni d.self) (i:=1) (cs':=#[ni d.self,sc aj u.seen.length al,ni u.kind,ni u.key,ni u.item]) S rfl rfl rfl iX rfl rfl rfl fun _ S=>fL ?_)
  have SC:=(((S.tt 3 0).del 1).weak az N);refine fK (ak SC ?_);refine tk (pa V 1) 8 rfl rfl SC (Yb mY) (aO 9 rfl (by kernel_rfl) ?_);refine fT (u:=sc B d.state.clock.length C) (i:=1) (cs':=#[ni d.self,sc B d.state.clock.length C,ni u.kind,ni u.key,ni u.item]) S rfl rfl rfl jz rfl rfl rfl fun _ S=>fL ?_
  have SC:=(((S.tt 3 0).del 1).weak az N);refine fK (ak SC ?_);refine gE (by kernel_rfl) ?_;refine fM (fJ (er (ly (pa I 5) S (Yb jL) (ly (sc y d.log.length z) S (fI 0 kM) (ly (ni (d.log.length:Int)) S (Yl iF) ?_)))));by_cases aC:(d.log.length:Int)=300
  ·
   refine ly (.bool true) S (iw rfl rfl aC) (ln (fS rfl (er (ly (.agg #[ni 0,sn,sn,sn,sn,sn,sn]) S (gy (ps:=[]) rfl (fun _=>by kernel_rfl)) (fT (u:=.agg #[ni 0,sn,sn,sn,sn,sn,sn]) (i:=2) (cs':=#[ni 0,sn,sn,sn,sn,sn,sn]) S rfl rfl rfl hY rfl rfl rfl fun _ S=>ly (ni 5) S Ya (ln (fR ?_)))))));refine iv (v:=.agg #[ni 0,sn,sn,sn,sn,sn,sn]) (v':=ni 5) rfl ⟨_,rfl,gu (i:=2) (vs:=[ni 0,sn,sn,sn,sn,sn,sn]) S rfl ij rfl rfl⟩ rfl ?_;have es:i3 d u=((⟨0,⟨[],[],[]⟩,[],[],[]⟩:gh),5):=by unfold i3;rw [if_neg (fun q=>q X),if_pos (by omega)] <;> rfl
   rw [es];exact⟨_,rfl,⟨_,rfl,⟨_,_,_,_,_,_,rfl,fU,fU,fU,fU,fU,fU⟩⟩,S.below⟩
  refine ly (.bool false) S (i5 rfl rfl aC) (ln (fV rfl (g1 (fM (er (ly (pa I 1) S (Yb jt) (ly (.agg (kS d.state n o p r s t)) S (gf 0 ir) (ly (.agg #[ni d.self,sc B d.state.clock.length C,ni u.kind,ni u.key,ni u.item]) S (gf 1 jx) ?_))))))));refine g7 (g4 (vs:=[.agg (kS d.state n o p r s t),.agg #[ni d.self,sc B d.state.clock.length C,ni u.kind,ni u.key,ni u.item]]) (CF 55 _) rfl rfl) (vr _ _ S.le _ _ d.state (⟨d.self,d.state.clock,u.kind,u.key,u.item⟩:fH) (⟨_,rfl,⟨_,_,_,rfl,O,T,U⟩⟩:fW iW aB _ d.state) (⟨_,rfl,⟨_,rfl,M⟩⟩:fW gM aB _ (⟨d.self,d.state.clock,u.kind,u.key,u.item⟩:fH))) ?_;rintro e _ ⟨_,rfl,ac,L⟩;obtain⟨aD,S,Y,_,aH⟩:=S.call' L;replace O:=fm O Y;replace T:=fm T Y;replace U:=fm U Y;replace a4:=fm a4 Y;replace a5:=fm a5 Y;replace a6:=fm a6 Y;replace M:=fm M Y;replace ac:=am ac aH;obtain⟨_,rfl,ac⟩:=ac;obtain⟨a,b,f,g,j,m,rfl,a9,ad,ae,_⟩:=ac.d;refine g9 (ly (.tuple #[.agg (kS ((gF d.state (⟨d.self,d.state.clock,u.kind,u.key,u.item⟩:fH)).1) a b f g j m),ni ((gF d.state (⟨d.self,d.state.clock,u.kind,u.key,u.item⟩:fH)).2)]) S Ym (ly (.agg (kS ((gF d.state (⟨d.self,d.state.clock,u.kind,u.key,u.item⟩:fH)).1) a b f g j m)) S Ye (ly (ni ((gF d.state (⟨d.self,d.state.clock,u.kind,u.key,u.item⟩:fH)).2)) S Ye (gk (cs:=jX) S jP rfl fun aa _ S=>fT (u:=.agg (kS ((gF d.state (⟨d.self,d.state.clock,u.kind,u.key,u.item⟩:fH)).1) a b f g j m)) (i:=3) (cs':=(kS ((gF d.state (⟨d.self,d.state.clock,u.kind,u.key,u.item⟩:fH)).1) a b f g j m)) S rfl rfl rfl iM rfl rfl rfl fun _ S=>ly (ni ((gF d.state (⟨d.self,d.state.clock,u.kind,u.key,u.item⟩:fH)).2)) S Ya (ln (fJ (er (ly (ni ((gF d.state (⟨d.self,d.state.clock,u.kind,u.key,u.item⟩:fH)).2)) S Ym ?_))))))));by_cases af:(gF d.state (⟨d.self,d.state.clock,u.kind,u.key,u.item⟩:fH)).2=0
  ·
   refine ly (.bool false) S (iT rfl rfl af) (ln (fV rfl (g1 (fM (er (ly (.agg (kN d n o p r s t E F y z G H)) S (gf 0 ij) ?_))))));refine g7 (g4 (vs:=[.agg (kN d n o p r s t E F y z G H)]) (CF 41 _) rfl rfl) (uf _ _ S.le _ d _ (⟨_,rfl,⟨_,_,_,_,_,_,rfl,O,T,U,a4,a5,a6⟩⟩:fW gT aD _ d) a8) ?_;rintro e _ ⟨an,ao,ap,aq,ar,au,J,K,Z,a2,aI,_,D,ab,av,rfl,L,_,_,_,aA,ag,aw⟩;have ax:=L.sup;have S:=S.comp0 L;replace M:=fm M ax;replace a9:=fm a9 ax;replace ad:=fm ad ax;replace ae:=fm ae ax;refine g9 ?_;obtain⟨gK,rfl⟩:=pp S (i:=1) rfl rfl (show d.known.length ≠ 0 by omega);refine gk (cs:=jR) S jE rfl fun a3 _ S=>fT (u:=.agg #[ni d.self,sc an d.state.clock.length ao,sc ap d.state.lives.length aq,sc ar d.state.tallies.length au,sc J d.base.length K,sc Z d.log.length a2,sb gK 0 d.known.length D]) (i:=4) (cs':=#[ni d.self,sc an d.state.clock.length ao,sc ap d.state.lives.length aq,sc ar d.state.tallies.length au,sc J d.base.length K,sc Z d.log.length a2,sb gK 0 d.known.length D]) S rfl rfl rfl hY rfl rfl rfl fun _ S => ?_
   have S:St [] W rd av [(I,31,(kN d n o p r s t E F y z G H)),(V,42,#[ni d.self,sc B d.state.clock.length C,ni u.kind,ni u.key,ni u.item]),(a7,31,#[ni 0,sn,sn,sn,sn,sn,sn]),(aa,27,(kS ((gF d.state (⟨d.self,d.state.clock,u.kind,u.key,u.item⟩:fH)).1) a b f g j m)),(a3,31,#[ni d.self,sc an d.state.clock.length ao,sc ap d.state.lives.length aq,sc ar d.state.tallies.length au,sc J d.base.length K,sc Z d.log.length a2,sb gK 0 d.known.length D])] [⟨42,5,sc Z d.log.length a2,d.log.length,aI⟩,⟨23,1,sb gK 0 d.known.length D,d.known.length,ab⟩] _:=S.rw' rfl rfl;refine ln (fJ ?_);refine nC (fun w=>St [] W rd av [(I,31,(kN d n o p r s t E F y z G H)),(V,42,#[ni d.self,sc B d.state.clock.length C,ni u.kind,ni u.key,ni u.item]),(a7,31,#[ni 0,sn,sn,sn,sn,sn,sn]),(aa,27,(kS ((gF d.state (⟨d.self,d.state.clock,u.kind,u.key,u.item⟩:fH)).1) a b f g j m)),(a3,31,#[ni d.self,sc an d.state.clock.length ao,sc ap d.state.lives.length aq,sc ar d.state.tallies.length au,sc J d.base.length K,sc Z d.log.length a2,sb gK 0 d.known.length D])] [] w) (fun w=>St [] W rd av [(I,31,(kN d n o p r s t E F y z G H)),(V,42,#[ni d.self,sc B d.state.clock.length C,ni u.kind,ni u.key,ni u.item]),(a7,31,#[ni 0,sn,sn,sn,sn,sn,sn]),(aa,27,(kS ((gF d.state (⟨d.self,d.state.clock,u.kind,u.key,u.item⟩:fH)).1) a b f g j m))] [] w) 7 MX rfl ?_;have S:=S.drew;have aW:=S.sup;have SC:=S.tt 5 0;refine tb (.agg (kS ((gF d.state (⟨d.self,d.state.clock,u.kind,u.key,u.item⟩:fH)).1) a b f g j m)) 0 [6,7] rfl rfl SC (gf 3 ir) (tb (pa a3 5) 1 [2,5,6,7] rfl rfl SC (Yb jL) (tb (sc Z d.log.length a2) 2 [5,6,7] rfl rfl SC (fI 4 kM) (tb (.agg #[ni d.self,sc B d.state.clock.length C,ni u.kind,ni u.key,ni u.item]) 3 [4,5,7] rfl rfl SC (gf 1 jx) (tb (pa a3 1) 6 [7] rfl rfl SC (Yb jt) ?_))));refine bO 4 rfl (by kernel_rfl) (iZ (ps:=[(0,.agg #[ni d.self,sc B d.state.clock.length C,ni u.kind,ni u.key,ni u.item])]) (cs:=#[ni d.self,sc B d.state.clock.length C,ni u.kind,ni u.key,ni u.item]) S iF jg kH rfl rfl rfl (by kernel_rfl) fun aJ _ S=>fL ?_)
   have SC:=S.tt 5 0;refine fK (bk SC ?_);refine bO 5 rfl (by kernel_rfl) (js (e':=0) (i:=0) (i':=5) S lf rfl rfl rfl rfl rfl rfl rfl (by simp only [maxLen];omega) (by first | omega | (dsimp only;omega)) fun aK _ S => ?_)
   have ag:=fQ.push (x:=(⟨d.self,d.state.clock,u.kind,u.key,u.item⟩:fH)) (cs:=[ni d.self,sc B d.state.clock.length C,ni u.kind,ni u.key,ni u.item]) ag rfl ⟨_,rfl,M⟩;obtain⟨P,Q,aL,_,_⟩:∃ A c,aK = .slice A (d.log.length+1) c∧(d.log.length+1)≤c∧c≤maxLen:=i8 S (i:=0) rfl;subst aL;refine fL ?_;have SC:=S.tt 5 0;refine fK (bk SC ?_);refine bO 7 rfl (by kernel_rfl) (fT (u:=.agg (kS ((gF d.state (⟨d.self,d.state.clock,u.kind,u.key,u.item⟩:fH)).1) a b f g j m)) (i:=4) (cs':=#[ni d.self,sc a (((gF d.state (⟨d.self,d.state.clock,u.kind,u.key,u.item⟩:fH)).1.clock).length) b,sc f (((gF d.state (⟨d.self,d.state.clock,u.kind,u.key,u.item⟩:fH)).1.lives).length) g,sc j (((gF d.state (⟨d.self,d.state.clock,u.kind,u.key,u.item⟩:fH)).1.tallies).length) m,sc J d.base.length K,sc Z d.log.length a2,sb gK 0 d.known.length D]) S rfl rfl rfl iM rfl rfl rfl fun _ S=>fL ?_)
   have SC:=((S.tt 5 0).del 4);refine fK (bs SC ?_);refine tk (pa a3 5) 8 rfl rfl SC (Yb jL) (aO 9 rfl (by kernel_rfl) ?_);refine fT (u:=sc P (d.log.length+1) Q) (i:=4) (cs':=#[ni d.self,sc a (((gF d.state (⟨d.self,d.state.clock,u.kind,u.key,u.item⟩:fH)).1.clock).length) b,sc f (((gF d.state (⟨d.self,d.state.clock,u.kind,u.key,u.item⟩:fH)).1.lives).length) g,sc j (((gF d.state (⟨d.self,d.state.clock,u.kind,u.key,u.item⟩:fH)).1.tallies).length) m,sc J d.base.length K,sc P (d.log.length+1) Q,sb gK 0 d.known.length D]) S rfl rfl rfl m2 rfl rfl rfl fun _ S=>fL ?_
   have SC:=((S.tt 5 0).del 4);refine fK (ak SC ?_);refine gE (by kernel_rfl) ?_;refine fM (fJ ?_);refine iV (fun w=>St [] W rd av [(I,31,(kN d n o p r s t E F y z G H)),(V,42,#[ni d.self,sc B d.state.clock.length C,ni u.kind,ni u.key,ni u.item]),(a7,31,#[ni 0,sn,sn,sn,sn,sn,sn]),(aa,27,(kS ((gF d.state (⟨d.self,d.state.clock,u.kind,u.key,u.item⟩:fH)).1) a b f g j m)),(a3,31,#[ni d.self,sc a (((gF d.state (⟨d.self,d.state.clock,u.kind,u.key,u.item⟩:fH)).1.clock).length) b,sc f (((gF d.state (⟨d.self,d.state.clock,u.kind,u.key,u.item⟩:fH)).1.lives).length) g,sc j (((gF d.state (⟨d.self,d.state.clock,u.kind,u.key,u.item⟩:fH)).1.tallies).length) m,sc J d.base.length K,sc P (d.log.length+1) Q,sb gK 0 d.known.length D]),(aJ,42,#[ni d.self,sc B d.state.clock.length C,ni u.kind,ni u.key,ni u.item])] [] w) MX rfl ?_;have S:=S.drew;have aE:=S.sup;have SC:=S.tt 6 0;have aX:=BC af;refine tk (pa a3 6) 0 rfl rfl SC (Yb jS) (tk (sb gK 0 d.known.length D) 1 rfl rfl SC (fI 4 kG) (tk (pa I 0) 2 rfl rfl SC (Yb mA) (tk (ni d.self) 3 rfl rfl SC (fI 0 T3) (tk (pa aa 0) 4 rfl rfl SC (Yb iO) (tk (sc a (((gF d.state (⟨d.self,d.state.clock,u.kind,u.key,u.item⟩:fH)).1.clock).length) b) 5 rfl rfl SC (fI 3 gL) ?_)))));refine aO 6 rfl (by kernel_rfl) (g7 (g4 (vs:=[sc a (((gF d.state (⟨d.self,d.state.clock,u.kind,u.key,u.item⟩:fH)).1.clock).length) b]) (CF 45 _) rfl rfl) (oY _ _ S.le _ ((gF d.state (⟨d.self,d.state.clock,u.kind,u.key,u.item⟩:fH)).1.clock) a9 (by omega)) ?_);rintro e _ ⟨_,rfl,ay,L⟩;obtain⟨aF,S,R,_,aM⟩:=S.call' L;replace a9:=fm a9 R;replace ad:=fm ad R;replace ae:=fm ae R;replace aA:=fm aA R;replace ag:=rm ag R;replace aw:=rm aw R;replace ay:=fm ay aM;obtain⟨ah,ai,rfl,_,_⟩:=ay.val;refine kn ?_;have SC:=((S.tt 6 0).weak aE R);refine fK (ak SC ?_);refine tk (pa gK (d.self.toNat * 1)) 7 rfl rfl SC (j9 (k:=d.self.toNat) jN jz (by omega) (Nat.zero_add _) rfl rfl (by omega)) (aO 8 rfl (by kernel_rfl) ?_);have aN:fQ 1 (jy 1 ge) aF ((ab).take (d.self.toNat * 1)++([sc ah (((gF d.state (⟨d.self,d.state.clock,u.kind,u.key,u.item⟩:fH)).1.clock).length) ai]:List Value)++(ab).drop (d.self.toNat * 1+1)) ((d.known).set d.self.toNat ((gF d.state (⟨d.self,d.state.clock,u.kind,u.key,u.item⟩:fH)).1.clock)):=fQ.put (k:=d.self.toNat) (cs:=[sc ah (((gF d.state (⟨d.self,d.state.clock,u.kind,u.key,u.item⟩:fH)).1.clock).length) ai]) aw (show d.self.toNat<d.known.length by omega) rfl (show(jy 1 ge) aF [sc ah (((gF d.state (⟨d.self,d.state.clock,u.kind,u.key,u.item⟩:fH)).1.clock).length) ai] ((gF d.state (⟨d.self,d.state.clock,u.kind,u.key,u.item⟩:fH)).1.clock) from⟨_,rfl,ay⟩);have aP:=(aw).len;refine mo (u:=sc ah (((gF d.state (⟨d.self,d.state.clock,u.kind,u.key,u.item⟩:fH)).1.clock).length) ai) (i:=1) (xs':=((ab).take (d.self.toNat * 1)++([sc ah (((gF d.state (⟨d.self,d.state.clock,u.kind,u.key,u.item⟩:fH)).1.clock).length) ai]:List Value)++(ab).drop (d.self.toNat * 1+1))) S rfl rfl rfl rfl jz (show d.self.toNat * 1+1≤(ab).length by rw [aP];have:=(show d.self.toNat<d.known.length by omega);omega) rfl rfl fun _ S => ?_
   refine fL ?_;have SC:=((S.tt 6 0).weak aE R);refine fK (ak SC ?_);refine gE (by kernel_rfl) ?_;refine fM (er (ly (.agg #[ni d.self,sc a (((gF d.state (⟨d.self,d.state.clock,u.kind,u.key,u.item⟩:fH)).1.clock).length) b,sc f (((gF d.state (⟨d.self,d.state.clock,u.kind,u.key,u.item⟩:fH)).1.lives).length) g,sc j (((gF d.state (⟨d.self,d.state.clock,u.kind,u.key,u.item⟩:fH)).1.tallies).length) m,sc J d.base.length K,sc P (d.log.length+1) Q,sb gK 0 d.known.length D]) S (gf 4 ij) (fT (u:=.agg #[ni d.self,sc a (((gF d.state (⟨d.self,d.state.clock,u.kind,u.key,u.item⟩:fH)).1.clock).length) b,sc f (((gF d.state (⟨d.self,d.state.clock,u.kind,u.key,u.item⟩:fH)).1.lives).length) g,sc j (((gF d.state (⟨d.self,d.state.clock,u.kind,u.key,u.item⟩:fH)).1.tallies).length) m,sc J d.base.length K,sc P (d.log.length+1) Q,sb gK 0 d.known.length D]) (i:=2) (cs':=#[ni d.self,sc a (((gF d.state (⟨d.self,d.state.clock,u.kind,u.key,u.item⟩:fH)).1.clock).length) b,sc f (((gF d.state (⟨d.self,d.state.clock,u.kind,u.key,u.item⟩:fH)).1.lives).length) g,sc j (((gF d.state (⟨d.self,d.state.clock,u.kind,u.key,u.item⟩:fH)).1.tallies).length) m,sc J d.base.length K,sc P (d.log.length+1) Q,sb gK 0 d.known.length D]) S rfl rfl rfl hY rfl rfl rfl fun _ S=>ly (ni 0) S Ya (ln (fR ?_)))));refine iv (v:=.agg #[ni d.self,sc a (((gF d.state (⟨d.self,d.state.clock,u.kind,u.key,u.item⟩:fH)).1.clock).length) b,sc f (((gF d.state (⟨d.self,d.state.clock,u.kind,u.key,u.item⟩:fH)).1.lives).length) g,sc j (((gF d.state (⟨d.self,d.state.clock,u.kind,u.key,u.item⟩:fH)).1.tallies).length) m,sc J d.base.length K,sc P (d.log.length+1) Q,sb gK 0 d.known.length D]) (v':=ni 0) rfl ⟨_,rfl,gu (i:=2) (vs:=[ni d.self,sc a (((gF d.state (⟨d.self,d.state.clock,u.kind,u.key,u.item⟩:fH)).1.clock).length) b,sc f (((gF d.state (⟨d.self,d.state.clock,u.kind,u.key,u.item⟩:fH)).1.lives).length) g,sc j (((gF d.state (⟨d.self,d.state.clock,u.kind,u.key,u.item⟩:fH)).1.tallies).length) m,sc J d.base.length K,sc P (d.log.length+1) Q,sb gK 0 d.known.length D]) S rfl ij rfl rfl⟩ rfl ?_;have es:i3 d u=((⟨d.self,(gF d.state (⟨d.self,d.state.clock,u.kind,u.key,u.item⟩:fH)).1,d.base,d.log++[(⟨d.self,d.state.clock,u.kind,u.key,u.item⟩:fH)],(d.known).set d.self.toNat ((gF d.state (⟨d.self,d.state.clock,u.kind,u.key,u.item⟩:fH)).1.clock)⟩:gh),0):=by unfold i3;rw [if_neg (fun q=>q X),if_neg (by omega),if_neg (fun q=>q (show(gF d.state (ku d u)).2=0 from af))] <;> rfl
   rw [es];exact⟨_,rfl,⟨_,rfl,⟨_,_,_,_,_,_,rfl,(fm a9 S.out),(fm ad S.out),(fm ae S.out),(fm aA S.out),(S.rowOut (i:=0) rfl rfl (by first | rfl | (simp;done) | omega) rfl ag),(S.rowOut (i:=1) rfl rfl (by first | (simp;done) | (simp;omega)) rfl aN)⟩⟩,S.below⟩
  refine ly (.bool true) S (j4 rfl rfl af) (ln (fS rfl (er (ly (.agg #[ni 0,sn,sn,sn,sn,sn,sn]) S (gy (ps:=[]) rfl (fun _=>by kernel_rfl)) (ly (ni ((gF d.state (⟨d.self,d.state.clock,u.kind,u.key,u.item⟩:fH)).2)) S Ym (fT (u:=.agg #[ni 0,sn,sn,sn,sn,sn,sn]) (i:=2) (cs':=#[ni 0,sn,sn,sn,sn,sn,sn]) S rfl rfl rfl hY rfl rfl rfl fun _ S => ?_))))));have S:St [] W rd aD [(I,31,(kN d n o p r s t E F y z G H)),(V,42,#[ni d.self,sc B d.state.clock.length C,ni u.kind,ni u.key,ni u.item]),(a7,31,#[ni 0,sn,sn,sn,sn,sn,sn]),(aa,27,(kS ((gF d.state (⟨d.self,d.state.clock,u.kind,u.key,u.item⟩:fH)).1) a b f g j m))] [] _:=S.rw' rfl rfl;refine ly (ni ((gF d.state (⟨d.self,d.state.clock,u.kind,u.key,u.item⟩:fH)).2)) S Ya (ln (fR ?_));refine iv (v:=.agg #[ni 0,sn,sn,sn,sn,sn,sn]) (v':=ni ((gF d.state (⟨d.self,d.state.clock,u.kind,u.key,u.item⟩:fH)).2)) rfl ⟨_,rfl,gu (i:=2) (vs:=[ni 0,sn,sn,sn,sn,sn,sn]) S rfl ij rfl rfl⟩ rfl ?_;have es:i3 d u=((⟨0,⟨[],[],[]⟩,[],[],[]⟩:gh),(gF d.state (⟨d.self,d.state.clock,u.kind,u.key,u.item⟩:fH)).2):=by unfold i3;rw [if_neg (fun q=>q X),if_neg (by omega),if_pos (show(gF d.state (ku d u)).2 ≠ 0 from af)] <;> rfl
  rw [es];exact⟨_,rfl,⟨_,rfl,⟨_,_,_,_,_,_,rfl,fU,fU,fU,fU,fU,fU⟩⟩,S.below⟩
 refine ly (.bool true) S (j4 rfl rfl X) (ln (fS rfl (er (ly (.agg #[ni 0,sn,sn,sn,sn,sn,sn]) S (gy (ps:=[]) rfl (fun _=>by kernel_rfl)) (ly (ni (iu d)) S Ym (fT (u:=.agg #[ni 0,sn,sn,sn,sn,sn,sn]) (i:=2) (cs':=#[ni 0,sn,sn,sn,sn,sn,sn]) S rfl rfl rfl hY rfl rfl rfl fun _ S=>ly (ni (iu d)) S Ya (ln (fR ?_))))))));refine iv (v:=.agg #[ni 0,sn,sn,sn,sn,sn,sn]) (v':=ni (iu d)) rfl ⟨_,rfl,gu (i:=2) (vs:=[ni 0,sn,sn,sn,sn,sn,sn]) S rfl ij rfl rfl⟩ rfl ?_;have es:i3 d u=((⟨0,⟨[],[],[]⟩,[],[],[]⟩:gh),iu d):=by unfold i3;rw [if_pos X] <;> rfl
 rw [es];exact⟨_,rfl,⟨_,rfl,⟨_,_,_,_,_,_,rfl,fU,fU,fU,fU,fU,fU⟩⟩,S.below⟩
theorem Bw(rd:Rd)(W:World)(hle:Rd.le rd (fX W))(v:Value)(d:gh)(to:Int)(h:fW gT rd v d) :
    Calls Tryz.prog 23 #[v,(.int .i64 to)] W (fun e w' => ∃ v',e = .returned (.tuple #[v',.int .i64 (gg d to).2])∧fW j5 (ext rd W w') v' (gg d to).1∧Below W.heap.size W w'):=by
 obtain⟨_,rfl,h⟩:=h;obtain⟨j,m,x,y,A,B,o,p,C,D,r,t,rfl,T,Z,a0,U,a1,V,_⟩:=h.d;have aC:=il;have S:St [] W rd rd [] [] W:=St.start hle;refine io (args:=[.agg (kN d j m x y A B o p C D r t),ni to]) 59 Tryz.func23 rfl rfl rfl ?_;refine er (ix (u:=.agg (kN d j m x y A B o p C D r t)) (cs:=(kN d j m x y A B o p C D r t)) S rfl rfl fun n _ S=>gk (cs:=pG) S nS rfl fun aa _ S=>ly (ni 0) S Ya (ln (fJ (er (ly (.agg (kN d j m x y A B o p C D r t)) S (gf 0 ij) ?_)))));refine g7 (g4 (vs:=[.agg (kN d j m x y A B o p C D r t)]) (CF 19 _) rfl rfl) (te _ _ S.le _ d (⟨_,rfl,⟨_,_,_,_,_,_,rfl,T,Z,a0,U,a1,V⟩⟩:fW gT rd _ d)) ?_;rintro e _ ⟨rfl,N⟩;have S:=S.callq N;refine g9 (ly (ni (iu d)) S Ya (ln (er (ly (ni (iu d)) S Ym ?_))));by_cases E:iu d=0
 ·
  refine ly (.bool false) S (iT rfl rfl E) (ln (fV rfl (g1 (fM (fJ (er ?_))))));have M:=oo.1 E;have aD:=M.len;have aE:=M.l;have aF:=M.k;refine ly (ni to) S Ym ?_;by_cases ab:to<0
  ·
   refine ly (.bool true) S (gJ rfl rfl ab) (ly (.bool true) S Ym (ls 16 (ls 16 (ls 16 (ls 16 (ls 16 (ly (.bool true) S Yt (ln (fS rfl (er (ly (.agg #[.bool false,sn,sn,sn,sn,sn]) S (gy (ps:=[]) rfl (fun _=>by kernel_rfl)) (fT (u:=.agg #[.bool false,sn,sn,sn,sn,sn]) (i:=1) (cs':=#[.bool false,sn,sn,sn,sn,sn]) S rfl rfl rfl jF rfl rfl rfl fun _ S=>ly (ni 6) S Ya ?_))))))))))));refine ln (fR ?_);refine iv (v:=.agg #[.bool false,sn,sn,sn,sn,sn]) (v':=ni 6) rfl ⟨_,rfl,gu (i:=1) (vs:=[.bool false,sn,sn,sn,sn,sn]) S rfl lS rfl rfl⟩ rfl ?_;have es:gg d to=((⟨false,⟨[],[],[]⟩,[],[]⟩:i2),6):=by unfold gg gn;rw [if_neg (fun q=>q E),if_pos (by omega)];rfl
   rw [es];exact⟨_,rfl,⟨_,rfl,⟨_,_,_,_,_,rfl,fU,fU,fU,fU,fU⟩⟩,S.below⟩
  refine ly (.bool false) S (gH rfl rfl ab) (ly (.bool false) S Ym (lg 16 (ni to) S Ym (lg 16 (pa n 6) S (Yb jS) (lg 16 (sc r d.known.length t) S (fI 0 kG) (lg 16 (ni (d.known.length:Int)) S (Yl jN) ?_)))));by_cases ac:(d.known.length:Int)≤to
  ·
   refine lg 16 (.bool true) S (jY rfl rfl ac) (ly (.bool true) S Yf (ln (fS rfl (er (ly (.agg #[.bool false,sn,sn,sn,sn,sn]) S (gy (ps:=[]) rfl (fun _=>by kernel_rfl)) (fT (u:=.agg #[.bool false,sn,sn,sn,sn,sn]) (i:=1) (cs':=#[.bool false,sn,sn,sn,sn,sn]) S rfl rfl rfl jF rfl rfl rfl fun _ S=>ly (ni 6) S Ya (ln (fR ?_))))))));refine iv (v:=.agg #[.bool false,sn,sn,sn,sn,sn]) (v':=ni 6) rfl ⟨_,rfl,gu (i:=1) (vs:=[.bool false,sn,sn,sn,sn,sn]) S rfl lS rfl rfl⟩ rfl ?_;have es:gg d to=((⟨false,⟨[],[],[]⟩,[],[]⟩:i2),6):=by unfold gg gn;rw [if_neg (fun q=>q E),if_pos (by omega)];rfl
   rw [es];exact⟨_,rfl,⟨_,rfl,⟨_,_,_,_,_,rfl,fU,fU,fU,fU,fU⟩⟩,S.below⟩
  refine lg 16 (.bool false) S (k4 rfl rfl ac) (ly (.bool false) S Yf (ln (fV rfl (g1 (fM (fJ (er (ly (ni to) S Ym (ly (pa n 0) S (Yb mA) (ly (ni d.self) S (fI 0 T3) ?_))))))))));by_cases X:to=d.self
  ·
   refine ly (.bool true) S (iw rfl rfl X) (ln (fS rfl (er (ly (.agg #[.bool false,sn,sn,sn,sn,sn]) S (gy (ps:=[]) rfl (fun _=>by kernel_rfl)) (fT (u:=.agg #[.bool false,sn,sn,sn,sn,sn]) (i:=1) (cs':=#[.bool false,sn,sn,sn,sn,sn]) S rfl rfl rfl jF rfl rfl rfl fun _ S=>ly (ni 7) S Ya (ln (fR ?_)))))));refine iv (v:=.agg #[.bool false,sn,sn,sn,sn,sn]) (v':=ni 7) rfl ⟨_,rfl,gu (i:=1) (vs:=[.bool false,sn,sn,sn,sn,sn]) S rfl lS rfl rfl⟩ rfl ?_;have es:gg d to=((⟨false,⟨[],[],[]⟩,[],[]⟩:i2),7):=by unfold gg gn;rw [if_neg (fun q=>q E),if_neg (by omega),if_pos X];rfl
   rw [es];exact⟨_,rfl,⟨_,rfl,⟨_,_,_,_,_,rfl,fU,fU,fU,fU,fU⟩⟩,S.below⟩
  refine ly (.bool false) S (i5 rfl rfl X) (ln (fV rfl (g1 (fM (er (ly (pa n 1) S (Yb jt) (ly (pa n 1) S (Yb iO) (ly (sc j d.state.clock.length m) S (fI 0 gL) ?_))))))));refine g7 (g4 (vs:=[sc j d.state.clock.length m]) (CF 45 _) rfl rfl) (oY _ _ S.le _ d.state.clock T (by omega)) ?_;rintro e _ ⟨_,rfl,F,N⟩;obtain⟨ad,S,Q,_,ai⟩:=S.call' N;replace T:=fm T Q;replace Z:=fm Z Q;replace a0:=fm a0 Q;replace U:=fm U Q;replace a1:=fm a1 Q;replace V:=fm V Q;replace F:=fm F ai;obtain⟨a,c,rfl,_,_⟩:=F.val;refine g9 (ly (.agg #[.bool false,sn,sn,sn,sn,sc a d.state.clock.length c]) S (gy (ps:=[(3,sc a d.state.clock.length c)]) rfl (fun _=>by kernel_rfl)) (gk (cs:=pG) S nS rfl fun a2 _ S=>fT (u:=.agg #[.bool false,sn,sn,sn,sn,sc a d.state.clock.length c]) (i:=2) (cs':=#[.bool false,sn,sn,sn,sn,sc a d.state.clock.length c]) S rfl rfl rfl jF rfl rfl rfl fun _ S=>ln (fJ (fJ ?_))));refine jZ MX (by kernel_rfl) S.drew ?_;refine qy (pa n 6) (Yb jS) (qy (sc r d.known.length t) (fI 0 kG) (qy (ni to) Ym ?_));obtain⟨g,R⟩:∃ z,(d.known)[to.toNat]? = some z:=gX (by omega);have a5:=qz R;have aj:=i7 (M.ks _ (List.mem_of_getElem? R)).1;obtain⟨al,_,an,_,a3,ao⟩:=hD jN jz V R;obtain⟨a6,a7,rfl,a3,_⟩:=a3.d;refine qy al (ao rfl rfl (by first | rfl | omega)) (qy (sc a6 g.length a7) (iE an gL) (qy (pa n 4) (Yb mC) (qy (sc o d.base.length p) (fI 0 gL) ?_)))
  cases ae:gO g d.base
  ·
   refine n0 (v:=.bool false) (g4 (vs:=[sc a6 g.length a7,sc o d.base.length p]) (CF 29 _) rfl rfl) (fun w S=>(qv _ _ _ _ _ (fm a3 S.le) (fm U S.le) (by omega)).mono (by rintro e w' ⟨rfl,k⟩;exact⟨im ‹_›,(S.callq k)⟩)) ?_;refine qy (.bool true) (iH rfl rfl) (ig fun _ S=>fM (fS rfl (er (ly (pa n 1) S (Yb jt) (ly (.agg (kS d.state j m x y A B)) S (gf 0 ir) ?_)))));refine g7 (g4 (vs:=[.agg (kS d.state j m x y A B)]) (CF 58 _) rfl rfl) (tg _ _ S.le _ d.state (⟨_,rfl,⟨_,_,_,rfl,T,Z,a0⟩⟩:fW iW ad _ d.state) M.s.bd) ?_;rintro e _ ⟨_,rfl,Y,N⟩;obtain⟨ap,S,aq,_,ar⟩:=S.call' N;replace F:=fm F aq;replace Y:=am Y ar;obtain⟨_,rfl,Y⟩:=Y;obtain⟨G,H,I,J,K,L,rfl,au,av,aw,_⟩:=Y.d;refine g9 (ly (pa a2 0) S (Yb rr) (fT (u:=.bool true) (i:=2) (cs':=#[.bool true,sn,sn,sn,sn,sc a d.state.clock.length c]) S rfl rfl rfl pi rfl rfl rfl fun _ S=>ly (pa a2 1) S (Yb oz) (fT (u:=.agg (kS d.state G H I J K L)) (i:=2) (cs':=#[.bool true,sc G d.state.clock.length H,sc I d.state.lives.length J,sc K d.state.tallies.length L,sn,sc a d.state.clock.length c]) S rfl rfl rfl iM rfl rfl rfl fun _ S=>ln (er (ly (.agg #[.bool true,sc G d.state.clock.length H,sc I d.state.lives.length J,sc K d.state.tallies.length L,sn,sc a d.state.clock.length c]) S (gf 2 lS) (fT (u:=.agg #[.bool true,sc G d.state.clock.length H,sc I d.state.lives.length J,sc K d.state.tallies.length L,sn,sc a d.state.clock.length c]) (i:=1) (cs':=#[.bool true,sc G d.state.clock.length H,sc I d.state.lives.length J,sc K d.state.tallies.length L,sn,sc a d.state.clock.length c]) S rfl rfl rfl jF rfl rfl rfl fun _ S => ?_))))));have S:St [] W rd ap [(n,31,(kN d j m x y A B o p C D r t)),(aa,33,#[.bool true,sc G d.state.clock.length H,sc I d.state.lives.length J,sc K d.state.tallies.length L,sn,sc a d.state.clock.length c]),(a2,33,#[.bool true,sc G d.state.clock.length H,sc I d.state.lives.length J,sc K d.state.tallies.length L,sn,sc a d.state.clock.length c])] [] _:=S.rw' rfl rfl;refine ly (ni 0) S Ya (ln (fR ?_));refine iv (v:=.agg #[.bool true,sc G d.state.clock.length H,sc I d.state.lives.length J,sc K d.state.tallies.length L,sn,sc a d.state.clock.length c]) (v':=ni 0) rfl ⟨_,rfl,gu (i:=1) (vs:=[.bool true,sc G d.state.clock.length H,sc I d.state.lives.length J,sc K d.state.tallies.length L,sn,sc a d.state.clock.length c]) S rfl lS rfl rfl⟩ rfl ?_;have es:gg d to=((⟨true,d.state,[],d.state.clock⟩:i2),0):=by unfold gg gn;rw [if_neg (fun q=>q E),if_neg (by omega),if_neg X,a5,if_pos ae]
   rw [es];exact⟨_,rfl,⟨_,rfl,⟨_,_,_,_,_,rfl,(fm au S.out),(fm av S.out),(fm aw S.out),fU,(fm F S.out)⟩⟩,S.below⟩
  refine n0 (v:=.bool true) (g4 (vs:=[sc a6 g.length a7,sc o d.base.length p]) (CF 29 _) rfl rfl) (fun w S=>(qv _ _ _ _ _ (fm a3 S.le) (fm U S.le) (by omega)).mono (by rintro e w' ⟨rfl,k⟩;exact⟨im ‹_›,(S.callq k)⟩)) ?_;refine qy (.bool false) (iH rfl rfl) (ig fun _ S=>fM (fV rfl (g1 (fM (fJ ?_)))));refine iV (fun w=>St [] W rd ad [(n,31,(kN d j m x y A B o p C D r t)),(aa,33,#[.bool false,sn,sn,sn,sn,sn])] [] w) MX rfl ?_;have S:=S.drew;have af:=S.sup;have SC:=((S.tt 3 0).del 2);refine tk (pa n 5) 0 rfl rfl SC (Yb jL) (tk (sc C d.log.length D) 1 rfl rfl SC (fI 0 kM) (tk (pa n 6) 2 rfl rfl SC (Yb jS) (tk (sc r d.known.length t) 3 rfl rfl SC (fI 0 kG) (tk (ni to) 4 rfl rfl SC Ym ?_))));have a5:=qz R;have aj:=i7 (M.ks _ (List.mem_of_getElem? R)).1;obtain⟨ax,_,ay,_,a8,az⟩:=hD jN jz V R;obtain⟨ag,ah,rfl,a8,_⟩:=a8.d;refine tk ax 5 rfl rfl SC (az rfl rfl (by first | rfl | omega)) (tk (sc ag g.length ah) 6 rfl rfl SC (iE ay gL) ?_);refine aO 7 rfl (by kernel_rfl) (g7 (g4 (vs:=[sc C d.log.length D,sc ag g.length ah]) (CF 43 _) rfl rfl) (yZ _ _ _ _ _ (fm a1 S.le) (fm a8 S.le) (by omega) (fun u aA=>by have:=(mO M.b M.f aA).1.len;omega)) ?_);rintro e _ ⟨_,rfl,a4,N⟩;obtain⟨_,S,a9,aB,_⟩:=S.call' N;replace F:=fm F a9;have a4:=fm a4 aB;obtain⟨O,P,rfl,_,_⟩:=a4.val;refine kn ?_;have SC:=(((S.tt 3 0).del 2).weak af a9);refine fK (ak SC ?_);refine tk (pa a2 4) 8 rfl rfl SC (Yb oZ) (aO 9 rfl (by kernel_rfl) ?_);refine fT (u:=sc O ((i4 d.log g).length) P) (i:=2) (cs':=#[.bool false,sn,sn,sn,sc O ((i4 d.log g).length) P,sc a d.state.clock.length c]) S rfl rfl rfl m2 rfl rfl rfl fun _ S=>fL ?_
  have SC:=(((S.tt 3 0).del 2).weak af a9);refine fK (ak SC ?_);refine gE (by kernel_rfl) ?_;refine fM (er (ly (.agg #[.bool false,sn,sn,sn,sc O ((i4 d.log g).length) P,sc a d.state.clock.length c]) S (gf 2 lS) (fT (u:=.agg #[.bool false,sn,sn,sn,sc O ((i4 d.log g).length) P,sc a d.state.clock.length c]) (i:=1) (cs':=#[.bool false,sn,sn,sn,sc O ((i4 d.log g).length) P,sc a d.state.clock.length c]) S rfl rfl rfl jF rfl rfl rfl fun _ S=>ly (ni 0) S Ya (ln (fR ?_)))));refine iv (v:=.agg #[.bool false,sn,sn,sn,sc O ((i4 d.log g).length) P,sc a d.state.clock.length c]) (v':=ni 0) rfl ⟨_,rfl,gu (i:=1) (vs:=[.bool false,sn,sn,sn,sc O ((i4 d.log g).length) P,sc a d.state.clock.length c]) S rfl lS rfl rfl⟩ rfl ?_;have es:gg d to=((⟨false,⟨[],[],[]⟩,i4 d.log g,d.state.clock⟩:i2),0):=by unfold gg gn;rw [if_neg (fun q=>q E),if_neg (by omega),if_neg X,a5,if_neg (by rw [ae];simp)];rfl
  rw [es];exact⟨_,rfl,⟨_,rfl,⟨_,_,_,_,_,rfl,fU,fU,fU,(fm a4 S.out),(fm F S.out)⟩⟩,S.below⟩
 refine ly (.bool true) S (j4 rfl rfl E) (ln (fS rfl (er (ly (.agg #[.bool false,sn,sn,sn,sn,sn]) S (gy (ps:=[]) rfl (fun _=>by kernel_rfl)) (ly (ni (iu d)) S Ym (fT (u:=.agg #[.bool false,sn,sn,sn,sn,sn]) (i:=1) (cs':=#[.bool false,sn,sn,sn,sn,sn]) S rfl rfl rfl jF rfl rfl rfl fun _ S=>ly (ni (iu d)) S Ya (ln (fR ?_))))))));refine iv (v:=.agg #[.bool false,sn,sn,sn,sn,sn]) (v':=ni (iu d)) rfl ⟨_,rfl,gu (i:=1) (vs:=[.bool false,sn,sn,sn,sn,sn]) S rfl lS rfl rfl⟩ rfl ?_;have es:gg d to=((⟨false,⟨[],[],[]⟩,[],[]⟩:i2),iu d):=by unfold gg;rw [if_pos E];rfl
 rw [es];exact⟨_,rfl,⟨_,rfl,⟨_,_,_,_,_,rfl,fU,fU,fU,fU,fU⟩⟩,S.below⟩
theorem yO(rd:Rd)(W:World)(hle:Rd.le rd (fX W))(v:Value)(d:gh)(h:fW gT rd v d) :
    Calls Tryz.prog 27 #[v] W (fun e w' => ∃ v',e = .returned (.tuple #[v',.int .i64 (h9 d).2])∧fW gT (ext rd W w') v' (h9 d).1∧Below W.heap.size W w'):=by
 obtain⟨_,rfl,h⟩:=h;obtain⟨I,J,K,L,M,N,O,P,Q,R,T,U,rfl,an,ao,ap,aq,ar,au,_⟩:=h.d;have aQ:=il;have S:St [] W rd rd [] [] W:=St.start hle;refine io (args:=[.agg (kN d I J K L M N O P Q R T U)]) 43 Tryz.func27 rfl rfl rfl ?_;refine er (ix (u:=.agg (kN d I J K L M N O P Q R T U)) (cs:=(kN d I J K L M N O P Q R T U)) S rfl rfl fun av _ S=>gk (cs:=jR) S jE rfl fun ad _ S=>ly (ni 0) S Ya (ln (fJ (er (ly (.agg (kN d I J K L M N O P Q R T U)) S (gf 0 ij) ?_)))));refine g7 (g4 (vs:=[.agg (kN d I J K L M N O P Q R T U)]) (CF 19 _) rfl rfl) (te _ _ S.le _ d (⟨_,rfl,⟨_,_,_,_,_,_,rfl,an,ao,ap,aq,ar,au⟩⟩:fW gT rd _ d)) ?_;rintro e _ ⟨rfl,F⟩;have S:=S.callq F;refine g9 (ly (ni (iu d)) S Ya (ln (er (ly (ni (iu d)) S Ym ?_))));by_cases a6:iu d=0
 ·
  refine ly (.bool false) S (iT rfl rfl a6) (ln (fV rfl (g1 (fM (er ?_)))));obtain⟨n,aC⟩:∃ n,n=jp d:=⟨_,rfl⟩;have G:=oo.1 a6;rw [← aC] at G;have aR:=G.len;have aS:=G.l;have aT:=G.k;refine ly (.agg (kN d I J K L M N O P Q R T U)) S (gf 0 ij) (g7 (g4 (vs:=[.agg (kN d I J K L M N O P Q R T U)]) (CF 41 _) rfl rfl) (uf _ _ S.le _ d _ (⟨_,rfl,⟨_,_,_,_,_,_,rfl,an,ao,ap,aq,ar,au⟩⟩:fW gT rd _ d) G) ?_);rintro e _ ⟨a,g,o,p,t,x,a7,a8,Y,Z,_,j,m,_,_,rfl,F,y,D,E,a0,a9,ak⟩;have aU:=F.sup;have S:=S.comp0 F;refine g9 ?_;obtain⟨aD,S,a4,aE⟩:=S.frzo' (i:=1) rfl rfl;replace y:=fm y a4;replace D:=fm D a4;replace E:=fm E a4;replace a0:=fm a0 a4;replace a9:=rm a9 a4;replace ak:=rm ak a4;have H:fN 1 (jy 1 ge) aD (sc j d.known.length m) d.known:=aE rfl ak;obtain⟨aw,S,a5,aF⟩:=S.frzo' (i:=0) rfl rfl;replace y:=fm y a5;replace D:=fm D a5;replace E:=fm E a5;replace a0:=fm a0 a5;replace a9:=rm a9 a5;replace H:=fm H a5;have aa:fN 5 gM aw (sc Y d.log.length Z) d.log:=aF rfl a9;refine gk (cs:=jR) S jE rfl fun A _ S=>fT (u:=.agg (kN d a g o p t x a7 a8 Y Z j m)) (i:=2) (cs':=(kN d a g o p t x a7 a8 Y Z j m)) S rfl rfl rfl hY rfl rfl rfl fun _ S=>ln (er (ly (pa A 1) S (Yb jt) (ly (pa A 1) S (Yb iO) (ly (sc a d.state.clock.length g) S (fI 2 gL) (ly (sc a d.state.clock.length g) S Ya (ln (fJ (er (ly (pa A 6) S (Yb jS) ?_)))))))))
  refine ly (sc j d.known.length m) S (fI 2 kG) (ly (ni (d.known.length:Int)) S (Yl jN) (ly (ni 0) S Ym (ln (go ?_))));refine et [(2,pa ad 0),(3,ni 0),(5,pa A 0),(21,sc j d.known.length m),(22,ni (d.known.length:Int)),(23,ni (0:Int)),(6,sc a d.state.clock.length g)] (fun ae => ?_);refine j1 (fun(al:Nat × (List Int) × (Option Addr) × Nat) ov w=>match al with | (k,c,Ac,cc) => ∃ rd' ae,ov=[(2,pa ad 0),(3,ni 0),(5,pa A 0),(21,sc j d.known.length m),(22,ni (d.known.length:Int)),(23,ni (k:Int)),(6,sc Ac c.length cc)]++ae∧St [] W rd rd' [(av,31,(kN d I J K L M N O P Q R T U)),(ad,31,#[ni 0,sn,sn,sn,sn,sn,sn]),(A,31,(kN d a g o p t x a7 a8 Y Z j m))] [] w∧Rd.le aw rd'∧fN 1 ge rd' (.slice Ac c.length cc) c∧k≤d.known.length∧c=(d.known.take k).foldl k9 d.state.clock∧gb c n=0) (fun al=>match al with | (k,c,Ac,cc)=>d.known.length - k) (0,d.state.clock,a,g) ⟨_,ae,rfl,(S.rw' rfl rfl),fZ,y,(by omega),rfl,G.s.c⟩ ?_;rintro⟨k,c,Ac,cc⟩ _ _ ⟨_,ae,rfl,S,a1,fc,_,ax,ay⟩;replace y:=fm y a1;replace D:=fm D a1;replace E:=fm E a1;replace a0:=fm a0 a1;replace H:=fm H a1;replace aa:=fm aa a1;have aV:=i7 ay;refine er ?_;by_cases az:(k:Int)<(d.known.length:Int)
  ·
   refine ly (.bool true) S (gJ rfl rfl az) (ln (fJ (fS rfl (g1 (fM (fJ (go (er ?_))))))));obtain⟨a2,af⟩:∃ z,(d.known)[k]? = some z:=gX (by first | assumption | omega);have aW:=i7 (G.ks _ (List.mem_of_getElem? af)).1;obtain⟨aG,_,aH,_,am,aI⟩:=hD jN jz H af;obtain⟨ag,ah,rfl,am,_⟩:=am.d;refine ly aG S (aI rfl rfl (by first | rfl | omega)) (ly (sc ag a2.length ah) S (iE aH gL) (ly (sc ag a2.length ah) S Ya (ln (gU (ly (sc Ac c.length cc) S Ym (ly (sc ag a2.length ah) S Ym ?_))))));refine g7 (g4 (vs:=[sc Ac c.length cc,sc ag a2.length ah]) (CF 64 _) rfl rfl) (BW _ _ _ _ _ (fm fc S.le) (fm am S.le) (by omega)) ?_;rintro e _ ⟨_,rfl,ai,F⟩;obtain⟨_,S,aJ,aK,_⟩:=S.call' F;have ai:=fm ai aK;obtain⟨aA,aB,rfl,_,_⟩:=ai.val;refine g9 (ly (sc aA ((k9 c a2).length) aB) S Ya (fL (gA (nr (ly (ni ((k:Int)+1)) S (gw (r:=(k:Int)+1) rfl rfl (gl (by omega) (by omega))) (ly (ni ((k:Int)+1)) S Ym (fL ?_)))))));have:=rY c a2;refine fK ⟨(k+1,k9 c a2,aA,aB),_,fk,⟨_,_,rfl,(S.tt 3 0),(fY a1 (fY fZ aJ)),ai,(by omega),(by rw [ue af,← ax]),(qH ay (G.ks _ (List.mem_of_getElem? af)).1)⟩,?_⟩
   show _<_;dsimp only;omega
  refine ly (.bool false) S (gH rfl rfl az) (ln (fJ (fV rfl (iP (iQ (j0 (iR (fM (er (ly (pa A 4) S (Yb mC) (ly (sc a7 d.base.length a8) S (fI 2 gL) (ly (sc Ac c.length cc) S Ym ?_))))))))))));refine g7 (g4 (vs:=[sc a7 d.base.length a8,sc Ac c.length cc]) (CF 31 _) rfl rfl) (tj _ _ _ _ _ (fm a0 S.le) (fm fc S.le) (by omega)) ?_;rintro e _ ⟨_,rfl,a3,F⟩;obtain⟨_,S,ab,aL,_⟩:=S.call' F;replace y:=fm y ab;replace D:=fm D ab;replace E:=fm E ab;replace H:=fm H ab;replace aa:=fm aa ab;have a3:=fm a3 aL;obtain⟨B,C,rfl,_,_⟩:=a3.val;refine g9 (ly (pa A 4) S (Yb mC) (fT (u:=sc B ((g8 d.base c).length) C) (i:=2) (cs':=#[ni d.self,sc a d.state.clock.length g,sc o d.state.lives.length p,sc t d.state.tallies.length x,sc B ((g8 d.base c).length) C,sc Y d.log.length Z,sc j d.known.length m]) S rfl rfl rfl jz rfl rfl rfl fun _ S=>ln (er (ly (pa A 5) S (Yb jL) (ly (sc Y d.log.length Z) S (fI 2 kM) (ly (pa A 4) S (Yb mC) (ly (sc B ((g8 d.base c).length) C) S (fI 2 gL) ?_)))))));have aX:=ph d.base c;refine g7 (g4 (vs:=[sc Y d.log.length Z,sc B ((g8 d.base c).length) C]) (CF 43 _) rfl rfl) (yZ _ _ _ _ _ (fm aa S.le) (fm a3 S.le) (by omega) (fun u aM=>by have:=(mO G.b G.f aM).1.len;omega)) ?_;rintro e _ ⟨_,rfl,aj,F⟩;obtain⟨aN,S,ac,aO,_⟩:=S.call' F;replace y:=fm y ac;replace D:=fm D ac;replace E:=fm E ac;replace H:=fm H ac;replace a3:=fm a3 ac;have aj:=fm aj aO;obtain⟨V,X,rfl,_,_⟩:=aj.val;refine g9 (ly (pa A 5) S (Yb jL) (fT (u:=sc V ((i4 d.log (g8 d.base c)).length) X) (i:=2) (cs':=#[ni d.self,sc a d.state.clock.length g,sc o d.state.lives.length p,sc t d.state.tallies.length x,sc B ((g8 d.base c).length) C,sc V ((i4 d.log (g8 d.base c)).length) X,sc j d.known.length m]) S rfl rfl rfl m2 rfl rfl rfl fun _ S=>ln (er (ly (.agg #[ni d.self,sc a d.state.clock.length g,sc o d.state.lives.length p,sc t d.state.tallies.length x,sc B ((g8 d.base c).length) C,sc V ((i4 d.log (g8 d.base c)).length) X,sc j d.known.length m]) S (gf 2 ij) (fT (u:=.agg #[ni d.self,sc a d.state.clock.length g,sc o d.state.lives.length p,sc t d.state.tallies.length x,sc B ((g8 d.base c).length) C,sc V ((i4 d.log (g8 d.base c)).length) X,sc j d.known.length m]) (i:=1) (cs':=#[ni d.self,sc a d.state.clock.length g,sc o d.state.lives.length p,sc t d.state.tallies.length x,sc B ((g8 d.base c).length) C,sc V ((i4 d.log (g8 d.base c)).length) X,sc j d.known.length m]) S rfl rfl rfl hY rfl rfl rfl fun _ S => ?_)))));have S:St [] W rd aN [(av,31,(kN d I J K L M N O P Q R T U)),(ad,31,#[ni d.self,sc a d.state.clock.length g,sc o d.state.lives.length p,sc t d.state.tallies.length x,sc B ((g8 d.base c).length) C,sc V ((i4 d.log (g8 d.base c)).length) X,sc j d.known.length m]),(A,31,#[ni d.self,sc a d.state.clock.length g,sc o d.state.lives.length p,sc t d.state.tallies.length x,sc B ((g8 d.base c).length) C,sc V ((i4 d.log (g8 d.base c)).length) X,sc j d.known.length m])] [] _:=S.rw' rfl rfl;refine ly (ni 0) S Ya (ln (fR ?_));refine iv (v:=.agg #[ni d.self,sc a d.state.clock.length g,sc o d.state.lives.length p,sc t d.state.tallies.length x,sc B ((g8 d.base c).length) C,sc V ((i4 d.log (g8 d.base c)).length) X,sc j d.known.length m]) (v':=ni 0) rfl ⟨_,rfl,gu (i:=1) (vs:=[ni d.self,sc a d.state.clock.length g,sc o d.state.lives.length p,sc t d.state.tallies.length x,sc B ((g8 d.base c).length) C,sc V ((i4 d.log (g8 d.base c)).length) X,sc j d.known.length m]) S rfl ij rfl rfl⟩ rfl ?_;have aP:c=nY d:=by rw [ax,List.take_of_length_le (by omega)];rfl
  have es:h9 d=((⟨d.self,d.state,g8 d.base c,i4 d.log (g8 d.base c),d.known⟩:gh),0):=by unfold h9;rw [if_neg (fun q=>q a6),← aP]
  rw [es];exact⟨_,rfl,⟨_,rfl,⟨_,_,_,_,_,_,rfl,(fm y S.out),(fm D S.out),(fm E S.out),(fm a3 S.out),(fm aj S.out),(fm H S.out)⟩⟩,S.below⟩
 refine ly (.bool true) S (j4 rfl rfl a6) (ln (fS rfl (er (ly (.agg #[ni 0,sn,sn,sn,sn,sn,sn]) S (gy (ps:=[]) rfl (fun _=>by kernel_rfl)) (ly (ni (iu d)) S Ym (fT (u:=.agg #[ni 0,sn,sn,sn,sn,sn,sn]) (i:=1) (cs':=#[ni 0,sn,sn,sn,sn,sn,sn]) S rfl rfl rfl hY rfl rfl rfl fun _ S=>ly (ni (iu d)) S Ya (ln (fR ?_))))))));refine iv (v:=.agg #[ni 0,sn,sn,sn,sn,sn,sn]) (v':=ni (iu d)) rfl ⟨_,rfl,gu (i:=1) (vs:=[ni 0,sn,sn,sn,sn,sn,sn]) S rfl ij rfl rfl⟩ rfl ?_;have es:h9 d=((⟨0,⟨[],[],[]⟩,[],[],[]⟩:gh),iu d):=by unfold h9;rw [if_pos a6];rfl
 rw [es];exact⟨_,rfl,⟨_,rfl,⟨_,_,_,_,_,_,rfl,fU,fU,fU,fU,fU,fU⟩⟩,S.below⟩
theorem xx{α:Type}[DecidableEq α]:∀ {l m:List α},l.Nodup→(∀ x∈l,x∈m)→l.length≤m.length
 | [],m,_,_=>Nat.zero_le _
 | x :: l,m,h,hs=>by
  rw [List.nodup_cons] at h
  have hx:=hs x (by simp)
  have:=xx (l:=l) (m:=m.erase x) h.2 fun y hy=>(List.mem_erase_of_ne (fun e=>by subst e;exact h.1 hy)).2 (hs y (by simp [hy]))
  rw [List.length_erase_of_mem hx] at this
  have:0<m.length:=List.length_pos_of_mem hx
  simp only [List.length_cons];omega
theorem lc.issue{n:Nat}{L:List fH}{w:iG}(I:lc n L w){i:Nat}(hi:i<n){u:fH}(k:rV (ic w i) u n):lc n (L++[ku (ic w i) u]) ⟨w.nodes.set i (i3 (ic w i) u).1,w.way⟩:=by
 have d:=I.node i hi
 have G:=I.len
 have H:gb (zs n) n=0:=ub I.n1 I.n6
 have ea:(ku (ic w i) u).author=i:=d.self
 have eat:(ku (ic w i) u).author.toNat=i:=by rw [ea];exact Int.toNat_natCast i
 have es:(ku (ic w i) u).seen=(ic w i).state.clock:=rfl
 have J:=qA H I.fit
 have t:jv n (zs n) (L++[ku (ic w i) u]):=qc.2 ⟨I.fit,⟨k.s.r,by rw [eat,es,d.own];rfl,by rw [es];exact d.sub.le⟩,trivial⟩
 obtain⟨_,fu,_⟩:=qc.1 t
 have more:∀ {A:List Int},m7 n L A→m7 n (L++[ku (ic w i) u]) A∧k5 n (L++[ku (ic w i) u]) A=k5 n L A:=fun {A} C=>C.more t (by
  rw [eat,es,d.own];exact jJ.1 C.le i)
 have efull:∀ j,g6 (full n (L++[ku (ic w i) u])) j=if j=i then g6 (full n L) i+1 else g6 (full n L) j:=fun j=>by
  show g6 (kr (zs n) (L++[ku (ic w i) u])) j=_
  rw [u3]
  show g6 (gD (kr (zs n) L) (ku (ic w i) u).author) j=_
  rw [m0 J.1 fu,eat];rfl
 obtain⟨M,N,_,O⟩:=k.right
 have P:=k.e
 generalize hx:(i3 (ic w i) u).1=x at *
 have ex:x=⟨(ic w i).self,iq (ic w i).state (ku (ic w i) u),(ic w i).base,(ic w i).log++[ku (ic w i) u],(ic w i).known.set (ic w i).self.toNat (iq (ic w i).state (ku (ic w i) u)).clock⟩:=by rw [← hx,P]
 have exs:x.state=iq (ic w i).state (ku (ic w i) u):=by rw [ex]
 have exc:x.state.clock=gD (ic w i).state.clock (ku (ic w i) u).author:=by rw [exs,sr]
 obtain⟨Q,R⟩:=more d.sub
 obtain⟨S,T⟩:=Q.step (u:=ku (ic w i) u) (by simp) k.s
 have U:nx n (L++[ku (ic w i) u]) i x:=by
  refine⟨M,O.trans d.self,?_,by rw [exc];exact T,?_,fun v g => ?_⟩
  ·rw [exc,← S,R,exs,← d.st]
  ·rw [exc,m0 d.r.s.c k.s,eat,if_pos rfl,efull,if_pos rfl,d.own]
  ·rw [ex] at g
   rcases List.mem_append.1 g with g | g
   ·exact List.mem_append_left _ (d.logs v g)
   ·exact List.mem_append_right _ g
 have mono:∀ j,j<n→gO (ic ⟨w.nodes.set i x,w.way⟩ j).state.clock (ic w j).state.clock=true:=fun j D=>by
  rw [oR (by omega)];split
  ·rename_i e;subst e;exact N
  ·exact my _
 refine⟨I.n1,I.n6,by rw [List.length_set];exact G,I.wl,I.ww,t,fun j D => ?_,fun a q b m => ?_,fun a q b m p V => ?_⟩
 ·rw [oR (by omega)];split
  ·rename_i e;subst e;exact U
  ·rename_i W
   have o:=I.node j D
   obtain⟨y,z⟩:=more o.sub
   exact⟨o.r,o.self,by rw [z];exact o.st,y,by rw [efull,if_neg W];exact o.own,fun v g=>List.mem_append_left _ (o.logs v g)⟩
 ·by_cases E:a=i
  ·subst E
   rw [oR (k:=a) (j:=a) (by omega),if_pos rfl]
   have X:x.known=(ic w a).known.set a x.state.clock:=by
    have Y:(ic w a).self.toNat=a:=by rw [d.self];exact Int.toNat_natCast a
    rw [ex];dsimp only;rw [Y]
   have a0:(ic w a).known.length=n:=by have:=d.r.k;omega
   rw [X]
   by_cases F:b=a
   ·subst F
    rw [oR (k:=b) (j:=b) (by omega),if_pos rfl,vC (by simpa using (by omega:b<(ic w b).known.length))]
    simp only [List.getElem_set_self];exact my _
   ·have:l4 ((ic w a).known.set a x.state.clock) b=l4 (ic w a).known b:=by unfold l4;rw [rc (by omega),if_neg F]
    rw [this]
    exact ma (mono b m) (I.known a q b m)
  ·rw [oR (k:=i) (j:=a) (by omega),if_neg E]
   exact ma (mono b m) (I.known a q b m)
 ·have B:=I.way a q b m p V
  have Z:oT n (L++[ku (ic w i) u]) (ic w a) (ic w b) p:=⟨by
   cases B.b with
   | whole h s =>
    obtain⟨y,z⟩:=more s
    exact .whole (by rw [z];exact h) y
   | part K h k f c s l=>exact .part K h k f c s fun v g=>List.mem_append_left _ (l v g),B.w,B.s⟩
  exact Z.mono (mono a q) (mono b m)
def qN(w:iG)(d:Do):List fH:=if d.kind=1∧(gR w d).2=0 then [ku (ic w d.n.toNat) d.update] else []
theorem lc.issued{n:Nat}{L:List fH}{w:iG}(I:lc n L w){i:Nat}(hi:i<n){u:fH}(h:(i3 (ic w i) u).2=0):rV (ic w i) u n:=by
 have:=BQ h
 rwa [(I.node i hi).r.n] at this
theorem lc.deliver{n:Nat}{L:List fH}{w:iG}(I:lc n L w){a b:Nat}(ha:a<n)(hb:b<n)(ne:a ≠ b){p:i2}(hp:p∈iU w.way a b)(h:(gi (ic w b) a p).2=0):lc n L ⟨w.nodes.set b (gi (ic w b) a p).1,w.way⟩∧(gi (ic w b) a p).1.state.clock=g8 (ic w b).state.clock p.clock:=by
 have c:=I.way a ha b hb p hp
 obtain⟨_,_,k⟩:=(I.node a ha).take (I.node b hb) ne ha c
 obtain⟨g,d,i⟩:=k h
 refine⟨I.put hb g (by rw [d];exact pO _ _) fun j f l => ?_,d⟩
 have m:(ic w b).known.length=n:=by have:=(I.node b hb).r.k;omega
 rw [i]
 unfold l4
 rw [rc (by rw [List.length_set];omega),if_neg l,rc (by omega)]
 split
 ·rename_i e;subst e
  show gO _ (g8 (l4 (ic w b).known j) p.clock)=true
  rw [sO,I.known b hb j f,c.s];rfl
 ·exact I.known b hb j f
theorem EK{w:iG}{a b:Nat}(h:(iU w.way a b).length ≠ 0):pC (iU w.way a b)∈iU w.way a b:=by
 unfold pC
 cases c:iU w.way a b with
 | nil=>rw [c] at h;exact absurd rfl h
 | cons x q=>simp
theorem w6{w:iG}{n:Nat}(hl:w.nodes.length=n){a b:Int}(h:jw w a b=0):a.toNat<n∧b.toNat<n∧a.toNat ≠ b.toNat∧a=(a.toNat:Int)∧b=(b.toNat:Int):=by
 unfold jw gn at h
 split at h
 ·cases h
 ·split at h
  ·cases h
  ·omega
theorem lc.step{n:Nat}{L:List fH}{w:iG}(I:lc n L w)(d:Do):lc n (L++qN w d) (gR w d).1:=by
 have i:=I.len
 unfold qN
 by_cases b:d.kind=1∧(gR w d).2=0
 ·rw [if_pos b]
  obtain⟨b,c⟩:=b
  unfold gR at c ⊢
  rw [if_pos (.inl b)] at c ⊢
  split at c
  ·cases c
  ·rename_i f
   have g:=f
   unfold gn at g
   rw [if_neg f,if_neg (by omega)]
   rw [if_neg (by omega)] at c
   unfold putW at c ⊢
   split at c
   ·rename_i e
    rw [if_pos e]
    exact I.issue (by omega) (I.issued (by omega) e)
   ·rename_i e;exact absurd c e
 ·rw [if_neg b,List.append_nil]
  unfold gR at b ⊢
  split
  ·rename_i k
   split
   ·exact I
   ·rename_i f
    have g:=f
    unfold gn at g
    split
    ·rename_i h
     unfold putW
     rw [Cf (I.node _ (by omega)).r,if_pos rfl]
     exact I.put (by omega) (I.node _ (by omega)).prune (my _) fun j l _=>I.known _ (by omega) j l
    ·rename_i h
     have m:d.kind=1:=by omega
     rw [if_pos k,if_neg f,if_neg h] at b
     unfold putW at b ⊢
     split
     ·rename_i e;rw [if_pos e] at b;exact absurd ⟨m,rfl⟩ b
     ·exact I
  ·split
   ·split
    ·exact I
    ·rename_i a
     obtain⟨pa,pb,pn,_,_⟩:=w6 i (Classical.not_not.1 a)
     split
     ·unfold lT
      split
      ·exact I
      ·split
       ·obtain⟨_,o,_⟩:=(I.node _ pa).send (I.node _ pb) pn pb (I.known _ pa _ pb)
        refine I.drop pa pb fun p a => ?_
        rcases List.mem_append.1 a with a | a
        ·exact I.way _ pa _ pb p a
        ·rw [List.mem_singleton] at a;subst a;exact o
       ·exact I
     ·unfold lH
      split
      ·exact I
      ·rename_i q
       split
       ·exact I.drop pa pb fun p a=>I.way _ pa _ pb p (List.mem_of_mem_drop a)
       ·unfold putW
        split
        ·rename_i s
         obtain⟨J,_⟩:=I.deliver pa pb pn (EK q) s
         exact J.drop pa pb fun p a=>J.way _ pa _ pb p (List.mem_of_mem_drop a)
        ·exact I.drop pa pb fun p a=>I.way _ pa _ pb p (List.mem_of_mem_drop a)
   ·exact I
def rM:iG→List Do→List fH
 | _,[]=>[]
 | w,d :: l=>qN w d++rM (gR w d).1 l
theorem lc.run{n:Nat}:∀ {l:List Do} {L:List fH} {w:iG},lc n L w→lc n (L++rM w l) (kC w l).1
 | [],L,w,I=>by simpa [rM,kC] using I
 | d :: l,L,w,I=>by
  have:=(I.step d).run (l:=l)
  rw [List.append_assoc] at this
  exact this
theorem yj:∀ (l:List Do) (w:iG),(rM w l).length≤l.length
 | [],w=>Nat.le_refl _
 | d :: l,w=>by
  have:=yj l (gR w d).1
  have h:(qN w d).length≤1:=by unfold qN;split <;> simp
  show(qN w d++rM _ l).length≤l.length+1
  rw [List.length_append];omega
theorem Ap{n:Nat}(h6:n≤6):gS n=o9 n:=by
 unfold gS o9
 have:(min (max (n:Int) 0) 6).toNat=n:=by omega
 rw [this]
theorem yI{n:Nat}(h1:1≤n)(h6:n≤6):lc n [] (kJ n):=by
 have h:gb (zs n) n=0:=ub h1 h6
 have l:∀ i,i<n→ic (kJ n) i=oa i n:=fun i d=>by
  unfold ic kJ
  rw [List.getD_eq_getElem?_getD,List.getElem?_map,List.getElem?_range d];rfl
 have m:∀ i:Nat,(oa i n).state=o9 n:=fun i=>by unfold oa;dsimp only;exact Ap h6
 have c:∀ i:Nat,(oa i n).state.clock=zs n:=fun i=>by rw [m];rfl
 have t:m7 n [] (zs n):=⟨⟨h1,h6,trivial,h,fun u o=>by cases o⟩,my _⟩
 have e:(n:Int).toNat=n:=Int.toNat_natCast n
 have v:∀ i j:Nat,j<n→l4 (oa i n).known j=zs n:=fun i j f=>by
  unfold oa l4
  dsimp only
  rw [e,List.getD_eq_getElem?_getD,List.getElem?_replicate,if_pos f];rfl
 refine⟨h1,h6,by simp [kJ],by simp [kJ],fun r q => ?_,trivial,fun i d => ?_,fun i d j f => ?_,fun a w b x p s => ?_⟩
 ·unfold kJ at q;simp at q;rw [q.2];simp
 ·rw [l i d]
  refine⟨⟨by rw [m];exact vU h1 h6,by show 0≤(i:Int);omega,by show(i:Int)<n;omega,by show gb (List.replicate (n:Int).toNat 0) n=0;rw [e];exact h,trivial,by show(0:Nat)≤300;omega,by rw [c];show List.replicate (n:Int).toNat 0=zs n;rw [e];rfl,by show((List.replicate (n:Int).toNat _).length:Int)=n;simp,fun k g => ?_,?_⟩,rfl,?_,by rw [c];exact t,by rw [c];rfl,fun u o=>by cases o⟩
  ·have:k=zs n:=by
    unfold oa at g;dsimp only at g;rw [e] at g;exact(List.mem_replicate.1 g).2
   rw [this,c];exact⟨h,my _⟩
  ·rw [c]
   show(List.replicate (n:Int).toNat _)[(i:Int).toNat]? = _
   rw [e,Int.toNat_natCast,List.getElem?_replicate,if_pos d];rfl
  ·rw [c,m];rfl
 ·rw [l i d,l j f,v i j f,c];exact my _
 ·unfold iU kJ at s
  simp only [List.getD_eq_getElem?_getD,List.getElem?_replicate,if_pos w,Option.getD_some,if_pos x] at s
  cases s
theorem ze{n:Nat}{l:List Do}(h1:1≤n)(h6:n≤6)(hl:l.length≤150):l3 n l=((kC (kJ n) l).1,(kC (kJ n) l).2,0):=by
 unfold l3
 rw [if_neg (by omega),Int.toNat_natCast]
theorem qa(w:iG)(k:Nat)(r:gh × Int):(putW w k r).2=r.2:=by
 unfold putW
 split
 ·rename_i k;exact k.symm
 ·rfl
def EB(a b:Nat):List Do:=[⟨2,a,b,u0⟩,⟨3,a,b,u0⟩]
def F7(l:List (Nat × Nat)):List Do:=l.flatMap fun p=>EB p.1 p.2
def xM(n a:Nat):List (Nat × Nat):=((List.range n).filter fun b=>decide (a ≠ b)).map fun b=>(a,b)
def yz(n:Nat):List (Nat × Nat):=(List.range n).flatMap (xM n)
theorem F5{n a b:Nat}:(a,b)∈yz n↔a<n∧b<n∧a ≠ b:=by
 unfold yz xM
 simp only [List.mem_flatMap,List.mem_map,List.mem_filter,List.mem_range,Prod.mk.injEq,decide_eq_true_eq]
 constructor
 ·rintro⟨_,c,_,⟨d,e⟩,rfl,rfl⟩;exact⟨c,d,e⟩
 ·rintro⟨c,d,e⟩;exact⟨a,c,b,⟨d,e⟩,rfl,rfl⟩
def pQ(n:Nat):List (Nat × Nat):=(List.range n).flatMap fun a=>(List.range n).map fun b=>(a,b)
theorem uv{n a b:Nat}:(a,b)∈pQ n↔a<n∧b<n:=by
 unfold pQ
 simp only [List.mem_flatMap,List.mem_map,List.mem_range,Prod.mk.injEq]
 constructor
 ·rintro⟨_,c,_,d,rfl,rfl⟩;exact⟨c,d⟩
 ·rintro⟨c,d⟩;exact⟨a,c,b,d,rfl,rfl⟩
theorem CP(n:Nat):(pQ n).Nodup:=by
 unfold pQ
 rw [List.Nodup,List.pairwise_flatMap]
 refine⟨fun a _ => ?_,?_⟩
 ·rw [List.pairwise_map]
  exact(List.nodup_range (n:=n)).imp fun h e=>h (congrArg Prod.snd e)
 ·refine(List.nodup_range (n:=n)).imp fun {a b} h x c y d e => ?_
  simp only [List.mem_map] at c d
  obtain⟨_,_,rfl⟩:=c
  obtain⟨_,_,rfl⟩:=d
  exact h (congrArg Prod.fst e)
section
def oQ:CR Do:=fun rd cs d => ∃ sv,cs=[.int .i64 d.kind,.int .i64 d.n,.int .i64 d.to,.int .i64 d.update.author,sv,.int .i64 d.update.kind,.int .i64 d.update.key,.int .i64 d.update.item]∧fN 1 ge rd sv d.update.seen
theorem oQ.d{rd:Rd}{cs:List Value}{d:Do}(h:oQ rd cs d):∃ A0 c0,cs=[.int .i64 d.kind,.int .i64 d.n,.int .i64 d.to,.int .i64 d.update.author,.slice A0 d.update.seen.length c0,.int .i64 d.update.kind,.int .i64 d.update.key,.int .i64 d.update.item]∧fN 1 ge rd (.slice A0 d.update.seen.length c0) d.update.seen∧(d.update.seen.length≤c0∧c0≤maxLen):=by
 obtain⟨_,e,a⟩:=h
 obtain⟨A0,c0,b,c⟩:=a.val
 subst b
 exact⟨A0,c0,e,a,c⟩
instance:i9 oQ:=⟨fun _ _ _ _ hle ⟨a,e,h⟩=>⟨a,e,h.mono i9.mono hle⟩,fun _ _ _ ⟨a,e,h⟩ u hu=>by
 subst e
 simp only [List.mem_cons,List.not_mem_nil,or_false] at hu
 rcases hu with h' | h' | h' | h' | h' | h' | h' | h' <;> subst h'
 any_goals rfl
 exact nI h⟩
abbrev vL:CR (List i2):=jy 6 j5
abbrev x6:CR (List (List i2)):=jy 1 (jy 6 j5)
def mS:CR iG:=fun rd cs x => ∃ a b,cs=[a,b]∧fN 7 gT rd a x.nodes∧fN 1 (jy 1 (jy 6 j5)) rd b x.way
theorem mS.d{rd:Rd}{cs:List Value}{x:iG}(h:mS rd cs x):∃ A0 c0 A1 c1,cs=[.slice A0 x.nodes.length c0,.slice A1 x.way.length c1]∧fN 7 gT rd (.slice A0 x.nodes.length c0) x.nodes∧fN 1 (jy 1 (jy 6 j5)) rd (.slice A1 x.way.length c1) x.way∧(x.nodes.length≤c0∧c0≤maxLen)∧(x.way.length≤c1∧c1≤maxLen):=by
 obtain⟨_,_,e,a,b⟩:=h
 obtain⟨A0,c0,c,f⟩:=a.val
 obtain⟨A1,c1,g,i⟩:=b.val
 subst c g
 exact⟨A0,c0,A1,c1,e,a,b,f,i⟩
instance:i9 mS:=⟨fun _ _ _ _ hle ⟨a,b,e,h1,h2⟩=>⟨a,b,e,h1.mono i9.mono hle,h2.mono i9.mono hle⟩,fun _ _ _ ⟨a,b,e,h1,h2⟩ u hu=>by
 subst e
 simp only [List.mem_cons,List.not_mem_nil,or_false] at hu
 rcases hu with h' | h' <;> subst h'
 ·exact nI h1
 ·exact nI h2⟩
structure nG where
 v:Value
 n:Nat
 k:Nat
 xs:List Value
 tv:Value
def lB:Value:=.slice none 0 0
def uI:nG:=⟨lB,0,0,[],lB⟩
def m1(TP:TypeId)(p:nG):h7:=⟨TP,6,p.v,p.n,p.xs⟩
abbrev PrF:=Nat × Nat→nG
def ju(n:Nat)(pr:PrF)(a:Nat):List Value:=(List.range n).map fun b=>(pr (a,b)).tv
def lW(TI:TypeId)(n:Nat)(vI:Nat→Value)(pr:PrF)(a:Nat):h7:=⟨TI,1,vI a,n,ju n pr a⟩
def kZ(TI:TypeId)(n:Nat)(vI:Nat→Value)(pr:PrF):List h7:=(List.range n).map (lW TI n vI pr)
def EI(TP:TypeId)(n:Nat)(pr:PrF):List h7:=(pQ n).map fun p=>m1 TP (pr p)
def rC(TI TP:TypeId)(n:Nat)(vI:Nat→Value)(pr:PrF):List h7:=kZ TI n vI pr++EI TP n pr
def n4(TI TP:TypeId)(n:Nat)(vI:Nat→Value)(pr:PrF)(a b:Nat):List h7:=((List.range n).filter fun x=>decide (x ≠ a)).map (lW TI n vI pr)++((pQ n).filter fun p=>decide (p ≠ (a,b))).map fun p=>m1 TP (pr p)
def lK(pr:PrF)(x:Nat × Nat)(y:nG):PrF:=fun z=>if z=x then y else pr z
def lz(vI:Nat→Value)(x:Nat)(y:Value):Nat→Value:=fun z=>if z=x then y else vI z
theorem t7{α β:Type}[DecidableEq α]{l:List α}{x:α}(f:α→β)(hn:l.Nodup)(hx:x∈l):(l.map f).Perm ((l.filter fun y=>decide (y ≠ x)).map f++[f x]):=by
 have b:(l.filter fun y=>decide (y ≠ x))=l.erase x:=by
  rw [hn.erase_eq_filter]
  exact List.filter_congr fun y _=>by simp [bne];rfl
 rw [b]
 have a:=(List.perm_cons_erase hx).map f
 rw [List.map_cons] at a
 exact a.trans (List.perm_append_singleton (f x) _).symm
section
variable {TI TP:TypeId} {n:Nat} {vI:Nat→Value} {pr:PrF} {a b:Nat}
theorem wT(ha:a<n)(hb:b<n):(rC TI TP n vI pr).Perm (n4 TI TP n vI pr a b++[lW TI n vI pr a,m1 TP (pr (a,b))]):=by
 have c:=t7 (lW TI n vI pr) List.nodup_range (List.mem_range.2 ha)
 have d:=t7 (fun p=>m1 TP (pr p)) (CP n) (uv.2 ⟨ha,hb⟩)
 refine(c.append d).trans ?_
 unfold n4
 simp only [List.append_assoc]
 refine List.Perm.append_left _ ?_
 rw [← List.append_assoc]
 exact((List.perm_append_comm (l₁:=[lW TI n vI pr a])).append_right _).trans (by rw [List.append_assoc];exact List.Perm.refl _)
theorem Cp{y:nG}{v:Value}(ha:a<n)(hb:b<n):n4 TI TP n (lz vI a v) (lK pr (a,b) y) a b=n4 TI TP n vI pr a b:=by
 unfold n4
 congr 1
 ·refine List.map_congr_left fun x d => ?_
  have d:=(List.mem_filter.1 d).2
  have f:x ≠ a:=of_decide_eq_true d
  unfold lW ju
  congr 1
  ·unfold lz;rw [if_neg f]
  ·refine List.map_congr_left fun c _ => ?_
   unfold lK;rw [if_neg (fun e=>f (by injection e))]
 ·refine List.map_congr_left fun x d => ?_
  have d:=(List.mem_filter.1 d).2
  have f:x ≠ (a,b):=of_decide_eq_true d
  unfold lK;rw [if_neg f]
theorem z1{y:nG}{v:Value}(hb:b<n):lW TI n (lz vI a v) (lK pr (a,b) y) a=⟨TI,1,v,n,(ju n pr a).set b y.tv⟩:=by
 unfold lW
 congr 1
 ·unfold lz;rw [if_pos rfl]
 ·refine List.ext_getElem? fun i => ?_
  unfold ju
  rw [List.getElem?_set,List.getElem?_map,List.getElem?_map]
  by_cases c:i<n
  ·rw [List.getElem?_range c]
   by_cases e:b=i
   ·subst e;simp [lK,c]
   ·simp only [Option.map_some,lK]
    rw [if_neg (fun k=>e (by injection k with _ k;exact k.symm)),if_neg e]
  ·rw [List.getElem?_eq_none (by simp;omega)]
   simp
   intro e;subst e;exact absurd hb c
theorem EE{y:nG}:m1 TP (lK pr (a,b) y (a,b))=m1 TP y:=by unfold lK;rw [if_pos rfl]
theorem Ev:lz vI a (vI a)=vI:=by funext z;unfold lz;split <;> simp_all
theorem rp(n:Nat)(pr:PrF)(a:Nat):(ju n pr a).length=n:=by simp [ju]
theorem tP(hb:b<n):(ju n pr a)[b]? = some (pr (a,b)).tv:=by unfold ju;rw [List.getElem?_map,List.getElem?_range hb];rfl
variable {X:List Nat} {W w w':World} {r0 rd:Rd} {bx:List je} {ow A:List h7}
theorem St.putW{y:nG}{v:Value}(S:St X W r0 rd bx (A++n4 TI TP n vI pr a b++[⟨TI,1,v,n,(ju n pr a).set b y.tv⟩,m1 TP y]) w)(ha:a<n)(hb:b<n):St X W r0 rd bx (A++rC TI TP n (lz vI a v) (lK pr (a,b) y)) w :=
 S.permO (by
  have h:=wT (TI:=TI) (TP:=TP) (vI:=lz vI a v) (pr:=lK pr (a,b) y) ha hb
  rw [Cp ha hb,z1 hb,EE] at h
  rw [List.append_assoc]
  exact List.Perm.append_left _ h)
end
structure qi (rd:Rd) (B:Nat) (p:nG) (l:List i2):Prop where
 t:lN 6 p.v p.n p.k p.tv
 r:fQ 6 j5 rd (p.xs.drop (p.k * 6)) l
 b:p.n≤B
 l:l.length=p.n - p.k
structure mD (rd:Rd) (B n:Nat) (pr:PrF) (way:List (List (List i2))):Prop where
 l:way.length=n
 r:∀ x∈way,x.length=n
 p:∀ a,a<n → ∀ b,b<n→qi rd B (pr (a,b)) (iU way a b)
theorem qi.mono{rd rd':Rd}{B B':Nat}{p:nG}{l:List i2}(h:qi rd B p l)(k:Rd.le rd rd')(hB:B≤B'):qi rd' B' p l:=⟨h.t,rm h.r k,Nat.le_trans h.b hB,h.l⟩
theorem mD.mono{rd rd':Rd}{B B' n:Nat}{pr:PrF}{way:List (List (List i2))}(h:mD rd B n pr way)(k:Rd.le rd rd')(hB:B≤B'):mD rd' B' n pr way:=⟨h.l,h.r,fun a ha b hb=>(h.p a ha b hb).mono k hB⟩
theorem mD.put{rd:Rd}{B n a b:Nat}{pr:PrF}{way:List (List (List i2))}{y:nG}{q:List i2}(h:mD rd B n pr way)(ha:a<n)(hb:b<n)(hy:qi rd B y q):mD rd B n (lK pr (a,b) y) (kT way a b q):=by
 obtain⟨c,d⟩:=vj (q:=q) (b:=b) h.l h.r ha
 refine⟨c,d,fun x f z g => ?_⟩
 rw [qY h.l h.r ha hb]
 unfold lK
 by_cases e:x=a∧z=b
 ·rw [if_pos e,if_pos (by rw [e.1,e.2])];exact hy
 ·rw [if_neg e,if_neg (fun k=>e (by injection k with i j;exact⟨i,j⟩))];exact h.p x f z g
end
section
theorem oP{xs:List Value}{b:Nat}{v:Value}(h:b<xs.length):xs.take (b * 1)++[v]++xs.drop (b * 1+1)=xs.set b v:=by
 rw [Nat.mul_one,List.set_eq_take_append_cons_drop,if_pos h];simp
theorem s5{α:Type}{xs:List α}{b:Nat}{v:α}(h:xs[b]? = some v):xs.set b v=xs:=by
 refine List.ext_getElem? fun i => ?_
 rw [List.getElem?_set]
 split
 ·rename_i e;subst e
  rw [if_pos (List.getElem?_eq_some_iff.1 h).1,h]
 ·rfl
theorem nz{x:iG}{a:Nat}{z:gh}(h:x.nodes[a]? = some z):ic x a=z:=by unfold ic;simp [h]
theorem vM{q:List i2}{z:i2}(h:q[0]? = some z):pC q=z:=by
 cases q with
 | nil=>cases h
 | cons y l=>exact Option.some.inj h
theorem q8(x:iG)(k:Nat)(r:gh × Int):(putW x k r).1.way=x.way:=by unfold putW;split <;> rfl
theorem qw{x:iG}{k n:Nat}{r:gh × Int}(h:x.nodes.length=n):(putW x k r).1.nodes.length=n:=by unfold putW;split <;> simp [h]
theorem uJ{n:Nat}{way:List (List (List i2))}{a b:Nat}(h1:way.length=n)(h2:∀ r∈way,r.length=n)(ha:a<n)(hb:b<n):kT way a b (iU way a b)=way:=by
 unfold kT iU
 have c:way[a]? = some (way.getD a []):=by rw [List.getD_eq_getElem?_getD,List.getElem?_eq_getElem (by omega)];rfl
 have d:=h2 _ (List.mem_of_getElem? c)
 have e:∀ r:List (List i2),r.length=n→r[b]? = some (r.getD b []):=fun r _=>by rw [List.getD_eq_getElem?_getD,List.getElem?_eq_getElem (by omega)];rfl
 have f:=e _ d
 rw [s5 f,s5 c]
structure kY (rd:Rd) (x:iG) (a b n pn:Nat) (xsI:List Value) (x':iG) (xsN' xsI':List Value) (pv':Value) (pn' pk':Nat) (xsP':List Value) (At':Option Addr) (ct':Nat):Prop where
 nodes:fQ 7 gT rd xsN' x'.nodes
 len:x'.nodes.length=n
 way:x'.way=kT x.way a b (iU x'.way a b)
 i:xsI'=xsI.set b (.slice At' (iU x'.way a b).length ct')
 t:lN 6 pv' pn' pk' (.slice At' (iU x'.way a b).length ct')
 p:fQ 6 j5 rd (xsP'.drop (pk' * 6)) (iU x'.way a b)
 bd:pn'≤pn+1
 l:(iU x'.way a b).length=pn' - pk'
section
variable {rd:Rd} {x:iG} {a b n pn pk ct:Nat} {q:List i2} {pv:Value} {At:Option Addr} {xsN xsI xsP:List Value}
theorem kY.same(hw:x.way.length=n)(hr:∀ r∈x.way,r.length=n)(ha:a<n)(hb:b<n)(hq:q=iU x.way a b)(ON:fQ 7 gT rd xsN x.nodes)(hn:x.nodes.length=n)(hI:xsI[b]? = some (.slice At q.length ct))(hT:lN 6 pv pn pk (.slice At q.length ct))(OP:fQ 6 j5 rd (xsP.drop (pk * 6)) q)(hl:q.length=pn - pk) :
  kY rd x a b n pn xsI x xsN xsI pv pn pk xsP At ct:=by
 subst hq
 exact⟨ON,hn,(uJ hw hr ha hb).symm,(s5 hI).symm,hT,OP,by omega,hl⟩
theorem kY.new{nodes:List gh}{q':List i2}{pn' pk' ct':Nat}{pv':Value}{At':Option Addr}{xsN' xsI' xsP':List Value}(hw:x.way.length=n)(hr:∀ r∈x.way,r.length=n)(ha:a<n)(hb:b<n)(ON:fQ 7 gT rd xsN' nodes)(hn:nodes.length=n)(hI:xsI'=xsI.set b (.slice At' q'.length ct'))(hT:lN 6 pv' pn' pk' (.slice At' q'.length ct'))(OP:fQ 6 j5 rd (xsP'.drop (pk' * 6)) q')(hb':pn'≤pn+1)(hl:q'.length=pn' - pk') :
  kY rd x a b n pn xsI ⟨nodes,kT x.way a b q'⟩ xsN' xsI' pv' pn' pk' xsP' At' ct':=by
 have e:iU (kT x.way a b q') a b=q':=by rw [qY hw hr ha hb,if_pos ⟨rfl,rfl⟩]
 exact⟨ON,hn,by rw [e],by rw [e];exact hI,by rw [e];exact hT,by rw [e];exact OP,hb',by rw [e];exact hl⟩
end
theorem va{pn pk cP gP o2:Nat}{m:Nat}(hT:lN 6 (.slice (some ⟨gP,0,none⟩) pn cP) pn pk (.slice (some ⟨gP,pk * 6,none⟩) m (cP - pk)))(ho:1<cP - pk→o2=pk * 6+1 * 6)(hm:m=pn - pk∧0<m):lN 6 (.slice (some ⟨gP,0,none⟩) pn cP) pn (pk+1) (.slice (some ⟨gP,o2,none⟩) (m - 1) (cP - pk - 1)):=by
 rcases hT with⟨h,_⟩ | ⟨g,c,o,h1,h2,h3,h4,h5,h6⟩
 ·cases h
 ·injection h1 with a d b
  injection a with a
  injection a with a
  subst a b
  exact .inr ⟨gP,cP,o2,rfl,by omega,h3,h4,fun _=>by rw [ho (by omega)];omega,by congr 1 <;> omega⟩
theorem vX{rd:Rd}{xs:List Value}{pk:Nat}{q:List i2}(h:fQ 6 j5 rd (xs.drop (pk * 6)) q)(h0:0<q.length):fQ 6 j5 rd (xs.drop ((pk+1) * 6)) (q.drop 1):=by
 have:=h.drop 1 h0
 rw [List.drop_drop] at this
 rwa [Nat.add_mul]
theorem DH(rd:Rd)(W:World)(hle:Rd.le rd (fX W))(p:Value)(x:iG)(n:Nat)(hn:x.nodes.length=n)(A B:Option Addr)(cA m cB:Nat)(a b:Int)(h:j2 rd p [.slice A n cA,.slice B m cB]) :
    Calls Tryz.prog 106 #[p,(.int .i64 a),(.int .i64 b)] W (fun e w'=>e = .returned (.int .i64 (jw x a b))∧Below W.heap.size W w'):=by
 have s:=il;have S:St [] W rd rd [] [] W:=St.start hle;refine io (args:=[p,ni a,ni b]) 35 Tryz.func106 rfl rfl rfl ?_;refine er (ly (ni 0) S Ya (ln (er (ly p S Ym (ly p S (j2.nc h rfl) ?_)))));obtain⟨j,k,l⟩:=jB (us:=[sc A n cA,sc B m cB]) lC h rfl;refine ly j S (l rfl) ?_;obtain⟨o,q,r⟩:=jB (us:=[sc A n cA,sc B m cB]) lG k rfl;refine ly o S (r rfl) (ly (sc A n cA) S (iE q m9) (ly (ni (n:Int)) S (Yl lU) (ly (ni (n:Int)) S Ya (ln (fJ (go (er (ly (ni a) S Ym ?_))))))));by_cases d:a<0
 ·
  refine ly (.bool true) S (gJ rfl rfl d) (ly (.bool true) S Ym (ls 17 (ls 17 (ls 17 (ly (.bool true) S Yt (ly (.bool true) S Ym (ls 22 (ls 22 (ly (.bool true) S Yt (ly (.bool true) S Ym (ls 26 (ls 26 (ls 26 (ly (.bool true) S Yt (ly (.bool true) S Ya ?_)))))))))))))));refine ln (fS rfl (er (ly (ni 6) S Ya (ln (fR ?_)))));refine g3 (v:=ni 6) rfl rfl ?_;exact⟨iy (by unfold jw gn;rw [if_pos (by omega)]),S.below⟩
 refine ly (.bool false) S (gH rfl rfl d) (ly (.bool false) S Ym (lg 17 (ni a) S Ym (lg 17 (ni (n:Int)) S Ym ?_)));by_cases f:(n:Int)≤a
 ·
  refine lg 17 (.bool true) S (jY rfl rfl f) (ly (.bool true) S Yf (ly (.bool true) S Ym (ls 22 (ls 22 (ly (.bool true) S Yt (ly (.bool true) S Ym (ls 26 (ls 26 (ls 26 (ly (.bool true) S Yt (ly (.bool true) S Ya (ln (fS rfl (fJ ?_))))))))))))));refine gU (ly (ni 6) S Ya (ln (fR ?_)));refine g3 (v:=ni 6) rfl rfl ?_;exact⟨iy (by unfold jw gn;rw [if_pos (by omega)]),S.below⟩
 refine lg 17 (.bool false) S (k4 rfl rfl f) (ly (.bool false) S Yf (ly (.bool false) S Ym (lg 22 (ni b) S Ym ?_)));by_cases g:b<0
 ·
  refine lg 22 (.bool true) S (gJ rfl rfl g) (ly (.bool true) S Yf (ly (.bool true) S Ym (ls 26 (ls 26 (ls 26 (ly (.bool true) S Yt (ly (.bool true) S Ya (ln (fS rfl (er (ly (ni 6) S Ya (ln ?_))))))))))));refine fR (g3 (v:=ni 6) rfl rfl ?_);exact⟨iy (by unfold jw gn;rw [if_pos (by omega)]),S.below⟩
 refine lg 22 (.bool false) S (gH rfl rfl g) (ly (.bool false) S Yf (ly (.bool false) S Ym (lg 26 (ni b) S Ym (lg 26 (ni (n:Int)) S Ym ?_))));by_cases i:(n:Int)≤b
 ·
  refine lg 26 (.bool true) S (jY rfl rfl i) (ly (.bool true) S Yf (ly (.bool true) S Ya (ln (fS rfl (er (ly (ni 6) S Ya (ln (fR ?_))))))));refine g3 (v:=ni 6) rfl rfl ?_;exact⟨iy (by unfold jw gn;rw [if_pos (by omega)]),S.below⟩
 refine lg 26 (.bool false) S (k4 rfl rfl i) (ly (.bool false) S Yf (ly (.bool false) S Ya (ln (fV rfl (er (ly (ni a) S Ym (ly (ni b) S Ym ?_)))))));by_cases c:a=b
 ·
  refine ly (.bool true) S (iw rfl rfl c) (ly (.bool true) S Ya (ln (fS rfl (er (ly (ni 7) S Ya (ln (fR ?_)))))));refine g3 (v:=ni 7) rfl rfl ?_;exact⟨iy (by unfold jw gn;rw [if_neg (by omega),if_pos c]),S.below⟩
 refine ly (.bool false) S (i5 rfl rfl c) (ly (.bool false) S Ya (ln (fV rfl (g1 (gA (fM (er (ly (ni 0) S Ya (ln (fR ?_))))))))));refine g3 (v:=ni 0) rfl rfl ?_;exact⟨iy (by unfold jw gn;rw [if_neg (by omega),if_neg c]),S.below⟩
theorem E5{X:List Nat}(rd:Rd)(W:World)(gW gN gV n cN cV:Nat)(x:iG)(k:Nat)(d:gh)(err:Int)(v2:Value)(xsN:List Value)(hn:x.nodes.length=n)(hk:err=0→k<n)(S0:St X W rd rd [(gW,109,#[.slice (some ⟨gN,0,none⟩) n cN,.slice (some ⟨gV,0,none⟩) n cV])] [⟨31,7,.slice (some ⟨gN,0,none⟩) n cN,n,xsN⟩] W)(ON:fQ 7 gT rd xsN x.nodes)(h2:fW gT rd v2 d) :
    Calls Tryz.prog 105 #[(pa gW 0),(.int .i64 (k:Int)),v2,(.int .i64 err)] W (fun e w' => ∃ xs',e = .returned (.int .i64 (putW x k (d,err)).2)∧St X W rd rd [(gW,109,#[.slice (some ⟨gN,0,none⟩) n cN,.slice (some ⟨gV,0,none⟩) n cV])] [⟨31,7,.slice (some ⟨gN,0,none⟩) n cN,n,xs'⟩] w'∧fQ 7 gT rd xs' (putW x k (d,err)).1.nodes):=by
 obtain⟨_,rfl,h2⟩:=h2;obtain⟨a,b,c,f,g,h,j,l,m,o,p,q,rfl,s,t,y,z,A,B,_⟩:=h2.d;have F:=il;have S:=S0;refine io (args:=[pa gW 0,ni (k:Int),.agg (kN d a b c f g h j l m o p q),ni err]) 20 Tryz.func105 rfl rfl rfl ?_;refine er (ix (u:=.agg (kN d a b c f g h j l m o p q)) (cs:=(kN d a b c f g h j l m o p q)) S rfl rfl fun C _ S=>ly (ni 0) S Ya (ln (fJ (er (ly (ni err) S Ym ?_)))));by_cases r:err=0
 ·
  refine ly (.bool true) S (iw rfl rfl r) (ln (fS rfl ?_));refine iV (fun w=>St X W rd rd [(gW,109,#[sb gN 0 n cN,sb gV 0 n cV]),(C,31,(kN d a b c f g h j l m o p q))] [] w) MX rfl ?_;have S:=S.drew;have G:=S.sup;have SC:=S.tt 2 0;have hk:=hk r;refine tk (pa gW 0) 0 rfl rfl SC Ym (tk (pa gW 0) 1 rfl rfl SC Yn (tk (pa gW 0) 2 rfl rfl SC (Yb lC) (tk (pa gW 0) 3 rfl rfl SC (Yb lG) (tk (sb gN 0 n cN) 4 rfl rfl SC (fI 0 m9) (tk (ni (k:Int)) 5 rfl rfl SC Ym (tk (.agg (kN d a b c f g h j l m o p q)) 6 rfl rfl SC (gf 1 ij) (tk (pa gN (k * 7)) 7 rfl rfl SC (j9 (k:=k) lU hY (by omega) (Nat.zero_add _) rfl rfl rfl) ?_)))))));refine aO 8 rfl (by kernel_rfl) ?_;have D:fQ 7 gT rd ((xsN).take (k * 7)++([ni d.self,sc a d.state.clock.length b,sc c d.state.lives.length f,sc g d.state.tallies.length h,sc j d.base.length l,sc m d.log.length o,sc p d.known.length q]:List Value)++(xsN).drop (k * 7+7)) ((x.nodes).set k d):=fQ.put (k:=k) (cs:=[ni d.self,sc a d.state.clock.length b,sc c d.state.lives.length f,sc g d.state.tallies.length h,sc j d.base.length l,sc m d.log.length o,sc p d.known.length q]) ON (show k<x.nodes.length by omega) rfl (show gT rd [ni d.self,sc a d.state.clock.length b,sc c d.state.lives.length f,sc g d.state.tallies.length h,sc j d.base.length l,sc m d.log.length o,sc p d.known.length q] d from⟨_,_,_,_,_,_,rfl,s,t,y,z,A,B⟩);have E:=(ON).len;refine mo (u:=.agg (kN d a b c f g h j l m o p q)) (i:=0) (xs':=((xsN).take (k * 7)++([ni d.self,sc a d.state.clock.length b,sc c d.state.lives.length f,sc g d.state.tallies.length h,sc j d.base.length l,sc m d.log.length o,sc p d.known.length q]:List Value)++(xsN).drop (k * 7+7))) S rfl rfl rfl rfl hY (show k * 7+7≤(xsN).length by rw [E];have:=(show k<x.nodes.length by omega);omega) rfl rfl fun _ S => ?_
  refine fL ?_;have SC:=S.tt 2 0;refine fK (ak SC ?_);refine gE (by kernel_rfl) ?_;refine fM (er (ly (ni err) S Ym (ly (ni err) S Ya (ln (fR ?_)))));refine g3 (v:=ni err) rfl rfl ?_;have es:(putW x k (d,err)).1.nodes=(x.nodes).set k d:=by unfold putW;rw [if_pos r]
  have ee:(putW x k (d,err)).2=err:=qa x k (d,err);rw [es,ee];exact⟨_,rfl,(S.tt 1 1).rw' rfl rfl,D⟩
 refine ly (.bool false) S (i5 rfl rfl r) (ln (fV rfl (g1 (fM (er (ly (ni err) S Ym (ly (ni err) S Ya (ln (fR ?_)))))))));refine g3 (v:=ni err) rfl rfl ?_;have es:(putW x k (d,err)).1.nodes=x.nodes:=by unfold putW;rw [if_neg r]
 have ee:(putW x k (d,err)).2=err:=qa x k (d,err);rw [es,ee];exact⟨_,rfl,(S.tt 1 1).rw' rfl rfl,ON⟩
theorem ua{X:List Nat}(rd:Rd)(W:World)(gW gN gV n cN cV:Nat)(x:iG)(k:Nat)(d:gh)(err:Int)(v2:Value)(xsN:List Value)(hn:x.nodes.length=n)(hk:err=0→k<n)(S0:St X W rd rd [(gW,109,#[.slice (some ⟨gN,0,none⟩) n cN,.slice (some ⟨gV,0,none⟩) n cV])] [⟨31,7,.slice (some ⟨gN,0,none⟩) n cN,n,xsN⟩] W)(ON:fQ 7 gT rd xsN x.nodes)(h2:fW gT rd v2 d)  (ik:Int) (hik:ik=(k:Int)) :
  Calls Tryz.prog 105 #[(pa gW 0),(.int .i64 ik),v2,(.int .i64 err)] W (fun e w' => ∃ xs',e = .returned (.int .i64 (putW x k (d,err)).2)∧St X W rd rd [(gW,109,#[.slice (some ⟨gN,0,none⟩) n cN,.slice (some ⟨gV,0,none⟩) n cV])] [⟨31,7,.slice (some ⟨gN,0,none⟩) n cN,n,xs'⟩] w'∧fQ 7 gT rd xs' (putW x k (d,err)).1.nodes):=by
 subst hik;exact E5 rd W gW gN gV n cN cV x k d err v2 xsN hn hk S0 ON h2
theorem EC{X:List Nat}(rd:Rd)(W:World)(gW gN gV gI n cN cV cI a b pn pk ct:Nat)(x:iG)(q:List i2)(pv:Value)(At:Option Addr)(xsN xsV xsI xsP:List Value)(ha:a<n)(hb:b<n)(hn:x.nodes.length=n)(hq:q=iU x.way a b)(hql:q.length=pn - pk)(hpn:pn≤1000)(hway:x.way.length=n)(hwr:∀ r∈x.way,r.length=n)(hxV:xsV.length=n)(hxI:xsI.length=n)(S0:St X W rd rd [(gW,109,#[.slice (some ⟨gN,0,none⟩) n cN,.slice (some ⟨gV,0,none⟩) n cV])] [⟨31,7,.slice (some ⟨gN,0,none⟩) n cN,n,xsN⟩,⟨67,1,.slice (some ⟨gV,0,none⟩) n cV,n,xsV⟩,⟨66,1,.slice (some ⟨gI,0,none⟩) n cI,n,xsI⟩,⟨33,6,pv,pn,xsP⟩] W)(ON:fQ 7 gT rd xsN x.nodes)(hV:xsV[a]? = some (.slice (some ⟨gI,0,none⟩) n cI))(hI:xsI[b]? = some (.slice At q.length ct))(hT:lN 6 pv pn pk (.slice At q.length ct))(OP:fQ 6 j5 rd (xsP.drop (pk * 6)) q) :
    Calls Tryz.prog 107 #[(pa gW 0),(.int .i64 (a:Int)),(.int .i64 (b:Int))] W (fun e w' => ∃ rd' xsN' xsI' pv' pn' pk' xsP' At' ct',e = .returned (.int .i64 (lT x a b).2)∧St X W rd rd' [(gW,109,#[.slice (some ⟨gN,0,none⟩) n cN,.slice (some ⟨gV,0,none⟩) n cV])] [⟨31,7,.slice (some ⟨gN,0,none⟩) n cN,n,xsN'⟩,⟨67,1,.slice (some ⟨gV,0,none⟩) n cV,n,xsV⟩,⟨66,1,.slice (some ⟨gI,0,none⟩) n cI,n,xsI'⟩,⟨33,6,pv',pn',xsP'⟩] w'∧kY rd' x a b n pn xsI (lT x a b).1 xsN' xsI' pv' pn' pk' xsP' At' ct'):=by
 have aA:=il;have S:=S0;refine io (args:=[pa gW 0,ni (a:Int),ni (b:Int)]) 62 Tryz.func107 rfl rfl rfl ?_;refine er (ly (ni 0) S Ya (ln (fJ (er (ly (pa gW 0) S Ym (ly (pa gW 0) S Yn (ly (pa gW 0) S (Yb lC) (ly (pa gW 1) S (Yb l9) (ly (sb gV 0 n cV) S (fI 0 lA) (ly (ni (a:Int)) S Ym (ly (pa gV (a * 1)) S (j9 (k:=a) lw lV (by omega) (Nat.zero_add _) rfl rfl rfl) (ly (sb gI 0 n cI) S (gG rfl (fun w S=>ky (i:=1) S rfl rfl mB (by rw [Nat.mul_one];exact hV))) ?_))))))))))));refine ly (ni (b:Int)) S Ym (ly (pa gI (b * 1)) S (j9 (k:=b) lY kV (by omega) (Nat.zero_add _) rfl rfl rfl) (ly (sc At q.length ct) S (gG rfl (fun w S=>ky (i:=2) S rfl rfl na (by rw [Nat.mul_one];exact hI))) (ly (ni (q.length:Int)) S (Yl jT) ?_)));by_cases J:(q.length:Int)=20
 ·
  refine ly (.bool true) S (iw rfl rfl J) (ln (fS rfl (er (ly (ni 5) S Ya (ln (fR ?_))))));refine g3 (v:=ni 5) rfl rfl ?_;have es:lT x a b=(x,5):=by unfold lT;rw [← hq,if_pos (by omega)]
  rw [es];exact⟨_,_,_,_,_,_,_,_,_,rfl,(S.tt 1 4).rw' rfl rfl,kY.same hway hwr ha hb hq ON hn hI hT OP hql⟩
 refine ly (.bool false) S (i5 rfl rfl J) (ln (fV rfl (g1 (fM (er (ly (pa gW 0) S Ym (ly (pa gW 0) S Yn (ly (pa gW 0) S (Yb lC) (ly (pa gW 0) S (Yb lG) (ly (sb gN 0 n cN) S (fI 0 m9) (ly (ni (a:Int)) S Ym (ly (pa gN (a * 7)) S (j9 (k:=a) lU hY (by omega) (Nat.zero_add _) rfl rfl rfl) ?_))))))))))));obtain⟨c,D⟩:∃ z,(x.nodes)[a]? = some z:=gX (by omega);obtain⟨_,_,ad,ae⟩:=fQ.get a ON D;obtain⟨K,L,M,N,O,P,Q,R,T,U,V,Y,rfl,af,ag,ah,ai,aj,al,_⟩:=ad.d;refine ly (.agg (kN c K L M N O P Q R T U V Y)) S (gG rfl (fun w S=>oO (i:=0) S rfl rfl ij rfl ae)) (ly (ni (b:Int)) S Ym ?_);refine g7 (g4 (vs:=[.agg (kN c K L M N O P Q R T U V Y),ni (b:Int)]) (CF 23 _) rfl rfl) (Bw _ _ S.le _ c (b:Int) (⟨_,rfl,⟨_,_,_,_,_,_,rfl,af,ag,ah,ai,aj,al⟩⟩:fW gT rd _ c)) ?_;rintro e _ ⟨_,rfl,B,an⟩;obtain⟨G,S,Z,_,ao⟩:=S.call' an;replace OP:=rm OP Z;replace ON:=rm ON Z;replace B:=am B ao;obtain⟨_,rfl,B⟩:=B;obtain⟨f,g,h,j,l,m,o,p,s,t,rfl,a0,a1,a2,a3,a4,_⟩:=B.d;refine g9 (ly (.tuple #[.agg (kP ((gg c (b:Int)).1) f g h j l m o p s t),ni ((gg c (b:Int)).2)]) S Ym (ly (.agg (kP ((gg c (b:Int)).1) f g h j l m o p s t)) S Ye (ly (ni ((gg c (b:Int)).2)) S Ye (gk (cs:=pG) S nS rfl fun ap _ S=>fT (u:=.agg (kP ((gg c (b:Int)).1) f g h j l m o p s t)) (i:=1) (cs':=(kP ((gg c (b:Int)).1) f g h j l m o p s t)) S rfl rfl rfl jF rfl rfl rfl fun _ S=>ly (ni ((gg c (b:Int)).2)) S Ya (ln (fJ (er (ly (ni ((gg c (b:Int)).2)) S Ym ?_))))))));by_cases y:(gg c (b:Int)).2=0
 ·
  refine ly (.bool true) S (iw rfl rfl y) (ln (fS rfl ?_));refine iV (fun w=>St X W rd G [(gW,109,#[sb gN 0 n cN,sb gV 0 n cV]),(ap,33,(kP ((gg c (b:Int)).1) f g h j l m o p s t))] [⟨31,7,sb gN 0 n cN,n,xsN⟩,⟨67,1,sb gV 0 n cV,n,xsV⟩] w) MX rfl ?_;have S:=S.drew;have aB:=S.sup;have SC:=S.tt 2 2;refine tk (pa gW 0) 0 rfl rfl SC Ym (tk (pa gW 0) 1 rfl rfl SC Yn (tk (pa gW 0) 2 rfl rfl SC (Yb lC) (tk (pa gW 1) 3 rfl rfl SC (Yb l9) (tk (sb gV 0 n cV) 4 rfl rfl SC (fI 0 lA) (tk (ni (a:Int)) 5 rfl rfl SC Ym (tk (pa gV (a * 1)) 6 rfl rfl SC (j9 (k:=a) lw lV (by omega) (Nat.zero_add _) rfl rfl rfl) (tk (sb gI 0 n cI) 7 rfl rfl SC (gG rfl (fun w S=>ky (i:=1) S rfl rfl mB (by rw [Nat.mul_one];exact hV))) (tk (ni (b:Int)) 8 rfl rfl SC Ym (tk (pa gW 0) 9 rfl rfl SC Ym (tk (pa gW 0) 10 rfl rfl SC Yn (tk (pa gW 0) 11 rfl rfl SC (Yb lC) (tk (pa gW 1) 12 rfl rfl SC (Yb l9) (tk (sb gV 0 n cV) 13 rfl rfl SC (fI 0 lA) (tk (ni (a:Int)) 14 rfl rfl SC Ym (tk (pa gV (a * 1)) 15 rfl rfl SC (j9 (k:=a) lw lV (by omega) (Nat.zero_add _) rfl rfl rfl) ?_)))))))))))))));refine tk (sb gI 0 n cI) 16 rfl rfl SC (gG rfl (fun w S=>ky (i:=1) S rfl rfl mB (by rw [Nat.mul_one];exact hV))) (tk (ni (b:Int)) 17 rfl rfl SC Ym (tk (pa gI (b * 1)) 18 rfl rfl SC (j9 (k:=b) lY kV (by omega) (Nat.zero_add _) rfl rfl rfl) (tk (.agg (kP ((gg c (b:Int)).1) f g h j l m o p s t)) 20 rfl rfl SC (gf 1 lS) ?_)));refine ji (rs:=[19,21]) (by kernel_rfl) rfl ?_;refine iA rfl ?_ ?_
  ·
   refine ly (sc At q.length ct) S (gG rfl (fun w S=>ky (i:=2) S rfl rfl na (by rw [Nat.mul_one];exact hI))) (fL ?_);have SC:=S.tt 2 2;refine fK (ak SC ?_);refine aO 21 rfl (by kernel_rfl) (iZ (ps:=[(0,.agg (kP ((gg c (b:Int)).1) f g h j l m o p s t))]) (cs:=#[.bool ((gg c (b:Int)).1.whole),sc f (((gg c (b:Int)).1.state.clock).length) g,sc h (((gg c (b:Int)).1.state.lives).length) j,sc l (((gg c (b:Int)).1.state.tallies).length) m,sc o (((gg c (b:Int)).1.updates).length) p,sc s (((gg c (b:Int)).1.clock).length) t]) S jT jF nS rfl rfl rfl (by kernel_rfl) fun _ _ S=>fL ?_)
   have SC:=S.tt 2 2;refine fK (ak SC ?_);refine aO 22 rfl (by kernel_rfl) (ya (e':=0) (k:=pk) (i:=3) (i':=2) S p0 rfl rfl hT rfl rfl rfl rfl rfl (by simp only [maxLen];omega) (by dsimp only;omega) (by omega) fun _ H aq E _ _ a5 a6 ar au S => ?_)
   dsimp only at a6 ar au;obtain⟨_,a7,a8,rfl,_,_⟩:=a5.len;have av:fQ 6 j5 G (aq.drop (E * 6)) (q++[(gg c (b:Int)).1]):=by rw [a6];exact fQ.push (cs:=[.bool ((gg c (b:Int)).1.whole),sc f (((gg c (b:Int)).1.state.clock).length) g,sc h (((gg c (b:Int)).1.state.lives).length) j,sc l (((gg c (b:Int)).1.state.tallies).length) m,sc o (((gg c (b:Int)).1.updates).length) p,sc s (((gg c (b:Int)).1.clock).length) t]) OP rfl ⟨_,_,_,_,_,rfl,a0,a1,a2,a3,a4⟩
   refine fL ?_;have SC:=S.tt 2 2;refine fK (ak SC ?_);refine tk (pa gI (b * 1)) 23 rfl rfl SC (j9 (k:=b) lY kV (by omega) (Nat.zero_add _) rfl rfl rfl) (aO 24 rfl (by kernel_rfl) ?_);refine mo (u:=sc a7 (H - E) a8) (i:=2) (xs':=(xsI.set b (sc a7 (H - E) a8))) S rfl rfl rfl rfl kV (show b * 1+1≤xsI.length by omega) rfl (oP (show b<xsI.length by omega)) fun _ S => ?_
   refine fL ?_;have SC:=S.tt 2 2;refine fK (ak SC ?_);refine gE (by kernel_rfl) ?_;refine fM (er (ly (ni ((gg c (b:Int)).2)) S Ym (ly (ni ((gg c (b:Int)).2)) S Ya (ln (fR ?_)))));refine g3 (v:=ni ((gg c (b:Int)).2)) rfl rfl ?_;have C:ic x a=c:=nz D;have A:(q++[(gg c (b:Int)).1]).length=H - E:=by simp;omega
   have es:lT x a b=(⟨x.nodes,kT x.way a b (q++[(gg c (b:Int)).1])⟩,0):=by unfold lT;rw [← hq,if_neg (by omega),C,if_pos y]
   rw [es];exact⟨_,_,_,_,_,_,_,_,_,(iy y),(S.tt 1 4).rw' rfl rfl,kY.new (q':=q++[(gg c (b:Int)).1]) hway hwr ha hb ON hn (by rw [A]) (by rw [A];exact a5) av (by omega) A⟩
  refine iA rfl ?_ ?_
  ·
   refine iZ (ps:=[(0,.agg (kP ((gg c (b:Int)).1) f g h j l m o p s t))]) (cs:=#[.bool ((gg c (b:Int)).1.whole),sc f (((gg c (b:Int)).1.state.clock).length) g,sc h (((gg c (b:Int)).1.state.lives).length) j,sc l (((gg c (b:Int)).1.state.tallies).length) m,sc o (((gg c (b:Int)).1.updates).length) p,sc s (((gg c (b:Int)).1.clock).length) t]) S jT jF nS rfl rfl rfl (by kernel_rfl) fun _ _ S=>fL ?_
   have SC:=S.tt 2 2;refine fK (ak SC ?_);refine aO 19 rfl (by kernel_rfl) (ly (sc At q.length ct) S (gG rfl (fun w S=>ky (i:=2) S rfl rfl na (by rw [Nat.mul_one];exact hI))) (fL ?_));have SC:=S.tt 2 2;refine fK (ak SC ?_);refine aO 22 rfl (by kernel_rfl) (ya (e':=0) (k:=pk) (i:=3) (i':=2) S p0 rfl rfl hT rfl rfl rfl rfl rfl (by simp only [maxLen];omega) (by dsimp only;omega) (by omega) fun _ I aw F _ _ a9 aa ax ay S => ?_)
   dsimp only at aa ax ay;obtain⟨_,ab,ac,rfl,_,_⟩:=a9.len;have az:fQ 6 j5 G (aw.drop (F * 6)) (q++[(gg c (b:Int)).1]):=by rw [aa];exact fQ.push (cs:=[.bool ((gg c (b:Int)).1.whole),sc f (((gg c (b:Int)).1.state.clock).length) g,sc h (((gg c (b:Int)).1.state.lives).length) j,sc l (((gg c (b:Int)).1.state.tallies).length) m,sc o (((gg c (b:Int)).1.updates).length) p,sc s (((gg c (b:Int)).1.clock).length) t]) OP rfl ⟨_,_,_,_,_,rfl,a0,a1,a2,a3,a4⟩
   refine fL ?_;have SC:=S.tt 2 2;refine fK (ak SC ?_);refine tk (pa gI (b * 1)) 23 rfl rfl SC (j9 (k:=b) lY kV (by omega) (Nat.zero_add _) rfl rfl rfl) (aO 24 rfl (by kernel_rfl) ?_);refine mo (u:=sc ab (I - F) ac) (i:=2) (xs':=(xsI.set b (sc ab (I - F) ac))) S rfl rfl rfl rfl kV (show b * 1+1≤xsI.length by omega) rfl (oP (show b<xsI.length by omega)) fun _ S => ?_
   refine fL ?_;have SC:=S.tt 2 2;refine fK (ak SC ?_);refine gE (by kernel_rfl) ?_;refine fM (er (ly (ni ((gg c (b:Int)).2)) S Ym (ly (ni ((gg c (b:Int)).2)) S Ya (ln (fR ?_)))));refine g3 (v:=ni ((gg c (b:Int)).2)) rfl rfl ?_;have C:ic x a=c:=nz D;have A:(q++[(gg c (b:Int)).1]).length=I - F:=by simp;omega
   have es:lT x a b=(⟨x.nodes,kT x.way a b (q++[(gg c (b:Int)).1])⟩,0):=by unfold lT;rw [← hq,if_neg (by omega),C,if_pos y]
   rw [es];exact⟨_,_,_,_,_,_,_,_,_,(iy y),(S.tt 1 4).rw' rfl rfl,kY.new (q':=q++[(gg c (b:Int)).1]) hway hwr ha hb ON hn (by rw [A]) (by rw [A];exact a9) az (by omega) A⟩
  exact jk
 refine ly (.bool false) S (i5 rfl rfl y) (ln (fV rfl (g1 (fM (er (ly (ni ((gg c (b:Int)).2)) S Ym (ly (ni ((gg c (b:Int)).2)) S Ya (ln (fR ?_)))))))));refine g3 (v:=ni ((gg c (b:Int)).2)) rfl rfl ?_;have C:ic x a=c:=nz D;have es:lT x a b=(x,(gg c (b:Int)).2):=by unfold lT;rw [← hq,if_neg (by omega),C,if_neg y]
 rw [es];exact⟨_,_,_,_,_,_,_,_,_,rfl,(S.tt 1 4).rw' rfl rfl,kY.same hway hwr ha hb hq ON hn hI hT OP hql⟩
theorem BX{X:List Nat}(rd:Rd)(W:World)(gW gN gV gI n cN cV cI a b pn pk ct:Nat)(x:iG)(q:List i2)(pv:Value)(At:Option Addr)(xsN xsV xsI xsP:List Value)(ha:a<n)(hb:b<n)(hn:x.nodes.length=n)(hq:q=iU x.way a b)(hql:q.length=pn - pk)(hpn:pn≤1000)(hway:x.way.length=n)(hwr:∀ r∈x.way,r.length=n)(hxV:xsV.length=n)(hxI:xsI.length=n)(S0:St X W rd rd [(gW,109,#[.slice (some ⟨gN,0,none⟩) n cN,.slice (some ⟨gV,0,none⟩) n cV])] [⟨31,7,.slice (some ⟨gN,0,none⟩) n cN,n,xsN⟩,⟨67,1,.slice (some ⟨gV,0,none⟩) n cV,n,xsV⟩,⟨66,1,.slice (some ⟨gI,0,none⟩) n cI,n,xsI⟩,⟨33,6,pv,pn,xsP⟩] W)(ON:fQ 7 gT rd xsN x.nodes)(hV:xsV[a]? = some (.slice (some ⟨gI,0,none⟩) n cI))(hI:xsI[b]? = some (.slice At q.length ct))(hT:lN 6 pv pn pk (.slice At q.length ct))(OP:fQ 6 j5 rd (xsP.drop (pk * 6)) q)(lost:Bool) :
    Calls Tryz.prog 108 #[(pa gW 0),(.int .i64 (a:Int)),(.int .i64 (b:Int)),(.bool lost)] W (fun e w' => ∃ rd' xsN' xsI' pv' pn' pk' xsP' At' ct',e = .returned (.int .i64 (lH x a b lost).2)∧St X W rd rd' [(gW,109,#[.slice (some ⟨gN,0,none⟩) n cN,.slice (some ⟨gV,0,none⟩) n cV])] [⟨31,7,.slice (some ⟨gN,0,none⟩) n cN,n,xsN'⟩,⟨67,1,.slice (some ⟨gV,0,none⟩) n cV,n,xsV⟩,⟨66,1,.slice (some ⟨gI,0,none⟩) n cI,n,xsI'⟩,⟨33,6,pv',pn',xsP'⟩] w'∧kY rd' x a b n pn xsI (lH x a b lost).1 xsN' xsI' pv' pn' pk' xsP' At' ct'):=by
 have bs:=il;have S:=S0;refine io (args:=[pa gW 0,ni (a:Int),ni (b:Int),.bool lost]) 81 Tryz.func108 rfl rfl rfl ?_;refine er (ly (ni 0) S Ya (ln (fJ (er (ly (pa gW 0) S Ym (ly (pa gW 0) S Yn (ly (pa gW 0) S (Yb lC) (ly (pa gW 1) S (Yb l9) (ly (sb gV 0 n cV) S (fI 0 lA) (ly (ni (a:Int)) S Ym (ly (pa gV (a * 1)) S (j9 (k:=a) lw lV (by omega) (Nat.zero_add _) rfl rfl rfl) (ly (sb gI 0 n cI) S (gG rfl (fun w S=>ky (i:=1) S rfl rfl mB (by rw [Nat.mul_one];exact hV))) ?_))))))))))));refine ly (ni (b:Int)) S Ym (ly (pa gI (b * 1)) S (j9 (k:=b) lY kV (by omega) (Nat.zero_add _) rfl rfl rfl) (ly (sc At q.length ct) S (gG rfl (fun w S=>ky (i:=2) S rfl rfl na (by rw [Nat.mul_one];exact hI))) (ly (ni (q.length:Int)) S (Yl jT) ?_)));by_cases aD:(q.length:Int)=0
 ·
  refine ly (.bool true) S (iw rfl rfl aD) (ln (fS rfl (er (ly (ni 6) S Ya (ln (fR ?_))))));refine g3 (v:=ni 6) rfl rfl ?_;have es:lH x a b lost=(x,6):=by unfold lH;rw [← hq,if_pos (by omega)]
  rw [es];exact⟨_,_,_,_,_,_,_,_,_,rfl,(S.tt 1 4).rw' rfl rfl,kY.same hway hwr ha hb hq ON hn hI hT OP hql⟩
 refine ly (.bool false) S (i5 rfl rfl aD) (ln (fV rfl (g1 (fM (er ?_)))));obtain⟨gP,cP,rfl,_,aS⟩:=hT.some (by omega);injection aS with aT _ aU;subst aT aU;refine ly (ni 0) S Ya (ln (fJ (er (ly (.bool lost) S Ym ?_))))
 rcases Bool.eq_false_or_eq_true lost with V | V
 ·
  refine ly (.bool false) S (iH rfl (by rw [V];rfl)) (ln (fV rfl (g1 (fM (fJ ?_)))));refine iV (fun w=>St X W rd rd [(gW,109,#[sb gN 0 n cN,sb gV 0 n cV])] [⟨31,7,sb gN 0 n cN,n,xsN⟩,⟨67,1,sb gV 0 n cV,n,xsV⟩] w) MX rfl ?_;have S:=S.drew;have bt:=S.sup;have SC:=S.tt 1 2;refine tk (pa gW 0) 0 rfl rfl SC Ym (tk (pa gW 0) 1 rfl rfl SC Yn (tk (pa gW 0) 2 rfl rfl SC (Yb lC) (tk (pa gW 1) 3 rfl rfl SC (Yb l9) (tk (sb gV 0 n cV) 4 rfl rfl SC (fI 0 lA) (tk (ni (a:Int)) 5 rfl rfl SC Ym (tk (pa gV (a * 1)) 6 rfl rfl SC (j9 (k:=a) lw lV (by omega) (Nat.zero_add _) rfl rfl rfl) (tk (sb gI 0 n cI) 7 rfl rfl SC (gG rfl (fun w S=>ky (i:=1) S rfl rfl mB (by rw [Nat.mul_one];exact hV))) (tk (ni (b:Int)) 8 rfl rfl SC Ym (tk (pa gW 0) 9 rfl rfl SC Ym (tk (pa gW 0) 10 rfl rfl SC Yn (tk (pa gW 0) 11 rfl rfl SC (Yb lC) (tk (pa gW 1) 12 rfl rfl SC (Yb l9) (tk (sb gV 0 n cV) 13 rfl rfl SC (fI 0 lA) (tk (ni (a:Int)) 14 rfl rfl SC Ym (tk (pa gV (a * 1)) 15 rfl rfl SC (j9 (k:=a) lw lV (by omega) (Nat.zero_add _) rfl rfl rfl) ?_)))))))))))))));refine tk (sb gI 0 n cI) 16 rfl rfl SC (gG rfl (fun w S=>ky (i:=1) S rfl rfl mB (by rw [Nat.mul_one];exact hV))) (tk (ni (b:Int)) 17 rfl rfl SC Ym (tk (pa gI (b * 1)) 18 rfl rfl SC (j9 (k:=b) lY kV (by omega) (Nat.zero_add _) rfl rfl rfl) ?_));refine aO 19 rfl (by kernel_rfl) (ly (sb gP (pk * 6) q.length (cP - pk)) S (gG rfl (fun w S=>ky (i:=2) S rfl rfl na (by rw [Nat.mul_one];exact hI))) (fL ?_));have SC:=S.tt 1 2;refine fK (ak SC ?_);obtain⟨a5,aV,aW⟩:=lR (g:=gP) (o:=pk * 6) (n:=q.length) (c:=cP - pk) (lo:=1) (hi:=q.length) jT jF (by omega) (by omega);refine tk (sb gP a5 (q.length - 1) ((cP - pk) - 1)) 20 rfl rfl SC (aW rfl (.inr ⟨_,_,_,rfl,rfl,(by first | rfl | omega)⟩) (.inl ⟨rfl,rfl⟩)) (tk (pa gI (b * 1)) 21 rfl rfl SC (j9 (k:=b) lY kV (by omega) (Nat.zero_add _) rfl rfl rfl) ?_);refine aO 22 rfl (by kernel_rfl) (mo (u:=sb gP a5 (q.length - 1) ((cP - pk) - 1)) (i:=2) (xs':=(xsI.set b (sb gP a5 (q.length - 1) ((cP - pk) - 1)))) S rfl rfl rfl rfl kV (show b * 1+1≤xsI.length by omega) rfl (oP (show b<xsI.length by omega)) fun _ S => ?_)
  refine fL ?_;have SC:=S.tt 1 2;refine fK (ak SC ?_);refine gE (by kernel_rfl) ?_;refine fM (er (ly (ni 0) S Ym (ly (ni 0) S Ya (ln (fR ?_)))));refine g3 (v:=ni 0) rfl rfl ?_;have Y:=va hT aV (by omega);have Z:(q.drop 1).length=pn - (pk+1):=by simp;omega
  have m:(q.drop 1).length=q.length - 1:=by simp
  have es:lH x a b lost=(⟨x.nodes,kT x.way a b (q.drop 1)⟩,0):=by unfold lH pR;rw [← hq,if_neg (by omega),if_pos V]
  rw [es];exact⟨_,_,_,_,_,_,_,_,_,rfl,(S.tt 1 4).rw' rfl rfl,kY.new (q':=q.drop 1) hway hwr ha hb ON hn (by rw [m]) (by rw [m];exact Y) (vX OP (by omega)) (by omega) Z⟩
 refine ly (.bool true) S (iH rfl (by rw [V];rfl)) (ln (fS rfl (fJ ?_)));refine iV (fun w=>St X W rd rd [(gW,109,#[sb gN 0 n cN,sb gV 0 n cV])] [⟨31,7,sb gN 0 n cN,n,xsN⟩,⟨67,1,sb gV 0 n cV,n,xsV⟩,⟨66,1,sb gI 0 n cI,n,xsI⟩,⟨33,6,sb gP 0 pn cP,pn,xsP⟩] w) MX rfl ?_;have S:=S.drew;have a0:=S.sup;have SC:=S.tt 1 4;refine tk (pa gW 0) 0 rfl rfl SC Ym (tk (pa gW 0) 1 rfl rfl SC Yn (tk (pa gW 0) 2 rfl rfl SC (Yb lC) (tk (pa gW 0) 3 rfl rfl SC (Yb lG) (tk (sb gN 0 n cN) 4 rfl rfl SC (fI 0 m9) (tk (ni (b:Int)) 5 rfl rfl SC Ym (tk (pa gN (b * 7)) 6 rfl rfl SC (j9 (k:=b) lU hY (by omega) (Nat.zero_add _) rfl rfl rfl) ?_))))));obtain⟨f,a6⟩:∃ z,(x.nodes)[b]? = some z:=gX (by omega);obtain⟨_,_,aX,aY⟩:=fQ.get b ON a6;obtain⟨a7,a8,a9,aa,ab,ac,ad,ae,af,ag,ah,ai,rfl,aE,aF,aG,aH,aI,aJ,_⟩:=aX.d;refine tk (.agg (kN f a7 a8 a9 aa ab ac ad ae af ag ah ai)) 7 rfl rfl SC (gG rfl (fun w S=>oO (i:=0) S rfl rfl ij rfl aY)) (tk (ni (a:Int)) 8 rfl rfl SC Ym (tk (pa gW 0) 9 rfl rfl SC Ym (tk (pa gW 0) 10 rfl rfl SC Yn (tk (pa gW 0) 11 rfl rfl SC (Yb lC) (tk (pa gW 1) 12 rfl rfl SC (Yb l9) (tk (sb gV 0 n cV) 13 rfl rfl SC (fI 0 lA) (tk (ni (a:Int)) 14 rfl rfl SC Ym (tk (pa gV (a * 1)) 15 rfl rfl SC (j9 (k:=a) lw lV (by omega) (Nat.zero_add _) rfl rfl rfl) (tk (sb gI 0 n cI) 16 rfl rfl SC (gG rfl (fun w S=>ky (i:=1) S rfl rfl mB (by rw [Nat.mul_one];exact hV))) (tk (ni (b:Int)) 17 rfl rfl SC Ym (tk (pa gI (b * 1)) 18 rfl rfl SC (j9 (k:=b) lY kV (by omega) (Nat.zero_add _) rfl rfl rfl) (tk (sb gP (pk * 6) q.length (cP - pk)) 19 rfl rfl SC (gG rfl (fun w S=>ky (i:=2) S rfl rfl na (by rw [Nat.mul_one];exact hI))) (tk (pa gP (pk * 6+0 * 6)) 20 rfl rfl SC (j9 (k:=0) jT jF (by omega) rfl rfl rfl rfl) ?_)))))))))))));obtain⟨j,aj⟩:∃ z,q[0]? = some z:=gX (by omega);obtain⟨_,_,aZ,b0⟩:=fQ.get 0 OP aj;obtain⟨al,an,ao,ap,aq,ar,au,av,aw,ax,rfl,aK,aL,aM,aN,aP,_⟩:=aZ.d;refine tk (.agg (kP j al an ao ap aq ar au av aw ax)) 21 rfl rfl SC (gG rfl (fun w S=>oO (i:=3) S rfl rfl lS rfl (fun a u b1=>by have h:=b0 a u b1;rw [List.getElem?_drop] at h;rwa [Nat.add_assoc]))) ?_;refine ji (rs:=[22,26]) (by kernel_rfl) rfl ?_;refine iA rfl ?_ ?_
 ·
  refine g7 (g4 (vs:=[.agg (kN f a7 a8 a9 aa ab ac ad ae af ag ah ai),ni (a:Int),.agg (kP j al an ao ap aq ar au av aw ax)]) (CF 14 _) rfl rfl) (zv _ _ S.le _ _ f (a:Int) j (⟨_,rfl,⟨_,_,_,_,_,_,rfl,aE,aF,aG,aH,aI,aJ⟩⟩:fW gT rd _ f) (⟨_,rfl,⟨_,_,_,_,_,rfl,aK,aL,aM,aN,aP⟩⟩:fW j5 rd _ j)) ?_;rintro e _ ⟨_,rfl,a1,l⟩;obtain⟨aQ,S,a2,_,b2⟩:=S.call' l;replace OP:=rm OP a2;replace ON:=rm ON a2;replace a1:=am a1 b2;obtain⟨_,rfl,a1⟩:=a1;obtain⟨p,s,t,y,A,B,C,D,E,F,G,H,rfl,b3,b4,b5,b6,b7,b8,_⟩:=a1.d;refine kn ?_;have SC:=((S.tt 1 4).weak a0 a2);refine fK (ak SC ?_);refine tk (.tuple #[.agg (kN ((gi f (a:Int) j).1) p s t y A B C D E F G H),ni ((gi f (a:Int) j).2)]) 23 rfl rfl SC Ym (tk (.agg (kN ((gi f (a:Int) j).1) p s t y A B C D E F G H)) 24 rfl rfl SC Ye (tk (ni ((gi f (a:Int) j).2)) 25 rfl rfl SC Ye ?_));refine aO 26 rfl (by kernel_rfl) (gk (cs:=jR) S jE rfl fun b9 _ S=>fL ?_)
  have SC:=((S.tt 1 4).weak a0 a2);refine fK (ak SC ?_);refine aO 27 rfl (by kernel_rfl) (fT (u:=.agg (kN ((gi f (a:Int) j).1) p s t y A B C D E F G H)) (i:=1) (cs':=(kN ((gi f (a:Int) j).1) p s t y A B C D E F G H)) S rfl rfl rfl hY rfl rfl rfl fun _ S=>fL ?_)
  have SC:=((S.tt 1 4).weak a0 a2);refine fK (ak SC ?_);refine tk (ni ((gi f (a:Int) j).2)) 28 rfl rfl SC Ya (gE (by kernel_rfl) ?_);refine nr (ly (pa gW 0) S Ym (ly (ni (b:Int)) S Ym (ly (.agg (kN ((gi f (a:Int) j).1) p s t y A B C D E F G H)) S (gf 1 ij) (ly (ni ((gi f (a:Int) j).2)) S Ym ?_))));have S:=S.toEndB (i:=0) rfl;have S:=S.toEndO (i:=0) rfl;refine g7 (g4 (vs:=[pa gW 0,ni (b:Int),.agg (kN ((gi f (a:Int) j).1) p s t y A B C D E F G H),ni ((gi f (a:Int) j).2)]) (CF 105 _) rfl rfl) (ua _ _ gW gN gV n cN cV x b ((gi f (a:Int) j).1) ((gi f (a:Int) j).2) _ xsN hn (fun _=>hb) (S.giveN 1 3) ON (⟨_,rfl,⟨_,_,_,_,_,_,rfl,b3,b4,b5,b6,b7,b8⟩⟩:fW gT aQ _ ((gi f (a:Int) j).1)) _ rfl) ?_;rintro e _ ⟨ba,rfl,l,bb⟩;have bc:=l.sup;have S:=S.compN 1 3 l;replace OP:=rm OP bc;have S:=S.toEndB (i:=1) rfl;have S:=S.toEndB (i:=0) rfl;have S:=S.toEndO (i:=3) rfl;have S:=S.toEndO (i:=0) rfl;have S:=S.toEndO (i:=0) rfl;have S:=S.toEndO (i:=0) rfl;refine g9 (ly (ni ((putW x b ((gi f (a:Int) j).1,(gi f (a:Int) j).2)).2)) S Ya (ln (fJ ?_)));refine iV (fun w=>St X W rd aQ [(gW,109,#[sb gN 0 n cN,sb gV 0 n cV]),(b9,31,(kN ((gi f (a:Int) j).1) p s t y A B C D E F G H))] [⟨31,7,sb gN 0 n cN,n,ba⟩,⟨67,1,sb gV 0 n cV,n,xsV⟩] w) MX rfl ?_;have S:=S.drew;have bu:=S.sup;have SC:=S.tt 2 2;refine tk (pa gW 0) 0 rfl rfl SC Ym (tk (pa gW 0) 1 rfl rfl SC Yn (tk (pa gW 0) 2 rfl rfl SC (Yb lC) (tk (pa gW 1) 3 rfl rfl SC (Yb l9) (tk (sb gV 0 n cV) 4 rfl rfl SC (fI 0 lA) (tk (ni (a:Int)) 5 rfl rfl SC Ym (tk (pa gV (a * 1)) 6 rfl rfl SC (j9 (k:=a) lw lV (by omega) (Nat.zero_add _) rfl rfl rfl) (tk (sb gI 0 n cI) 7 rfl rfl SC (gG rfl (fun w S=>ky (i:=1) S rfl rfl mB (by rw [Nat.mul_one];exact hV))) (tk (ni (b:Int)) 8 rfl rfl SC Ym (tk (pa gW 0) 9 rfl rfl SC Ym (tk (pa gW 0) 10 rfl rfl SC Yn (tk (pa gW 0) 11 rfl rfl SC (Yb lC) (tk (pa gW 1) 12 rfl rfl SC (Yb l9) (tk (sb gV 0 n cV) 13 rfl rfl SC (fI 0 lA) (tk (ni (a:Int)) 14 rfl rfl SC Ym (tk (pa gV (a * 1)) 15 rfl rfl SC (j9 (k:=a) lw lV (by omega) (Nat.zero_add _) rfl rfl rfl) ?_)))))))))))))));refine tk (sb gI 0 n cI) 16 rfl rfl SC (gG rfl (fun w S=>ky (i:=1) S rfl rfl mB (by rw [Nat.mul_one];exact hV))) (tk (ni (b:Int)) 17 rfl rfl SC Ym (tk (pa gI (b * 1)) 18 rfl rfl SC (j9 (k:=b) lY kV (by omega) (Nat.zero_add _) rfl rfl rfl) ?_));refine aO 19 rfl (by kernel_rfl) (ly (sb gP (pk * 6) q.length (cP - pk)) S (gG rfl (fun w S=>ky (i:=2) S rfl rfl na (by rw [Nat.mul_one];exact hI))) (fL ?_));have SC:=S.tt 2 2;refine fK (ak SC ?_);obtain⟨ay,bd,be⟩:=lR (g:=gP) (o:=pk * 6) (n:=q.length) (c:=cP - pk) (lo:=1) (hi:=q.length) jT jF (by omega) (by omega);refine tk (sb gP ay (q.length - 1) ((cP - pk) - 1)) 20 rfl rfl SC (be rfl (.inr ⟨_,_,_,rfl,rfl,(by first | rfl | omega)⟩) (.inl ⟨rfl,rfl⟩)) (tk (pa gI (b * 1)) 21 rfl rfl SC (j9 (k:=b) lY kV (by omega) (Nat.zero_add _) rfl rfl rfl) ?_);refine aO 22 rfl (by kernel_rfl) (mo (u:=sb gP ay (q.length - 1) ((cP - pk) - 1)) (i:=2) (xs':=(xsI.set b (sb gP ay (q.length - 1) ((cP - pk) - 1)))) S rfl rfl rfl rfl kV (show b * 1+1≤xsI.length by omega) rfl (oP (show b<xsI.length by omega)) fun _ S => ?_)
  refine fL ?_;have SC:=S.tt 2 2;refine fK (ak SC ?_);refine gE (by kernel_rfl) ?_;refine fM (er (ly (ni ((putW x b ((gi f (a:Int) j).1,(gi f (a:Int) j).2)).2)) S Ym (ly (ni ((putW x b ((gi f (a:Int) j).1,(gi f (a:Int) j).2)).2)) S Ya (ln (fR ?_)))));refine g3 (v:=ni ((putW x b ((gi f (a:Int) j).1,(gi f (a:Int) j).2)).2)) rfl rfl ?_;have Y:=va hT bd (by omega);have Z:(q.drop 1).length=pn - (pk+1):=by simp;omega
  have m:(q.drop 1).length=q.length - 1:=by simp
  have az:ic x b=f:=nz a6;have aA:pC q=j:=vM aj;have aB:(putW x b (gi f a j)).1.way=x.way:=q8 _ _ _;have es:lH x a b lost=(⟨(putW x b (gi f a j)).1.nodes,kT x.way a b (q.drop 1)⟩,(gi f a j).2):=by unfold lH pR;rw [← hq,if_neg (by omega),if_neg (by rw [V];simp),az,aA,aB,← hq]
  rw [es];exact⟨_,_,_,_,_,_,_,_,_,(iy (qa x b (gi f a j))),(S.tt 1 4).rw' rfl rfl,kY.new (q':=q.drop 1) hway hwr ha hb bb (qw hn) (by rw [m]) (by rw [m];exact Y) (vX OP (by omega)) (by omega) Z⟩
 refine iA rfl ?_ ?_
 ·
  refine gk (cs:=jR) S jE rfl fun bf _ S=>fL ?_
  have SC:=S.tt 1 4;refine fK (ak SC ?_);refine aO 22 rfl (by kernel_rfl) (g7 (g4 (vs:=[.agg (kN f a7 a8 a9 aa ab ac ad ae af ag ah ai),ni (a:Int),.agg (kP j al an ao ap aq ar au av aw ax)]) (CF 14 _) rfl rfl) (zv _ _ S.le _ _ f (a:Int) j (⟨_,rfl,⟨_,_,_,_,_,_,rfl,aE,aF,aG,aH,aI,aJ⟩⟩:fW gT rd _ f) (⟨_,rfl,⟨_,_,_,_,_,rfl,aK,aL,aM,aN,aP⟩⟩:fW j5 rd _ j)) ?_);rintro e _ ⟨_,rfl,a3,l⟩;obtain⟨aR,S,a4,_,bg⟩:=S.call' l;replace OP:=rm OP a4;replace ON:=rm ON a4;replace a3:=am a3 bg;obtain⟨_,rfl,a3⟩:=a3;obtain⟨I,J,K,L,M,N,O,P,Q,R,T,U,rfl,bh,bi,bj,bk,bl,bm,_⟩:=a3.d;refine kn ?_;have SC:=((S.tt 1 4).weak a0 a4);refine fK (ak SC ?_);refine tk (.tuple #[.agg (kN ((gi f (a:Int) j).1) I J K L M N O P Q R T U),ni ((gi f (a:Int) j).2)]) 23 rfl rfl SC Ym (tk (.agg (kN ((gi f (a:Int) j).1) I J K L M N O P Q R T U)) 24 rfl rfl SC Ye (tk (ni ((gi f (a:Int) j).2)) 25 rfl rfl SC Ye ?_));refine aO 27 rfl (by kernel_rfl) (fT (u:=.agg (kN ((gi f (a:Int) j).1) I J K L M N O P Q R T U)) (i:=1) (cs':=(kN ((gi f (a:Int) j).1) I J K L M N O P Q R T U)) S rfl rfl rfl hY rfl rfl rfl fun _ S=>fL ?_)
  have SC:=((S.tt 1 4).weak a0 a4);refine fK (ak SC ?_);refine tk (ni ((gi f (a:Int) j).2)) 28 rfl rfl SC Ya (gE (by kernel_rfl) ?_);refine nr (ly (pa gW 0) S Ym (ly (ni (b:Int)) S Ym (ly (.agg (kN ((gi f (a:Int) j).1) I J K L M N O P Q R T U)) S (gf 1 ij) (ly (ni ((gi f (a:Int) j).2)) S Ym ?_))));have S:=S.toEndB (i:=0) rfl;have S:=S.toEndO (i:=0) rfl;refine g7 (g4 (vs:=[pa gW 0,ni (b:Int),.agg (kN ((gi f (a:Int) j).1) I J K L M N O P Q R T U),ni ((gi f (a:Int) j).2)]) (CF 105 _) rfl rfl) (ua _ _ gW gN gV n cN cV x b ((gi f (a:Int) j).1) ((gi f (a:Int) j).2) _ xsN hn (fun _=>hb) (S.giveN 1 3) ON (⟨_,rfl,⟨_,_,_,_,_,_,rfl,bh,bi,bj,bk,bl,bm⟩⟩:fW gT aR _ ((gi f (a:Int) j).1)) _ rfl) ?_;rintro e _ ⟨bn,rfl,l,bo⟩;have bp:=l.sup;have S:=S.compN 1 3 l;replace OP:=rm OP bp;have S:=S.toEndB (i:=1) rfl;have S:=S.toEndB (i:=0) rfl;have S:=S.toEndO (i:=3) rfl;have S:=S.toEndO (i:=0) rfl;have S:=S.toEndO (i:=0) rfl;have S:=S.toEndO (i:=0) rfl;refine g9 (ly (ni ((putW x b ((gi f (a:Int) j).1,(gi f (a:Int) j).2)).2)) S Ya (ln (fJ ?_)));refine iV (fun w=>St X W rd aR [(gW,109,#[sb gN 0 n cN,sb gV 0 n cV]),(bf,31,(kN ((gi f (a:Int) j).1) I J K L M N O P Q R T U))] [⟨31,7,sb gN 0 n cN,n,bn⟩,⟨67,1,sb gV 0 n cV,n,xsV⟩] w) MX rfl ?_;have S:=S.drew;have bv:=S.sup;have SC:=S.tt 2 2;refine tk (pa gW 0) 0 rfl rfl SC Ym (tk (pa gW 0) 1 rfl rfl SC Yn (tk (pa gW 0) 2 rfl rfl SC (Yb lC) (tk (pa gW 1) 3 rfl rfl SC (Yb l9) (tk (sb gV 0 n cV) 4 rfl rfl SC (fI 0 lA) (tk (ni (a:Int)) 5 rfl rfl SC Ym (tk (pa gV (a * 1)) 6 rfl rfl SC (j9 (k:=a) lw lV (by omega) (Nat.zero_add _) rfl rfl rfl) (tk (sb gI 0 n cI) 7 rfl rfl SC (gG rfl (fun w S=>ky (i:=1) S rfl rfl mB (by rw [Nat.mul_one];exact hV))) (tk (ni (b:Int)) 8 rfl rfl SC Ym (tk (pa gW 0) 9 rfl rfl SC Ym (tk (pa gW 0) 10 rfl rfl SC Yn (tk (pa gW 0) 11 rfl rfl SC (Yb lC) (tk (pa gW 1) 12 rfl rfl SC (Yb l9) (tk (sb gV 0 n cV) 13 rfl rfl SC (fI 0 lA) (tk (ni (a:Int)) 14 rfl rfl SC Ym (tk (pa gV (a * 1)) 15 rfl rfl SC (j9 (k:=a) lw lV (by omega) (Nat.zero_add _) rfl rfl rfl) ?_)))))))))))))));refine tk (sb gI 0 n cI) 16 rfl rfl SC (gG rfl (fun w S=>ky (i:=1) S rfl rfl mB (by rw [Nat.mul_one];exact hV))) (tk (ni (b:Int)) 17 rfl rfl SC Ym (tk (pa gI (b * 1)) 18 rfl rfl SC (j9 (k:=b) lY kV (by omega) (Nat.zero_add _) rfl rfl rfl) ?_));refine aO 19 rfl (by kernel_rfl) (ly (sb gP (pk * 6) q.length (cP - pk)) S (gG rfl (fun w S=>ky (i:=2) S rfl rfl na (by rw [Nat.mul_one];exact hI))) (fL ?_));have SC:=S.tt 2 2;refine fK (ak SC ?_);obtain⟨aC,bq,br⟩:=lR (g:=gP) (o:=pk * 6) (n:=q.length) (c:=cP - pk) (lo:=1) (hi:=q.length) jT jF (by omega) (by omega);refine tk (sb gP aC (q.length - 1) ((cP - pk) - 1)) 20 rfl rfl SC (br rfl (.inr ⟨_,_,_,rfl,rfl,(by first | rfl | omega)⟩) (.inl ⟨rfl,rfl⟩)) (tk (pa gI (b * 1)) 21 rfl rfl SC (j9 (k:=b) lY kV (by omega) (Nat.zero_add _) rfl rfl rfl) ?_);refine aO 22 rfl (by kernel_rfl) (mo (u:=sb gP aC (q.length - 1) ((cP - pk) - 1)) (i:=2) (xs':=(xsI.set b (sb gP aC (q.length - 1) ((cP - pk) - 1)))) S rfl rfl rfl rfl kV (show b * 1+1≤xsI.length by omega) rfl (oP (show b<xsI.length by omega)) fun _ S => ?_)
  refine fL ?_;have SC:=S.tt 2 2;refine fK (ak SC ?_);refine gE (by kernel_rfl) ?_;refine fM (er (ly (ni ((putW x b ((gi f (a:Int) j).1,(gi f (a:Int) j).2)).2)) S Ym (ly (ni ((putW x b ((gi f (a:Int) j).1,(gi f (a:Int) j).2)).2)) S Ya (ln (fR ?_)))));refine g3 (v:=ni ((putW x b ((gi f (a:Int) j).1,(gi f (a:Int) j).2)).2)) rfl rfl ?_;have Y:=va hT bq (by omega);have Z:(q.drop 1).length=pn - (pk+1):=by simp;omega
  have m:(q.drop 1).length=q.length - 1:=by simp
  have az:ic x b=f:=nz a6;have aA:pC q=j:=vM aj;have aB:(putW x b (gi f a j)).1.way=x.way:=q8 _ _ _;have es:lH x a b lost=(⟨(putW x b (gi f a j)).1.nodes,kT x.way a b (q.drop 1)⟩,(gi f a j).2):=by unfold lH pR;rw [← hq,if_neg (by omega),if_neg (by rw [V];simp),az,aA,aB,← hq]
  rw [es];exact⟨_,_,_,_,_,_,_,_,_,(iy (qa x b (gi f a j))),(S.tt 1 4).rw' rfl rfl,kY.new (q':=q.drop 1) hway hwr ha hb bo (qw hn) (by rw [m]) (by rw [m];exact Y) (vX OP (by omega)) (by omega) Z⟩
 exact jk
theorem Ah{X:List Nat}(rd:Rd)(W:World)(gW gN gV gI n cN cV cI a b pn pk ct:Nat)(x:iG)(q:List i2)(pv:Value)(At:Option Addr)(xsN xsV xsI xsP:List Value)(ha:a<n)(hb:b<n)(hn:x.nodes.length=n)(hq:q=iU x.way a b)(hql:q.length=pn - pk)(hpn:pn≤1000)(hway:x.way.length=n)(hwr:∀ r∈x.way,r.length=n)(hxV:xsV.length=n)(hxI:xsI.length=n)(S0:St X W rd rd [(gW,109,#[.slice (some ⟨gN,0,none⟩) n cN,.slice (some ⟨gV,0,none⟩) n cV])] [⟨31,7,.slice (some ⟨gN,0,none⟩) n cN,n,xsN⟩,⟨67,1,.slice (some ⟨gV,0,none⟩) n cV,n,xsV⟩,⟨66,1,.slice (some ⟨gI,0,none⟩) n cI,n,xsI⟩,⟨33,6,pv,pn,xsP⟩] W)(ON:fQ 7 gT rd xsN x.nodes)(hV:xsV[a]? = some (.slice (some ⟨gI,0,none⟩) n cI))(hI:xsI[b]? = some (.slice At q.length ct))(hT:lN 6 pv pn pk (.slice At q.length ct))(OP:fQ 6 j5 rd (xsP.drop (pk * 6)) q)  (ia:Int) (hia:ia=(a:Int)) (ib:Int) (hib:ib=(b:Int)) :
  Calls Tryz.prog 107 #[(pa gW 0),(.int .i64 ia),(.int .i64 ib)] W (fun e w' => ∃ rd' xsN' xsI' pv' pn' pk' xsP' At' ct',e = .returned (.int .i64 (lT x a b).2)∧St X W rd rd' [(gW,109,#[.slice (some ⟨gN,0,none⟩) n cN,.slice (some ⟨gV,0,none⟩) n cV])] [⟨31,7,.slice (some ⟨gN,0,none⟩) n cN,n,xsN'⟩,⟨67,1,.slice (some ⟨gV,0,none⟩) n cV,n,xsV⟩,⟨66,1,.slice (some ⟨gI,0,none⟩) n cI,n,xsI'⟩,⟨33,6,pv',pn',xsP'⟩] w'∧kY rd' x a b n pn xsI (lT x a b).1 xsN' xsI' pv' pn' pk' xsP' At' ct'):=by
 subst hia;subst hib;exact EC rd W gW gN gV gI n cN cV cI a b pn pk ct x q pv At xsN xsV xsI xsP ha hb hn hq hql hpn hway hwr hxV hxI S0 ON hV hI hT OP
theorem xB{X:List Nat}(rd:Rd)(W:World)(gW gN gV gI n cN cV cI a b pn pk ct:Nat)(x:iG)(q:List i2)(pv:Value)(At:Option Addr)(xsN xsV xsI xsP:List Value)(ha:a<n)(hb:b<n)(hn:x.nodes.length=n)(hq:q=iU x.way a b)(hql:q.length=pn - pk)(hpn:pn≤1000)(hway:x.way.length=n)(hwr:∀ r∈x.way,r.length=n)(hxV:xsV.length=n)(hxI:xsI.length=n)(S0:St X W rd rd [(gW,109,#[.slice (some ⟨gN,0,none⟩) n cN,.slice (some ⟨gV,0,none⟩) n cV])] [⟨31,7,.slice (some ⟨gN,0,none⟩) n cN,n,xsN⟩,⟨67,1,.slice (some ⟨gV,0,none⟩) n cV,n,xsV⟩,⟨66,1,.slice (some ⟨gI,0,none⟩) n cI,n,xsI⟩,⟨33,6,pv,pn,xsP⟩] W)(ON:fQ 7 gT rd xsN x.nodes)(hV:xsV[a]? = some (.slice (some ⟨gI,0,none⟩) n cI))(hI:xsI[b]? = some (.slice At q.length ct))(hT:lN 6 pv pn pk (.slice At q.length ct))(OP:fQ 6 j5 rd (xsP.drop (pk * 6)) q)(lost:Bool)  (ia:Int) (hia:ia=(a:Int)) (ib:Int) (hib:ib=(b:Int)) :
  Calls Tryz.prog 108 #[(pa gW 0),(.int .i64 ia),(.int .i64 ib),(.bool lost)] W (fun e w' => ∃ rd' xsN' xsI' pv' pn' pk' xsP' At' ct',e = .returned (.int .i64 (lH x a b lost).2)∧St X W rd rd' [(gW,109,#[.slice (some ⟨gN,0,none⟩) n cN,.slice (some ⟨gV,0,none⟩) n cV])] [⟨31,7,.slice (some ⟨gN,0,none⟩) n cN,n,xsN'⟩,⟨67,1,.slice (some ⟨gV,0,none⟩) n cV,n,xsV⟩,⟨66,1,.slice (some ⟨gI,0,none⟩) n cI,n,xsI'⟩,⟨33,6,pv',pn',xsP'⟩] w'∧kY rd' x a b n pn xsI (lH x a b lost).1 xsN' xsI' pv' pn' pk' xsP' At' ct'):=by
 subst hia;subst hib;exact BX rd W gW gN gV gI n cN cV cI a b pn pk ct x q pv At xsN xsV xsI xsP ha hb hn hq hql hpn hway hwr hxV hxI S0 ON hV hI hT OP lost
end
section
section
variable {X:List Nat} {W w:World} {r0 rd:Rd} {bx bx':List je} {ow l l' F m:List h7}
theorem St.rotO(S:St X W r0 rd bx ((l++F)++m) w):St X W r0 rd bx ((l++m)++F) w :=
 S.permO (by rw [List.append_assoc,List.append_assoc];exact List.Perm.append_left _ List.perm_append_comm)
theorem St.tkF(S:St X W r0 rd bx (l++F) w)(a b:Nat)(h1:bx.take a=bx')(h2:l.take b=l'):St X W r0 rd bx' (l'++F) w:=by
 subst h1 h2
 have h:((l.take b++F)++l.drop b).Perm (l++F):=by
  conv=>rhs;rw [← List.take_append_drop b l]
  rw [List.append_assoc,List.append_assoc];exact List.Perm.append_left _ List.perm_append_comm
 exact(S.permO h).tk a (l.take b++F).length rfl List.take_left
theorem St.frzoY(S:St X W r0 rd bx ow w){i:Nat}{q:h7}(hi:ow[i]? = some q)(hX:∀ g∈X,(∃ p∈ow.eraseIdx i,p.v.ownBlock=some g) ∨ ∃ p∈bx,p.1=g):∃ rd',St X W r0 rd' bx (ow.eraseIdx i) w∧Rd.le rd rd' ∧
  ∀ {α:Type} {R:CR α} {xs:List α},q.n=xs.length→fQ q.size R rd' q.xs xs→fN q.size R rd' q.v xs:=by
 refine⟨_,?_,S.frzo_le hi,fun u f=>S.frzo_sl hi rfl rfl u rfl f⟩
 have m:=List.mem_of_getElem? hi
 have t:=S.own _ m
 refine⟨S.fr,fun b o v x e => ?_,fY S.sup (qr fun k c=>(t.2 k c).2),td S.le,fun p a=>⟨(S.box p a).1,(S.box p a).2.1,fun o => ?_⟩,fun p a => ?_,S.d1,qj S.d2,fun p a r y => ?_⟩
 ·unfold k8 at e;split at e
  ·rename_i f
   rcases(t.2 b f.symm).1 with h | h
   ·omega
   ·rcases hX b h with⟨p,a,e2⟩ | ⟨p,a,e2⟩
    rotate_left
    ·exact(S.d3 p a q m (by rw [e2];exact f.symm)).elim
    obtain⟨j,l,d⟩:=mq a
    rcases oA S hi d l with k | k
    ·rw [e2] at k;cases k
    ·exact absurd (by rw [e2,← f]) k
  ·exact S.sub b o v x e
 ·unfold k8;rw [if_neg (fun e=>S.d3 p a q m e.symm)];exact(S.box p a).2.2 o
 ·obtain⟨j,l,d⟩:=mq a
  have s:=List.mem_of_getElem? d
  refine⟨(S.own p s).1,fun k c=>⟨((S.own p s).2 k c).1,fun o => ?_⟩⟩
  unfold k8
  rw [if_neg (fun e=>by
   rcases oA S hi d l with h | h
   ·rw [h] at c;cases c
   ·exact h (by rw [c,e]))]
  exact((S.own p s).2 k c).2 o
 ·obtain⟨j,l,d⟩:=mq y
  exact S.d3 p a r (List.mem_of_getElem? d)
theorem St.frzoX(S:St X W r0 rd bx ow w){i:Nat}{q:h7}(hi:ow[i]? = some q)(hX:∀ g∈X,∃ p∈ow.eraseIdx i,p.v.ownBlock=some g):∃ rd',St X W r0 rd' bx (ow.eraseIdx i) w∧Rd.le rd rd' ∧
  ∀ {α:Type} {R:CR α} {xs:List α},q.n=xs.length→fQ q.size R rd' q.xs xs→fN q.size R rd' q.v xs :=
 S.frzoY hi fun g hg => .inl (hX g hg)
theorem St.frzAll{α β:Type}{size:Nat}{R:CR β}[i9 R]{f:α→h7}{g:α→List β}:∀ {aS:List α} {rd:Rd} (S:St [] W r0 rd bx (l++aS.map f) w)
  (hr:∀ a∈aS,(f a).size=size∧(f a).n=(g a).length∧fQ size R rd (f a).xs (g a)),∃ rd',St [] W r0 rd' bx l w∧Rd.le rd rd' ∧ ∀ a∈aS,fN size R rd' (f a).v (g a)
 | [],rd,S,_=>⟨rd,S.rw' rfl (by simp),Rd.le_refl _,fun a h=>by cases h⟩
 | a :: aS,rd,S,hr=>by
  have S1:St [] W r0 rd bx ((l++aS.map f)++[f a]) w:=S.permO (by
   rw [List.map_cons,List.append_assoc];exact List.Perm.append_left _ (List.perm_append_singleton _ _))
  obtain⟨rd1,S2,L,F⟩:=S1.frzo' (i:=(l++aS.map f).length) (q:=f a) (by simp) rfl
  have e:((l++aS.map f)++[f a]).eraseIdx (l++aS.map f).length=l++aS.map f:=by
   rw [List.eraseIdx_append_of_length_le (Nat.le_refl _)];simp
  rw [e] at S2
  obtain⟨j,k,d,m⟩:=St.frzAll S2 fun b c=>⟨(hr b (List.mem_cons_of_mem _ c)).1,(hr b (List.mem_cons_of_mem _ c)).2.1,rm (hr b (List.mem_cons_of_mem _ c)).2.2 L⟩
  obtain⟨o,p,r⟩:=hr a List.mem_cons_self
  refine⟨j,k,fY L d,fun b c => ?_⟩
  rcases List.mem_cons.1 c with rfl | c
  ·subst o;exact fm (F p (rm r L)) d
  ·exact m b c
end
def mW:CR Value:=fun _ cs v=>cs=[v]∧v.oneCell'=true
instance:i9 mW:=⟨fun _ _ _ _ _ h=>h,fun _ _ _ ⟨e,h⟩ u hu=>by
 subst e;obtain rfl:=List.mem_singleton.1 hu;exact h⟩
theorem mW.row{rd:Rd}:∀ {l:List Value},(∀ v∈l,v.oneCell'=true)→fQ 1 mW rd l l
 | [],_=>rfl
 | v :: l,h=>⟨[v],l,rfl,rfl,⟨rfl,h v List.mem_cons_self⟩,mW.row fun u hu=>h u (List.mem_cons_of_mem _ hu)⟩
theorem mW.eq{rd:Rd}:∀ {xs l:List Value},fQ 1 mW rd xs l→xs=l
 | xs,[],h=>h
 | xs,v :: l,h=>by
  obtain⟨cs,rest,e,_,⟨h1,_⟩,h2⟩:=h
  subst h1;rw [e,mW.eq h2];rfl
theorem fQ.putf{α:Type}{size:Nat}{R:CR α}{rd:Rd}{xs cs ws:List Value}{l:List α}{k j:Nat}{x:α}(h:fQ size R rd xs l)(hk:l[k]? = some x)(hc:∀ a u,cs[a]? = some u→xs[k * size+a]? = some u)(hl:cs.length=size)(hj:j+ws.length≤size)
  (hx:R rd (cs.take j++ws++cs.drop (j+ws.length)) x):fQ size R rd (xs.take (k * size+j)++ws++xs.drop (k * size+j+ws.length)) l ∧ ∀ a u,(cs.take j++ws++cs.drop (j+ws.length))[a]? = some u→(xs.take (k * size+j)++ws++xs.drop (k * size+j+ws.length))[k * size+a]? = some u:=by
 have c:=(List.getElem?_eq_some_iff.1 hk).1
 have v:=h.len
 have w:k * size+size≤xs.length:=by
  have:(k+1) * size≤l.length * size:=Nat.mul_le_mul_right _ c
  rw [Nat.add_mul,Nat.one_mul] at this;omega
 have o:(xs.drop (k * size)).take size=cs:=by
  refine List.ext_getElem? fun a => ?_
  rw [List.getElem?_take]
  by_cases d:a<size
  ·rw [if_pos d,List.getElem?_drop]
   obtain⟨u,b⟩:∃ u,cs[a]? = some u:=⟨cs[a]'(by omega),List.getElem?_eq_getElem (by omega)⟩
   rw [b,hc a u b]
  ·rw [if_neg d,List.getElem?_eq_none (by omega)]
 have g:xs=xs.take (k * size)++(cs++xs.drop (k * size+size)):=by
  have p:=(List.take_append_drop (k * size) xs).symm
  have m:=(List.take_append_drop size (xs.drop (k * size))).symm
  rw [o,List.drop_drop] at m
  rw [← m];exact p
 have n:(cs.take j++ws++cs.drop (j+ws.length)).length=size:=by simp;omega
 have f:(xs.take (k * size)).length=k * size:=by rw [List.length_take];omega
 have q:xs.take (k * size+j)++ws++xs.drop (k * size+j+ws.length)=xs.take (k * size)++(cs.take j++ws++cs.drop (j+ws.length))++xs.drop (k * size+size):=by
  have r:xs.take (k * size+j)=xs.take (k * size)++cs.take j:=by
   conv=>lhs;rw [g]
   rw [List.take_append,f,List.take_of_length_le (by omega),Nat.add_sub_cancel_left,List.take_append_of_le_length (by omega)]
  have s:xs.drop (k * size+j+ws.length)=cs.drop (j+ws.length)++xs.drop (k * size+size):=by
   conv=>lhs;rw [g]
   rw [List.drop_append,f,List.drop_eq_nil_of_le (by omega),List.nil_append,show k * size+j+ws.length - k * size=j+ws.length by omega,List.drop_append_of_le_length (by omega)]
  rw [r,s];simp only [List.append_assoc]
 rw [q]
 constructor
 ·have:=fQ.put (k:=k) (cs:=cs.take j++ws++cs.drop (j+ws.length)) h c n hx
  rw [n] at this
  have t:l.set k x=l:=by
   refine List.ext_getElem? fun i => ?_
   rw [List.getElem?_set];split
   ·rename_i e;subst e;first | exact hk.symm | rw [if_pos c,hk]
   ·rfl
  rwa [t] at this
 ·intro a u b
  have d:a<size:=by have:=(List.getElem?_eq_some_iff.1 b).1;omega
  rw [List.append_assoc,List.getElem?_append_right (by omega),f,Nat.add_sub_cancel_left,List.getElem?_append_left (by omega)]
  exact b
end
section
def lE(TI:TypeId)(n:Nat)(vI:Nat→Value)(pr:PrF)(a:Nat):List h7:=((List.range n).filter fun x=>decide (x ≠ a)).map (lW TI n vI pr)
section
variable {TI TP:TypeId} {n:Nat} {vI:Nat→Value} {pr:PrF} {a b:Nat}
variable {X:List Nat} {W w w':World} {r0 rd:Rd} {bx:List je} {ow A:List h7}
theorem St.pickI(S:St X W r0 rd bx (A++kZ TI n vI pr) w)(ha:a<n):St X W r0 rd bx ((A++[⟨TI,1,vI a,n,ju n pr a⟩])++lE TI n vI pr a) w :=
 S.permO (by
  rw [List.append_assoc]
  refine List.Perm.append_left _ ?_
  exact List.perm_append_comm.trans (t7 (lW TI n vI pr) List.nodup_range (List.mem_range.2 ha)).symm)
theorem xy{y:nG}(b:Nat):lE TI n vI (lK pr (a,b) y) a=lE TI n vI pr a:=by
 refine List.map_congr_left fun x d => ?_
 have d:=(List.mem_filter.1 d).2
 have f:x ≠ a:=of_decide_eq_true d
 unfold lW ju
 congr 1
 refine List.map_congr_left fun c _ => ?_
 unfold lK;rw [if_neg (fun e=>f (by injection e))]
theorem St.putI(S:St X W r0 rd bx ((A++[⟨TI,1,vI a,n,ju n pr a⟩])++lE TI n vI pr a) w)(ha:a<n):St X W r0 rd bx (A++kZ TI n vI pr) w :=
 S.permO (by
  rw [List.append_assoc]
  refine List.Perm.append_left _ ?_
  exact(t7 (lW TI n vI pr) List.nodup_range (List.mem_range.2 ha)).trans List.perm_append_comm)
theorem wM{y:nG}(hb:b<n):ju n (lK pr (a,b) y) a=(ju n pr a).set b y.tv:=by
 have h:=z1 (TI:=0) (vI:=fun _=>lB) (pr:=pr) (v:=lB) (y:=y) (a:=a) hb
 unfold lW at h
 injection h
def n8(rd:Rd)(n:Nat)(pr:PrF)(way:List (List (List i2))):Prop:=∀ a,a<n → ∀ b,b<n→fN 6 j5 rd (pr (a,b)).tv (iU way a b)
theorem n8.mono{rd rd':Rd}{way:List (List (List i2))}(h:n8 rd n pr way)(k:Rd.le rd rd'):n8 rd' n pr way:=fun a ha b hb=>fm (h a ha b hb) k
theorem n8.put{way:List (List (List i2))}(h:n8 rd n pr way){v:Value}(hv:fN 6 j5 rd v (iU way a b)):n8 rd n (lK pr (a,b) ⟨lB,0,0,[],v⟩) way:=fun x hx z hz=>by
 unfold lK
 by_cases e:(x,z)=(a,b)
 ·rw [if_pos e];injection e with e1 e2;subst e1 e2;exact hv
 ·rw [if_neg e];exact h x hx z hz
theorem St.nilRows(TP:TypeId){α:Type}:∀ {aS:List α} {ow:List h7} (S:St X W r0 rd bx ow w),St X W r0 rd bx (ow++aS.map fun _=>⟨TP,6,lB,0,[]⟩) w
 | [],ow,S=>by simpa using S
 | a :: aS,ow,S=>by
  have h:=St.nilRows TP (aS:=aS) (S.ownNil TP 6)
  rw [List.append_assoc] at h
  exact h
def mK(TI:TypeId)(n:Nat)(vI:Nat→Value)(k:Nat):List h7:=(List.range k).map fun x=>⟨TI,1,vI x,n,List.replicate n lB⟩
theorem yv(k:Nat)(v:Value):mK TI n (lz vI k v) (k+1)=mK TI n vI k++[⟨TI,1,v,n,List.replicate n lB⟩]:=by
 unfold mK
 rw [List.range_succ,List.map_append]
 congr 1
 ·refine List.map_congr_left fun x a => ?_
  have:=List.mem_range.1 a
  unfold lz;rw [if_neg (by omega)]
 ·simp [lz]
def oM:PrF:=fun _=>uI
theorem wO:mK TI n vI n=kZ TI n vI oM:=by
 unfold mK kZ lW ju oM uI
 refine List.map_congr_left fun x _ => ?_
 congr 1
 refine List.ext_getElem? fun i => ?_
 rw [List.getElem?_map,List.getElem?_replicate]
 by_cases h:i<n
 ·rw [List.getElem?_range h,if_pos h];rfl
 ·rw [List.getElem?_eq_none (by simpa using h),if_neg h];rfl
theorem St.begun(S:St X W r0 rd bx (A++mK TI n vI n) w):St X W r0 rd bx (A++rC TI TP n vI oM) w:=by
 have h:=St.nilRows TP (aS:=pQ n) S
 rw [wO,List.append_assoc] at h
 exact h
theorem uk{n a b:Nat}(ha:a<n)(hb:b<n):iU (List.replicate n (List.replicate n [])) a b=[]:=by
 unfold iU
 simp [List.getD_eq_getElem?_getD,ha,hb]
theorem mD.start(rd:Rd)(n:Nat):mD rd 0 n oM (kJ n).way:=⟨by simp [kJ],fun x hx=>by
  have:=List.eq_of_mem_replicate hx;subst this;simp,fun a ha b hb=>by
  show qi rd 0 uI (iU (List.replicate n (List.replicate n [])) a b)
  rw [uk ha hb]
  exact⟨lN.nil 6,rfl,Nat.le_refl _,rfl⟩⟩
theorem xq(k:Nat)(v:Value):(List.range (k+1)).map (lz vI k v)=(List.range k).map vI++[v]:=by
 rw [List.range_succ,List.map_append]
 congr 1
 ·refine List.map_congr_left fun x a => ?_
  have:=List.mem_range.1 a
  unfold lz;rw [if_neg (by omega)]
 ·simp [lz]
theorem St.frzW{TV:TypeId}{l:List h7}{vV:Value}{way:List (List (List i2))}(S:St [] W r0 rd bx ((l++[⟨TV,1,vV,n,(List.range n).map vI⟩])++kZ TI n vI pr) w)(hw:way.length=n)(hr:∀ r∈way,r.length=n)(h:n8 rd n pr way) :
  ∃ rd',St [] W r0 rd' bx l w∧Rd.le rd rd'∧fN 1 x6 rd' vV way:=by
 have rows:∀ {rd:Rd} {xs:List Value} {r:List (List i2)},xs.length=r.length→(∀ (b:Nat) v,xs[b]? = some v → ∃ q,r[b]? = some q∧fN 6 j5 rd v q)→fQ 1 vL rd xs r:=by
  intro rd xs
  induction xs with
  | nil=>intro r d _;cases r with
   | nil=>rfl
   | cons a b=>cases d
  | cons v xs ih=>intro r d k;cases r with
   | nil=>cases d
   | cons q r =>
    obtain⟨x,e,m⟩:=k 0 v rfl
    injection e with e;subst e
    exact⟨[v],xs,rfl,rfl,⟨v,rfl,m⟩,ih (by simpa using d) fun b u o=>by simpa using k (b+1) u (by simpa using o)⟩
 have y:∀ {rd:Rd} {xs:List Value} {r:List (List (List i2))},xs.length=r.length→(∀ (b:Nat) v,xs[b]? = some v → ∃ q,r[b]? = some q∧fN 1 vL rd v q)→fQ 1 x6 rd xs r:=by
  intro rd xs
  induction xs with
  | nil=>intro r d _;cases r with
   | nil=>rfl
   | cons a b=>cases d
  | cons v xs ih=>intro r d k;cases r with
   | nil=>cases d
   | cons q r =>
    obtain⟨x,e,m⟩:=k 0 v rfl
    injection e with e;subst e
    exact⟨[v],xs,rfl,rfl,⟨v,rfl,m⟩,ih (by simpa using d) fun b u o=>by simpa using k (b+1) u (by simpa using o)⟩
 have gd:∀ a,a<n→way[a]? = some (way.getD a []):=fun a f=>by rw [List.getD_eq_getElem?_getD,List.getElem?_eq_getElem (by omega)];rfl
 have ln:∀ a,a<n→(way.getD a []).length=n:=fun a f=>hr _ (List.mem_of_getElem? (gd a f))
 obtain⟨_,z,A,B⟩:=St.frzAll (R:=vL) (size:=1) (g:=fun a=>way.getD a []) S fun a f=>by
  have f:=List.mem_range.1 f
  refine⟨rfl,(ln a f).symm,rows (by rw [ln a f];exact rp n pr a) fun b v c => ?_⟩
  have j:b<n:=by have:=(List.getElem?_eq_some_iff.1 c).1;rwa [show(lW TI n vI pr a).xs=ju n pr a from rfl,rp] at this
  have e:(ju n pr a)[b]? = some (pr (a,b)).tv:=tP j
  rw [show(lW TI n vI pr a).xs=ju n pr a from rfl,e] at c
  injection c with c;subst c
  exact⟨iU way a b,by
   have p:b<(way.getD a []).length:=by rw [ln a f];exact j
   unfold iU
   generalize way.getD a []=r at p ⊢
   rw [List.getD_eq_getElem?_getD,List.getElem?_eq_getElem p];rfl,h a f b j⟩
 obtain⟨C,s,t,D⟩:=z.frzo' (i:=l.length) (q:=⟨TV,1,vV,n,(List.range n).map vI⟩) (by simp) rfl
 rw [List.eraseIdx_append_of_length_le (Nat.le_refl _)] at s
 refine⟨C,s.rw' rfl (by simp),fY A t,D hw.symm (y (by simp [hw]) fun b v c => ?_)⟩
 have j:b<n:=by have:=(List.getElem?_eq_some_iff.1 c).1;simpa using this
 rw [List.getElem?_map,List.getElem?_range j] at c
 injection c with c;subst c
 exact⟨_,gd b j,fm (B b (List.mem_range.2 j)) t⟩
theorem St.frzP{l:List h7}{B:Nat}{way:List (List (List i2))}(S:St [] W r0 rd bx (l++rC TI TP n vI pr) w)(h:mD rd B n pr way):∃ rd',St [] W r0 rd' bx (l++kZ TI n vI pr) w∧Rd.le rd rd'∧n8 rd' n pr way:=by
 unfold rC at S
 rw [← List.append_assoc] at S
 have key:∀ {aS:List (Nat × Nat)} {rd:Rd} {l:List h7} (S:St [] W r0 rd bx (l++aS.map fun p=>m1 TP (pr p)) w) (f:∀ p∈aS,qi rd B (pr p) (iU way p.1 p.2)),
   ∃ rd',St [] W r0 rd' bx l w∧Rd.le rd rd' ∧ ∀ p∈aS,fN 6 j5 rd' (pr p).tv (iU way p.1 p.2):=by
  intro aS
  induction aS with
  | nil=>intro rd l S f;exact⟨rd,S.rw' rfl (by simp),Rd.le_refl _,fun a h=>by cases h⟩
  | cons a aS ih =>
   intro rd l S f
   have m:St [] W r0 rd bx ((l++aS.map fun p=>m1 TP (pr p))++[m1 TP (pr a)]) w:=S.permO (by
    rw [List.map_cons,List.append_assoc];exact List.Perm.append_left _ (List.perm_append_singleton _ _))
   have d:=f a List.mem_cons_self
   have O:=(m.own (m1 TP (pr a)) (by simp)).1
   have q:((l++aS.map fun p=>m1 TP (pr p))++[m1 TP (pr a)])[(l++aS.map fun p=>m1 TP (pr p)).length]? = some (m1 TP (pr a)):=by simp
   have s:=m.frzo q rfl
   have L:=m.frzo_le q
   rw [List.eraseIdx_append_of_length_le (Nat.le_refl _)] at s
   obtain⟨C,D,x,E⟩:=ih (l:=l) (s.rw' rfl (by simp)) fun b e=>(f b (List.mem_cons_of_mem _ e)).mono L (Nat.le_refl _)
   refine⟨C,D,fY L x,fun b e => ?_⟩
   rcases List.mem_cons.1 e with rfl | e
   ·refine fm ?_ x
    have y:=rm d.r L
    rcases d.t with⟨e1,e2,e3,e4⟩ | ⟨g,c,o,e1,e2,e3,e4,e5,e6⟩
    ·have:iU way b.1 b.2=[]:=List.eq_nil_of_length_eq_zero (by rw [d.l,e2];omega)
     rw [e4,this];exact fN.nil_ _
    ·rw [e6]
     refine⟨some ⟨g,o,none⟩,c - (pr b).k,(pr b).xs.drop ((pr b).k * 6),by rw [d.l],by rw [d.l];omega,by omega,y,fun G => ?_⟩
     have K:=y.len
     have i:(pr b).k<c:=by
      rcases Nat.lt_or_ge (pr b).k c with i | i
      ·exact i
      ·exact absurd (List.eq_nil_of_length_eq_zero (by rw [d.l];omega)) (by simpa using G)
     refine⟨g,o,rfl,fun j u z => ?_⟩
     rw [List.getElem?_drop] at z
     have A:=O.cells (g:=g) (by show(pr b).v.ownBlock=some g;rw [e1];rfl) _ _ z
     rw [Addr.add_mid,Nat.zero_add] at A
     unfold k8
     rw [if_pos (by show some g=(pr b).v.ownBlock;rw [e1];rfl),e5 i]
     exact A
   ·exact E b e
 obtain⟨rd',S',L,F⟩:=key S fun p d=>by
  obtain⟨H,I⟩:=uv.1 (show(p.1,p.2)∈pQ n from d)
  exact h.p p.1 H p.2 I
 exact⟨rd',S',L,fun a J b e=>F (a,b) (uv.2 ⟨J,e⟩)⟩
theorem zm{X:List Nat}{TI:TypeId}{n a:Nat}{vI:Nat→Value}{pr:PrF}{l:List h7}{V I:h7}(hX:∀ g∈X,V.v.ownBlock=some g ∨ ∃ x,x<n∧(vI x).ownBlock=some g)(hI:vI a=I.v)(h1:V∈l)(h2:I∈l)(h3:∀ q∈lE TI n vI pr a,q∈l):∀ g∈X,∃ p∈l,p.v.ownBlock=some g:=fun g hg=>by
 rcases hX g hg with h | ⟨x,hx,h⟩
 ·exact⟨V,h1,h⟩
 ·by_cases e:x=a
  ·subst e;exact⟨I,h2,by rw [← hI];exact h⟩
  ·exact⟨lW TI n vI pr x,h3 _ (List.mem_map.2 ⟨x,List.mem_filter.2 ⟨List.mem_range.2 hx,decide_eq_true e⟩,rfl⟩),h⟩
end
end
end Go.Proofs.YtkjknlnhffmkkacGreat
