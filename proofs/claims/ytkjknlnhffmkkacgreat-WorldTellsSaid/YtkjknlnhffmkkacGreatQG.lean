/- Part of the proof of WorldTells: lemmas; no condition. -/
import Derived.Test.YtkjknlnhffmkkacGreatQF
import Derived.Test.YtkjknlnhffmkkacGreatQC
import Derived.Test.YtkjknlnhffmkkacGreatQA
import Derived.Test.YtkjknlnhffmkkacGreatQB
import Derived.Test.YtkjknlnhffmkkacGreatQE
set_option linter.unusedVariables false
set_option linter.unusedSimpArgs false
set_option maxRecDepth 100000
set_option maxHeartbeats 16000000
namespace Go.Proofs.YtkjknlnhffmkkacGreat
open Go.RowKit
section
theorem C8{a b:List Int}{k:Nat}{x:Int}(h:a.take k=b.take k)(hx:a[k]? = some x)(hy:b[k]? = some x):a.take (k+1)=b.take (k+1):=by rw [jl hx,jl hy,h]
theorem EU{a b:List Int}{k:Nat}(h:a.take k=b.take k)(h1:a.length≤k)(h2:b.length≤k):a=b:=by rwa [List.take_of_length_le h1,List.take_of_length_le h2] at h
theorem Cz{a b:List Int}{k:Nat}{x y:Int}(hx:a[k]? = some x)(hy:b[k]? = some y)(h:¬ x=y):¬ a=b:=fun e=>by rw [e,hy] at hx;injection hx with hx;exact h hx.symm
theorem ou{d:gh}{n:Int}{k:Nat}{l:List (List Int)}{z:List Int}(hz:l[k]? = some z):o6 d n k (l.drop k)=if gb z n ≠ 0 then gb z n else if((k:Int)=d.self∧z ≠ d.state.clock)∨gO d.state.clock z=false then 7 else o6 d n (k+1) (l.drop (k+1)):=by
 obtain⟨a,e⟩:=List.getElem?_eq_some_iff.1 hz
 rw [List.drop_eq_getElem_cons a,e];rfl
section
variable {d:gh}
theorem wb(h:¬ (gj d.state (d.state.clock.length:Int)).1=0):iu d=(gj d.state (d.state.clock.length:Int)).1:=by unfold iu jp gn;rw [if_pos h]
theorem sC(h:(gj d.state (d.state.clock.length:Int)).1=0)(h2:d.self<0∨(d.state.clock.length:Int)≤d.self):iu d=3:=by unfold iu jp gn;rw [if_neg (fun k=>k h),if_pos h2]
theorem we(h:(gj d.state (d.state.clock.length:Int)).1=0)(h2:¬ (d.self<0∨(d.state.clock.length:Int)≤d.self))(h3:¬ (gc d.base d.log (d.state.clock.length:Int)).2.1=0):iu d=(gc d.base d.log (d.state.clock.length:Int)).2.1:=by unfold iu jp gn;rw [if_neg (fun k=>k h),if_neg h2,if_pos h3]
theorem tq(h:(gj d.state (d.state.clock.length:Int)).1=0)(h2:¬ (d.self<0∨(d.state.clock.length:Int)≤d.self))(h3:(gc d.base d.log (d.state.clock.length:Int)).2.1=0)(h4:¬ (gc d.base d.log (d.state.clock.length:Int)).1=d.state.clock ∨ ¬ (d.known.length:Int)=(d.state.clock.length:Int)):iu d=7:=by unfold iu jp gn;rw [if_neg (fun k=>k h),if_neg h2,if_neg (fun k=>k h3),if_pos h4]
theorem pc(h:(gj d.state (d.state.clock.length:Int)).1=0)(h2:¬ (d.self<0∨(d.state.clock.length:Int)≤d.self))(h3:(gc d.base d.log (d.state.clock.length:Int)).2.1=0)(h4:(gc d.base d.log (d.state.clock.length:Int)).1=d.state.clock)(h5:(d.known.length:Int)=(d.state.clock.length:Int)):iu d=o6 d (d.state.clock.length:Int) 0 d.known:=by unfold iu jp gn;rw [if_neg (fun k=>k h),if_neg h2,if_neg (fun k=>k h3),if_neg (by rintro(q | q);exact q h4;exact q h5)]
end
theorem yy(rd:Rd)(W:World)(hle:Rd.le rd (fX W))(v u:Value)(a b:List Int)(h:fN 1 ge rd v a)(h2:fN 1 ge rd u b) :
    Calls Tryz.prog 50 #[v,u] W (fun e w'=>e = .returned (.bool (decide (a=b)))∧Below W.heap.size W w'):=by
 obtain⟨c,d,rfl,_,_⟩:=h.val;obtain⟨f,g,rfl,_,_⟩:=h2.val;have J:=il;have S:St [] W rd rd [] [] W:=St.start hle;refine io (args:=[sc c a.length d,sc f b.length g]) 26 Tryz.func50 rfl rfl rfl ?_;refine er (ly (.bool false) S Ya (ln (fJ (er (ly (sc c a.length d) S Ym (ly (ni (a.length:Int)) S (Yl jH) (ly (sc f b.length g) S Ym (ly (ni (b.length:Int)) S (Yl jH) ?_))))))));by_cases l:(a.length:Int)=(b.length:Int)
 ·
  refine ly (.bool false) S (iT rfl rfl l) (ln (fV rfl (g1 (fM (fJ (er (ly (sc c a.length d) S Ym (ly (ni (a.length:Int)) S (Yl jH) (ly (ni 0) S Ym (ln (go ?_)))))))))));refine et [(0,sc c a.length d),(1,sc f b.length g),(12,ni (a.length:Int)),(13,ni (0:Int))] (fun i => ?_);refine j1 (fun(m:Nat) ov w=>match m with | k => ∃ rd' i,ov=[(0,sc c a.length d),(1,sc f b.length g),(12,ni (a.length:Int)),(13,ni (k:Int))]++i∧St [] W rd rd' [] [] w∧Rd.le rd rd'∧k≤a.length∧a.take k=b.take k) (fun m=>match m with | k=>a.length - k) 0 ⟨_,i,rfl,(S.rw' rfl rfl),fZ,(by omega),rfl⟩ ?_;rintro k _ _ ⟨_,i,rfl,S,n,_,y⟩;replace h:=fm h n;replace h2:=fm h2 n;refine er ?_;by_cases A:(k:Int)<(a.length:Int)
  ·
   refine ly (.bool true) S (gJ rfl rfl A) (ln (fJ (fS rfl (g1 (fM (fJ (go (er (ly (ni (k:Int)) S Ym (ly (ni (k:Int)) S Ya (ln (fJ ?_))))))))))));refine jZ MX (by kernel_rfl) S.drew ?_;refine qy (sc c a.length d) Ym (qy (ni (k:Int)) Ym ?_);obtain⟨o,p⟩:∃ z,(a)[k]? = some z:=gX (by first | assumption | omega);obtain⟨B,C,D,_,q,E⟩:=hD jH iX h p;have q:C=[ni o]:=q;subst q;refine qy B (E rfl rfl (by first | rfl | omega)) (qy (ni o) (iE D T3) (qy (sc f b.length g) Ym (qy (ni (k:Int)) Ym ?_)));obtain⟨s,t⟩:∃ z,(b)[k]? = some z:=gX (by first | assumption | omega);obtain⟨F,G,H,_,x,I⟩:=hD jH iX h2 t;have x:G=[ni s]:=x;subst x;refine qy F (I rfl rfl (by first | rfl | omega)) (qy (ni s) (iE H T3) ?_);by_cases j:o=s
   ·
    refine qy (.bool false) (iT rfl rfl j) (ig fun _ S=>fM (fV rfl (g1 (gA (nr (ly (ni ((k:Int)+1)) S (gw (r:=(k:Int)+1) rfl rfl (gl (by omega) (by omega))) (ly (ni ((k:Int)+1)) S Ym (fL ?_))))))));refine fK ⟨(k+1),_,fk,⟨_,_,rfl,(S.tt 0 0),(fY n fZ),(by omega),(C8 y p (j ▸ t))⟩,?_⟩
    show _<_;dsimp only;omega
   refine qy (.bool true) (j4 rfl rfl j) (ig fun _ S=>fM (fS rfl (er (ly (.bool false) S Ya (ln (fR ?_))))));refine g3 (v:=.bool false) rfl rfl ?_;exact⟨im (decide_eq_false (Cz p t j)).symm,S.below⟩
  refine ly (.bool false) S (gH rfl rfl A) (ln (fJ (fV rfl (iP (iQ (j0 (iR (fM (er (ly (.bool true) S Ya (ln (fR ?_))))))))))));refine g3 (v:=.bool true) rfl rfl ?_;exact⟨im (decide_eq_true (EU y (by omega) (by omega))).symm,S.below⟩
 refine ly (.bool true) S (j4 rfl rfl l) (ln (fS rfl (er (ly (.bool false) S Ya (ln (fR ?_))))));refine g3 (v:=.bool false) rfl rfl ?_;exact⟨im (decide_eq_false (fun e=>l (by rw [e]))).symm,S.below⟩
theorem te(rd:Rd)(W:World)(hle:Rd.le rd (fX W))(v:Value)(d:gh)(h:fW gT rd v d) :
    Calls Tryz.prog 19 #[v] W (fun e w'=>e = .returned (.int .i64 (iu d))∧Below W.heap.size W w'):=by
 obtain⟨_,rfl,h⟩:=h;obtain⟨c,f,B,C,D,E,F,G,H,I,s,t,rfl,p,a5,a6,a7,a8,L,_⟩:=h.d;have ag:=il;have S:St [] W rd rd [] [] W:=St.start hle;refine io (args:=[.agg (kN d c f B C D E F G H I s t)]) 94 Tryz.func19 rfl rfl rfl ?_;refine er (ix (u:=.agg (kN d c f B C D E F G H I s t)) (cs:=(kN d c f B C D E F G H I s t)) S rfl rfl fun a _ S=>ly (ni 0) S Ya (ln (er (ly (pa a 1) S (Yb jt) (ly (pa a 1) S (Yb iO) (ly (sc c d.state.clock.length f) S (fI 0 gL) (ly (ni (d.state.clock.length:Int)) S (Yl jH) (ly (ni (d.state.clock.length:Int)) S Ya (ln (fJ ?_))))))))));refine er (ly (pa a 1) S (Yb jt) (ly (.agg (kS d.state c f B C D E)) S (gf 0 ir) (ly (ni (d.state.clock.length:Int)) S Ym ?_)));refine g7 (g4 (vs:=[.agg (kS d.state c f B C D E),ni (d.state.clock.length:Int)]) (CF 48 _) rfl rfl) (vF _ _ S.le _ d.state (d.state.clock.length:Int) (⟨_,rfl,⟨_,_,_,rfl,p,a5,a6⟩⟩:fW iW rd _ d.state)) ?_;rintro e _ ⟨rfl,j⟩;have S:=S.callq j;refine g9 (gk (cs:=mr) S mn rfl fun U _ S=>fT (u:=.agg #[ni ((gj d.state (d.state.clock.length:Int)).1),ni ((gj d.state (d.state.clock.length:Int)).2)]) (i:=1) (cs':=#[ni ((gj d.state (d.state.clock.length:Int)).1),ni ((gj d.state (d.state.clock.length:Int)).2)]) S rfl rfl rfl iS rfl rfl rfl fun _ S=>ln (er (ly (pa U 0) S (Yb lu) (ly (ni ((gj d.state (d.state.clock.length:Int)).1)) S (fI 1 l8) ?_))));by_cases g:(gj d.state (d.state.clock.length:Int)).1=0
 ·
  refine ly (.bool false) S (iT rfl rfl g) (ln (fV rfl (g1 (fM (fJ (er (ly (pa a 0) S (Yb mA) (ly (ni d.self) S (fI 0 T3) ?_))))))));by_cases a1:d.self<0
  ·
   refine ly (.bool true) S (gJ rfl rfl a1) (ly (.bool true) S Ym (ls 26 (ls 26 (ls 26 (ls 26 (ly (.bool true) S Yt (ln (fS rfl (er (ly (ni 3) S Ya (ln (fR ?_))))))))))));refine g3 (v:=ni 3) rfl rfl ?_;exact⟨iy (sC g (by omega)).symm,S.below⟩
  refine ly (.bool false) S (gH rfl rfl a1) (ly (.bool false) S Ym (lg 26 (pa a 0) S (Yb mA) (lg 26 (ni d.self) S (fI 0 T3) (lg 26 (ni (d.state.clock.length:Int)) S Ym ?_))));by_cases a2:(d.state.clock.length:Int)≤d.self
  ·
   refine lg 26 (.bool true) S (jY rfl rfl a2) (ly (.bool true) S Yf (ln (fS rfl (er (ly (ni 3) S Ya (ln (fR ?_)))))));refine g3 (v:=ni 3) rfl rfl ?_;exact⟨iy (sC g (by omega)).symm,S.below⟩
  refine lg 26 (.bool false) S (k4 rfl rfl a2) (ly (.bool false) S Yf (ln (fV rfl (g1 (fM (er (ly (pa a 4) S (Yb mC) (ly (sc F d.base.length G) S (fI 0 gL) (ly (pa a 5) S (Yb jL) (ly (sc H d.log.length I) S (fI 0 kM) (ly (ni (d.state.clock.length:Int)) S Ym ?_)))))))))));refine g7 (g4 (vs:=[sc F d.base.length G,sc H d.log.length I,ni (d.state.clock.length:Int)]) (CF 49 _) rfl rfl) (yH _ _ _ _ _ _ (fm a7 S.le) (fm a8 S.le)) ?_;rintro e _ ⟨_,rfl,Q,j⟩;obtain⟨a9,S,a3,aa,_⟩:=S.call' j;replace p:=fm p a3;replace L:=fm L a3;have Q:=fm Q aa;obtain⟨M,N,rfl,_,_⟩:=Q.val;refine g9 (ly (.tuple #[sc M (((gc d.base d.log (d.state.clock.length:Int)).1).length) N,.agg #[ni ((gc d.base d.log (d.state.clock.length:Int)).2.1),ni ((gc d.base d.log (d.state.clock.length:Int)).2.2)]]) S Ym (ly (sc M (((gc d.base d.log (d.state.clock.length:Int)).1).length) N) S Ye (ly (.agg #[ni ((gc d.base d.log (d.state.clock.length:Int)).2.1),ni ((gc d.base d.log (d.state.clock.length:Int)).2.2)]) S Ye (gk (cs:=mr) S mn rfl fun V _ S=>ly (sc M (((gc d.base d.log (d.state.clock.length:Int)).1).length) N) S Ya (fT (u:=.agg #[ni ((gc d.base d.log (d.state.clock.length:Int)).2.1),ni ((gc d.base d.log (d.state.clock.length:Int)).2.2)]) (i:=2) (cs':=#[ni ((gc d.base d.log (d.state.clock.length:Int)).2.1),ni ((gc d.base d.log (d.state.clock.length:Int)).2.2)]) S rfl rfl rfl iS rfl rfl rfl fun _ S=>ln (fJ (er (ly (pa V 0) S (Yb lu) (ly (ni ((gc d.base d.log (d.state.clock.length:Int)).2.1)) S (fI 2 l8) ?_)))))))));by_cases l:(gc d.base d.log (d.state.clock.length:Int)).2.1=0
  ·
   refine ly (.bool false) S (iT rfl rfl l) (ln (fV rfl (g1 (fM (fJ (er (ly (sc M (((gc d.base d.log (d.state.clock.length:Int)).1).length) N) S Ym (ly (pa a 1) S (Yb jt) (ly (pa a 1) S (Yb iO) (ly (sc c d.state.clock.length f) S (fI 0 gL) ?_))))))))));refine g7 (g4 (vs:=[sc M (((gc d.base d.log (d.state.clock.length:Int)).1).length) N,sc c d.state.clock.length f]) (CF 50 _) rfl rfl) (yy _ _ S.le _ _ ((gc d.base d.log (d.state.clock.length:Int)).1) d.state.clock Q p) ?_;rintro e _ ⟨rfl,j⟩;have S:=S.callq j
   cases J:decide ((gc d.base d.log (d.state.clock.length:Int)).1=d.state.clock)
   ·
    refine g9 (ly (.bool true) S (iH rfl rfl) (ly (.bool true) S Ym (ls 52 (ls 52 (ls 52 (ls 52 (ls 52 (ly (.bool true) S Yt (ln (fS rfl (er (ly (ni 7) S Ya (fL ?_)))))))))))));refine fM (fR ?_);refine g3 (v:=ni 7) rfl rfl ?_;exact⟨iy (tq g (by omega) l (.inl (of_decide_eq_false J))).symm,S.below⟩
   refine g9 (ly (.bool false) S (iH rfl rfl) (ly (.bool false) S Ym (lg 52 (pa a 6) S (Yb jS) (lg 52 (sc s d.known.length t) S (fI 0 kG) (lg 52 (ni (d.known.length:Int)) S (Yl jN) (lg 52 (ni (d.state.clock.length:Int)) S Ym ?_))))));by_cases x:(d.known.length:Int)=(d.state.clock.length:Int)
   ·
    refine lg 52 (.bool false) S (iT rfl rfl x) (ly (.bool false) S Yf (ln (fV rfl (g1 (fM (fJ (er (ly (pa a 6) S (Yb jS) (ly (sc s d.known.length t) S (fI 0 kG) (ly (ni (d.known.length:Int)) S (Yl jN) (ly (ni 0) S Ym (ln ?_))))))))))));refine go (et [(1,pa a 0),(3,ni (d.state.clock.length:Int)),(60,sc s d.known.length t),(61,ni (d.known.length:Int)),(62,ni (0:Int))] (fun R => ?_));refine j1 (fun(X:Nat) ov w=>match X with | k => ∃ rd' R,ov=[(1,pa a 0),(3,ni (d.state.clock.length:Int)),(60,sc s d.known.length t),(61,ni (d.known.length:Int)),(62,ni (k:Int))]++R∧St [] W rd rd' [(a,31,(kN d c f B C D E F G H I s t)),(U,84,#[ni ((gj d.state (d.state.clock.length:Int)).1),ni ((gj d.state (d.state.clock.length:Int)).2)]),(V,84,#[ni ((gc d.base d.log (d.state.clock.length:Int)).2.1),ni ((gc d.base d.log (d.state.clock.length:Int)).2.2)])] [] w∧Rd.le a9 rd'∧k≤d.known.length∧o6 d (d.state.clock.length:Int) 0 d.known=o6 d (d.state.clock.length:Int) k (d.known.drop k)) (fun X=>match X with | k=>d.known.length - k) 0 ⟨_,R,rfl,(S.rw' rfl rfl),fZ,(by omega),rfl⟩ ?_;rintro k _ _ ⟨_,R,rfl,S,T,_,y⟩;replace p:=fm p T;replace L:=fm L T;refine er ?_;by_cases a4:(k:Int)<(d.known.length:Int)
    ·
     refine ly (.bool true) S (gJ rfl rfl a4) (ln (fJ (fS rfl (g1 (fM (fJ (go (er (ly (ni (k:Int)) S Ym ?_)))))))));obtain⟨b,A⟩:∃ z,(d.known)[k]? = some z:=gX (by first | assumption | omega);obtain⟨ab,_,ac,_,K,ad⟩:=hD jN jz L A;obtain⟨m,n,rfl,K,_⟩:=K.d;refine ly ab S (ad rfl rfl (by first | rfl | omega)) (ly (sc m b.length n) S (iE ac gL) (ly (ni (k:Int)) S Ya (ly (sc m b.length n) S Ya (ln (fJ (er (ly (sc m b.length n) S Ym (ly (ni (d.state.clock.length:Int)) S Ym ?_))))))));refine g7 (g4 (vs:=[sc m b.length n,ni (d.state.clock.length:Int)]) (CF 40 _) rfl rfl) (qo _ _ _ _ (fm K S.le)) ?_;rintro e _ ⟨rfl,rfl⟩;refine g9 (ly (ni (gb b (d.state.clock.length:Int))) S Ya (ln (er (ly (ni (gb b (d.state.clock.length:Int))) S Ym ?_))));by_cases o:gb b (d.state.clock.length:Int)=0
     ·
      refine ly (.bool false) S (iT rfl rfl o) (ln (fV rfl (g1 (fM (er (ly (ni (k:Int)) S Ym (ly (pa a 0) S (Yb mA) (ly (ni d.self) S (fI 0 T3) ?_))))))));by_cases O:(k:Int)=d.self
      ·
       refine ly (.bool true) S (iw rfl rfl O) (ly (.bool true) S Ym (lg 77 (sc m b.length n) S Ym (lg 77 (pa a 1) S (Yb jt) (lg 77 (pa a 1) S (Yb iO) (lg 77 (sc c d.state.clock.length f) S (fI 0 gL) ?_)))));refine lj (d':=77) (g4 (vs:=[sc m b.length n,sc c d.state.clock.length f]) (CF 50 _) rfl rfl) rfl rfl (yy _ _ S.le _ _ b d.state.clock K p) ?_;rintro e _ ⟨rfl,j⟩;have S:=S.callq j
       cases Y:decide (b=d.state.clock)
       ·
        refine g9 (lg 77 (.bool true) S (iH rfl rfl) (ly (.bool true) S Yt (ly (.bool true) S Ym (ls 85 (ls 85 (ls 85 (ls 85 (ls 85 (ls 85 (ly (.bool true) S Yt (ln (fS rfl (er ?_)))))))))))));refine ly (ni 7) S Ya (ln (fR ?_));refine g3 (v:=ni 7) rfl rfl ?_;exact⟨iy ((pc g (by omega) l (of_decide_eq_true J) x).trans (by rw [y,ou A,if_neg (fun q=>q o),if_pos (.inl ⟨O,of_decide_eq_false Y⟩)])).symm,S.below⟩
       refine g9 (lg 77 (.bool false) S (iH rfl rfl) (ly (.bool false) S Yt (ly (.bool false) S Ym ?_)));have ae:=i7 o;have af:=(mQ.1 g).clock_len;refine lg 85 (pa a 1) S (Yb jt) (lg 85 (pa a 1) S (Yb iO) (lg 85 (sc c d.state.clock.length f) S (fI 0 gL) (lg 85 (sc m b.length n) S Ym ?_)));refine lj (d':=85) (g4 (vs:=[sc c d.state.clock.length f,sc m b.length n]) (CF 29 _) rfl rfl) rfl rfl (qv _ _ _ _ _ (fm p S.le) (fm K S.le) (by omega)) ?_;rintro e _ ⟨rfl,j⟩;have S:=S.callq j
       cases P:gO d.state.clock b
       ·
        refine g9 (lg 85 (.bool true) S (iH rfl rfl) (ly (.bool true) S Yf (ln (fS rfl (er (ly (ni 7) S Ya (ln (fR ?_))))))));refine g3 (v:=ni 7) rfl rfl ?_;exact⟨iy ((pc g (by omega) l (of_decide_eq_true J) x).trans (by rw [y,ou A,if_neg (fun q=>q o),if_pos (.inr P)])).symm,S.below⟩
       refine g9 (lg 85 (.bool false) S (iH rfl rfl) (ly (.bool false) S Yf (ln (fV rfl (g1 (gA (nr (ly (ni ((k:Int)+1)) S (gw (r:=(k:Int)+1) rfl rfl (gl (by omega) (by omega))) (ly (ni ((k:Int)+1)) S Ym (fL ?_))))))))));refine fK ⟨(k+1),_,fk,⟨_,_,rfl,(S.tt 3 0),(fY T fZ),(by omega),(by rw [y,ou A,if_neg (fun q=>q o),if_neg (by rintro(⟨Z,a0⟩ | q) <;> first | exact O Z | exact a0 (of_decide_eq_true Y) | (rw [P] at q;cases q))])⟩,?_⟩
       show _<_;dsimp only;omega
      refine ly (.bool false) S (i5 rfl rfl O) (ly (.bool false) S Ym (ls 77 (ls 77 (ls 77 (ls 77 (ls 77 (ls 77 (ly (.bool false) S Yf (ly (.bool false) S Ym ?_)))))))));have ae:=i7 o;have af:=(mQ.1 g).clock_len;refine lg 85 (pa a 1) S (Yb jt) (lg 85 (pa a 1) S (Yb iO) (lg 85 (sc c d.state.clock.length f) S (fI 0 gL) (lg 85 (sc m b.length n) S Ym ?_)));refine lj (d':=85) (g4 (vs:=[sc c d.state.clock.length f,sc m b.length n]) (CF 29 _) rfl rfl) rfl rfl (qv _ _ _ _ _ (fm p S.le) (fm K S.le) (by omega)) ?_;rintro e _ ⟨rfl,j⟩;have S:=S.callq j
      cases P:gO d.state.clock b
      ·
       refine g9 (lg 85 (.bool true) S (iH rfl rfl) (ly (.bool true) S Yf (ln (fS rfl (er (ly (ni 7) S Ya (ln (fR ?_))))))));refine g3 (v:=ni 7) rfl rfl ?_;exact⟨iy ((pc g (by omega) l (of_decide_eq_true J) x).trans (by rw [y,ou A,if_neg (fun q=>q o),if_pos (.inr P)])).symm,S.below⟩
      refine g9 (lg 85 (.bool false) S (iH rfl rfl) (ly (.bool false) S Yf (ln (fV rfl (g1 (gA (nr (ly (ni ((k:Int)+1)) S (gw (r:=(k:Int)+1) rfl rfl (gl (by omega) (by omega))) (ly (ni ((k:Int)+1)) S Ym (fL ?_))))))))));refine fK ⟨(k+1),_,fk,⟨_,_,rfl,(S.tt 3 0),(fY T fZ),(by omega),(by rw [y,ou A,if_neg (fun q=>q o),if_neg (by rintro(⟨Z,a0⟩ | q) <;> first | exact O Z | exact a0 (of_decide_eq_true Y) | (rw [P] at q;cases q))])⟩,?_⟩
      show _<_;dsimp only;omega
     refine ly (.bool true) S (j4 rfl rfl o) (ln (fS rfl (er (ly (ni (gb b (d.state.clock.length:Int))) S Ym (ly (ni (gb b (d.state.clock.length:Int))) S Ya (ln (fR ?_)))))));refine g3 (v:=ni (gb b (d.state.clock.length:Int))) rfl rfl ?_;exact⟨iy ((pc g (by omega) l (of_decide_eq_true J) x).trans (by rw [y,ou A,if_pos o])).symm,S.below⟩
    refine ly (.bool false) S (gH rfl rfl a4) (ln (fJ (fV rfl (iP (iQ (j0 (iR (fM (er (ly (ni 0) S Ya (ln (fR ?_))))))))))));refine g3 (v:=ni 0) rfl rfl ?_;exact⟨iy ((pc g (by omega) l (of_decide_eq_true J) x).trans (y.trans (by rw [List.drop_eq_nil_of_le (by omega)];rfl))).symm,S.below⟩
   refine lg 52 (.bool true) S (j4 rfl rfl x) (ly (.bool true) S Yf (ln (fS rfl (er (ly (ni 7) S Ya (ln (fR ?_)))))));refine g3 (v:=ni 7) rfl rfl ?_;exact⟨iy (tq g (by omega) l (.inr x)).symm,S.below⟩
  refine ly (.bool true) S (j4 rfl rfl l) (ln (fS rfl (er (ly (pa V 0) S (Yb lu) (ly (ni ((gc d.base d.log (d.state.clock.length:Int)).2.1)) S (fI 2 l8) (ly (ni ((gc d.base d.log (d.state.clock.length:Int)).2.1)) S Ya (ln (fR ?_))))))));refine g3 (v:=ni ((gc d.base d.log (d.state.clock.length:Int)).2.1)) rfl rfl ?_;exact⟨iy (we g (by omega) l).symm,S.below⟩
 refine ly (.bool true) S (j4 rfl rfl g) (ln (fS rfl (er (ly (pa U 0) S (Yb lu) (ly (ni ((gj d.state (d.state.clock.length:Int)).1)) S (fI 1 l8) (ly (ni ((gj d.state (d.state.clock.length:Int)).1)) S Ya (ln (fR ?_))))))));refine g3 (v:=ni ((gj d.state (d.state.clock.length:Int)).1)) rfl rfl ?_;exact⟨iy (wb g).symm,S.below⟩
end
section
section
variable {α:Type} {size:Nat} {R:CR α} {rd:Rd} {n cap i:Nat} {cur:Array Value} {l:List α} {news zs:List Value} {o o':Nat}
theorem Bm(hcs:cur.size=cap * size)(hcap:n≤cap)(hi:i<n):((cur.toList.drop ((i+1) * size)).take ((n - (i+1)) * size)).length=(n - (i+1)) * size:=by
 have a:n * size≤cap * size:=Nat.mul_le_mul_right _ hcap
 have b:(i+1) * size+(n - (i+1)) * size=n * size:=by rw [← Nat.add_mul];congr 1;omega
 simp [hcs];omega
theorem Ej(ho:i+1<cap→o=0+(i+1) * size)(he:news=(cur.toList.drop ((i+1) * size)).take ((n - (i+1)) * size))(hcap:n≤cap)(hi:i<n):∀ j u,news[j]? = some u→cur[o+j]? = some u:=fun j u hu=>by
 subst he
 rw [List.getElem?_take] at hu
 split at hu
 ·rename_i hj
  have:0<n - (i+1):=by
   rcases Nat.eq_zero_or_pos (n - (i+1)) with h | h
   ·rw [h,Nat.zero_mul] at hj;omega
   ·exact h
  rw [ho (by omega),Nat.zero_add]
  rw [List.getElem?_drop] at hu
  simpa using hu
 ·cases hu
theorem F2[i9 R](hr:fQ size R rd (cur.toList.take (n * size)) l)(he:news=(cur.toList.drop ((i+1) * size)).take ((n - (i+1)) * size))(hi:i<n):∀ u∈news,u.oneCell'=true:=fun u hu=>by
 subst he
 have h2:(i+1) * size+(n - (i+1)) * size=n * size:=by rw [← Nat.add_mul];congr 1;omega
 refine hr.one_ i9.one u ?_
 have e:(cur.toList.drop ((i+1) * size)).take ((n - (i+1)) * size)=(cur.toList.take (n * size)).drop ((i+1) * size):=by
  rw [List.drop_take];congr 1;omega
 rw [e] at hu
 exact List.mem_of_mem_drop hu
theorem vN(hcs:cur.size=cap * size)(hcap:n≤cap)(hi:i<n)(hl:news.length=(n - (i+1)) * size):(jb cur (i * size) news).size=cap * size:=by
 have a:n * size≤cap * size:=Nat.mul_le_mul_right _ hcap
 have b:i * size+size+(n - (i+1)) * size=n * size:=by rw [← Nat.succ_mul,← Nat.add_mul];congr 1;omega
 rw [nA (by omega),hcs]
theorem yM(hi:i<n):i+(n - (i+1))=n - 1:=by omega
theorem zf(hcs:cur.size=cap * size)(hcap:n≤cap)(hi:i<n)(hl:news.length=(n - (i+1)) * size)(ho:i+(n - (i+1))<cap→o'=0+(i+(n - (i+1))) * size) :
  0<n - (i+(n - (i+1)))→o'+(n - (i+(n - (i+1)))) * size≤(jb cur (i * size) news).size:=fun _=>by
 rw [vN hcs hcap hi hl,ho (by omega),yM hi,Nat.zero_add,← Nat.add_mul]
 exact Nat.mul_le_mul_right _ (by omega)
theorem BK(hcs:cur.size=cap * size)(hcap:n≤cap)(hi:i<n)(hl:news.length=(n - (i+1)) * size)(ho:i+(n - (i+1))<cap→o'=0+(i+(n - (i+1))) * size)(hz:zs.length=(n - (i+(n - (i+1)))) * size) :
  (if n - (i+(n - (i+1)))=0 then jb cur (i * size) news else jb (jb cur (i * size) news) o' zs).size=cap * size:=by
 rw [if_neg (by omega),nA (by rw [hz];exact zf hcs hcap hi hl ho (by omega)),vN hcs hcap hi hl]
theorem F1{cs:Array Value}{j k:Nat}{vs:List Value}(h:k≤j)(hj:j≤cs.size):(jb cs j vs).toList.take k=cs.toList.take k:=by
 unfold jb
 rw [List.append_assoc,List.take_append,List.take_take,Nat.min_eq_left h]
 simp
 omega
theorem Bc[i9 R](hcs:cur.size=cap * size)(hr:fQ size R rd (cur.toList.take (n * size)) l)(hn:n=l.length)(he:news=(cur.toList.drop ((i+1) * size)).take ((n - (i+1)) * size))(hcap:n≤cap)(hi:i<n)(hl:news.length=(n - (i+1)) * size)(ho:i+(n - (i+1))<cap→o'=0+(i+(n - (i+1))) * size)(hz:zs.length=(n - (i+(n - (i+1)))) * size) :
  fQ size R rd ((if n - (i+(n - (i+1)))=0 then jb cur (i * size) news else jb (jb cur (i * size) news) o' zs).toList.take ((n - 1) * size)) (l.eraseIdx i):=by
 have c:(i+1) * size+(n - (i+1)) * size=n * size:=by rw [← Nat.add_mul];congr 1;omega
 have d:i * size+(n - (i+1)) * size=(n - 1) * size:=by rw [← Nat.add_mul];congr 1;omega
 have f:n * size≤cap * size:=Nat.mul_le_mul_right _ hcap
 have g:(i+1) * size=i * size+size:=by rw [Nat.add_mul,Nat.one_mul]
 rw [if_neg (by omega),ho (by omega),yM hi,Nat.zero_add,F1 (Nat.le_refl _) (by rw [vN hcs hcap hi hl];exact Nat.mul_le_mul_right _ (by omega))]
 have e:(jb cur (i * size) news).toList.take ((n - 1) * size)=(cur.toList.take (n * size)).take (i * size)++(cur.toList.take (n * size)).drop ((i+1) * size):=by
  unfold jb
  have b:(cur.toList.take (n * size)).drop ((i+1) * size)=news:=by rw [he,List.drop_take];congr 1;omega
  rw [b,List.take_take,Nat.min_eq_left (by omega)]
  have a:(cur.toList.take (i * size)).length=i * size:=by rw [List.length_take,Array.length_toList,hcs];omega
  rw [List.take_append_of_le_length (by rw [List.length_append,a,hl];omega),List.take_of_length_le (by rw [List.length_append,a,hl];omega)]
 rw [e,List.eraseIdx_eq_take_drop_succ]
 exact(hr.take i).append (hr.drop (i+1) (by omega))
end
theorem Bp(rd:Rd)(W:World)(hle:Rd.le rd (fX W))(g n cap:Nat)(cur:Array Value)(l:List Tally)(hg:W.heap[g]? = some (.cells cur 106 (0,0)))(hrd:∀ o,rd g o=none)(hcs:cur.size=cap * 3)(hr:fQ 3 h8 rd (cur.toList.take (n * 3)) l)(hn:n=l.length)(hcap:n≤cap)(hm:cap≤maxLen)(i:Nat)(hi:i<n) :
    Calls Tryz.prog 131 #[(sb g 0 n cap),(.int .i64 (i:Int)),(.int .i64 ((i:Int)+1))] W (fun e w' => ∃ cur',e = .returned (.slice (some ⟨g,0,none⟩) (n - 1) cap)∧w'.heap[g]? = some (.cells cur' 106 (0,0))∧cur'.size=cap * 3∧fQ 3 h8 rd (cur'.toList.take ((n - 1) * 3)) (l.eraseIdx i)∧jj [g] W w'):=by
 have D:=il;have S:St [g] W rd rd [(g,106,cur)] [] W:=St.startX hle (by intro p h;simp only [List.mem_cons,List.not_mem_nil,or_false] at h;rcases h with rfl <;> first | exact⟨by simp,hg,hrd⟩) (by simp);refine io (args:=[sb g 0 n cap,ni (i:Int),ni ((i:Int)+1)]) 33 Tryz.func131 rfl rfl rfl ?_;refine er (ly sn S Ya (ln (er (ly (sb g 0 n cap) S Ym (ly (ni (i:Int)) S Ym (ly (ni ((i:Int)+1)) S Ym (ly (sb g 0 n cap) S Ym (ly (ni (n:Int)) S (Yl iK) ?_))))))));obtain⟨q,r⟩:=CC (A:=some ⟨g,0,none⟩) (n:=n) (c:=cap) (lo:=i) (hi:=(i+1)) (mx:=n) iK jf (by omega) (by omega) (by omega);refine ly q S (r rfl rfl (by first | rfl | omega) rfl (by first | rfl | omega) rfl (by first | rfl | omega)) (ln (fJ (er (ly (ni (i:Int)) S Ym (ly (ni ((i:Int)+1)) S Ym ?_)))));have s:¬ ((i:Int)=(i:Int)+1):=by omega
 refine ly (.bool false) S (i5 rfl rfl s) (ln (fV rfl (g1 (fM (er (ly (sb g 0 n cap) S Ym (ly (ni (n:Int)) S (Yl iK) (ly (ni (n:Int)) S Ya (ln (fJ ?_))))))))));refine iV (fun w=>St [g] W rd rd [] [] w) MX rfl ?_;have S:=S.drew;have E:=S.sup;have SC:=((S.tt 1 0).del 0);refine tk (sb g 0 n cap) 0 rfl rfl SC Ym (tk (ni (i:Int)) 1 rfl rfl SC Ym (tk (sb g 0 i cap) 2 rfl rfl SC (rx (hi:=i) iK jf (by omega) rfl (.inr ⟨_,_,_,rfl,rfl,(by first | rfl | omega)⟩)) (tk (sb g 0 n cap) 3 rfl rfl SC Ym (tk (ni ((i:Int)+1)) 4 rfl rfl SC Ym ?_))));obtain⟨t,x,y⟩:=lR (g:=g) (o:=0) (n:=n) (c:=cap) (lo:=(i+1)) (hi:=n) iK jf (by omega) (by omega);refine tk (sb g t (n - (i+1)) (cap - (i+1))) 5 rfl rfl SC (y rfl (.inr ⟨_,_,_,rfl,rfl,(by first | rfl | omega)⟩) (.inl ⟨rfl,rfl⟩)) (aO 6 rfl (by kernel_rfl) ?_);obtain⟨k,a⟩:∃ z,z=(cur.toList.drop ((i+1) * 3)).take ((n - (i+1)) * 3):=⟨_,rfl⟩;have b:k.length=(n - (i+1)) * 3:=by subst a;exact Bm hcs hcap hi
 refine E6 (news:=k) (i:=0) (i':=0) S oD rfl rfl rfl rfl b (fun j u d=>Ej x a hcap hi j u d) (fun u d=>F2 hr a hi u d) (by omega) (by omega) fun _ S => ?_
 refine fL ?_;have SC:=((S.tt 1 0).del 0);refine fK (ak SC ?_);refine tk (sb g 0 (i+(n - (i+1))) cap) 7 rfl rfl SC Ya (gE (by kernel_rfl) ?_);refine fM (er (ly (sb g 0 (i+(n - (i+1))) cap) S Ym (ly (sb g 0 (i+(n - (i+1))) cap) S Ym (ly (ni ((i+(n - (i+1)):Nat):Int)) S (Yl iK) (ly (ni (n:Int)) S Ym ?_)))));obtain⟨B,f,C⟩:=lR (g:=g) (o:=0) (n:=i+(n - (i+1))) (c:=cap) (lo:=(i+(n - (i+1)))) (hi:=n) iK jf (by omega) (by omega);refine ly (sb g B (n - (i+(n - (i+1)))) (cap - (i+(n - (i+1))))) S (C rfl (.inr ⟨_,_,_,rfl,rfl,(by first | rfl | omega)⟩) (.inr ⟨_,_,_,rfl,rfl,(by first | rfl | omega)⟩)) (xW (i:=0) S oD nl rfl rfl rfl (zf hcs hcap hi b f) fun _ _ m S => ?_)
 refine ln (er (ly (sb g 0 (i+(n - (i+1))) cap) S Ym (ly (sb g 0 (i+(n - (i+1))) cap) S Ya (ln (fR ?_)))));refine g3 (v:=sb g 0 (i+(n - (i+1))) cap) rfl rfl ?_;refine⟨_,congrArg Ending.returned (by rw [show i+(n - (i+1))=n - 1 by omega]),(S.box _ (List.mem_of_getElem? (i:=0) rfl)).2.1,?_,?_,S.fr⟩
 · exact BK hcs hcap hi b f m
 · exact Bc hcs hr hn a hcap hi b f m
end
section
theorem AB{α:Type}{p:α→Bool}{l:List α}{k:Nat}{z:α}(hb:∀ (j:Nat) y,j<k→l[j]? = some y→p y=false)(hz:l[k]? = some z)(hp:p z=false):∀ (j:Nat) y,j<k+1→l[j]? = some y→p y=false:=fun j y hj hy=>by
 rcases Nat.lt_or_eq_of_le (Nat.le_of_lt_succ hj) with h | h
 ·exact hb j y h hy
 ·subst h;rw [hz] at hy;injection hy with e;subst e;exact hp
section
variable {p:ga→Bool} {l:List ga} {rd:Rd} {n cap i j:Nat} {cur cu:Array Value} {zs:List Value} {o':Nat} {z:ga}
theorem u8{rd rd':Rd}:∀ {l:List ga} {xs:List Value},fQ 5 gB rd xs l→fQ 5 gB rd' xs l
 | [],_,h=>h
 | _ :: _,_,⟨cs,rest,e,h1,h2,h3⟩=>⟨cs,rest,e,h1,h2,u8 h3⟩
theorem w9(h:jD p l = -1):l.filter (fun x => !p x)=l:=by
 rw [List.filter_eq_self]
 intro x a
 have:=t6 p l
 rw [h] at this
 have:=List.any_eq_false.1 this.symm x a
 simpa using this
theorem xS(hn:n=l.length)(h:¬ jD p l = -1):0≤jD p l∧jD p l<n:=by
 unfold jD at h ⊢
 cases a:l.findIdx? p with
 | none=>rw [a] at h;exact absurd rfl h
 | some i =>
  obtain⟨_,_⟩:=List.findIdx?_eq_some_iff_getElem.1 a
  simp;omega
theorem DG(hcs:cur.size=cap * 5)(hr:fQ 5 gB rd (cur.toList.take (n * 5)) l)(hn:n=l.length)(h:¬ jD p l = -1):fQ 5 gB rd (cur.toList.take ((jD p l).toNat * 5)) ((l.take ((jD p l).toNat+1)).filter fun x => !p x):=by
 obtain⟨b,c⟩:=xS hn h
 unfold jD at h b c ⊢
 cases a:l.findIdx? p with
 | none=>rw [a] at h;exact absurd rfl h
 | some i =>
  obtain⟨d,f,g⟩:=List.findIdx?_eq_some_iff_getElem.1 a
  simp only [Int.toNat_natCast]
  have e:(l.take (i+1)).filter (fun x => !p x)=l.take i:=by
   rw [jl (List.getElem?_eq_getElem d),List.filter_append]
   have k:[l[i]].filter (fun x => !p x)=[]:=by simp [f]
   rw [k,List.append_nil,List.filter_eq_self]
   intro x m
   obtain⟨j,o,rfl⟩:=List.getElem_of_mem m
   rw [List.length_take] at o
   have:=g j (by omega)
   rw [List.getElem_take]
   simpa using this
  rw [e]
  have:=hr.take i
  rwa [List.take_take,Nat.min_eq_left (by omega)] at this
theorem CA(hrow:fQ 5 gB rd (cu.toList.take (i * 5)) ((l.take j).filter fun x => !p x))(hz:l[j]? = some z)(hp:p z=true):fQ 5 gB rd (cu.toList.take (i * 5)) ((l.take (j+1)).filter fun x => !p x):=by
 rw [jl hz,List.filter_append]
 simpa [hp] using hrow
theorem Ei{cs:Array Value}{k:Nat}{vs:List Value}(h:k≤cs.size):(jb cs k vs).toList.take (k+vs.length)=cs.toList.take k++vs:=by
 unfold jb
 have a:(cs.toList.take k).length=k:=by rw [List.length_take,Array.length_toList];omega
 rw [List.take_append_of_le_length (by rw [List.length_append,a];exact Nat.le_refl _),List.take_of_length_le (by rw [List.length_append,a];exact Nat.le_refl _)]
theorem D4(hrow:fQ 5 gB rd (cu.toList.take (i * 5)) ((l.take j).filter fun x => !p x))(hcu:cu.size=cap * 5)(hi:i<cap)(hz:l[j]? = some z)(hp:p z=false):fQ 5 gB rd ((jb cu (i * 5) [.bool z.set,.int .i64 z.key,.int .i64 z.item,.int .i64 z.author,.int .i64 z.seq]).toList.take ((i+1) * 5)) ((l.take (j+1)).filter fun x => !p x):=by
 rw [jl hz,List.filter_append]
 have a:[z].filter (fun x => !p x)=[z]:=by simp [hp]
 rw [a,show(i+1) * 5=i * 5+[Value.bool z.set,.int .i64 z.key,.int .i64 z.item,.int .i64 z.author,.int .i64 z.seq].length by simp;omega,Ei (by omega)]
 exact hrow.push rfl rfl
theorem Bf{cs:Array Value}{k m:Nat}{vs:List Value}(h:k+vs.length≤m):(jb cs k vs)[m]? = cs[m]?:=by
 unfold jb
 by_cases c:k≤cs.size
 ·have a:(cs.toList.take k).length=k:=by rw [List.length_take,Array.length_toList];omega
  rw [List.getElem?_toArray,List.getElem?_append_right (by rw [List.length_append,a];exact h),List.length_append,a,List.getElem?_drop,show k+vs.length+(m - (k+vs.length))=m by omega]
  simp
 ·have b:cs[m]? = none:=Array.getElem?_eq_none (by omega)
  rw [b,List.getElem?_toArray,List.getElem?_eq_none]
  simp;omega
theorem xZ(hcu:cu.size=cap * 5)(hcap:n≤cap)(hi:i≤n)(ho:i<cap→o'=0+i * 5):0<n - i→o'+(n - i) * 5≤cu.size:=fun h=>by
 rw [ho (by omega),hcu];omega
theorem CG(hcu:cu.size=cap * 5)(ho:i<cap→o'=0+i * 5)(hz:zs.length=(n - i) * 5)(hcap:n≤cap)(hi:i≤n):(if n - i=0 then cu else jb cu o' zs).size=cap * 5:=by
 split
 ·exact hcu
 ·rw [nA (by rw [hz];exact xZ hcu hcap hi ho (by omega)),hcu]
theorem F4(hrow:fQ 5 gB rd (cu.toList.take (i * 5)) ((l.take j).filter fun x => !p x))(hcu:cu.size=cap * 5)(hj:l.length≤j)(hi:i≤n)(hcap:n≤cap):i=(l.filter fun x => !p x).length:=by
 rw [List.take_of_length_le hj] at hrow
 have:=hrow.len
 rw [List.length_take,Array.length_toList,hcu] at this
 omega
theorem ED(hrow:fQ 5 gB rd (cu.toList.take (i * 5)) ((l.take j).filter fun x => !p x))(hcu:cu.size=cap * 5)(ho:i<cap→o'=0+i * 5)(hz:zs.length=(n - i) * 5)(hcap:n≤cap)(hi:i≤n)(hj:l.length≤j):fQ 5 gB rd ((if n - i=0 then cu else jb cu o' zs).toList.take (i * 5)) (l.filter fun x => !p x):=by
 rw [List.take_of_length_le hj] at hrow
 split
 ·exact hrow
 ·rw [ho (by omega),Nat.zero_add]
  have:(jb cu (i * 5) zs).toList.take (i * 5)=cu.toList.take (i * 5):=by
   unfold jb
   have a:(cu.toList.take (i * 5)).length=i * 5:=by rw [List.length_take,Array.length_toList,hcu];omega
   rw [List.append_assoc,List.take_append_of_le_length (by omega),List.take_take,Nat.min_self]
  rw [this];exact hrow
end
theorem wz(rd:Rd)(W:World)(hle:Rd.le rd (fX W))(X:List Nat)(W0:World)(f:Nat)(caps:List Value)(p:ga→Bool)(hf:∀ vs w,(callFunc f vs).run Tryz.prog w = .ok (.enter f vs) w)(hT:∀ (w:World) (x:ga),jj X W0 w→Calls Tryz.prog f ([Value.agg #[.bool x.set,.int .i64 x.key,.int .i64 x.item,.int .i64 x.author,.int .i64 x.seq]]++caps).toArray w fun e w'=>e = .returned (.bool (p x))∧Below w.heap.size w w')(hF:jj X W0 W)(v:Value)(l:List ga)(h:fN 5 gB rd v l) :
    Calls Tryz.prog 127 #[v,(.func (.func f) #[] caps.toArray)] W (fun e w'=>e = .returned (.int .i64 (jD p l))∧Below W.heap.size W w'):=by
 obtain⟨b,c,rfl,_,_⟩:=h.val;have G:=il;have S:St [] W rd rd [] [] W:=St.start hle;refine io (args:=[sc b l.length c,.func (.func f) #[] caps.toArray]) 19 Tryz.func127 rfl rfl rfl ?_;refine er (ly (ni 0) S Ya (ln (fJ (er (ly (sc b l.length c) S Ym (ly (ni (l.length:Int)) S (Yl iD) (ly (ni 0) S Ym (ln (go ?_)))))))));refine et [(0,sc b l.length c),(1,.func (.func f) #[] caps.toArray),(7,ni (l.length:Int)),(8,ni (0:Int))] (fun d => ?_);refine j1 (fun(g:Nat) ov w=>match g with | k => ∃ rd' d,ov=[(0,sc b l.length c),(1,.func (.func f) #[] caps.toArray),(7,ni (l.length:Int)),(8,ni (k:Int))]++d∧St [] W rd rd' [] [] w∧Rd.le rd rd'∧k≤l.length∧(∀ (j:Nat) y,j<k→l[j]? = some y→p y=false)) (fun g=>match g with | k=>l.length - k) 0 ⟨_,d,rfl,(S.rw' rfl rfl),fZ,(by omega),(fun j y h=>absurd h (Nat.not_lt_zero _))⟩ ?_;rintro k _ _ ⟨_,d,rfl,S,n,_,i⟩;replace h:=fm h n;refine er ?_;by_cases o:(k:Int)<(l.length:Int)
 ·
  refine ly (.bool true) S (gJ rfl rfl o) (ln (fJ (fS rfl (g1 (fM (fJ (go (er (ly (ni (k:Int)) S Ym (ly (ni (k:Int)) S Ya (ln (fJ ?_))))))))))));refine gU (ly (.func (.func f) #[] caps.toArray) S Ym (ly (sc b l.length c) S Ym (ly (ni (k:Int)) S Ym ?_)));obtain⟨a,m⟩:∃ z,(l)[k]? = some z:=gX (by first | assumption | omega);obtain⟨t,u,A,_,B,C⟩:=hD iD iY h m;have D:u=[.bool a.set,ni a.key,ni a.item,ni a.author,ni a.seq]:=B;subst D;refine ly t S (C rfl rfl (by first | rfl | omega)) (ly (.agg (kL a)) S (jd A j6) ?_);have E:=hT _ a (hF.step S.below);refine g7 (lr (vs:=[.agg (kL a)]) (cs:=caps) (hf _) rfl rfl rfl) (E) ?_;rintro e _ ⟨rfl,F⟩;have S:=S.callq F
  cases q:p a
  ·
   refine kn (fM (fV rfl (g1 (gA (nr (ly (ni ((k:Int)+1)) S (gw (r:=(k:Int)+1) rfl rfl (gl (by omega) (by omega))) (ly (ni ((k:Int)+1)) S Ym (fL ?_))))))));refine fK ⟨(k+1),_,fk,⟨_,_,rfl,(S.tt 0 0),(fY n fZ),(by omega),(AB i m q)⟩,?_⟩
   show _<_;dsimp only;omega
  refine kn (fM (fS rfl (er (ly (ni (k:Int)) S Ym (ly (ni (k:Int)) S Ya (ln (fR ?_)))))));refine g3 (v:=ni (k:Int)) rfl rfl ?_;exact⟨iy (sZ m q i).symm,S.below⟩
 refine ly (.bool false) S (gH rfl rfl o) (ln (fJ (fV rfl (iP (iQ (j0 (iR (fM (er (ly (ni (-1)) S Ya (ln (fR ?_))))))))))));refine g3 (v:=ni (-1)) rfl rfl ?_;exact⟨iy (tr fun j y s=>i j y (by have:=(List.getElem?_eq_some_iff.1 s).1;omega) s).symm,S.below⟩
theorem AQ(rd:Rd)(W:World)(hle:Rd.le rd (fX W))(g n cap:Nat)(cur:Array Value)(l:List ga)(hg:W.heap[g]? = some (.cells cur 104 (0,0)))(hrd:∀ o,rd g o=none)(hcs:cur.size=cap * 5)(hr:fQ 5 gB rd (cur.toList.take (n * 5)) l)(hn:n=l.length)(hcap:n≤cap)(hm:cap≤maxLen)(f:Nat)(caps:List Value)(p:ga→Bool)(hf:∀ vs w,(callFunc f vs).run Tryz.prog w = .ok (.enter f vs) w)(hT:∀ (w:World) (x:ga),jj [g] W w→Calls Tryz.prog f ([Value.agg #[.bool x.set,.int .i64 x.key,.int .i64 x.item,.int .i64 x.author,.int .i64 x.seq]]++caps).toArray w fun e w'=>e = .returned (.bool (p x))∧Below w.heap.size w w') :
    Calls Tryz.prog 117 #[(sb g 0 n cap),(.func (.func f) #[] caps.toArray)] W (fun e w' => ∃ cur' m,e = .returned (.slice (some ⟨g,0,none⟩) m cap)∧m=(l.filter fun x => !p x).length∧w'.heap[g]? = some (.cells cur' 104 (0,0))∧cur'.size=cap * 5∧fQ 5 gB rd (cur'.toList.take (m * 5)) (l.filter fun x => !p x)∧jj [g] W w'):=by
 have P:=il;have S:St [g] W rd rd [(g,104,cur)] [] W:=St.startX hle (by intro p h;simp only [List.mem_cons,List.not_mem_nil,or_false] at h;rcases h with rfl <;> first | exact⟨by simp,hg,hrd⟩) (by simp);refine io (args:=[sb g 0 n cap,.func (.func f) #[] caps.toArray]) 42 Tryz.func117 rfl rfl rfl ?_;refine er (ly sn S Ya (ln (er (ly (sb g 0 n cap) S Ym (ly (.func (.func f) #[] caps.toArray) S Ym ?_)))));refine g7 (g4 (vs:=[sb g 0 n cap,.func (.func f) #[] caps.toArray]) (CF 127 _) rfl rfl) (wz (fX _) _ fZ [g] W f caps p hf hT S.fr _ l (S.boxSl (i:=0) rfl hn hcap hm hr)) ?_;rintro e _ ⟨rfl,t⟩;have S:=S.callq t;refine g9 (ly (ni (jD p l)) S Ya (ln (fJ (er (ly (ni (jD p l)) S Ym ?_)))));by_cases d:jD p l=(-1)
 ·
  refine ly (.bool true) S (iw rfl rfl d) (ln (fS rfl (er (ly (sb g 0 n cap) S Ym (ly (sb g 0 n cap) S Ya (ln (fR ?_)))))));refine g3 (v:=sb g 0 n cap) rfl rfl ?_;exact⟨_,_,rfl,by rw [w9 d];exact hn,(S.box _ (List.mem_of_getElem? (i:=0) rfl)).2.1,hcs,by rw [w9 d];exact u8 hr,S.fr⟩
 refine ly (.bool false) S (i5 rfl rfl d) (ln (fV rfl (g1 (fM (fJ (er ?_))))));obtain⟨_,_⟩:=xS hn d;refine ly (ni (jD p l)) S Ym (ly (ni (((jD p l).toNat+1:Nat):Int)) S (gw (r:=(((jD p l).toNat+1:Nat):Int)) rfl rfl ((gl (by omega) (by omega)).trans (by omega))) (ly (ni (((jD p l).toNat+1:Nat):Int)) S Ya (ln (go ?_))));refine et [(0,sb g 0 n cap),(1,.func (.func f) #[] caps.toArray),(4,sn),(5,ni (((jD p l).toNat:Nat):Int)),(6,ni ((((jD p l).toNat+1):Nat):Int))] (fun q => ?_);refine j1 (fun(y:Nat × Nat × (Array Value)) ov w=>match y with | (i,j,cu) => ∃ rd' q,ov=[(0,sb g 0 n cap),(1,.func (.func f) #[] caps.toArray),(4,sn),(5,ni (i:Int)),(6,ni (j:Int))]++q∧St [g] W rd rd' [(g,104,cu)] [] w∧Rd.le rd rd'∧fQ 5 gB rd' (cu.toList.take (i * 5)) ((l.take j).filter fun x => !p x)∧i<j∧j≤n∧cu.size=cap * 5∧(∀ m,j * 5≤m→cu[m]? = cur[m]?)) (fun y=>match y with | (i,j,cu)=>n - j) ((jD p l).toNat,((jD p l).toNat+1),cur) ⟨_,q,rfl,(S.rw' rfl rfl),fZ,(DG hcs hr hn d),(by omega),(by omega),hcs,(fun _ _=>rfl)⟩ ?_;rintro⟨i,j,cu⟩ _ _ ⟨_,q,rfl,S,A,s,_,_,b,B⟩;replace hr:=rm hr A;refine fJ (er (ly (ni (j:Int)) S Ym (ly (sb g 0 n cap) S Ym (ly (ni (n:Int)) S (Yl iD) ?_))));by_cases E:(j:Int)<(n:Int)
 ·
  refine ly (.bool true) S (gJ rfl rfl E) (ln (fS rfl (g1 (fM (fJ (go (er (ly (sb g 0 n cap) S Ym (ly (ni (j:Int)) S Ym (ly (pa g (j * 5)) S (j9 (k:=j) iD iY (by omega) (Nat.zero_add _) rfl rfl (by first | rfl | omega)) ?_))))))))));obtain⟨a,C⟩:∃ z,l[j]? = some z:=gX (by omega);obtain⟨G,_,H,I⟩:=xz hr C;have J:G=[.bool a.set,ni a.key,ni a.item,ni a.author,ni a.seq]:=H;subst J;refine ly (.agg (kL a)) S (gG rfl (fun w S=>Aj (i:=0) S rfl j6 rfl (fun m u K=>(B _ (by omega)).trans (I m u K)))) (gk (cs:=nj) S lv rfl fun _ _ S=>fT (u:=.agg (kL a)) (i:=1) (cs':=(kL a)) S rfl rfl rfl iY rfl rfl rfl fun _ S=>ln (er (ly (.func (.func f) #[] caps.toArray) S Ym (ly (.agg (kL a)) S (gf 1 j6) ?_))));have L:=hT _ a S.fr;refine g7 (lr (vs:=[.agg (kL a)]) (cs:=caps) (hf _) rfl rfl rfl) (L) ?_;rintro e _ ⟨rfl,t⟩;have S:=S.callq t
  cases h:p a
  ·
   refine g9 (ly (.bool true) S (iH rfl rfl) (ln (fS rfl (er (ly (sb g 0 n cap) S Ym (ly (ni (i:Int)) S Ym (ly (.agg (kL a)) S (gf 1 j6) (ly (pa g (i * 5)) S (j9 (k:=i) iD iY (by omega) (Nat.zero_add _) rfl rfl (by first | rfl | omega)) (zD (u:=.agg (kL a)) (i:=0) S rfl rfl rfl iY (by simp only [Value.cells];show _+5≤_;omega) rfl fun _ S=>ln (gU (ly (ni (i:Int)) S Ym ?_)))))))))));refine ly (ni ((i:Int)+1)) S (gw (r:=(i:Int)+1) rfl rfl (gl (by omega) (by omega))) (ly (ni ((i:Int)+1)) S Ya (fL (gA (nr (ly (ni (j:Int)) S Ym (ly (ni ((j:Int)+1)) S (gw (r:=(j:Int)+1) rfl rfl (gl (by omega) (by omega))) (ly (ni ((j:Int)+1)) S Ya (fL ?_))))))));refine fK ⟨(i+1,j+1,jb cu (i * 5) [.bool a.set,ni a.key,ni a.item,ni a.author,ni a.seq]),_,fk,⟨_,_,rfl,(S.tt 1 0),(fY A fZ),(D4 s b (by omega) C h),(by omega),(by omega),(by rw [nA (by simp;omega)];exact b),(fun m M=>(Bf (by simp;omega)).trans (B m (by omega)))⟩,?_⟩
   show _<_;dsimp only;omega
  refine g9 (ly (.bool false) S (iH rfl rfl) (ln (fV rfl (g1 (gA (nr (ly (ni (j:Int)) S Ym (ly (ni ((j:Int)+1)) S (gw (r:=(j:Int)+1) rfl rfl (gl (by omega) (by omega))) (ly (ni ((j:Int)+1)) S Ya (fL ?_))))))))));refine fK ⟨(i,j+1,cu),_,fk,⟨_,_,rfl,(S.tt 1 0),(fY A fZ),(CA s C h),(by omega),(by omega),b,(fun m M=>B m (by omega))⟩,?_⟩
  show _<_;dsimp only;omega
 refine ly (.bool false) S (gH rfl rfl E) (ln (fV rfl (iP (iQ (j0 (iR (fM (er (ly (sb g 0 n cap) S Ym (ly (ni (i:Int)) S Ym ?_))))))))));obtain⟨N,D,O⟩:=lR (g:=g) (o:=0) (n:=n) (c:=cap) (lo:=i) (hi:=n) iD iY (by omega) (by omega);refine ly (sb g N (n - i) (cap - i)) S (O rfl (.inr ⟨_,_,_,rfl,rfl,(by first | rfl | omega)⟩) (.inl ⟨rfl,rfl⟩)) (xW (i:=0) S og lv rfl rfl rfl (xZ b hcap (by omega) D) fun _ _ F S => ?_)
 refine ln (er (ly (sb g 0 n cap) S Ym (ly (ni (i:Int)) S Ym (ly (sb g 0 i cap) S (rx (hi:=i) iD iY (by omega) rfl (.inr ⟨_,_,_,rfl,rfl,(by first | rfl | omega)⟩)) (ly (sb g 0 i cap) S Ya (ln (fR ?_)))))));refine g3 (v:=sb g 0 i cap) rfl rfl ?_;exact⟨_,_,rfl,F4 (n:=n) s b (by omega) (by omega) hcap,(S.box _ (List.mem_of_getElem? (i:=0) rfl)).2.1,CG b D F hcap (by omega),u8 (ED s b D F hcap (by omega) (by omega)),S.fr⟩
end
theorem w8{cur:Array Value}{k j:Nat}{u:Value}(h:(cur.toList.take k)[j]? = some u):cur[0+j]? = some u:=by
 rw [Nat.zero_add]
 rw [List.getElem?_take] at h
 split at h
 ·simpa using h
 ·cases h
theorem tG{cur:Array Value}{a k j:Nat}{u:Value}(h:((cur.toList.drop a).take k)[j]? = some u):cur[a+j]? = some u:=by
 rw [List.getElem?_take] at h
 split at h
 ·rw [List.getElem?_drop] at h;simpa using h
 ·cases h
theorem tO{cur:Array Value}{a k n:Nat}(h:∀ u∈cur.toList.take n,u.oneCell'=true)(hk:a+k≤n):∀ u∈(cur.toList.drop a).take k,u.oneCell'=true:=fun u hu=>by
 refine h u ?_
 have e:(cur.toList.drop a).take k=((cur.toList.take n).drop a).take k:=by
  rw [List.drop_take,List.take_take,Nat.min_eq_left (by omega)]
 rw [e] at hu
 exact List.mem_of_mem_drop (List.mem_of_mem_take hu)
theorem rS{A:Array Value}{o:Nat}{x:List Value}:(jb A o x).toList=A.toList.take o++x++A.toList.drop (o+x.length):=by unfold jb;simp
theorem yC{A:Array Value}{p x y:List Value}{a o1 o2 N:Nat}(h1:A.toList.take a=p)(ha:p.length=a)(e1:o1=a)(e2:o2=a+x.length)(eN:N=a+x.length+y.length)(hs:a+x.length+y.length≤A.size):(jb (jb A o1 x) o2 y).toList.take N=p++x++y:=by
 subst e1 e2 eN
 rw [rS,rS,h1]
 have b:(p++x).length=o1+x.length:=by rw [List.length_append,ha]
 have e:(p++x++A.toList.drop (o1+x.length)).take (o1+x.length)=p++x:=by rw [← b];exact List.take_left
 rw [e]
 have c:(p++x++y).length=o1+x.length+y.length:=by rw [List.length_append,b]
 rw [← c];exact List.take_left
theorem wc{A:Array Value}{x y:List Value}{a o1 o2 N:Nat}(e1:o1=a)(e2:o2=a+x.length)(eN:N=a+x.length+y.length)(hs:a+x.length+y.length≤A.size):(jb (jb A o2 y) o1 x).toList.take N=A.toList.take a++x++y:=by
 subst e1 e2 eN
 have e:A.toList.length=A.size:=rfl
 have b:(A.toList.take (o1+x.length)).length=o1+x.length:=by rw [List.length_take];omega
 rw [rS,rS]
 have e1:(A.toList.take (o1+x.length)++y++A.toList.drop (o1+x.length+y.length)).take o1=A.toList.take o1:=by
  rw [List.append_assoc,List.take_append_of_le_length (by rw [b];omega),List.take_take,Nat.min_eq_left (Nat.le_add_right _ _)]
 have e2:(A.toList.take (o1+x.length)++y++A.toList.drop (o1+x.length+y.length)).drop (o1+x.length)=y++A.toList.drop (o1+x.length+y.length):=by
  rw [List.append_assoc]
  have h:=List.drop_left (l₁:=A.toList.take (o1+x.length)) (l₂:=y++A.toList.drop (o1+x.length+y.length))
  rwa [b] at h
 rw [e1,e2]
 have c:(A.toList.take o1).length=o1:=by rw [List.length_take];omega
 have d:(A.toList.take o1++x++y).length=o1+x.length+y.length:=by rw [List.length_append,List.length_append,c]
 rw [← List.append_assoc,← d];exact List.take_left
theorem wS{cur csv:Array Value}{i n z:Nat}(h:i=n):cur.toList.take (n * z)++csv.toList=cur.toList.take (i * z)++csv.toList++(cur.toList.drop (i * z)).take ((n - i) * z):=by subst h;simp
theorem z6{X:List Nat}{W w:World}{r0 rd:Rd}{bx:List je}{q:h7}{gv:Nat}{Tv:TypeId}{csv:Array Value}(S:St X W r0 rd bx [q] w)(hb:(gv,Tv,csv)∈bx):∀ g',q.v.ownBlock=some g'→g' ≠ gv∧(W.heap.size≤g'∨g'∈X):=fun g' e=>by
 have hm:q∈[q]:=List.mem_singleton.2 rfl
 exact⟨fun h=>S.d3 _ hb _ hm (by rw [e,h]),((S.own _ hm).2 g' e).1⟩
theorem rq{W w:World}{r0 rd:Rd}{bx:List je}{T z N n g gv:Nat}{v:Value}{xs L:List Value}{Tv:TypeId}{csv:Array Value}(S:St [g,gv] W r0 rd bx [⟨T,z,v,N,xs⟩] w)(hN:N=n+1)(hx:xs=L)(hb:(gv,Tv,csv)∈bx) :
  ∃ v',Ending.returned v = .returned v'∧w.ownsRow 0 T z v' (n+1) L∧(∀ g',v'.ownBlock=some g'→g'=g∨W.heap.size≤g')∧jj [g,gv] W w:=by
 subst hN hx
 refine⟨v,rfl,(S.own _ (List.mem_singleton.2 rfl)).1,fun g' e => ?_,S.fr⟩
 obtain⟨a,b⟩:=z6 S hb g' e
 rcases b with h | h
 ·exact .inr h
 ·simp only [List.mem_cons,List.not_mem_nil,or_false] at h
  exact .inl (h.resolve_right a)
theorem zY{W w:World}{r0 rd:Rd}{bx:List je}{T z N n gv:Nat}{v:Value}{xs L:List Value}{Tv:TypeId}{csv:Array Value}(S:St [gv] W r0 rd bx [⟨T,z,v,N,xs⟩] w)(hN:N=n+1)(hx:xs=L)(hb:(gv,Tv,csv)∈bx) :
  ∃ v',Ending.returned v = .returned v'∧w.ownsRow 0 T z v' (n+1) L∧(∀ g',v'.ownBlock=some g'→False∨W.heap.size≤g')∧jj [gv] W w:=by
 subst hN hx
 refine⟨v,rfl,(S.own _ (List.mem_singleton.2 rfl)).1,fun g' e => ?_,S.fr⟩
 obtain⟨a,b⟩:=z6 S hb g' e
 rcases b with h | h
 ·exact .inr h
 ·exact absurd (List.mem_singleton.1 h) a
theorem zB(W:World)(g gv n cap i:Nat)(cur csv:Array Value)(hg:W.heap[g]? = some (.cells cur 106 (0,0)))(hgv:W.heap[gv]? = some (.cells csv 106 (0,0)))(hne:g ≠ gv)(hcs:cur.size=cap * 3)(hcv:csv.size=3)(h1c:∀ u∈cur.toList.take (n * 3),u.oneCell'=true)(h1v:csv.toList.all Value.oneCell'=true)(hcap:n≤cap)(hm:cap≤maxLen)(hi:i≤n)(hlen:n+1≤maxLen)(hby:(n+1) * 24≤140737488355328) :
    Calls Tryz.prog 132 #[(sb g 0 n cap),(.int .i64 (i:Int)),(sb gv 0 1 1)] W (fun e w' => ∃ v',e = .returned v'∧w'.ownsRow 0 106 3 v' (n+1) (cur.toList.take (i * 3)++csv.toList++(cur.toList.drop (i * 3)).take ((n - i) * 3))∧(∀ g',v'.ownBlock=some g'→g'=g∨W.heap.size≤g')∧jj [g,gv] W w'):=by
 have ae:=il;obtain⟨rd,O,G⟩:∃ rd:Rd,Rd.le rd (fX W) ∧ ∀ g o,rd g o=none:=⟨fun _ _=>none,fun _ _ _ h=>by(cases h),fun _ _=>rfl⟩;have S:St [g,gv] W rd rd [(g,106,cur),(gv,106,csv)] [] W:=St.startX O (by intro p H;simp only [List.mem_cons,List.not_mem_nil,or_false] at H;rcases H with rfl | rfl <;> first | exact⟨by simp,hg,G g⟩ | exact⟨by simp,hgv,G gv⟩) (by simp [hne]);refine io (args:=[sb g 0 n cap,ni (i:Int),sb gv 0 1 1]) 95 Tryz.func132 rfl rfl rfl ?_;refine er (ly sn S Ya (ln (er (ly (sb g 0 n cap) S Ym (ly (ni (i:Int)) S Ym ?_)))));obtain⟨P,_,Q⟩:=lR (g:=g) (o:=0) (n:=n) (c:=cap) (lo:=i) (hi:=n) iK jf (by omega) (by omega);refine ly (sb g P (n - i) (cap - i)) S (Q rfl (.inr ⟨_,_,_,rfl,rfl,(by first | rfl | omega)⟩) (.inl ⟨rfl,rfl⟩)) (ln (er (ly (sb gv 0 1 1) S Ym (ly (ni 1) S (Yl iK) (ly (ni 1) S Ya (ln (fJ (er (ly (ni 1) S Ym (ly (.bool false) S (i5 rfl rfl (by decide)) (fL ?_)))))))))));refine fM (fV rfl (g1 (fM (er (ly (sb g 0 n cap) S Ym (ly (ni (n:Int)) S (Yl iK) (ly (ni (n:Int)) S Ya (ln (fJ (er (ly (ni (i:Int)) S Ym (ly (ni (n:Int)) S Ym ?_))))))))))));by_cases I:(i:Int)=(n:Int)
 ·
  refine ly (.bool true) S (iw rfl rfl I) (ln (fS rfl (er (ly (sb g 0 n cap) S Ym (ly (sb gv 0 1 1) S Ym ?_)))));have S:=S.boxOwn2 (i:=0) rfl 3 n cap (cur.toList.take (n * 3)) hcs hcap rfl hm;refine js (e':=0) (i:=0) (i':=0) S oD rfl rfl rfl rfl rfl (hcv.trans rfl) h1v hlen hby fun J _ S => ?_
  refine ly J S Ya (ln (fR ?_));refine g3 (v:=J) rfl rfl ?_;exact rq S rfl (wS (by omega)) (List.mem_singleton.2 rfl)
 refine ly (.bool false) S (i5 rfl rfl I) (ln (fV rfl (g1 (fM (fJ (er (ly (ni (n:Int)) S Ym (ly (ni 1) S Ym (ly (ni ((n:Int)+1)) S (gw (r:=(n:Int)+1) rfl rfl (gl (by omega) (by omega))) (ly (sb g 0 n cap) S Ym (ly (ni (cap:Int)) S (xh iK rfl rfl) ?_)))))))))));by_cases K:(cap:Int)<(n:Int)+1
 ·
  refine ly (.bool true) S (ko rfl rfl K) (ln (fS rfl (er (ly (sb g 0 n cap) S Ym (ly (ni (i:Int)) S Ym (ly (sb g 0 i cap) S (rx (hi:=i) iK jf (by omega) rfl (.inr ⟨_,_,_,rfl,rfl,(by first | rfl | omega)⟩)) (ly (ni (n:Int)) S Ym (ly (ni 1) S Ym (ly (ni ((n:Int)+1)) S (gw (r:=(n:Int)+1) rfl rfl (gl (by omega) (by omega))) (ly (ni (i:Int)) S Ym (ly (ni (((n:Int)+1) - (i:Int))) S (qX (r:=((n:Int)+1) - (i:Int)) rfl rfl (gl (by omega) (by omega))) ?_)))))))))));obtain⟨D,q⟩:∃ z,z=cur.toList.take (i * 3):=⟨_,rfl⟩;refine wd (m:=(n+1 - i)) (olds:=D) (i:=0) S oD U3 rfl rfl (by omega) rfl (by subst q;simp [hcs];omega) (fun j u b=>by subst q;exact w8 b) (by omega) (by omega) (by omega) (by rw [show i+(n+1 - i)=n+1 by omega];exact hby) fun f L d _ _ R T U S _ => ?_
  refine ly (sb f 0 (i+(n+1 - i)) d) S Ya (ln (er (ly (sb f 0 (i+(n+1 - i)) d) S Ym (ly (ni (i:Int)) S Ym ?_))));obtain⟨E,V,X⟩:=lR (g:=f) (o:=0) (n:=i+(n+1 - i)) (c:=d) (lo:=i) (hi:=i+(n+1 - i)) iK jf (by omega) (by omega);refine ly (sb f E ((i+(n+1 - i)) - i) (d - i)) S (X rfl (.inr ⟨_,_,_,rfl,rfl,(by first | rfl | omega)⟩) (.inl ⟨rfl,rfl⟩)) (ly (sb gv 0 1 1) S Ym ?_);obtain⟨k,s⟩:∃ z,z=csv.toList:=⟨_,rfl⟩;have af:=V (by omega);have ag:k.length=3:=by subst s;simp [hcv]
  refine pW (m:=1) (news:=k) (i:=2) (i':=1) S iK jf rfl rfl rfl rfl (by simp only [Nat.min_def];split <;> omega) (by omega) (fun j u b=>by subst s;simpa using b) (by subst s;exact fun u b=>List.all_eq_true.1 h1v u b) (by omega) fun _ S => ?_
  refine ln (fJ ?_);refine iV (fun w=>St [g,gv] W rd rd [(g,106,cur),(gv,106,csv)] [] w) MX rfl ?_;have S:=S.drew;have ah:=S.sup;have SC:=((S.tt 3 0).del 2);refine tk (sb f 0 (i+(n+1 - i)) d) 0 rfl rfl SC Ym (tk (ni (i:Int)) 1 rfl rfl SC Ym (tk (ni 1) 2 rfl rfl SC Ym (tk (ni ((i:Int)+1)) 3 rfl rfl SC (gw (r:=(i:Int)+1) rfl rfl (gl (by omega) (by omega))) ?_)));obtain⟨M,Y,Z⟩:=lR (g:=f) (o:=0) (n:=i+(n+1 - i)) (c:=d) (lo:=(i+1)) (hi:=i+(n+1 - i)) iK jf (by omega) (by omega);refine tk (sb f M ((i+(n+1 - i)) - (i+1)) (d - (i+1))) 4 rfl rfl SC (Z rfl (.inr ⟨_,_,_,rfl,rfl,(by first | rfl | omega)⟩) (.inl ⟨rfl,rfl⟩)) (tk (sb g 0 n cap) 5 rfl rfl SC Ym (tk (ni (i:Int)) 6 rfl rfl SC Ym ?_));obtain⟨a0,a1,a2⟩:=lR (g:=g) (o:=0) (n:=n) (c:=cap) (lo:=i) (hi:=n) iK jf (by omega) (by omega);refine tk (sb g a0 (n - i) (cap - i)) 7 rfl rfl SC (a2 rfl (.inr ⟨_,_,_,rfl,rfl,(by first | rfl | omega)⟩) (.inl ⟨rfl,rfl⟩)) (aO 8 rfl (by kernel_rfl) ?_);obtain⟨x,y⟩:∃ z,z=(cur.toList.drop (i * 3)).take ((n - i) * 3):=⟨_,rfl⟩;have ai:=Y (by omega);have a3:x.length=(n - i) * 3:=(by subst y;simp [hcs];omega);have aj:=nA (cs:=L) (j:=E) (vs:=k) (by omega);refine pW (m:=(n - i)) (news:=x) (i:=2) (i':=0) S iK jf rfl rfl rfl rfl (by simp only [Nat.min_def];split <;> omega) a3 (fun j u b=>by subst y;rw [a1 (by omega),Nat.zero_add];exact tG b) (by subst y;exact tO h1c (by omega)) (by omega) fun _ S => ?_
  refine fL ?_;have SC:=((S.tt 3 0).del 2);refine fK (ak SC ?_);refine gE (by kernel_rfl) ?_;refine fM (er (ly (sb f 0 (i+(n+1 - i)) d) S Ym (ly (sb f 0 (i+(n+1 - i)) d) S Ya (ln (fR ?_)))));refine g3 (v:=sb f 0 (i+(n+1 - i)) d) rfl rfl ?_;have al:=nA (cs:=jb L E k) (j:=M) (vs:=x) (by omega);have lod:D.length=i * 3:=by subst q;simp [hcs];omega
  have S:=S.boxOwn2 (i:=2) rfl 3 (i+(n+1 - i)) d (D++k++x) (by omega) T (yC (a:=i * 3) R lod (by omega) (by omega) (by omega) (by omega)) U;exact rq S (by omega) (by subst q s y;rfl) (List.Mem.tail _ (List.Mem.head _))
 refine ly (.bool false) S (kt rfl rfl K) (ln (fV rfl (g1 (fM (er (ly (sb g 0 n cap) S Ym (ly (ni (n:Int)) S Ym (ly (ni 1) S Ym (ly (ni ((n:Int)+1)) S (gw (r:=(n:Int)+1) rfl rfl (gl (by omega) (by omega))) (ly (sb g 0 (n+1) cap) S (rx (hi:=(n+1)) iK jf (by omega) rfl (.inr ⟨_,_,_,rfl,rfl,(by first | rfl | omega)⟩)) (ly (sb g 0 (n+1) cap) S Ya (ln ?_))))))))))));refine fJ (er (ly (sb gv 0 1 1) S Ym (ly (sb g 0 (n+1) cap) S Ym (ly (ni (i:Int)) S Ym (ly (ni 1) S Ym (ly (ni ((i:Int)+1)) S (gw (r:=(i:Int)+1) rfl rfl (gl (by omega) (by omega))) ?_))))));obtain⟨a4,_,a5⟩:=lR (g:=g) (o:=0) (n:=(n+1)) (c:=cap) (lo:=(i+1)) (hi:=(n+1)) iK jf (by omega) (by omega);refine ly (sb g a4 ((n+1) - (i+1)) (cap - (i+1))) S (a5 rfl (.inr ⟨_,_,_,rfl,rfl,(by first | rfl | omega)⟩) (.inl ⟨rfl,rfl⟩)) (mz (v:=.bool false) (.inl (yP (i:=0) (i':=1) (t:=25) (tR:=4) S Tryz.func152 (by kernel_rfl) (by kernel_rfl) (by kernel_rfl) (by kernel_rfl) iK jf rfl rfl rfl rfl rfl (fun e=>hne e.symm) (by omega))) ?_);refine ly (.bool true) S (iH rfl rfl) (ln (fS rfl (fJ ?_)));refine iV (fun w=>St [g,gv] W rd rd [(gv,106,csv)] [] w) MX rfl ?_;have S:=S.drew;have am:=S.sup;have SC:=((S.tt 2 0).del 0);refine tk (sb g 0 (n+1) cap) 0 rfl rfl SC Ym (tk (ni (i:Int)) 1 rfl rfl SC Ym (tk (ni 1) 2 rfl rfl SC Ym (tk (ni ((i:Int)+1)) 3 rfl rfl SC (gw (r:=(i:Int)+1) rfl rfl (gl (by omega) (by omega))) ?_)));obtain⟨F,a6,a7⟩:=lR (g:=g) (o:=0) (n:=(n+1)) (c:=cap) (lo:=(i+1)) (hi:=(n+1)) iK jf (by omega) (by omega);refine tk (sb g F ((n+1) - (i+1)) (cap - (i+1))) 4 rfl rfl SC (a7 rfl (.inr ⟨_,_,_,rfl,rfl,(by first | rfl | omega)⟩) (.inl ⟨rfl,rfl⟩)) (tk (sb g 0 (n+1) cap) 5 rfl rfl SC Ym (tk (ni (i:Int)) 6 rfl rfl SC Ym ?_));obtain⟨a8,a9,aa⟩:=lR (g:=g) (o:=0) (n:=(n+1)) (c:=cap) (lo:=i) (hi:=(n+1)) iK jf (by omega) (by omega);refine tk (sb g a8 ((n+1) - i) (cap - i)) 7 rfl rfl SC (aa rfl (.inr ⟨_,_,_,rfl,rfl,(by first | rfl | omega)⟩) (.inl ⟨rfl,rfl⟩)) (aO 8 rfl (by kernel_rfl) ?_);obtain⟨l,A⟩:∃ z,z=(cur.toList.drop (i * 3)).take ((n - i) * 3):=⟨_,rfl⟩;have an:=a6 (by omega);have ab:l.length=(n - i) * 3:=(by subst A;simp [hcs];omega);refine pW (m:=(n - i)) (news:=l) (i:=0) (i':=0) S iK jf rfl rfl rfl rfl (by simp only [Nat.min_def];split <;> omega) ab (fun j u b=>by subst A;rw [a9 (by omega),Nat.zero_add];exact tG b) (by subst A;exact tO h1c (by omega)) (by omega) fun _ S => ?_
 refine fL ?_;have SC:=((S.tt 2 0).del 0);refine fK (ak SC ?_);refine gE (by kernel_rfl) ?_;refine fM (er (ly (sb g 0 (n+1) cap) S Ym (ly (ni (i:Int)) S Ym ?_)));obtain⟨N,ac,ad⟩:=lR (g:=g) (o:=0) (n:=(n+1)) (c:=cap) (lo:=i) (hi:=(n+1)) iK jf (by omega) (by omega);refine ly (sb g N ((n+1) - i) (cap - i)) S (ad rfl (.inr ⟨_,_,_,rfl,rfl,(by first | rfl | omega)⟩) (.inl ⟨rfl,rfl⟩)) (ly (sb gv 0 1 1) S Ym ?_);obtain⟨B,C⟩:∃ z,z=csv.toList:=⟨_,rfl⟩;have ao:=ac (by omega);have ap:B.length=3:=by subst C;simp [hcv]
 have aq:=nA (cs:=cur) (j:=F) (vs:=l) (by omega);refine pW (m:=1) (news:=B) (i:=0) (i':=1) S iK jf rfl rfl rfl rfl (by simp only [Nat.min_def];split <;> omega) (by omega) (fun j u b=>by subst C;simpa using b) (by subst C;exact fun u b=>List.all_eq_true.1 h1v u b) (by omega) fun _ S => ?_
 refine ln (er (ly (sb g 0 (n+1) cap) S Ym (ly (sb g 0 (n+1) cap) S Ya (ln (fR ?_)))));refine g3 (v:=sb g 0 (n+1) cap) rfl rfl ?_;have ar:=nA (cs:=jb cur F l) (j:=N) (vs:=B) (by omega);have S:=S.boxOwn2 (i:=0) rfl 3 (n+1) cap (cur.toList.take (i * 3)++B++l) (by omega) (by omega) (wc (a:=i * 3) (by omega) (by omega) (by omega) (by omega)) hm;exact rq S rfl (by subst C A;rfl) (List.mem_singleton.2 rfl)
theorem yn(W:World)(gv:Nat)(csv:Array Value)(hgv:W.heap[gv]? = some (.cells csv 106 (0,0)))(hcv:csv.size=3)(h1v:csv.toList.all Value.oneCell'=true) :
    Calls Tryz.prog 132 #[(sn),(.int .i64 0),(sb gv 0 1 1)] W (fun e w' => ∃ v',e = .returned v'∧w'.ownsRow 0 106 3 v' (0+1) ([]++csv.toList)∧(∀ g',v'.ownBlock=some g'→False∨W.heap.size≤g')∧jj [gv] W w'):=by
 have f:=il;obtain⟨rd,c,d⟩:∃ rd:Rd,Rd.le rd (fX W) ∧ ∀ g o,rd g o=none:=⟨fun _ _=>none,fun _ _ _ h=>by(cases h),fun _ _=>rfl⟩;have S:St [gv] W rd rd [(gv,106,csv)] [] W:=St.startX c (by intro p a;simp only [List.mem_cons,List.not_mem_nil,or_false] at a;rcases a with rfl <;> first | exact⟨by simp,hgv,d gv⟩) (by simp);refine io (args:=[sn,ni 0,sb gv 0 1 1]) 95 Tryz.func132 rfl rfl rfl ?_;refine er (ly sn S Ya (ln (er (ly sn S Ym (ly (ni 0) S Ym (ly sn S (xg iK jf rfl (.inr ⟨_,_,rfl,rfl⟩) (.inl rfl)) (ln (er (ly (sb gv 0 1 1) S Ym (ly (ni 1) S (Yl iK) ?_))))))))));refine ly (ni 1) S Ya (ln (fJ (er (ly (ni 1) S Ym (ly (.bool false) S (i5 rfl rfl (by decide)) (ln (fV rfl (g1 (fM (er (ly sn S Ym ?_)))))))))));refine ly (ni 0) S (Yl iK) (ly (ni 0) S Ya (ln (fJ (er (ly (ni 0) S Ym (ly (ni 0) S Ym (ly (.bool true) S (iw rfl rfl (by decide)) (ln (fS rfl (er (ly sn S Ym ?_)))))))))));refine ly (sb gv 0 1 1) S Ym ?_;have S:=S.ownNil 106 3;refine js (e':=0) (i:=0) (i':=0) S oD rfl rfl rfl rfl rfl (hcv.trans rfl) h1v (by simp only [maxLen];omega) (by dsimp only;omega) fun b _ S => ?_
 refine ly b S Ya (ln (fR ?_));refine g3 (v:=b) rfl rfl ?_;exact zY S rfl rfl (List.mem_singleton.2 rfl)
theorem F6(W:World)(v:Value)(n i gv:Nat)(xs:List Value)(csv:Array Value)(hv:W.ownsRow 0 106 3 v n xs)(hgv:W.heap[gv]? = some (.cells csv 106 (0,0)))(hne:v.ownBlock ≠ some gv)(hcv:csv.size=3)(h1x:∀ u∈xs,u.oneCell'=true)(h1v:csv.toList.all Value.oneCell'=true)(hi:i≤n)(hlen:n+1≤maxLen)(hby:(n+1) * 24≤140737488355328) :
  Calls Tryz.prog 132 #[v,(.int .i64 (i:Int)),(.slice (some ⟨gv,0,none⟩) 1 1)] W fun e w' => ∃ v',e = .returned v'∧w'.ownsRow 0 106 3 v' (n+1) (xs.take (i * 3)++csv.toList++xs.drop (i * 3))∧(∀ g',v'.ownBlock=some g'→v.ownBlock=some g'∨W.heap.size≤g')∧jj (gv :: v.ownBlock.toList) W w':=by
 rcases hv.2 with⟨rfl,rfl⟩ | ⟨g,cap,cur,rfl,_,hg,hc,hm,hs,rfl⟩
 ·have j:xs=[]:=List.eq_nil_of_length_eq_zero (by simpa using hv.1)
  subst j
  obtain rfl:i=0:=by omega
  exact(yn W gv csv hgv hcv h1v).mono fun e w' ⟨v',c,d,f,a⟩=>⟨v',c,by simpa using d,fun g' k=>(f g' k).elim (fun h=>h.elim) .inr,a⟩
 ·refine(zB W g gv n cap i cur csv hg hgv (fun e=>hne (by rw [e];rfl)) hs hcv h1x h1v hc hm hi hlen hby).mono fun e w' ⟨v',c,d,f,a⟩=>⟨v',c,?_,fun g' k=>(f g' k).imp (fun h=>by rw [h];rfl) id,⟨a.os,a.tape,a.output,a.size,fun b l m=>a.block b l (fun h=>m ?_)⟩⟩
  ·have o:(cur.toList.take (n * 3)).take (i * 3)=cur.toList.take (i * 3):=by rw [List.take_take,Nat.min_eq_left (by omega)]
   have p:(cur.toList.take (n * 3)).drop (i * 3)=(cur.toList.drop (i * 3)).take ((n - i) * 3):=by rw [List.drop_take];congr 1;omega
   rw [o,p];exact d
  ·show b∈[gv,g]
   simp only [List.mem_cons,List.not_mem_nil,or_false] at h ⊢;exact h.symm
theorem Co(W:World)(g gv n cap i:Nat)(cur csv:Array Value)(hg:W.heap[g]? = some (.cells cur 104 (0,0)))(hgv:W.heap[gv]? = some (.cells csv 104 (0,0)))(hne:g ≠ gv)(hcs:cur.size=cap * 5)(hcv:csv.size=5)(h1c:∀ u∈cur.toList.take (n * 5),u.oneCell'=true)(h1v:csv.toList.all Value.oneCell'=true)(hcap:n≤cap)(hm:cap≤maxLen)(hi:i≤n)(hlen:n+1≤maxLen)(hby:(n+1) * 40≤140737488355328) :
    Calls Tryz.prog 120 #[(sb g 0 n cap),(.int .i64 (i:Int)),(sb gv 0 1 1)] W (fun e w' => ∃ v',e = .returned v'∧w'.ownsRow 0 104 5 v' (n+1) (cur.toList.take (i * 5)++csv.toList++(cur.toList.drop (i * 5)).take ((n - i) * 5))∧(∀ g',v'.ownBlock=some g'→g'=g∨W.heap.size≤g')∧jj [g,gv] W w'):=by
 have ae:=il;obtain⟨rd,O,G⟩:∃ rd:Rd,Rd.le rd (fX W) ∧ ∀ g o,rd g o=none:=⟨fun _ _=>none,fun _ _ _ h=>by(cases h),fun _ _=>rfl⟩;have S:St [g,gv] W rd rd [(g,104,cur),(gv,104,csv)] [] W:=St.startX O (by intro p H;simp only [List.mem_cons,List.not_mem_nil,or_false] at H;rcases H with rfl | rfl <;> first | exact⟨by simp,hg,G g⟩ | exact⟨by simp,hgv,G gv⟩) (by simp [hne]);refine io (args:=[sb g 0 n cap,ni (i:Int),sb gv 0 1 1]) 95 Tryz.func120 rfl rfl rfl ?_;refine er (ly sn S Ya (ln (er (ly (sb g 0 n cap) S Ym (ly (ni (i:Int)) S Ym ?_)))));obtain⟨P,_,Q⟩:=lR (g:=g) (o:=0) (n:=n) (c:=cap) (lo:=i) (hi:=n) iD iY (by omega) (by omega);refine ly (sb g P (n - i) (cap - i)) S (Q rfl (.inr ⟨_,_,_,rfl,rfl,(by first | rfl | omega)⟩) (.inl ⟨rfl,rfl⟩)) (ln (er (ly (sb gv 0 1 1) S Ym (ly (ni 1) S (Yl iD) (ly (ni 1) S Ya (ln (fJ (er (ly (ni 1) S Ym (ly (.bool false) S (i5 rfl rfl (by decide)) (fL ?_)))))))))));refine fM (fV rfl (g1 (fM (er (ly (sb g 0 n cap) S Ym (ly (ni (n:Int)) S (Yl iD) (ly (ni (n:Int)) S Ya (ln (fJ (er (ly (ni (i:Int)) S Ym (ly (ni (n:Int)) S Ym ?_))))))))))));by_cases I:(i:Int)=(n:Int)
 ·
  refine ly (.bool true) S (iw rfl rfl I) (ln (fS rfl (er (ly (sb g 0 n cap) S Ym (ly (sb gv 0 1 1) S Ym ?_)))));have S:=S.boxOwn2 (i:=0) rfl 5 n cap (cur.toList.take (n * 5)) hcs hcap rfl hm;refine js (e':=0) (i:=0) (i':=0) S og rfl rfl rfl rfl rfl (hcv.trans rfl) h1v hlen hby fun J _ S => ?_
  refine ly J S Ya (ln (fR ?_));refine g3 (v:=J) rfl rfl ?_;exact rq S rfl (wS (by omega)) (List.mem_singleton.2 rfl)
 refine ly (.bool false) S (i5 rfl rfl I) (ln (fV rfl (g1 (fM (fJ (er (ly (ni (n:Int)) S Ym (ly (ni 1) S Ym (ly (ni ((n:Int)+1)) S (gw (r:=(n:Int)+1) rfl rfl (gl (by omega) (by omega))) (ly (sb g 0 n cap) S Ym (ly (ni (cap:Int)) S (xh iD rfl rfl) ?_)))))))))));by_cases K:(cap:Int)<(n:Int)+1
 ·
  refine ly (.bool true) S (ko rfl rfl K) (ln (fS rfl (er (ly (sb g 0 n cap) S Ym (ly (ni (i:Int)) S Ym (ly (sb g 0 i cap) S (rx (hi:=i) iD iY (by omega) rfl (.inr ⟨_,_,_,rfl,rfl,(by first | rfl | omega)⟩)) (ly (ni (n:Int)) S Ym (ly (ni 1) S Ym (ly (ni ((n:Int)+1)) S (gw (r:=(n:Int)+1) rfl rfl (gl (by omega) (by omega))) (ly (ni (i:Int)) S Ym (ly (ni (((n:Int)+1) - (i:Int))) S (qX (r:=((n:Int)+1) - (i:Int)) rfl rfl (gl (by omega) (by omega))) ?_)))))))))));obtain⟨D,q⟩:∃ z,z=cur.toList.take (i * 5):=⟨_,rfl⟩;refine wd (m:=(n+1 - i)) (olds:=D) (i:=0) S og U3 rfl rfl (by omega) rfl (by subst q;simp [hcs];omega) (fun j u b=>by subst q;exact w8 b) (by omega) (by omega) (by omega) (by rw [show i+(n+1 - i)=n+1 by omega];exact hby) fun f L d _ _ R T U S _ => ?_
  refine ly (sb f 0 (i+(n+1 - i)) d) S Ya (ln (er (ly (sb f 0 (i+(n+1 - i)) d) S Ym (ly (ni (i:Int)) S Ym ?_))));obtain⟨E,V,X⟩:=lR (g:=f) (o:=0) (n:=i+(n+1 - i)) (c:=d) (lo:=i) (hi:=i+(n+1 - i)) iD iY (by omega) (by omega);refine ly (sb f E ((i+(n+1 - i)) - i) (d - i)) S (X rfl (.inr ⟨_,_,_,rfl,rfl,(by first | rfl | omega)⟩) (.inl ⟨rfl,rfl⟩)) (ly (sb gv 0 1 1) S Ym ?_);obtain⟨k,s⟩:∃ z,z=csv.toList:=⟨_,rfl⟩;have af:=V (by omega);have ag:k.length=5:=by subst s;simp [hcv]
  refine pW (m:=1) (news:=k) (i:=2) (i':=1) S iD iY rfl rfl rfl rfl (by simp only [Nat.min_def];split <;> omega) (by omega) (fun j u b=>by subst s;simpa using b) (by subst s;exact fun u b=>List.all_eq_true.1 h1v u b) (by omega) fun _ S => ?_
  refine ln (fJ ?_);refine iV (fun w=>St [g,gv] W rd rd [(g,104,cur),(gv,104,csv)] [] w) MX rfl ?_;have S:=S.drew;have ah:=S.sup;have SC:=((S.tt 3 0).del 2);refine tk (sb f 0 (i+(n+1 - i)) d) 0 rfl rfl SC Ym (tk (ni (i:Int)) 1 rfl rfl SC Ym (tk (ni 1) 2 rfl rfl SC Ym (tk (ni ((i:Int)+1)) 3 rfl rfl SC (gw (r:=(i:Int)+1) rfl rfl (gl (by omega) (by omega))) ?_)));obtain⟨M,Y,Z⟩:=lR (g:=f) (o:=0) (n:=i+(n+1 - i)) (c:=d) (lo:=(i+1)) (hi:=i+(n+1 - i)) iD iY (by omega) (by omega);refine tk (sb f M ((i+(n+1 - i)) - (i+1)) (d - (i+1))) 4 rfl rfl SC (Z rfl (.inr ⟨_,_,_,rfl,rfl,(by first | rfl | omega)⟩) (.inl ⟨rfl,rfl⟩)) (tk (sb g 0 n cap) 5 rfl rfl SC Ym (tk (ni (i:Int)) 6 rfl rfl SC Ym ?_));obtain⟨a0,a1,a2⟩:=lR (g:=g) (o:=0) (n:=n) (c:=cap) (lo:=i) (hi:=n) iD iY (by omega) (by omega);refine tk (sb g a0 (n - i) (cap - i)) 7 rfl rfl SC (a2 rfl (.inr ⟨_,_,_,rfl,rfl,(by first | rfl | omega)⟩) (.inl ⟨rfl,rfl⟩)) (aO 8 rfl (by kernel_rfl) ?_);obtain⟨x,y⟩:∃ z,z=(cur.toList.drop (i * 5)).take ((n - i) * 5):=⟨_,rfl⟩;have ai:=Y (by omega);have a3:x.length=(n - i) * 5:=(by subst y;simp [hcs];omega);have aj:=nA (cs:=L) (j:=E) (vs:=k) (by omega);refine pW (m:=(n - i)) (news:=x) (i:=2) (i':=0) S iD iY rfl rfl rfl rfl (by simp only [Nat.min_def];split <;> omega) a3 (fun j u b=>by subst y;rw [a1 (by omega),Nat.zero_add];exact tG b) (by subst y;exact tO h1c (by omega)) (by omega) fun _ S => ?_
  refine fL ?_;have SC:=((S.tt 3 0).del 2);refine fK (ak SC ?_);refine gE (by kernel_rfl) ?_;refine fM (er (ly (sb f 0 (i+(n+1 - i)) d) S Ym (ly (sb f 0 (i+(n+1 - i)) d) S Ya (ln (fR ?_)))));refine g3 (v:=sb f 0 (i+(n+1 - i)) d) rfl rfl ?_;have al:=nA (cs:=jb L E k) (j:=M) (vs:=x) (by omega);have lod:D.length=i * 5:=by subst q;simp [hcs];omega
  have S:=S.boxOwn2 (i:=2) rfl 5 (i+(n+1 - i)) d (D++k++x) (by omega) T (yC (a:=i * 5) R lod (by omega) (by omega) (by omega) (by omega)) U;exact rq S (by omega) (by subst q s y;rfl) (List.Mem.tail _ (List.Mem.head _))
 refine ly (.bool false) S (kt rfl rfl K) (ln (fV rfl (g1 (fM (er (ly (sb g 0 n cap) S Ym (ly (ni (n:Int)) S Ym (ly (ni 1) S Ym (ly (ni ((n:Int)+1)) S (gw (r:=(n:Int)+1) rfl rfl (gl (by omega) (by omega))) (ly (sb g 0 (n+1) cap) S (rx (hi:=(n+1)) iD iY (by omega) rfl (.inr ⟨_,_,_,rfl,rfl,(by first | rfl | omega)⟩)) (ly (sb g 0 (n+1) cap) S Ya (ln ?_))))))))))));refine fJ (er (ly (sb gv 0 1 1) S Ym (ly (sb g 0 (n+1) cap) S Ym (ly (ni (i:Int)) S Ym (ly (ni 1) S Ym (ly (ni ((i:Int)+1)) S (gw (r:=(i:Int)+1) rfl rfl (gl (by omega) (by omega))) ?_))))));obtain⟨a4,_,a5⟩:=lR (g:=g) (o:=0) (n:=(n+1)) (c:=cap) (lo:=(i+1)) (hi:=(n+1)) iD iY (by omega) (by omega);refine ly (sb g a4 ((n+1) - (i+1)) (cap - (i+1))) S (a5 rfl (.inr ⟨_,_,_,rfl,rfl,(by first | rfl | omega)⟩) (.inl ⟨rfl,rfl⟩)) (mz (v:=.bool false) (.inl (yP (i:=0) (i':=1) (t:=24) (tR:=4) S Tryz.func128 (by kernel_rfl) (by kernel_rfl) (by kernel_rfl) (by kernel_rfl) iD iY rfl rfl rfl rfl rfl (fun e=>hne e.symm) (by omega))) ?_);refine ly (.bool true) S (iH rfl rfl) (ln (fS rfl (fJ ?_)));refine iV (fun w=>St [g,gv] W rd rd [(gv,104,csv)] [] w) MX rfl ?_;have S:=S.drew;have am:=S.sup;have SC:=((S.tt 2 0).del 0);refine tk (sb g 0 (n+1) cap) 0 rfl rfl SC Ym (tk (ni (i:Int)) 1 rfl rfl SC Ym (tk (ni 1) 2 rfl rfl SC Ym (tk (ni ((i:Int)+1)) 3 rfl rfl SC (gw (r:=(i:Int)+1) rfl rfl (gl (by omega) (by omega))) ?_)));obtain⟨F,a6,a7⟩:=lR (g:=g) (o:=0) (n:=(n+1)) (c:=cap) (lo:=(i+1)) (hi:=(n+1)) iD iY (by omega) (by omega);refine tk (sb g F ((n+1) - (i+1)) (cap - (i+1))) 4 rfl rfl SC (a7 rfl (.inr ⟨_,_,_,rfl,rfl,(by first | rfl | omega)⟩) (.inl ⟨rfl,rfl⟩)) (tk (sb g 0 (n+1) cap) 5 rfl rfl SC Ym (tk (ni (i:Int)) 6 rfl rfl SC Ym ?_));obtain⟨a8,a9,aa⟩:=lR (g:=g) (o:=0) (n:=(n+1)) (c:=cap) (lo:=i) (hi:=(n+1)) iD iY (by omega) (by omega);refine tk (sb g a8 ((n+1) - i) (cap - i)) 7 rfl rfl SC (aa rfl (.inr ⟨_,_,_,rfl,rfl,(by first | rfl | omega)⟩) (.inl ⟨rfl,rfl⟩)) (aO 8 rfl (by kernel_rfl) ?_);obtain⟨l,A⟩:∃ z,z=(cur.toList.drop (i * 5)).take ((n - i) * 5):=⟨_,rfl⟩;have an:=a6 (by omega);have ab:l.length=(n - i) * 5:=(by subst A;simp [hcs];omega);refine pW (m:=(n - i)) (news:=l) (i:=0) (i':=0) S iD iY rfl rfl rfl rfl (by simp only [Nat.min_def];split <;> omega) ab (fun j u b=>by subst A;rw [a9 (by omega),Nat.zero_add];exact tG b) (by subst A;exact tO h1c (by omega)) (by omega) fun _ S => ?_
 refine fL ?_;have SC:=((S.tt 2 0).del 0);refine fK (ak SC ?_);refine gE (by kernel_rfl) ?_;refine fM (er (ly (sb g 0 (n+1) cap) S Ym (ly (ni (i:Int)) S Ym ?_)));obtain⟨N,ac,ad⟩:=lR (g:=g) (o:=0) (n:=(n+1)) (c:=cap) (lo:=i) (hi:=(n+1)) iD iY (by omega) (by omega);refine ly (sb g N ((n+1) - i) (cap - i)) S (ad rfl (.inr ⟨_,_,_,rfl,rfl,(by first | rfl | omega)⟩) (.inl ⟨rfl,rfl⟩)) (ly (sb gv 0 1 1) S Ym ?_);obtain⟨B,C⟩:∃ z,z=csv.toList:=⟨_,rfl⟩;have ao:=ac (by omega);have ap:B.length=5:=by subst C;simp [hcv]
 have aq:=nA (cs:=cur) (j:=F) (vs:=l) (by omega);refine pW (m:=1) (news:=B) (i:=0) (i':=1) S iD iY rfl rfl rfl rfl (by simp only [Nat.min_def];split <;> omega) (by omega) (fun j u b=>by subst C;simpa using b) (by subst C;exact fun u b=>List.all_eq_true.1 h1v u b) (by omega) fun _ S => ?_
 refine ln (er (ly (sb g 0 (n+1) cap) S Ym (ly (sb g 0 (n+1) cap) S Ya (ln (fR ?_)))));refine g3 (v:=sb g 0 (n+1) cap) rfl rfl ?_;have ar:=nA (cs:=jb cur F l) (j:=N) (vs:=B) (by omega);have S:=S.boxOwn2 (i:=0) rfl 5 (n+1) cap (cur.toList.take (i * 5)++B++l) (by omega) (by omega) (wc (a:=i * 5) (by omega) (by omega) (by omega) (by omega)) hm;exact rq S rfl (by subst C A;rfl) (List.mem_singleton.2 rfl)
theorem F3(W:World)(gv:Nat)(csv:Array Value)(hgv:W.heap[gv]? = some (.cells csv 104 (0,0)))(hcv:csv.size=5)(h1v:csv.toList.all Value.oneCell'=true) :
    Calls Tryz.prog 120 #[(sn),(.int .i64 0),(sb gv 0 1 1)] W (fun e w' => ∃ v',e = .returned v'∧w'.ownsRow 0 104 5 v' (0+1) ([]++csv.toList)∧(∀ g',v'.ownBlock=some g'→False∨W.heap.size≤g')∧jj [gv] W w'):=by
 have f:=il;obtain⟨rd,c,d⟩:∃ rd:Rd,Rd.le rd (fX W) ∧ ∀ g o,rd g o=none:=⟨fun _ _=>none,fun _ _ _ h=>by(cases h),fun _ _=>rfl⟩;have S:St [gv] W rd rd [(gv,104,csv)] [] W:=St.startX c (by intro p a;simp only [List.mem_cons,List.not_mem_nil,or_false] at a;rcases a with rfl <;> first | exact⟨by simp,hgv,d gv⟩) (by simp);refine io (args:=[sn,ni 0,sb gv 0 1 1]) 95 Tryz.func120 rfl rfl rfl ?_;refine er (ly sn S Ya (ln (er (ly sn S Ym (ly (ni 0) S Ym (ly sn S (xg iD iY rfl (.inr ⟨_,_,rfl,rfl⟩) (.inl rfl)) (ln (er (ly (sb gv 0 1 1) S Ym (ly (ni 1) S (Yl iD) ?_))))))))));refine ly (ni 1) S Ya (ln (fJ (er (ly (ni 1) S Ym (ly (.bool false) S (i5 rfl rfl (by decide)) (ln (fV rfl (g1 (fM (er (ly sn S Ym ?_)))))))))));refine ly (ni 0) S (Yl iD) (ly (ni 0) S Ya (ln (fJ (er (ly (ni 0) S Ym (ly (ni 0) S Ym (ly (.bool true) S (iw rfl rfl (by decide)) (ln (fS rfl (er (ly sn S Ym ?_)))))))))));refine ly (sb gv 0 1 1) S Ym ?_;have S:=S.ownNil 104 5;refine js (e':=0) (i:=0) (i':=0) S og rfl rfl rfl rfl rfl (hcv.trans rfl) h1v (by simp only [maxLen];omega) (by dsimp only;omega) fun b _ S => ?_
 refine ly b S Ya (ln (fR ?_));refine g3 (v:=b) rfl rfl ?_;exact zY S rfl rfl (List.mem_singleton.2 rfl)
theorem wH(W:World)(v:Value)(n i gv:Nat)(xs:List Value)(csv:Array Value)(hv:W.ownsRow 0 104 5 v n xs)(hgv:W.heap[gv]? = some (.cells csv 104 (0,0)))(hne:v.ownBlock ≠ some gv)(hcv:csv.size=5)(h1x:∀ u∈xs,u.oneCell'=true)(h1v:csv.toList.all Value.oneCell'=true)(hi:i≤n)(hlen:n+1≤maxLen)(hby:(n+1) * 40≤140737488355328) :
  Calls Tryz.prog 120 #[v,(.int .i64 (i:Int)),(.slice (some ⟨gv,0,none⟩) 1 1)] W fun e w' => ∃ v',e = .returned v'∧w'.ownsRow 0 104 5 v' (n+1) (xs.take (i * 5)++csv.toList++xs.drop (i * 5))∧(∀ g',v'.ownBlock=some g'→v.ownBlock=some g'∨W.heap.size≤g')∧jj (gv :: v.ownBlock.toList) W w':=by
 rcases hv.2 with⟨rfl,rfl⟩ | ⟨g,cap,cur,rfl,_,hg,hc,hm,hs,rfl⟩
 ·have j:xs=[]:=List.eq_nil_of_length_eq_zero (by simpa using hv.1)
  subst j
  obtain rfl:i=0:=by omega
  exact(F3 W gv csv hgv hcv h1v).mono fun e w' ⟨v',c,d,f,a⟩=>⟨v',c,by simpa using d,fun g' k=>(f g' k).elim (fun h=>h.elim) .inr,a⟩
 ·refine(Co W g gv n cap i cur csv hg hgv (fun e=>hne (by rw [e];rfl)) hs hcv h1x h1v hc hm hi hlen hby).mono fun e w' ⟨v',c,d,f,a⟩=>⟨v',c,?_,fun g' k=>(f g' k).imp (fun h=>by rw [h];rfl) id,⟨a.os,a.tape,a.output,a.size,fun b l m=>a.block b l (fun h=>m ?_)⟩⟩
  ·have o:(cur.toList.take (n * 5)).take (i * 5)=cur.toList.take (i * 5):=by rw [List.take_take,Nat.min_eq_left (by omega)]
   have p:(cur.toList.take (n * 5)).drop (i * 5)=(cur.toList.drop (i * 5)).take ((n - i) * 5):=by rw [List.drop_take];congr 1;omega
   rw [o,p];exact d
  ·show b∈[gv,g]
   simp only [List.mem_cons,List.not_mem_nil,or_false] at h ⊢;exact h.symm
theorem C4(rd:Rd)(W:World)(hle:Rd.le rd (fX W))(f:Nat)(caps:List Value)(p:ga→Bool)(hf:∀ vs w,(callFunc f vs).run Tryz.prog w = .ok (.enter f vs) w)(hT:∀ (w:World) (x:ga),jj [] W w→Calls Tryz.prog f ([Value.agg #[.bool x.set,.int .i64 x.key,.int .i64 x.item,.int .i64 x.author,.int .i64 x.seq]]++caps).toArray w fun e w'=>e = .returned (.bool (p x))∧Below w.heap.size w w') :
    Calls Tryz.prog 117 #[(sn),(.func (.func f) #[] caps.toArray)] W (fun e w'=>e = .returned (.slice none 0 0)∧Below W.heap.size W w'):=by
 have c:=il;have S:St [] W rd rd [] [] W:=St.start hle;refine io (args:=[sn,.func (.func f) #[] caps.toArray]) 42 Tryz.func117 rfl rfl rfl ?_;refine er (ly sn S Ya (ln (er (ly sn S Ym (ly (.func (.func f) #[] caps.toArray) S Ym ?_)))));refine g7 (g4 (vs:=[sn,.func (.func f) #[] caps.toArray]) (CF 127 _) rfl rfl) (wz (fX _) _ fZ [] W f caps p hf hT S.fr _ [] fU) ?_;rintro e _ ⟨rfl,a⟩;have S:=S.callq a;refine g9 (ly (ni (jD p [])) S Ya (ln (fJ (er (ly (ni (jD p [])) S Ym ?_)))));have b:jD p []=(-1):=rfl;refine ly (.bool true) S (iw rfl rfl b) (ln (fS rfl (er (ly sn S Ym (ly sn S Ya (ln (fR ?_)))))));refine g3 (v:=sn) rfl rfl ?_;exact⟨rfl,S.below⟩
theorem vg(rd:Rd)(W:World)(hle:Rd.le rd (fX W))(v:Value)(n:Nat)(xs:List Value)(l:List ga)(hv:W.ownsRow 0 104 5 v n xs)(hrd:∀ g,v.ownBlock=some g → ∀ o,rd g o=none)(hr:fQ 5 gB rd xs l)(hn:n=l.length)(f:Nat)(caps:List Value)(p:ga→Bool)(hf:∀ vs w,(callFunc f vs).run Tryz.prog w = .ok (.enter f vs) w)(hT:∀ (w:World) (x:ga),jj v.ownBlock.toList W w→Calls Tryz.prog f ([Value.agg #[.bool x.set,.int .i64 x.key,.int .i64 x.item,.int .i64 x.author,.int .i64 x.seq]]++caps).toArray w fun e w'=>e = .returned (.bool (p x))∧Below w.heap.size w w') :
  Calls Tryz.prog 117 #[v,(.func (.func f) #[] caps.toArray)] W fun e w' => ∃ v' xs',e = .returned v'∧w'.ownsRow 0 104 5 v' (l.filter fun x => !p x).length xs'∧fQ 5 gB rd xs' (l.filter fun x => !p x)∧(∀ g',v'.ownBlock=some g'→v.ownBlock=some g'∨W.heap.size≤g')∧jj v.ownBlock.toList W w':=by
 rcases hv.2 with⟨rfl,rfl⟩ | ⟨g,cap,cur,rfl,_,hg,hc,hm,hs,rfl⟩
 ·have d:l=[]:=List.eq_nil_of_length_eq_zero hn.symm
  have h:xs=[]:=List.eq_nil_of_length_eq_zero (by simpa using hv.1)
  subst d h
  exact(C4 rd W hle f caps p hf hT).mono fun e w' ⟨c,a⟩=>⟨_,[],c,World.ownsRow_nil w' 0 104 5,rfl,fun g' k=>(by cases k),⟨a.os,a.tape,a.output,a.size,fun b i _=>a.block b i⟩⟩
 ·refine(AQ rd W hle g n cap cur l hg (hrd g rfl) hs hr hn hc hm f caps p hf hT).mono fun e w' ⟨cur',_,c,rfl,a,j,m,q⟩=>⟨_,_,c,⟨?_,.inr ⟨g,cap,cur',rfl,Nat.zero_le _,a,?_,hm,j,rfl⟩⟩,m,fun g' k => .inl k,q⟩
  all_goals have r:=List.length_filter_le (fun x => !p x) l
  ·have s:cur'.toList.length=cur'.size:=rfl
   rw [List.length_take];omega
  ·omega
section
section
variable {α:Type} {l:List α} {f:α→Int} {k:Nat} {z:α}
theorem zU(hm:∀ (a b:Nat) y z,a≤b→l[a]? = some y→l[b]? = some z→f z<0→f y<0)(hz:l[k]? = some z)(hc:f z<0):∀ (a:Nat) y,a<k+1→l[a]? = some y→f y<0:=fun a y ha hy=>hm a k y z (by omega) hy hz hc
theorem y7(hm:∀ (a b:Nat) y z,a≤b→l[a]? = some y→l[b]? = some z→f z<0→f y<0)(hz:l[k]? = some z)(hc:¬ f z<0):∀ (a:Nat) y,k≤a→l[a]? = some y→0≤f y:=fun a y ha hy=>by
 rcases Int.lt_or_le (f y) 0 with h | h
 ·exact absurd (hm k a z y ha hz hy h) hc
 ·exact h
end
theorem zl(rd:Rd)(W:World)(hle:Rd.le rd (fX W))(v u:Value)(l:List ga)(t:ga)(h:fN 5 gB rd v l)(h2:fW gB rd u t)(hbig:l.length≤4611686018427387904)(hmono:∀ (a b:Nat) y z,a≤b→l[a]? = some y→l[b]? = some z→gQ z t<0→gQ y t<0) :
    Calls Tryz.prog 119 #[v,u,(.func (.func 86) #[] #[])] W (fun e w' => ∃ (i:Nat) (b:Bool),e = .returned (.tuple #[.int .i64 i,.bool b])∧i≤l.length∧(∀ (a:Nat) y,a<i→l[a]? = some y→gQ y t<0)∧(∀ (a:Nat) y,i≤a→l[a]? = some y→0≤gQ y t)∧(b=true → ∃ z,l[i]? = some z∧gQ z t=0)∧(b=false → ∀ z,l[i]? = some z→gQ z t ≠ 0)∧Below W.heap.size W w'):=by
 obtain⟨f,g,rfl,_,_⟩:=h.val;obtain⟨I,rfl,h2⟩:=h2;have J:I=[.bool t.set,ni t.key,ni t.item,ni t.author,ni t.seq]:=h2;subst J;have Z:=il;have S:St [] W rd rd [] [] W:=St.start hle;refine io (args:=[sc f l.length g,.agg (kL t),.func (.func 86) #[] #[]]) 49 Tryz.func119 rfl rfl rfl ?_;refine er (ix (u:=.agg (kL t)) (cs:=(kL t)) S rfl rfl fun m _ S=>ly (ni 0) S Ya (ly (.bool false) S Ya (ln (er (ly (sc f l.length g) S Ym (ly (ni (l.length:Int)) S (Yl iD) (ly (ni (l.length:Int)) S Ya (ln (er ?_)))))))));refine ly (ni (l.length:Int)) S Ym (ly (ni 0) S Ya (ly (ni (l.length:Int)) S Ya (ln (fJ (go ?_)))));refine et [(0,sc f l.length g),(2,.func (.func 86) #[] #[]),(4,pa m 0),(6,ni 0),(7,.bool false),(8,ni (l.length:Int)),(9,ni (0:Int)),(10,ni ((l.length:Nat):Int))] (fun o => ?_);refine j1 (fun(B:Nat × Nat) ov w=>match B with | (i,j) => ∃ rd' o,ov=[(0,sc f l.length g),(2,.func (.func 86) #[] #[]),(4,pa m 0),(6,ni 0),(7,.bool false),(8,ni (l.length:Int)),(9,ni (i:Int)),(10,ni (j:Int))]++o∧St [] W rd rd' [(m,104,(kL t))] [] w∧Rd.le rd rd'∧i≤j∧j≤l.length∧(∀ (a:Nat) y,a<i→l[a]? = some y→gQ y t<0)∧(∀ (a:Nat) y,j≤a→l[a]? = some y→0≤gQ y t)) (fun B=>match B with | (i,j)=>j - i) (0,l.length) ⟨_,o,rfl,(S.rw' rfl rfl),fZ,(by omega),(by omega),(fun a y h=>absurd h (Nat.not_lt_zero _)),(fun a y h p=>absurd (List.getElem?_eq_some_iff.1 p).1 (by omega))⟩ ?_;rintro⟨i,j⟩ _ _ ⟨k,o,rfl,S,C,_,_,q,s⟩;replace h:=fm h C;refine fJ (er (ly (ni (i:Int)) S Ym (ly (ni (j:Int)) S Ym ?_)));by_cases G:(i:Int)<(j:Int)
 ·
  refine ly (.bool true) S (gJ rfl rfl G) (ln (fS rfl (g1 (fM (go (er (ly (ni (i:Int)) S Ym (ly (ni (j:Int)) S Ym (ly (ni ((i:Int)+(j:Int))) S (gw (r:=(i:Int)+(j:Int)) rfl rfl (gl (by omega) (by omega))) (ly (.int .u64 ((i:Int)+(j:Int))) S (th rfl (ud (r:=(i:Int)+(j:Int)) U3 u9 (IntWalk.u64_in _ (by omega)))) (ly (.int .u64 (((i:Int)+(j:Int)) / 2)) S (zt (n:=1) (r:=((i:Int)+(j:Int)) / 2) rfl rfl (by decide) (rfl)) (ly (ni (((i:Int)+(j:Int)) / 2)) S (th rfl (ud (r:=((i:Int)+(j:Int)) / 2) u9 U3 (gl (by omega) (by omega)))) (ly (ni (((i:Int)+(j:Int)) / 2)) S Ya ?_)))))))))))));refine ln (fJ ?_);refine iV (fun w=>St [] W rd k [(m,104,(kL t))] [] w) MX rfl ?_;have S:=S.drew;have a0:=S.sup;have SC:=S.tt 1 0;refine tk (.func (.func 86) #[] #[]) 0 rfl rfl SC Ym (tk (sc f l.length g) 1 rfl rfl SC Ym (tk (ni (((i:Int)+(j:Int)) / 2)) 2 rfl rfl SC Ym ?_));obtain⟨c,D⟩:∃ z,(l)[((i+j) / 2)]? = some z:=gX (by first | assumption | omega);obtain⟨K,L,M,_,N,O⟩:=hD iD iY h D;have P:L=[.bool c.set,ni c.key,ni c.item,ni c.author,ni c.seq]:=N;subst P;refine tk K 3 rfl rfl SC (O rfl rfl (by first | rfl | omega)) (tk (.agg (kL c)) 4 rfl rfl SC (jd M j6) (tk (.agg (kL t)) 5 rfl rfl SC (gf 0 j6) ?_));refine aO 6 rfl (by kernel_rfl) (g7 (g4 (vs:=[.agg (kL c),.agg (kL t)]) (CF 86 _) rfl rfl) (Order_c _ _ S.le _ _ _ _ (⟨_,rfl,rfl⟩:fW gB k _ c) (⟨_,rfl,rfl⟩:fW gB k _ t)) ?_);rintro e _ ⟨rfl,E⟩;have S:=S.callq E;refine kn ?_;have SC:=S.tt 1 0;refine fK (ak SC ?_);by_cases x:gQ c t<0
  ·
   refine tk (.bool true) 7 rfl rfl SC (gJ rfl rfl x) (gE (by kernel_rfl) ?_);refine fM (fS rfl (gU (ly (ni (((i:Int)+(j:Int)) / 2)) S Ym (ly (ni ((((i:Int)+(j:Int)) / 2)+1)) S (gw (r:=(((i:Int)+(j:Int)) / 2)+1) rfl rfl (gl (by omega) (by omega))) (ly (ni ((((i:Int)+(j:Int)) / 2)+1)) S Ya (fL (gA ?_)))))));refine fK ⟨(((i+j) / 2+1),j),_,fk,⟨_,_,rfl,(S.tt 1 0),(fY C fZ),(by omega),(by omega),(zU hmono D x),s⟩,?_⟩
   show _<_;dsimp only;omega
  refine tk (.bool false) 7 rfl rfl SC (gH rfl rfl x) (gE (by kernel_rfl) ?_);refine fM (fV rfl (gU (ly (ni (((i:Int)+(j:Int)) / 2)) S Ym (ly (ni (((i:Int)+(j:Int)) / 2)) S Ya (fL (gA ?_))))));refine fK ⟨(i,((i+j) / 2)),_,fk,⟨_,_,rfl,(S.tt 1 0),(fY C fZ),(by omega),(by omega),q,(y7 hmono D x)⟩,?_⟩
  show _<_;dsimp only;omega
 refine ly (.bool false) S (gH rfl rfl G) (ln (fV rfl (iP (iQ (j0 (iR (fM (fJ ?_))))))));refine iV (fun w=>St [] W rd k [(m,104,(kL t))] [] w) MX rfl ?_;have S:=S.drew;have a1:=S.sup;have SC:=S.tt 1 0;refine tk (ni (i:Int)) 0 rfl rfl SC Ym (tk (ni (i:Int)) 1 rfl rfl SC Ym (tk (ni (l.length:Int)) 2 rfl rfl SC Ym ?_));by_cases H:(i:Int)<(l.length:Int)
 ·
  refine tk (.bool true) 3 rfl rfl SC (gJ rfl rfl H) (tk (.bool true) 4 rfl rfl SC Ym (jC (d':=39) (v:=.func (.func 86) #[] #[]) 5 rfl rfl SC rfl rfl rfl Ym (jC (d':=39) (v:=sc f l.length g) 6 rfl rfl SC rfl rfl rfl Ym (jC (d':=39) (v:=ni (i:Int)) 7 rfl rfl SC rfl rfl rfl Ym ?_))));obtain⟨d,F⟩:∃ z,(l)[i]? = some z:=gX (by first | assumption | omega);obtain⟨Q,R,T,_,U,V⟩:=hD iD iY h F;have X:R=[.bool d.set,ni d.key,ni d.item,ni d.author,ni d.seq]:=U;subst X;refine jC (d':=39) (v:=Q) 8 rfl rfl SC rfl rfl rfl (V rfl rfl (by first | rfl | omega)) (jC (d':=39) (v:=.agg (kL d)) 9 rfl rfl SC rfl rfl rfl (jd T j6) (jC (d':=39) (v:=.agg (kL t)) 10 rfl rfl SC rfl rfl rfl (gf 0 j6) ?_));refine aO 11 rfl (by kernel_rfl) (lj (d':=39) (g4 (vs:=[.agg (kL d),.agg (kL t)]) (CF 86 _) rfl rfl) rfl rfl (Order_c _ _ S.le _ _ _ _ (⟨_,rfl,rfl⟩:fW gB k _ d) (⟨_,rfl,rfl⟩:fW gB k _ t)) ?_);rintro e _ ⟨rfl,E⟩;have S:=S.callq E;refine kn ?_;have SC:=S.tt 1 0;refine fK (ak SC ?_);by_cases A:gQ d t=0
  ·
   refine jC (d':=39) (v:=.bool true) 12 rfl rfl SC rfl rfl rfl (iw rfl rfl A) (tk (.bool true) 13 rfl rfl SC Yt (tk (ni (i:Int)) 14 rfl rfl SC Ya (tk (.bool true) 15 rfl rfl SC Ya ?_)));refine gE (by kernel_rfl) ?_;refine fM (fR ?_);refine iv (v:=ni (i:Int)) (v':=.bool true) rfl rfl rfl ?_;obtain rfl:i=j:=by omega
   exact⟨i,true,rfl,by omega,q,s,fun _=>⟨_,F,A⟩,fun h=>by(cases h),S.below⟩
  refine jC (d':=39) (v:=.bool false) 12 rfl rfl SC rfl rfl rfl (i5 rfl rfl A) (tk (.bool false) 13 rfl rfl SC Yt (tk (ni (i:Int)) 14 rfl rfl SC Ya (tk (.bool false) 15 rfl rfl SC Ya ?_)));refine gE (by kernel_rfl) ?_;refine fM (fR ?_);refine iv (v:=ni (i:Int)) (v':=.bool false) rfl rfl rfl ?_;obtain rfl:i=j:=by omega
  exact⟨i,false,rfl,by omega,q,s,fun h=>by(cases h),fun _ y p=>by(rw [F] at p;cases p;exact A),S.below⟩
 refine tk (.bool false) 3 rfl rfl SC (gH rfl rfl H) (tk (.bool false) 4 rfl rfl SC Ym (kO (d':=39) 5 rfl rfl SC rfl rfl rfl (kO (d':=39) 6 rfl rfl SC rfl rfl rfl (kO (d':=39) 7 rfl rfl SC rfl rfl rfl (kO (d':=39) 8 rfl rfl SC rfl rfl rfl (kO (d':=39) 9 rfl rfl SC rfl rfl rfl (kO (d':=39) 10 rfl rfl SC rfl rfl rfl (kO (d':=39) 11 rfl rfl SC rfl rfl rfl (kO (d':=39) 12 rfl rfl SC rfl rfl rfl (tk (.bool false) 13 rfl rfl SC Yf (tk (ni (i:Int)) 14 rfl rfl SC Ya (tk (.bool false) 15 rfl rfl SC Ya ?_))))))))))));refine gE (by kernel_rfl) ?_;refine fM (fR ?_);refine iv (v:=ni (i:Int)) (v':=.bool false) rfl rfl rfl ?_;obtain rfl:i=j:=by omega
 exact⟨i,false,rfl,by omega,q,s,fun h=>by(cases h),fun _ z Y=>absurd (List.getElem?_eq_some_iff.1 Y).1 (by omega),S.below⟩
theorem xH(rd:Rd)(W:World)(hle:Rd.le rd (fX W))(v u:Value)(l:List Tally)(t:Tally)(h:fN 3 h8 rd v l)(h2:fW h8 rd u t)(hbig:l.length≤4611686018427387904)(hmono:∀ (a b:Nat) y z,a≤b→l[a]? = some y→l[b]? = some z→gY z t<0→gY y t<0) :
    Calls Tryz.prog 130 #[v,u,(.func (.func 87) #[] #[])] W (fun e w' => ∃ (i:Nat) (b:Bool),e = .returned (.tuple #[.int .i64 i,.bool b])∧i≤l.length∧(∀ (a:Nat) y,a<i→l[a]? = some y→gY y t<0)∧(∀ (a:Nat) y,i≤a→l[a]? = some y→0≤gY y t)∧(b=true → ∃ z,l[i]? = some z∧gY z t=0)∧(b=false → ∀ z,l[i]? = some z→gY z t ≠ 0)∧Below W.heap.size W w'):=by
 obtain⟨f,g,rfl,_,_⟩:=h.val;obtain⟨I,rfl,h2⟩:=h2;have J:I=[ni t.key,ni t.author,ni t.sum]:=h2;subst J;have Z:=il;have S:St [] W rd rd [] [] W:=St.start hle;refine io (args:=[sc f l.length g,.agg #[ni t.key,ni t.author,ni t.sum],.func (.func 87) #[] #[]]) 49 Tryz.func130 rfl rfl rfl ?_;refine er (ix (u:=.agg #[ni t.key,ni t.author,ni t.sum]) (cs:=#[ni t.key,ni t.author,ni t.sum]) S rfl rfl fun m _ S=>ly (ni 0) S Ya (ly (.bool false) S Ya (ln (er (ly (sc f l.length g) S Ym (ly (ni (l.length:Int)) S (Yl iK) (ly (ni (l.length:Int)) S Ya (ln (er ?_)))))))));refine ly (ni (l.length:Int)) S Ym (ly (ni 0) S Ya (ly (ni (l.length:Int)) S Ya (ln (fJ (go ?_)))));refine et [(0,sc f l.length g),(2,.func (.func 87) #[] #[]),(4,pa m 0),(6,ni 0),(7,.bool false),(8,ni (l.length:Int)),(9,ni (0:Int)),(10,ni ((l.length:Nat):Int))] (fun o => ?_);refine j1 (fun(B:Nat × Nat) ov w=>match B with | (i,j) => ∃ rd' o,ov=[(0,sc f l.length g),(2,.func (.func 87) #[] #[]),(4,pa m 0),(6,ni 0),(7,.bool false),(8,ni (l.length:Int)),(9,ni (i:Int)),(10,ni (j:Int))]++o∧St [] W rd rd' [(m,106,#[ni t.key,ni t.author,ni t.sum])] [] w∧Rd.le rd rd'∧i≤j∧j≤l.length∧(∀ (a:Nat) y,a<i→l[a]? = some y→gY y t<0)∧(∀ (a:Nat) y,j≤a→l[a]? = some y→0≤gY y t)) (fun B=>match B with | (i,j)=>j - i) (0,l.length) ⟨_,o,rfl,(S.rw' rfl rfl),fZ,(by omega),(by omega),(fun a y h=>absurd h (Nat.not_lt_zero _)),(fun a y h p=>absurd (List.getElem?_eq_some_iff.1 p).1 (by omega))⟩ ?_;rintro⟨i,j⟩ _ _ ⟨k,o,rfl,S,C,_,_,q,s⟩;replace h:=fm h C;refine fJ (er (ly (ni (i:Int)) S Ym (ly (ni (j:Int)) S Ym ?_)));by_cases G:(i:Int)<(j:Int)
 ·
  refine ly (.bool true) S (gJ rfl rfl G) (ln (fS rfl (g1 (fM (go (er (ly (ni (i:Int)) S Ym (ly (ni (j:Int)) S Ym (ly (ni ((i:Int)+(j:Int))) S (gw (r:=(i:Int)+(j:Int)) rfl rfl (gl (by omega) (by omega))) (ly (.int .u64 ((i:Int)+(j:Int))) S (th rfl (ud (r:=(i:Int)+(j:Int)) U3 u9 (IntWalk.u64_in _ (by omega)))) (ly (.int .u64 (((i:Int)+(j:Int)) / 2)) S (zt (n:=1) (r:=((i:Int)+(j:Int)) / 2) rfl rfl (by decide) (rfl)) (ly (ni (((i:Int)+(j:Int)) / 2)) S (th rfl (ud (r:=((i:Int)+(j:Int)) / 2) u9 U3 (gl (by omega) (by omega)))) (ly (ni (((i:Int)+(j:Int)) / 2)) S Ya ?_)))))))))))));refine ln (fJ ?_);refine iV (fun w=>St [] W rd k [(m,106,#[ni t.key,ni t.author,ni t.sum])] [] w) MX rfl ?_;have S:=S.drew;have a0:=S.sup;have SC:=S.tt 1 0;refine tk (.func (.func 87) #[] #[]) 0 rfl rfl SC Ym (tk (sc f l.length g) 1 rfl rfl SC Ym (tk (ni (((i:Int)+(j:Int)) / 2)) 2 rfl rfl SC Ym ?_));obtain⟨c,D⟩:∃ z,(l)[((i+j) / 2)]? = some z:=gX (by first | assumption | omega);obtain⟨K,L,M,_,N,O⟩:=hD iK jf h D;have P:L=[ni c.key,ni c.author,ni c.sum]:=N;subst P;refine tk K 3 rfl rfl SC (O rfl rfl (by first | rfl | omega)) (tk (.agg #[ni c.key,ni c.author,ni c.sum]) 4 rfl rfl SC (jd M kX) (tk (.agg #[ni t.key,ni t.author,ni t.sum]) 5 rfl rfl SC (gf 0 kX) ?_));refine aO 6 rfl (by kernel_rfl) (g7 (g4 (vs:=[.agg #[ni c.key,ni c.author,ni c.sum],.agg #[ni t.key,ni t.author,ni t.sum]]) (CF 87 _) rfl rfl) (Tally_c _ _ S.le _ _ _ _ (⟨_,rfl,rfl⟩:fW h8 k _ c) (⟨_,rfl,rfl⟩:fW h8 k _ t)) ?_);rintro e _ ⟨rfl,E⟩;have S:=S.callq E;refine kn ?_;have SC:=S.tt 1 0;refine fK (ak SC ?_);by_cases x:gY c t<0
  ·
   refine tk (.bool true) 7 rfl rfl SC (gJ rfl rfl x) (gE (by kernel_rfl) ?_);refine fM (fS rfl (gU (ly (ni (((i:Int)+(j:Int)) / 2)) S Ym (ly (ni ((((i:Int)+(j:Int)) / 2)+1)) S (gw (r:=(((i:Int)+(j:Int)) / 2)+1) rfl rfl (gl (by omega) (by omega))) (ly (ni ((((i:Int)+(j:Int)) / 2)+1)) S Ya (fL (gA ?_)))))));refine fK ⟨(((i+j) / 2+1),j),_,fk,⟨_,_,rfl,(S.tt 1 0),(fY C fZ),(by omega),(by omega),(zU hmono D x),s⟩,?_⟩
   show _<_;dsimp only;omega
  refine tk (.bool false) 7 rfl rfl SC (gH rfl rfl x) (gE (by kernel_rfl) ?_);refine fM (fV rfl (gU (ly (ni (((i:Int)+(j:Int)) / 2)) S Ym (ly (ni (((i:Int)+(j:Int)) / 2)) S Ya (fL (gA ?_))))));refine fK ⟨(i,((i+j) / 2)),_,fk,⟨_,_,rfl,(S.tt 1 0),(fY C fZ),(by omega),(by omega),q,(y7 hmono D x)⟩,?_⟩
  show _<_;dsimp only;omega
 refine ly (.bool false) S (gH rfl rfl G) (ln (fV rfl (iP (iQ (j0 (iR (fM (fJ ?_))))))));refine iV (fun w=>St [] W rd k [(m,106,#[ni t.key,ni t.author,ni t.sum])] [] w) MX rfl ?_;have S:=S.drew;have a1:=S.sup;have SC:=S.tt 1 0;refine tk (ni (i:Int)) 0 rfl rfl SC Ym (tk (ni (i:Int)) 1 rfl rfl SC Ym (tk (ni (l.length:Int)) 2 rfl rfl SC Ym ?_));by_cases H:(i:Int)<(l.length:Int)
 ·
  refine tk (.bool true) 3 rfl rfl SC (gJ rfl rfl H) (tk (.bool true) 4 rfl rfl SC Ym (jC (d':=39) (v:=.func (.func 87) #[] #[]) 5 rfl rfl SC rfl rfl rfl Ym (jC (d':=39) (v:=sc f l.length g) 6 rfl rfl SC rfl rfl rfl Ym (jC (d':=39) (v:=ni (i:Int)) 7 rfl rfl SC rfl rfl rfl Ym ?_))));obtain⟨d,F⟩:∃ z,(l)[i]? = some z:=gX (by first | assumption | omega);obtain⟨Q,R,T,_,U,V⟩:=hD iK jf h F;have X:R=[ni d.key,ni d.author,ni d.sum]:=U;subst X;refine jC (d':=39) (v:=Q) 8 rfl rfl SC rfl rfl rfl (V rfl rfl (by first | rfl | omega)) (jC (d':=39) (v:=.agg #[ni d.key,ni d.author,ni d.sum]) 9 rfl rfl SC rfl rfl rfl (jd T kX) (jC (d':=39) (v:=.agg #[ni t.key,ni t.author,ni t.sum]) 10 rfl rfl SC rfl rfl rfl (gf 0 kX) ?_));refine aO 11 rfl (by kernel_rfl) (lj (d':=39) (g4 (vs:=[.agg #[ni d.key,ni d.author,ni d.sum],.agg #[ni t.key,ni t.author,ni t.sum]]) (CF 87 _) rfl rfl) rfl rfl (Tally_c _ _ S.le _ _ _ _ (⟨_,rfl,rfl⟩:fW h8 k _ d) (⟨_,rfl,rfl⟩:fW h8 k _ t)) ?_);rintro e _ ⟨rfl,E⟩;have S:=S.callq E;refine kn ?_;have SC:=S.tt 1 0;refine fK (ak SC ?_);by_cases A:gY d t=0
  ·
   refine jC (d':=39) (v:=.bool true) 12 rfl rfl SC rfl rfl rfl (iw rfl rfl A) (tk (.bool true) 13 rfl rfl SC Yt (tk (ni (i:Int)) 14 rfl rfl SC Ya (tk (.bool true) 15 rfl rfl SC Ya ?_)));refine gE (by kernel_rfl) ?_;refine fM (fR ?_);refine iv (v:=ni (i:Int)) (v':=.bool true) rfl rfl rfl ?_;obtain rfl:i=j:=by omega
   exact⟨i,true,rfl,by omega,q,s,fun _=>⟨_,F,A⟩,fun h=>by(cases h),S.below⟩
  refine jC (d':=39) (v:=.bool false) 12 rfl rfl SC rfl rfl rfl (i5 rfl rfl A) (tk (.bool false) 13 rfl rfl SC Yt (tk (ni (i:Int)) 14 rfl rfl SC Ya (tk (.bool false) 15 rfl rfl SC Ya ?_)));refine gE (by kernel_rfl) ?_;refine fM (fR ?_);refine iv (v:=ni (i:Int)) (v':=.bool false) rfl rfl rfl ?_;obtain rfl:i=j:=by omega
  exact⟨i,false,rfl,by omega,q,s,fun h=>by(cases h),fun _ y p=>by(rw [F] at p;cases p;exact A),S.below⟩
 refine tk (.bool false) 3 rfl rfl SC (gH rfl rfl H) (tk (.bool false) 4 rfl rfl SC Ym (kO (d':=39) 5 rfl rfl SC rfl rfl rfl (kO (d':=39) 6 rfl rfl SC rfl rfl rfl (kO (d':=39) 7 rfl rfl SC rfl rfl rfl (kO (d':=39) 8 rfl rfl SC rfl rfl rfl (kO (d':=39) 9 rfl rfl SC rfl rfl rfl (kO (d':=39) 10 rfl rfl SC rfl rfl rfl (kO (d':=39) 11 rfl rfl SC rfl rfl rfl (kO (d':=39) 12 rfl rfl SC rfl rfl rfl (tk (.bool false) 13 rfl rfl SC Yf (tk (ni (i:Int)) 14 rfl rfl SC Ya (tk (.bool false) 15 rfl rfl SC Ya ?_))))))))))));refine gE (by kernel_rfl) ?_;refine fM (fR ?_);refine iv (v:=ni (i:Int)) (v':=.bool false) rfl rfl rfl ?_;obtain rfl:i=j:=by omega
 exact⟨i,false,rfl,by omega,q,s,fun h=>by(cases h),fun _ z Y=>absurd (List.getElem?_eq_some_iff.1 Y).1 (by omega),S.below⟩
end
theorem u2{rd rd':Rd}:∀ {l:List Tally} {xs:List Value},fQ 3 h8 rd xs l→fQ 3 h8 rd' xs l
 | [],_,h=>h
 | _ :: _,_,⟨cs,rest,e,h1,h2,h3⟩=>⟨cs,rest,e,h1,h2,u2 h3⟩
theorem AZ{rd:Rd}{cur:Array Value}{l:List Tally}{t:Tally}{n i:Nat}(hr:fQ 3 h8 rd (cur.toList.take (n * 3)) l)(hi:i≤l.length)(hn:n=l.length) :
  fQ 3 h8 rd (cur.toList.take (i * 3)++(#[Value.int .i64 t.key,.int .i64 t.author,.int .i64 t.sum]).toList++(cur.toList.drop (i * 3)).take ((n - i) * 3)) (l.take i++[t]++l.drop i):=by
 have h:=fQ.ins (x:=t) (cs:=[.int .i64 t.key,.int .i64 t.author,.int .i64 t.sum]) hr hi rfl rfl
 have a:(cur.toList.take (n * 3)).take (i * 3)=cur.toList.take (i * 3):=by rw [List.take_take,Nat.min_eq_left (by omega)]
 have b:(cur.toList.take (n * 3)).drop (i * 3)=(cur.toList.drop (i * 3)).take ((n - i) * 3):=by rw [List.drop_take];congr 1;omega
 rw [a,b] at h;exact h
theorem BP{rd:Rd}{cur:Array Value}{l:List Tally}{z:Tally}{n i cap:Nat}{s:Int}(hr:fQ 3 h8 rd (cur.toList.take (n * 3)) l)(hcs:cur.size=cap * 3)(hcap:n≤cap)(hn:n=l.length)(hz:l[i]? = some z)(zc:∀ (m:Nat) u,[Value.int .i64 z.key,.int .i64 z.author,.int .i64 z.sum][m]? = some u→cur[i * 3+m]? = some u) :
  fQ 3 h8 rd ((jb cur (i * 3+2) [.int .i64 s]).toList.take (n * 3)) (l.set i { z with sum:=s }):=by
 obtain⟨b,_⟩:=List.getElem?_eq_some_iff.1 hz
 have g:cur.toList.length=cur.size:=rfl
 have c:cur.toList[i * 3]? = some (.int .i64 z.key):=by rw [Array.getElem?_toList];exact zc 0 _ rfl
 have d:cur.toList[i * 3+1]? = some (.int .i64 z.author):=by rw [Array.getElem?_toList];exact zc 1 _ rfl
 have e:cur.toList.take (i * 3+2)=cur.toList.take (i * 3)++[Value.int .i64 z.key,.int .i64 z.author]:=by
  rw [List.take_add_one,List.take_add_one,c,d];simp
 have f:(jb cur (i * 3+2) [.int .i64 s]).toList.take (n * 3)=(cur.toList.take (n * 3)).take (i * 3)++[Value.int .i64 z.key,.int .i64 z.author,.int .i64 s]++(cur.toList.take (n * 3)).drop ((i+1) * 3):=by
  rw [rS,e,List.take_take,Nat.min_eq_left (by omega),List.drop_take]
  have a:(cur.toList.take (i * 3)++[Value.int .i64 z.key,.int .i64 z.author]++[Value.int .i64 s]).length=i * 3+3:=by simp;omega
  rw [List.take_append,a,List.take_of_length_le (by rw [a];omega)]
  simp only [List.append_assoc,List.cons_append,List.nil_append,List.length_cons,List.length_nil]
  rw [show(i+1) * 3=i * 3+3 by omega]
 rw [f,List.set_eq_take_append_cons_drop,if_pos b]
 have h:=((hr.take i).push (x:=({ z with sum:=s }:Tally)) (cs:=[.int .i64 z.key,.int .i64 z.author,.int .i64 s]) rfl (show h8 rd _ _ from rfl)).append (hr.drop (i+1) (by omega))
 simpa using h
theorem tY{W w:World}{r0 rd rd':Rd}{bx:List je}{T n g:Nat}{v:Value}{xs:List Value}{l L:List Tally}{t:Tally}(S:St [g] W r0 rd' bx [⟨T,3,v,n,xs⟩] w)(hr:fQ 3 h8 rd xs L)(hL:L=jq l t)(hn:n=L.length) :
  ∃ v' xs',Ending.returned v = .returned v'∧w.ownsRow 0 T 3 v' (jq l t).length xs'∧fQ 3 h8 rd xs' (jq l t)∧(∀ g',v'.ownBlock=some g'→g'=g∨W.heap.size≤g')∧jj [g] W w:=by
 subst hL hn
 refine⟨v,xs,rfl,(S.own _ (List.mem_singleton.2 rfl)).1,hr,fun g' e => ?_,S.fr⟩
 rcases((S.own _ (List.mem_singleton.2 rfl)).2 g' e).1 with h | h
 ·exact .inr h
 ·exact .inl (List.mem_singleton.1 h)
theorem EG{W w:World}{r0 rd rd':Rd}{bx:List je}{T n:Nat}{v:Value}{xs:List Value}{L:List Tally}{t:Tally}(S:St [] W r0 rd' bx [⟨T,3,v,n,xs⟩] w)(hr:fQ 3 h8 rd xs L)(hL:L=jq [] t)(hn:n=L.length) :
  ∃ v' xs',Ending.returned v = .returned v'∧w.ownsRow 0 T 3 v' (jq [] t).length xs'∧fQ 3 h8 rd xs' (jq [] t)∧(∀ g',v'.ownBlock=some g'→False∨W.heap.size≤g')∧jj [] W w:=by
 subst hL hn
 refine⟨v,xs,rfl,(S.own _ (List.mem_singleton.2 rfl)).1,hr,fun g' e => ?_,S.fr⟩
 rcases((S.own _ (List.mem_singleton.2 rfl)).2 g' e).1 with h | h
 ·exact .inr h
 ·cases h
theorem AM(rd:Rd)(W:World)(hle:Rd.le rd (fX W))(g n cap:Nat)(cur:Array Value)(l:List Tally)(u:Value)(t:Tally)(hg:W.heap[g]? = some (.cells cur 106 (0,0)))(hrd:∀ o,rd g o=none)(hcs:cur.size=cap * 3)(hr:fQ 3 h8 rd (cur.toList.take (n * 3)) l)(hn:n=l.length)(hcap:n≤cap)(hm:cap≤maxLen)(h2:fW h8 rd u t)(hby:(n+1) * 24≤140737488355328)(hmono:∀ (a b:Nat) y z,a≤b→l[a]? = some y→l[b]? = some z→gY z t<0→gY y t<0)(hs:∀ z∈l,-4611686018427387904≤z.sum∧z.sum≤4611686018427387903)(ht:-4611686018427387904≤t.sum∧t.sum≤4611686018427387903) :
    Calls Tryz.prog 121 #[(sb g 0 n cap),u] W (fun e w' => ∃ v' xs',e = .returned v'∧w'.ownsRow 0 106 3 v' (jq l t).length xs'∧fQ 3 h8 rd xs' (jq l t)∧(∀ g',v'.ownBlock=some g'→g'=g∨W.heap.size≤g')∧jj [g] W w'):=by
 obtain⟨E,rfl,h2⟩:=h2;have F:E=[ni t.key,ni t.author,ni t.sum]:=h2;subst F;have P:=il;have S:St [g] W rd rd [(g,106,cur)] [] W:=St.startX hle (by intro p B;simp only [List.mem_cons,List.not_mem_nil,or_false] at B;rcases B with rfl <;> first | exact⟨by simp,hg,hrd⟩) (by simp);refine io (args:=[sb g 0 n cap,.agg #[ni t.key,ni t.author,ni t.sum]]) 54 Tryz.func121 rfl rfl rfl ?_;refine er (ix (u:=.agg #[ni t.key,ni t.author,ni t.sum]) (cs:=#[ni t.key,ni t.author,ni t.sum]) S rfl rfl fun f _ S=>ly sn S Ya (ln (er (ly (sb g 0 n cap) S Ym (ly (.agg #[ni t.key,ni t.author,ni t.sum]) S (gf 1 kX) ?_)))));refine g7 (g4 (vs:=[sb g 0 n cap,.agg #[ni t.key,ni t.author,ni t.sum],.func (.func 87) #[] #[]]) (CF 130 _) rfl rfl) (xH (fX _) _ fZ _ _ l t (S.boxSl (i:=0) rfl hn hcap hm (u2 hr)) (am (⟨_,rfl,rfl⟩:fW h8 rd _ t) S.le) (by omega) hmono) ?_;rintro e _ ⟨i,G,rfl,d,h,m,H,C,I⟩;have S:=S.callq I
 cases G
 ·
  refine g9 (ly (.tuple #[ni (i:Int),.bool false]) S Ym (ly (ni (i:Int)) S Ye (ly (.bool false) S Ye (ly (ni (i:Int)) S Ya (ly (.bool false) S Ya (ln (fJ (go (fJ ?_)))))))));refine jZ MX (by kernel_rfl) S.drew ?_;refine qy (.bool false) Ym (qy (.bool false) Ym (qs 15 (qs 15 (qs 15 (qs 15 (qs 15 (qs 15 (qs 15 (qs 15 (qs 15 (qy (.bool false) Yf (qy (.bool false) Ya (ig fun _ S=>fM (fV rfl ?_))))))))))))));refine er (ly (.bool false) S Ym (ly (.bool false) S Ya (ln (fV rfl (er (ly (pa f 2) S (Yb nu) (ly (ni t.sum) S (fI 1 T3) ?_)))))));by_cases q:t.sum=0
  ·
   refine ly (.bool true) S (iw rfl rfl q) (ly (.bool true) S Ya (ln (fS rfl (er (ly (sb g 0 n cap) S Ym (ly (sb g 0 n cap) S Ya (ln (fR ?_))))))));refine g3 (v:=sb g 0 n cap) rfl rfl ?_;have S:=S.boxOwn2 (i:=0) rfl 3 n cap _ hcs hcap rfl hm;exact tY S hr (DA d h m (C rfl) q) hn
  refine ly (.bool false) S (i5 rfl rfl q) (ly (.bool false) S Ya (ln (fV rfl (g1 (gA (fM (er (ly (sb g 0 n cap) S Ym (ly (ni (i:Int)) S Ym (ly (.agg #[ni t.key,ni t.author,ni t.sum]) S (gf 1 kX) (iZ (ps:=[(0,.agg #[ni t.key,ni t.author,ni t.sum])]) (cs:=#[ni t.key,ni t.author,ni t.sum]) S iK jf nl rfl rfl rfl (by kernel_rfl) fun x _ S => ?_)))))))))));have J:g ≠ x:=(oK S (i:=0) (j:=2) rfl rfl (by decide)).symm;refine g7 (g4 (vs:=[sb g 0 n cap,ni (i:Int),sb x 0 1 1]) (CF 132 _) rfl rfl) (zB _ g x n cap i cur #[ni t.key,ni t.author,ni t.sum] (S.box _ (List.mem_of_getElem? (i:=0) rfl)).2.1 (S.box _ (List.mem_of_getElem? (i:=2) rfl)).2.1 J hcs rfl (hr.one_ i9.one) rfl hcap hm (by omega) (by omega) hby) ?_;rintro e _ ⟨v',rfl,K,L,A⟩;have S:=S.boxMut (i:=0) (j:=2) (q':=⟨106,3,v',n+1,_⟩) rfl rfl (by decide) A K L;refine g9 (ly v' S Ya (ln (fR ?_)));refine g3 (v:=v') rfl rfl ?_;exact tY S (AZ hr d hn) (EL d h m (C rfl) q) (by simp;omega)
 refine g9 (ly (.tuple #[ni (i:Int),.bool true]) S Ym (ly (ni (i:Int)) S Ye (ly (.bool true) S Ye (ly (ni (i:Int)) S Ya (ly (.bool true) S Ya (ln (fJ (go (fJ ?_)))))))));refine jZ MX (by kernel_rfl) S.drew ?_;refine qy (.bool true) Ym (qy (.bool true) Ym (qg 15 (sb g 0 n cap) Ym (qg 15 (ni (i:Int)) Ym ?_)));obtain⟨z,c,D⟩:=H rfl;have Q:=(List.getElem?_eq_some_iff.1 c).1;obtain⟨_,_,zr,zc⟩:=xz hr c;cases zr;have R:=hs z (List.mem_of_getElem? c);refine qg 15 (pa g (i * 3)) (j9 (k:=i) iK jf (by omega) (Nat.zero_add _) rfl rfl (by first | rfl | omega)) (qg 15 (pa g (i * 3+2)) (Yb nu) (qg 15 (ni z.sum) (gG rfl (fun w S=>zG (i:=0) S rfl T3 (zc 2 _ rfl))) (qg 15 (pa f 2) (Yb nu) (qg 15 (ni t.sum) (fI 1 T3) (qg 15 (ni (z.sum+t.sum)) (gw (r:=z.sum+t.sum) rfl rfl (gl (by omega) (by omega))) ?_)))));by_cases s:z.sum+t.sum=0
 ·
  refine qg 15 (.bool true) (iw rfl rfl s) (qy (.bool true) Yt (qy (.bool true) Ya (ig fun _ S=>fM (fS rfl (er (ly (sb g 0 n cap) S Ym (ly (ni (i:Int)) S Ym (ly (ni (i:Int)) S Ym (ly (ni ((i:Int)+1)) S (gw (r:=(i:Int)+1) rfl rfl (gl (by omega) (by omega))) ?_)))))))));refine g7 (g4 (vs:=[sb g 0 n cap,ni (i:Int),ni ((i:Int)+1)]) (CF 131 _) rfl rfl) (Bp rd _ S.le g n cap cur l (S.box _ (List.mem_of_getElem? (i:=0) rfl)).2.1 (S.box _ (List.mem_of_getElem? (i:=0) rfl)).2.2 hcs (u2 hr) hn hcap hm i (by omega)) ?_;rintro e _ ⟨_,rfl,M,N,O,A⟩;have S:=S.boxCall (i:=0) rfl A M;refine g9 (ly (sb g 0 (n - 1) cap) S Ya (ln (fR ?_)));refine g3 (v:=sb g 0 (n - 1) cap) rfl rfl ?_;have S:=S.boxOwn2 (i:=0) rfl 3 (n - 1) cap _ N (by omega) rfl hm;exact tY S O (DI d h m c D s) (by rw [List.length_eraseIdx];split <;> omega)
 refine qg 15 (.bool false) (i5 rfl rfl s) (qy (.bool false) Yt (qy (.bool false) Ya (ig fun _ S=>fM (fV rfl (er (ly (.bool true) S Ym (ly (.bool true) S Ya (ln (fS rfl (fJ ?_))))))))));refine iV (fun w=>St [g] W rd rd [(f,106,#[ni t.key,ni t.author,ni t.sum])] [] w) MX rfl ?_;have S:=S.drew;have T:=S.sup;have SC:=((S.tt 2 0).del 0);refine tk (sb g 0 n cap) 0 rfl rfl SC Ym (tk (ni (i:Int)) 1 rfl rfl SC Ym (tk (pa g (i * 3)) 2 rfl rfl SC (j9 (k:=i) iK jf (by omega) (Nat.zero_add _) rfl rfl (by first | rfl | omega)) (tk (pa g (i * 3+2)) 3 rfl rfl SC (Yb nu) (tk (pa f 2) 5 rfl rfl SC (Yb nu) (tk (ni t.sum) 6 rfl rfl SC (fI 0 T3) ?_)))));refine aO 4 rfl (by kernel_rfl) (ly (ni z.sum) S (gG rfl (fun w S=>zG (i:=0) S rfl T3 (zc 2 _ rfl))) (fL ?_));have SC:=((S.tt 2 0).del 0);refine fK (ak SC ?_);refine tk (ni (z.sum+t.sum)) 7 rfl rfl SC (gw (r:=z.sum+t.sum) rfl rfl (gl (by omega) (by omega))) (tk (pa g (i * 3)) 8 rfl rfl SC (j9 (k:=i) iK jf (by omega) (Nat.zero_add _) rfl rfl (by first | rfl | omega)) (tk (pa g (i * 3+2)) 9 rfl rfl SC (Yb nu) ?_));refine aO 10 rfl (by kernel_rfl) (zD (u:=ni (z.sum+t.sum)) (i:=0) S rfl rfl rfl iX (by show i * 3+2+1≤_;omega) rfl fun _ S=>fL ?_)
 have SC:=((S.tt 2 0).del 0);refine fK (ak SC ?_);refine gE (by kernel_rfl) ?_;refine fM (er (ly (sb g 0 n cap) S Ym (ly (sb g 0 n cap) S Ya (ln (fR ?_)))));refine g3 (v:=sb g 0 n cap) rfl rfl ?_;have S:=S.boxOwn2 (i:=0) rfl 3 n cap _ (by rw [nA (by show _+1≤_;omega)];exact hcs) hcap rfl hm;exact tY S (BP hr hcs hcap hn c zc) (BJ d h m c D s) (by rw [List.length_set];exact hn)
theorem D7(rd:Rd)(W:World)(hle:Rd.le rd (fX W))(u:Value)(t:Tally)(h2:fW h8 rd u t) :
    Calls Tryz.prog 121 #[(sn),u] W (fun e w' => ∃ v' xs',e = .returned v'∧w'.ownsRow 0 106 3 v' (jq [] t).length xs'∧fQ 3 h8 rd xs' (jq [] t)∧(∀ g',v'.ownBlock=some g'→False∨W.heap.size≤g')∧jj [] W w'):=by
 obtain⟨f,rfl,h2⟩:=h2;have g:f=[ni t.key,ni t.author,ni t.sum]:=h2;subst g;have w:=il;have S:St [] W rd rd [] [] W:=St.start hle;refine io (args:=[sn,.agg #[ni t.key,ni t.author,ni t.sum]]) 54 Tryz.func121 rfl rfl rfl ?_;refine er (ix (u:=.agg #[ni t.key,ni t.author,ni t.sum]) (cs:=#[ni t.key,ni t.author,ni t.sum]) S rfl rfl fun j _ S=>ly sn S Ya (ln (er (ly sn S Ym (ly (.agg #[ni t.key,ni t.author,ni t.sum]) S (gf 0 kX) ?_)))));refine g7 (g4 (vs:=[sn,.agg #[ni t.key,ni t.author,ni t.sum],.func (.func 87) #[] #[]]) (CF 130 _) rfl rfl) (xH (fX _) _ fZ _ _ ([]:List Tally) t fU (am (⟨_,rfl,rfl⟩:fW h8 rd _ t) S.le) (by simp) (fun a b y z _ h=>by(cases h))) ?_;rintro e _ ⟨i,l,rfl,m,_,_,n,_,o⟩;have S:=S.callq o;obtain rfl:i=0:=by simpa using m
 cases l
 ·
  refine g9 (ly (.tuple #[ni 0,.bool false]) S Ym (ly (ni 0) S Ye (ly (.bool false) S Ye (ly (ni 0) S Ya (ly (.bool false) S Ya (ln (fJ (go (fJ ?_)))))))));refine jZ MX (by kernel_rfl) S.drew ?_;refine qy (.bool false) Ym (qy (.bool false) Ym (qs 15 (qs 15 (qs 15 (qs 15 (qs 15 (qs 15 (qs 15 (qs 15 (qs 15 (qy (.bool false) Yf (qy (.bool false) Ya (ig fun _ S=>fM (fV rfl ?_))))))))))))));refine er (ly (.bool false) S Ym (ly (.bool false) S Ya (ln (fV rfl (er (ly (pa j 2) S (Yb nu) (ly (ni t.sum) S (fI 0 T3) ?_)))))));by_cases c:t.sum=0
  ·
   refine ly (.bool true) S (iw rfl rfl c) (ly (.bool true) S Ya (ln (fS rfl (er (ly sn S Ym (ly sn S Ya (ln (fR ?_))))))));refine g3 (v:=sn) rfl rfl ?_;exact⟨_,[],rfl,by(unfold jq;simpa [c] using World.ownsRow_nil _ 0 106 3),by(unfold jq;simp [c];rfl),fun g' k=>by(cases k),S.fr⟩
  refine ly (.bool false) S (i5 rfl rfl c) (ly (.bool false) S Ya (ln (fV rfl (g1 (gA (fM (er (ly sn S Ym (ly (ni 0) S Ym (ly (.agg #[ni t.key,ni t.author,ni t.sum]) S (gf 0 kX) (iZ (ps:=[(0,.agg #[ni t.key,ni t.author,ni t.sum])]) (cs:=#[ni t.key,ni t.author,ni t.sum]) S iK jf nl rfl rfl rfl (by kernel_rfl) fun d _ S => ?_)))))))))));refine g7 (g4 (vs:=[sn,ni 0,sb d 0 1 1]) (CF 132 _) rfl rfl) (yn _ d #[ni t.key,ni t.author,ni t.sum] (S.box _ (List.mem_of_getElem? (i:=1) rfl)).2.1 rfl rfl) ?_;rintro e _ ⟨v',rfl,p,q,r⟩;have S:=S.box1Mut (i:=1) (q':=⟨106,3,v',0+1,_⟩) rfl r p q;refine g9 (ly v' S Ya (ln (fR ?_)));refine g3 (v:=v') rfl rfl ?_;exact EG S (L:=[t]) ⟨_,[],rfl,rfl,rfl,rfl⟩ (by unfold jq iz;simp [c]) rfl
 exfalso;obtain⟨z,s,_⟩:=n rfl;simp at s
theorem Ew(rd:Rd)(W:World)(hle:Rd.le rd (fX W))(v:Value)(n:Nat)(xs:List Value)(l:List Tally)(u:Value)(t:Tally)(hv:W.ownsRow 0 106 3 v n xs)(hrd:∀ g,v.ownBlock=some g → ∀ o,rd g o=none)(hr:fQ 3 h8 rd xs l)(hn:n=l.length)(h2:fW h8 rd u t)(hby:(n+1) * 24≤140737488355328)(hmono:∀ (a b:Nat) y z,a≤b→l[a]? = some y→l[b]? = some z→gY z t<0→gY y t<0)(hs:∀ z∈l,-4611686018427387904≤z.sum∧z.sum≤4611686018427387903)(ht:-4611686018427387904≤t.sum∧t.sum≤4611686018427387903) :
  Calls Tryz.prog 121 #[v,u] W fun e w' => ∃ v' xs',e = .returned v'∧w'.ownsRow 0 106 3 v' (jq l t).length xs'∧fQ 3 h8 rd xs' (jq l t)∧(∀ g',v'.ownBlock=some g'→v.ownBlock=some g'∨W.heap.size≤g')∧jj v.ownBlock.toList W w':=by
 rcases hv.2 with⟨rfl,rfl⟩ | ⟨g,cap,cur,rfl,_,hg,hc,hm,hsz,rfl⟩
 ·have m:l=[]:=List.eq_nil_of_length_eq_zero hn.symm
  subst m
  exact(D7 rd W hle u t h2).mono fun e w' ⟨v',xs',c,d,f,i,j⟩=>⟨v',xs',c,d,f,fun g' k=>(i g' k).elim (fun h=>h.elim) .inr,j⟩
 ·exact(AM rd W hle g n cap cur l u t hg (hrd g rfl) hsz hr hn hc hm h2 hby hmono hs ht).mono fun e w' ⟨v',xs',c,d,f,i,j⟩=>⟨v',xs',c,d,f,fun g' k=>(i g' k).imp (fun h=>by rw [h];rfl) id,j⟩
theorem vD(rd:Rd)(W:World)(hle:Rd.le rd (fX W))(v ps pu sv:Value)(x:ga)(set:Bool)(u:fH)(h:fW gB rd v x)(hps:j2 rd ps [.bool set])(hpu:j2 rd pu [.int .i64 u.author,sv,.int .i64 u.kind,.int .i64 u.key,.int .i64 u.item])(hsv:fN 1 ge rd sv u.seen) :
    Calls Tryz.prog 118 #[v,ps,pu] W (fun e w'=>e = .returned (.bool (ie set u x))∧Below W.heap.size W w'):=by
 obtain⟨l,rfl,h⟩:=h;have m:l=[.bool x.set,ni x.key,ni x.item,ni x.author,ni x.seq]:=h;subst m;obtain⟨b,c,rfl,_,_⟩:=hsv.val;have F:=il;have S:St [] W rd rd [] [] W:=St.start hle;refine io (args:=[.agg (kL x),ps,pu]) 36 Tryz.func118 rfl rfl rfl ?_;refine er (ix (u:=.agg (kL x)) (cs:=(kL x)) S rfl rfl fun a _ S=>ly (.bool false) S Ya (ln (er (ly (pa a 0) S (Yb n3) ?_))))
 rcases Bool.eq_false_or_eq_true x.set with g | g
 ·
  refine ly (.bool true) S (jA (fI 0 T4) g) ?_
  rcases Bool.eq_false_or_eq_true set with d | d
  ·
   refine ly (.bool true) S (jA (iE hps T4) d) (ly (.bool true) S (pV U4 rfl rfl rfl) (ly (.bool true) S Ym (lg 9 (pa a 1) S (Yb mu) (lg 9 (ni x.key) S (fI 0 T3) ?_))));obtain⟨n,o,p⟩:=jB (us:=[ni u.key,ni u.item]) nH hpu rfl;refine lg 9 n S (p rfl) (lg 9 (ni u.key) S (iE o T3) ?_);by_cases i:x.key=u.key
   ·
    refine lg 9 (.bool true) S (iw rfl rfl i) (ly (.bool true) S Yt (ly (.bool true) S Ym (lg 16 (.bool true) S (jA (iE hps T4) d) (lg 16 (.bool false) S (iH rfl rfl) (lg 16 (.bool false) S Ym (lg 19 (pa a 2) S (Yb mJ) (lg 19 (ni x.item) S (fI 0 T3) ?_)))))));obtain⟨q,r,s⟩:=jB (us:=[ni u.item]) nv hpu rfl;refine lg 19 q S (s rfl) (lg 19 (ni u.item) S (iE r T3) ?_);by_cases j:x.item=u.item
    ·
     refine lg 19 (.bool true) S (iw rfl rfl j) (lg 16 (.bool true) S Yf (ly (.bool true) S Yt (ly (.bool true) S Ym ?_)));obtain⟨t,w,y⟩:=jB (us:=[sc b u.seen.length c,ni u.kind,ni u.key,ni u.item]) mY hpu rfl;refine lg 27 t S (y rfl) (lg 27 (sc b u.seen.length c) S (iE w gL) (lg 27 (pa a 3) S (Yb ld) (lg 27 (ni x.author) S (fI 0 T3) (lg 27 (pa a 4) S (Yb lZ) (lg 27 (ni x.seq) S (fI 0 T3) ?_)))));refine lj (d':=27) (g4 (vs:=[sc b u.seen.length c,ni x.author,ni x.seq]) (CF 83 _) rfl rfl) rfl rfl (rD _ _ _ _ _ (fm hsv S.le)) ?_;rintro e _ ⟨rfl,rfl⟩
     cases G:kK u.seen x.author x.seq
     ·
      refine g9 (ly (.bool false) S Yt (ly (.bool false) S Ya (ln (fR ?_))));refine g3 (v:=.bool false) rfl rfl ?_;exact⟨im (by unfold ie;simp_all),S.below⟩
     refine g9 (ly (.bool true) S Yt (ly (.bool true) S Ya (ln (fR ?_))));refine g3 (v:=.bool true) rfl rfl ?_;exact⟨im (by unfold ie;simp_all),S.below⟩
    refine lg 19 (.bool false) S (i5 rfl rfl j) (lg 16 (.bool false) S Yf (ly (.bool false) S Yt (ly (.bool false) S Ym (ls 27 (ls 27 (ls 27 (ls 27 (ls 27 (ls 27 (ls 27 (ly (.bool false) S Yf (ly (.bool false) S Ya (ln (fR ?_))))))))))))));refine g3 (v:=.bool false) rfl rfl ?_;exact⟨im (by unfold ie;simp_all),S.below⟩
   refine lg 9 (.bool false) S (i5 rfl rfl i) (ly (.bool false) S Yt (ly (.bool false) S Ym (ls 16 (ls 16 (ls 16 (kB (d':=19) rfl rfl (kB (d':=19) rfl rfl (kB (d':=19) rfl rfl (kB (d':=19) rfl rfl (kB (d':=19) rfl rfl (ls 16 (ly (.bool false) S Yf (ly (.bool false) S Ym (ls 27 (ls 27 ?_)))))))))))))));refine ls 27 (ls 27 (ls 27 (ls 27 (ls 27 (ly (.bool false) S Yf (ly (.bool false) S Ya (ln (fR ?_))))))));refine g3 (v:=.bool false) rfl rfl ?_;exact⟨im (by unfold ie;simp_all),S.below⟩
  refine ly (.bool false) S (jA (iE hps T4) d) (ly (.bool false) S (pV U4 rfl rfl rfl) (ly (.bool false) S Ym (ls 9 (ls 9 (ls 9 (ls 9 (ls 9 (ly (.bool false) S Yf (ly (.bool false) S Ym (ls 16 (ls 16 (ls 16 (kB (d':=19) rfl rfl (kB (d':=19) rfl rfl (kB (d':=19) rfl rfl ?_)))))))))))))));refine kB (d':=19) rfl rfl (kB (d':=19) rfl rfl (ls 16 (ly (.bool false) S Yf (ly (.bool false) S Ym (ls 27 (ls 27 (ls 27 (ls 27 (ls 27 (ls 27 (ls 27 (ly (.bool false) S Yf (ly (.bool false) S Ya (ln ?_))))))))))))));refine fR (g3 (v:=.bool false) rfl rfl ?_);exact⟨im (by unfold ie;simp_all),S.below⟩
 refine ly (.bool false) S (jA (fI 0 T4) g) ?_
 rcases Bool.eq_false_or_eq_true set with f | f
 ·
  refine ly (.bool true) S (jA (iE hps T4) f) (ly (.bool false) S (pV U4 rfl rfl rfl) (ly (.bool false) S Ym (ls 9 (ls 9 (ls 9 (ls 9 (ls 9 (ly (.bool false) S Yf (ly (.bool false) S Ym (ls 16 (ls 16 (ls 16 (kB (d':=19) rfl rfl (kB (d':=19) rfl rfl (kB (d':=19) rfl rfl ?_)))))))))))))));refine kB (d':=19) rfl rfl (kB (d':=19) rfl rfl (ls 16 (ly (.bool false) S Yf (ly (.bool false) S Ym (ls 27 (ls 27 (ls 27 (ls 27 (ls 27 (ls 27 (ls 27 (ly (.bool false) S Yf (ly (.bool false) S Ya (ln ?_))))))))))))));refine fR (g3 (v:=.bool false) rfl rfl ?_);exact⟨im (by unfold ie;simp_all),S.below⟩
 refine ly (.bool false) S (jA (iE hps T4) f) (ly (.bool true) S (pV U4 rfl rfl rfl) (ly (.bool true) S Ym (lg 9 (pa a 1) S (Yb mu) (lg 9 (ni x.key) S (fI 0 T3) ?_))));obtain⟨z,A,B⟩:=jB (us:=[ni u.key,ni u.item]) nH hpu rfl;refine lg 9 z S (B rfl) (lg 9 (ni u.key) S (iE A T3) ?_);by_cases k:x.key=u.key
 ·
  refine lg 9 (.bool true) S (iw rfl rfl k) (ly (.bool true) S Yt (ly (.bool true) S Ym (lg 16 (.bool false) S (jA (iE hps T4) f) (lg 16 (.bool true) S (iH rfl rfl) (lg 16 (.bool true) S Ym (ls 19 (ls 19 (ls 19 (ls 19 (ls 19 (lg 16 (.bool true) S Yt (ly (.bool true) S Yt (ly (.bool true) S Ym ?_)))))))))))));obtain⟨C,D,E⟩:=jB (us:=[sc b u.seen.length c,ni u.kind,ni u.key,ni u.item]) mY hpu rfl;refine lg 27 C S (E rfl) (lg 27 (sc b u.seen.length c) S (iE D gL) (lg 27 (pa a 3) S (Yb ld) (lg 27 (ni x.author) S (fI 0 T3) (lg 27 (pa a 4) S (Yb lZ) (lg 27 (ni x.seq) S (fI 0 T3) ?_)))));refine lj (d':=27) (g4 (vs:=[sc b u.seen.length c,ni x.author,ni x.seq]) (CF 83 _) rfl rfl) rfl rfl (rD _ _ _ _ _ (fm hsv S.le)) ?_;rintro e _ ⟨rfl,rfl⟩
  cases H:kK u.seen x.author x.seq
  ·
   refine g9 (ly (.bool false) S Yt (ly (.bool false) S Ya (ln (fR ?_))));refine g3 (v:=.bool false) rfl rfl ?_;exact⟨im (by unfold ie;simp_all),S.below⟩
  refine g9 (ly (.bool true) S Yt (ly (.bool true) S Ya (ln (fR ?_))));refine g3 (v:=.bool true) rfl rfl ?_;exact⟨im (by unfold ie;simp_all),S.below⟩
 refine lg 9 (.bool false) S (i5 rfl rfl k) (ly (.bool false) S Yt (ly (.bool false) S Ym (ls 16 (ls 16 (ls 16 (kB (d':=19) rfl rfl (kB (d':=19) rfl rfl (kB (d':=19) rfl rfl (kB (d':=19) rfl rfl (kB (d':=19) rfl rfl (ls 16 (ly (.bool false) S Yf (ly (.bool false) S Ym (ls 27 (ls 27 ?_)))))))))))))));refine ls 27 (ls 27 (ls 27 (ls 27 (ls 27 (ly (.bool false) S Yf (ly (.bool false) S Ya (ln (fR ?_))))))));refine g3 (v:=.bool false) rfl rfl ?_;exact⟨im (by unfold ie;simp_all),S.below⟩
theorem pZ{B:Nat}{w:World}{q:h7}(h:w.ownsRow B q.e q.size q.v q.n q.xs):me B w [q]:=⟨fun p hp=>by obtain rfl:=List.mem_singleton.1 hp;exact h,List.pairwise_singleton _ _⟩
theorem sG{α:Type}{size:Nat}{R:CR α}{rd:Rd}{A:Option Addr}{n c:Nat}{l:List α}(h:fN size R rd (.slice A n c) l)(ha:A.isNone=true):l=[]:=by
 cases A with
 | none=>exact h.nil_of
 | some a=>cases ha
theorem zJ(rd:Rd)(W:World)(hle:Rd.le rd (fX W))(v:Value)(l:List Int)(h:fN 1 ge rd v l)(hb:l.length * 8≤140737488355328) :
    Calls Tryz.prog 45 #[v] W (fun e w' => ∃ v' xs,e = .returned v'∧me W.heap.size w' [⟨3,1,v',l.length,xs⟩]∧fQ 1 ge rd xs l∧Below W.heap.size W w'):=by
 obtain⟨a,d,rfl,_,_⟩:=h.val;have p:=il;have S:St [] W rd rd [] [] W:=St.start hle;refine io (args:=[sc a l.length d]) 8 Tryz.func45 rfl rfl rfl ?_;refine er (ly sn S Ya (ln (fJ (er (ly (sc a l.length d) S Ym ?_)))))
 rcases Bool.eq_false_or_eq_true (a).isNone with b | b
 ·
  have g:=sG h b;refine ly (.bool true) S (pF jH rfl rfl b) (ln (fS rfl (er (ly sn S Ya (ln (fR ?_))))));refine g3 (v:=sn) rfl rfl ?_;exact⟨_,[],rfl,g ▸ pZ (World.ownsRow_nil _ _ _ _),g ▸ rfl,S.below⟩
 skip
 refine ly (.bool false) S (pF jH rfl rfl b) (ln (fV rfl (g1 (fM (er (nn S jH iX fun _ _ S=>ly (sc a l.length d) S Ym ?_))))));have S:=S.boxOwn (i:=0) rfl 1 0 0 rfl rfl (by simp [maxLen]);have f:fQ 1 ge rd [] []:=rfl;refine mP (i:=0) S pB jH i9.one rfl rfl rfl rfl h (by simp only [maxLen];omega) (by first | omega | (dsimp only;omega)) fun m _ _ n S => ?_
 have f:=fQ.append f n;obtain⟨j,k,o,_,_⟩:∃ A c,m = .slice A (0+l.length) c∧(0+l.length)≤c∧c≤maxLen:=i8 S (i:=0) rfl;subst o;refine ly (sc j (0+l.length) k) S Ya (ln (fR ?_));refine g3 (v:=sc j (0+l.length) k) rfl rfl ?_;exact⟨_,_,rfl,pZ (by simpa using S.ownB (i:=0) rfl),by simpa using f,S.below⟩
theorem Ep(rd:Rd)(W:World)(hle:Rd.le rd (fX W))(v:Value)(l:List ga)(h:fN 5 gB rd v l)(hb:l.length * 40≤140737488355328) :
    Calls Tryz.prog 100 #[v] W (fun e w' => ∃ v' xs,e = .returned v'∧me W.heap.size w' [⟨104,5,v',l.length,xs⟩]∧fQ 5 gB rd xs l∧Below W.heap.size W w'):=by
 obtain⟨a,d,rfl,_,_⟩:=h.val;have p:=il;have S:St [] W rd rd [] [] W:=St.start hle;refine io (args:=[sc a l.length d]) 8 Tryz.func100 rfl rfl rfl ?_;refine er (ly sn S Ya (ln (fJ (er (ly (sc a l.length d) S Ym ?_)))))
 rcases Bool.eq_false_or_eq_true (a).isNone with b | b
 ·
  have g:=sG h b;refine ly (.bool true) S (pF iD rfl rfl b) (ln (fS rfl (er (ly sn S Ya (ln (fR ?_))))));refine g3 (v:=sn) rfl rfl ?_;exact⟨_,[],rfl,g ▸ pZ (World.ownsRow_nil _ _ _ _),g ▸ rfl,S.below⟩
 skip
 refine ly (.bool false) S (pF iD rfl rfl b) (ln (fV rfl (g1 (fM (er (nn S iD iY fun _ _ S=>ly (sc a l.length d) S Ym ?_))))));have S:=S.boxOwn (i:=0) rfl 5 0 0 rfl rfl (by simp [maxLen]);have f:fQ 5 gB rd [] []:=rfl;refine mP (i:=0) S og iD i9.one rfl rfl rfl rfl h (by simp only [maxLen];omega) (by first | omega | (dsimp only;omega)) fun m _ _ n S => ?_
 have f:=fQ.append f n;obtain⟨j,k,o,_,_⟩:∃ A c,m = .slice A (0+l.length) c∧(0+l.length)≤c∧c≤maxLen:=i8 S (i:=0) rfl;subst o;refine ly (sc j (0+l.length) k) S Ya (ln (fR ?_));refine g3 (v:=sc j (0+l.length) k) rfl rfl ?_;exact⟨_,_,rfl,pZ (by simpa using S.ownB (i:=0) rfl),by simpa using f,S.below⟩
theorem Bl(rd:Rd)(W:World)(hle:Rd.le rd (fX W))(v:Value)(l:List Tally)(h:fN 3 h8 rd v l)(hb:l.length * 24≤140737488355328) :
    Calls Tryz.prog 101 #[v] W (fun e w' => ∃ v' xs,e = .returned v'∧me W.heap.size w' [⟨106,3,v',l.length,xs⟩]∧fQ 3 h8 rd xs l∧Below W.heap.size W w'):=by
 obtain⟨a,d,rfl,_,_⟩:=h.val;have p:=il;have S:St [] W rd rd [] [] W:=St.start hle;refine io (args:=[sc a l.length d]) 8 Tryz.func101 rfl rfl rfl ?_;refine er (ly sn S Ya (ln (fJ (er (ly (sc a l.length d) S Ym ?_)))))
 rcases Bool.eq_false_or_eq_true (a).isNone with b | b
 ·
  have g:=sG h b;refine ly (.bool true) S (pF iK rfl rfl b) (ln (fS rfl (er (ly sn S Ya (ln (fR ?_))))));refine g3 (v:=sn) rfl rfl ?_;exact⟨_,[],rfl,g ▸ pZ (World.ownsRow_nil _ _ _ _),g ▸ rfl,S.below⟩
 skip
 refine ly (.bool false) S (pF iK rfl rfl b) (ln (fV rfl (g1 (fM (er (nn S iK jf fun _ _ S=>ly (sc a l.length d) S Ym ?_))))));have S:=S.boxOwn (i:=0) rfl 3 0 0 rfl rfl (by simp [maxLen]);have f:fQ 3 h8 rd [] []:=rfl;refine mP (i:=0) S oD iK i9.one rfl rfl rfl rfl h (by simp only [maxLen];omega) (by first | omega | (dsimp only;omega)) fun m _ _ n S => ?_
 have f:=fQ.append f n;obtain⟨j,k,o,_,_⟩:∃ A c,m = .slice A (0+l.length) c∧(0+l.length)≤c∧c≤maxLen:=i8 S (i:=0) rfl;subst o;refine ly (sc j (0+l.length) k) S Ya (ln (fR ?_));refine g3 (v:=sc j (0+l.length) k) rfl rfl ?_;exact⟨_,_,rfl,pZ (by simpa using S.ownB (i:=0) rfl),by simpa using f,S.below⟩
def mV(s:gt):Prop:=s.clock.length * 8≤140737488355328∧s.lives.length * 40≤140737488355328∧s.tallies.length * 24≤140737488355328
theorem qK(rd:Rd)(W:World)(hle:Rd.le rd (fX W))(v:Value)(s:gt)(h:fW iW rd v s)(hb:mV s) :
    Calls Tryz.prog 58 #[v] W (fun e w' => ∃ v1 v2 v3 x1 x2 x3,e = .returned (.agg #[v1,v2,v3])∧me W.heap.size w' [⟨3,1,v1,s.clock.length,x1⟩,⟨104,5,v2,s.lives.length,x2⟩,⟨106,3,v3,s.tallies.length,x3⟩]∧fQ 1 ge rd x1 s.clock∧fQ 5 gB rd x2 s.lives∧fQ 3 h8 rd x3 s.tallies∧Below W.heap.size W w'):=by
 obtain⟨_,rfl,h⟩:=h;obtain⟨a,b,f,g,j,k,rfl,y,z,B,_⟩:=h.d;have L:=il;obtain⟨_,_,_⟩:=hb;have S:St [] W rd rd [] [] W:=St.start hle;refine io (args:=[.agg (kS s a b f g j k)]) 13 Tryz.func58 rfl rfl rfl ?_;refine er (ix (u:=.agg (kS s a b f g j k)) (cs:=(kS s a b f g j k)) S rfl rfl fun x _ S=>gk (cs:=jX) S jP rfl fun _ _ S=>ln (fJ ?_));refine iV (fun w=>St [] W rd rd [(x,27,(kS s a b f g j k))] [] w) MX rfl ?_;have S:=S.drew;have M:=S.sup;have SC:=((S.tt 2 0).del 1);refine tk (pa x 0) 0 rfl rfl SC (Yb iO) (tk (sc a s.clock.length b) 1 rfl rfl SC (fI 0 gL) (tk (pa x 1) 3 rfl rfl SC (Yb jn) (tk (sc f s.lives.length g) 4 rfl rfl SC (fI 0 k7) (tk (pa x 2) 6 rfl rfl SC (Yb kQ) (tk (sc j s.tallies.length k) 7 rfl rfl SC (fI 0 lP) ?_)))));refine aO 2 rfl (by kernel_rfl) (g7 (g4 (vs:=[sc a s.clock.length b]) (CF 45 _) rfl rfl) (zJ _ _ S.le _ _ y (by omega)) ?_);rintro e _ ⟨C,_,rfl,r,D,t⟩;have S:=S.ownAddL t r;obtain⟨l,m,E,_,_⟩:∃ A c,C = .slice A s.clock.length c∧s.clock.length≤c∧c≤maxLen:=i8 S (i:=0) rfl;subst E;refine kn ?_;have SC:=((S.tt 2 0).del 1);refine fK (ak SC ?_);refine aO 5 rfl (by kernel_rfl) (g7 (g4 (vs:=[sc f s.lives.length g]) (CF 100 _) rfl rfl) (Ep _ _ S.le _ _ z (by omega)) ?_);rintro e _ ⟨F,_,rfl,r,G,t⟩;have S:=S.ownAddL t r;obtain⟨n,o,H,_,_⟩:∃ A c,F = .slice A s.lives.length c∧s.lives.length≤c∧c≤maxLen:=i8 S (i:=1) rfl;subst H;refine kn ?_;have SC:=((S.tt 2 0).del 1);refine fK (ak SC ?_);refine aO 8 rfl (by kernel_rfl) (g7 (g4 (vs:=[sc j s.tallies.length k]) (CF 101 _) rfl rfl) (Bl _ _ S.le _ _ B (by omega)) ?_);rintro e _ ⟨I,_,rfl,r,J,t⟩;have S:=S.ownAddL t r;obtain⟨p,q,K,_,_⟩:∃ A c,I = .slice A s.tallies.length c∧s.tallies.length≤c∧c≤maxLen:=i8 S (i:=2) rfl;subst K;refine kn ?_;have SC:=((S.tt 2 0).del 1);refine fK (ak SC ?_);refine tk (.agg (kS s l m n o p q)) 9 rfl rfl SC (gy (ps:=[(0,sc l s.clock.length m),(1,sc n s.lives.length o),(2,sc p s.tallies.length q)]) rfl (fun _=>by kernel_rfl)) (aO 10 rfl (by kernel_rfl) ?_);refine fT (u:=.agg (kS s l m n o p q)) (i:=1) (cs':=(kS s l m n o p q)) S rfl rfl rfl iM rfl rfl rfl fun _ S=>fL ?_
 have SC:=((S.tt 2 0).del 1);refine fK (ak SC ?_);refine gE (by kernel_rfl) ?_;refine fM (fR ?_);refine g3 (v:=.agg (kS s l m n o p q)) rfl ⟨_,rfl,gu (i:=1) (vs:=[sc l s.clock.length m,sc n s.lives.length o,sc p s.tallies.length q]) S rfl ir rfl rfl⟩ ?_;exact⟨_,_,_,_,_,_,rfl,S.ownsL,D,G,J,S.below⟩
end Go.Proofs.YtkjknlnhffmkkacGreat
