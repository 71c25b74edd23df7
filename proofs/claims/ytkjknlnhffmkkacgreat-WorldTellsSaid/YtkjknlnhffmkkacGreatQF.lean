/- Part of the proof of WorldTells: lemmas; no condition. -/
import Derived.Test.YtkjknlnhffmkkacGreatQE
import Derived.Test.YtkjknlnhffmkkacGreatQA
import Derived.Test.YtkjknlnhffmkkacGreatQC
import Derived.Test.YtkjknlnhffmkkacGreatQD
import Derived.Test.YtkjknlnhffmkkacGreatQB
set_option linter.unusedVariables false
set_option linter.unusedSimpArgs false
set_option maxRecDepth 100000
set_option maxHeartbeats 16000000
namespace Go.Proofs.YtkjknlnhffmkkacGreat
open Go.RowKit
theorem vF(rd:Rd)(W:World)(hle:Rd.le rd (fX W))(v:Value)(s:gt)(n:Int)(h:fW iW rd v s) :
    Calls Tryz.prog 48 #[v,(.int .i64 n)] W (fun e w'=>e = .returned (.agg #[.int .i64 (gj s n).1,.int .i64 (gj s n).2])∧Below W.heap.size W w'):=by
 obtain⟨_,rfl,h⟩:=h;obtain⟨y,A,B,C,q,t,rfl,I,N,G,_⟩:=h.d;have b0:=il;have S:St [] W rd rd [] [] W:=St.start hle;refine io (args:=[.agg (kS s y A B C q t),ni n]) 175 Tryz.func48 rfl rfl rfl ?_;refine er (ix (u:=.agg (kS s y A B C q t)) (cs:=(kS s y A B C q t)) S rfl rfl fun f _ S=>gk (cs:=mr) S mn rfl fun H _ S=>ln (fJ (er (ly (pa f 0) S (Yb iO) (ly (sc y s.clock.length A) S (fI 0 gL) (ly (ni n) S Ym ?_))))));refine g7 (g4 (vs:=[sc y s.clock.length A,ni n]) (CF 40 _) rfl rfl) (qo _ _ _ _ (fm I S.le)) ?_;rintro e _ ⟨rfl,rfl⟩;refine g9 (ly (ni (gb s.clock n)) S Ya (ln (er (ly (ni (gb s.clock n)) S Ym ?_))));by_cases c:gb s.clock n=0
 ·
  refine ly (.bool false) S (iT rfl rfl c) (ln (fV rfl (g1 (fM (fJ (er ?_))))));have ap:=i7 c;refine ly (pa f 1) S (Yb jn) (ly (sc B s.lives.length C) S (fI 0 k7) (ly (ni (s.lives.length:Int)) S (Yl iD) (ly (ni 0) S Ym (ln (go ?_)))));refine et [(1,ni n),(2,pa f 0),(4,pa H 0),(20,sc B s.lives.length C),(21,ni (s.lives.length:Int)),(22,ni (0:Int))] (fun m => ?_);refine j1 (fun(K:Nat) ov w=>match K with | k => ∃ rd' m,ov=[(1,ni n),(2,pa f 0),(4,pa H 0),(20,sc B s.lives.length C),(21,ni (s.lives.length:Int)),(22,ni (k:Int))]++m∧St [] W rd rd' [(f,27,(kS s y A B C q t)),(H,84,#[ni 0,ni 0])] [] w∧Rd.le rd rd'∧k≤s.lives.length∧mj s.clock n none s.lives 0=mj s.clock n (nh s.lives k) (s.lives.drop k) k) (fun K=>match K with | k=>s.lives.length - k) 0 ⟨_,m,rfl,(S.rw' rfl rfl),fZ,(by omega),rfl⟩ ?_;rintro k _ _ ⟨P,m,rfl,S,M,aq,j⟩;replace I:=fm I M;replace N:=fm N M;replace G:=fm G M;refine er ?_;by_cases Z:(k:Int)<(s.lives.length:Int)
  ·
   refine ly (.bool true) S (gJ rfl rfl Z) (ln (fJ (fS rfl (g1 (fM (fJ (go (er (ly (ni (k:Int)) S Ym ?_)))))))));obtain⟨b,g⟩:∃ z,(s.lives)[k]? = some z:=gX (by first | assumption | omega);obtain⟨ar,au,av,_,aw,ax⟩:=hD iD iY N g;have ay:au=[.bool b.set,ni b.key,ni b.item,ni b.author,ni b.seq]:=aw;subst ay;refine ly ar S (ax rfl rfl (by first | rfl | omega)) (ly (.agg (kL b)) S (jd av j6) (gk (cs:=nj) S lv rfl fun E _ S=>ly (ni (k:Int)) S Ya (fT (u:=.agg (kL b)) (i:=2) (cs':=(kL b)) S rfl rfl rfl iY rfl rfl rfl fun _ S=>ln (go (er (ly (pa E 3) S (Yb ld) (ly (ni b.author) S (fI 2 T3) ?_)))))));by_cases a0:b.author<0
   ·
    refine ly (.bool true) S (gJ rfl rfl a0) (ly (.bool true) S Ym (ls 31 (ls 31 (ls 31 (ls 31 (ly (.bool true) S Yt (ly (.bool true) S Ym (ls 37 (ls 37 (ls 37 (ly (.bool true) S Yt (ly (.bool true) S Ym (ls 42 (ls 42 (ls 42 ?_)))))))))))))));refine ly (.bool true) S Yt (ly (.bool true) S Ym (ls 47 (ls 47 (ls 47 (ly (.bool true) S Yt (ly (.bool true) S Ym (ls 52 (ls 52 (ls 52 (ly (.bool true) S Yt (ly (.bool true) S Ym (ls 57 (ls 57 (ls 57 (ly (.bool true) S Yt ?_)))))))))))))));refine ly (.bool true) S Ya (ln (fS rfl (er (ly (ni (k:Int)) S Ym (ly (.agg #[ni 3,ni (k:Int)]) S (gy (ps:=[(0,ni 3),(1,ni (k:Int))]) rfl (fun _=>by kernel_rfl)) (fT (u:=.agg #[ni 3,ni (k:Int)]) (i:=1) (cs':=#[ni 3,ni (k:Int)]) S rfl rfl rfl iS rfl rfl rfl fun _ S=>ln (fR ?_)))))));refine g3 (v:=.agg #[ni 3,ni (k:Int)]) rfl ⟨_,rfl,gu (i:=1) (vs:=[ni 3,ni (k:Int)]) S rfl jh rfl rfl⟩ ?_;refine⟨jI (mI c (j.trans ?_) (by simp)),S.below⟩;rw [lQ g];rw [if_pos (by omega)]
   refine ly (.bool false) S (gH rfl rfl a0) (ly (.bool false) S Ym (lg 31 (pa E 3) S (Yb ld) (lg 31 (ni b.author) S (fI 2 T3) (lg 31 (ni n) S Ym ?_))));by_cases a1:n≤b.author
   ·
    refine lg 31 (.bool true) S (jY rfl rfl a1) (ly (.bool true) S Yf (ly (.bool true) S Ym (ls 37 (ls 37 (ls 37 (ly (.bool true) S Yt (ly (.bool true) S Ym (ls 42 (ls 42 (ls 42 (ly (.bool true) S Yt (ly (.bool true) S Ym (ls 47 (ls 47 (ls 47 ?_)))))))))))))));refine ly (.bool true) S Yt (ly (.bool true) S Ym (ls 52 (ls 52 (ls 52 (ly (.bool true) S Yt (ly (.bool true) S Ym (ls 57 (ls 57 (ls 57 (ly (.bool true) S Yt (ly (.bool true) S Ya (ln (fS rfl (fJ ?_))))))))))))));refine gU (ly (ni (k:Int)) S Ym (ly (.agg #[ni 3,ni (k:Int)]) S (gy (ps:=[(0,ni 3),(1,ni (k:Int))]) rfl (fun _=>by kernel_rfl)) (fT (u:=.agg #[ni 3,ni (k:Int)]) (i:=1) (cs':=#[ni 3,ni (k:Int)]) S rfl rfl rfl iS rfl rfl rfl fun _ S=>ln (fR ?_))));refine g3 (v:=.agg #[ni 3,ni (k:Int)]) rfl ⟨_,rfl,gu (i:=1) (vs:=[ni 3,ni (k:Int)]) S rfl jh rfl rfl⟩ ?_;refine⟨jI (mI c (j.trans ?_) (by simp)),S.below⟩;rw [lQ g];rw [if_pos (by omega)]
   refine lg 31 (.bool false) S (k4 rfl rfl a1) (ly (.bool false) S Yf (ly (.bool false) S Ym (lg 37 (pa E 4) S (Yb lZ) (lg 37 (ni b.seq) S (fI 2 T3) ?_))));by_cases a2:b.seq<1
   ·
    refine lg 37 (.bool true) S (gJ rfl rfl a2) (ly (.bool true) S Yf (ly (.bool true) S Ym (ls 42 (ls 42 (ls 42 (ly (.bool true) S Yt (ly (.bool true) S Ym (ls 47 (ls 47 (ls 47 (ly (.bool true) S Yt (ly (.bool true) S Ym (ls 52 (ls 52 (ls 52 ?_)))))))))))))));refine ly (.bool true) S Yt (ly (.bool true) S Ym (ls 57 (ls 57 (ls 57 (ly (.bool true) S Yt (ly (.bool true) S Ya (ln (fS rfl (er (ly (ni (k:Int)) S Ym (ly (.agg #[ni 3,ni (k:Int)]) S (gy (ps:=[(0,ni 3),(1,ni (k:Int))]) rfl (fun _=>by kernel_rfl)) (fT (u:=.agg #[ni 3,ni (k:Int)]) (i:=1) (cs':=#[ni 3,ni (k:Int)]) S rfl rfl rfl iS rfl rfl rfl fun _ S=>fL ?_))))))))))));refine fM (fR ?_);refine g3 (v:=.agg #[ni 3,ni (k:Int)]) rfl ⟨_,rfl,gu (i:=1) (vs:=[ni 3,ni (k:Int)]) S rfl jh rfl rfl⟩ ?_;refine⟨jI (mI c (j.trans ?_) (by simp)),S.below⟩;rw [lQ g];rw [if_pos (by omega)]
   refine lg 37 (.bool false) S (gH rfl rfl a2) (ly (.bool false) S Yf (ly (.bool false) S Ym (lg 42 (pa E 1) S (Yb mu) (lg 42 (ni b.key) S (fI 2 T3) ?_))));by_cases a3:b.key<0
   ·
    refine lg 42 (.bool true) S (gJ rfl rfl a3) (ly (.bool true) S Yf (ly (.bool true) S Ym (ls 47 (ls 47 (ls 47 (ly (.bool true) S Yt (ly (.bool true) S Ym (ls 52 (ls 52 (ls 52 (ly (.bool true) S Yt (ly (.bool true) S Ym (ls 57 (ls 57 (ls 57 ?_)))))))))))))));refine ly (.bool true) S Yt (ly (.bool true) S Ya (ln (fS rfl (er (ly (ni (k:Int)) S Ym (ly (.agg #[ni 3,ni (k:Int)]) S (gy (ps:=[(0,ni 3),(1,ni (k:Int))]) rfl (fun _=>by kernel_rfl)) (fT (u:=.agg #[ni 3,ni (k:Int)]) (i:=1) (cs':=#[ni 3,ni (k:Int)]) S rfl rfl rfl iS rfl rfl rfl fun _ S=>ln (fR ?_))))))));refine g3 (v:=.agg #[ni 3,ni (k:Int)]) rfl ⟨_,rfl,gu (i:=1) (vs:=[ni 3,ni (k:Int)]) S rfl jh rfl rfl⟩ ?_;refine⟨jI (mI c (j.trans ?_) (by simp)),S.below⟩;rw [lQ g];rw [if_pos (by omega)]
   refine lg 42 (.bool false) S (gH rfl rfl a3) (ly (.bool false) S Yf (ly (.bool false) S Ym (lg 47 (pa E 1) S (Yb mu) (lg 47 (ni b.key) S (fI 2 T3) ?_))));by_cases a4:15<b.key
   ·
    refine lg 47 (.bool true) S (ko rfl rfl a4) (ly (.bool true) S Yf (ly (.bool true) S Ym (ls 52 (ls 52 (ls 52 (ly (.bool true) S Yt (ly (.bool true) S Ym (ls 57 (ls 57 (ls 57 (ly (.bool true) S Yt (ly (.bool true) S Ya (ln (fS rfl ?_))))))))))))));refine er (ly (ni (k:Int)) S Ym (ly (.agg #[ni 3,ni (k:Int)]) S (gy (ps:=[(0,ni 3),(1,ni (k:Int))]) rfl (fun _=>by kernel_rfl)) (fT (u:=.agg #[ni 3,ni (k:Int)]) (i:=1) (cs':=#[ni 3,ni (k:Int)]) S rfl rfl rfl iS rfl rfl rfl fun _ S=>ln (fR ?_))));refine g3 (v:=.agg #[ni 3,ni (k:Int)]) rfl ⟨_,rfl,gu (i:=1) (vs:=[ni 3,ni (k:Int)]) S rfl jh rfl rfl⟩ ?_;refine⟨jI (mI c (j.trans ?_) (by simp)),S.below⟩;rw [lQ g];rw [if_pos (by omega)]
   refine lg 47 (.bool false) S (kt rfl rfl a4) (ly (.bool false) S Yf (ly (.bool false) S Ym (lg 52 (pa E 2) S (Yb mJ) (lg 52 (ni b.item) S (fI 2 T3) ?_))));by_cases a5:b.item<(-1000)
   ·
    refine lg 52 (.bool true) S (gJ rfl rfl a5) (ly (.bool true) S Yf (ly (.bool true) S Ym (ls 57 (ls 57 (ls 57 (ly (.bool true) S Yt (ly (.bool true) S Ya (ln (fS rfl (er (ly (ni (k:Int)) S Ym (ly (.agg #[ni 3,ni (k:Int)]) S (gy (ps:=[(0,ni 3),(1,ni (k:Int))]) rfl (fun _=>by kernel_rfl)) (fT (u:=.agg #[ni 3,ni (k:Int)]) (i:=1) (cs':=#[ni 3,ni (k:Int)]) S rfl rfl rfl iS rfl rfl rfl fun _ S => ?_)))))))))))));refine ln (fR ?_);refine g3 (v:=.agg #[ni 3,ni (k:Int)]) rfl ⟨_,rfl,gu (i:=1) (vs:=[ni 3,ni (k:Int)]) S rfl jh rfl rfl⟩ ?_;refine⟨jI (mI c (j.trans ?_) (by simp)),S.below⟩;rw [lQ g];rw [if_pos (by omega)]
   refine lg 52 (.bool false) S (gH rfl rfl a5) (ly (.bool false) S Yf (ly (.bool false) S Ym (lg 57 (pa E 2) S (Yb mJ) (lg 57 (ni b.item) S (fI 2 T3) ?_))));by_cases a6:1000<b.item
   ·
    refine lg 57 (.bool true) S (ko rfl rfl a6) (ly (.bool true) S Yf (ly (.bool true) S Ya (ln (fS rfl (er (ly (ni (k:Int)) S Ym (ly (.agg #[ni 3,ni (k:Int)]) S (gy (ps:=[(0,ni 3),(1,ni (k:Int))]) rfl (fun _=>by kernel_rfl)) (fT (u:=.agg #[ni 3,ni (k:Int)]) (i:=1) (cs':=#[ni 3,ni (k:Int)]) S rfl rfl rfl iS rfl rfl rfl fun _ S=>ln (fR ?_)))))))));refine g3 (v:=.agg #[ni 3,ni (k:Int)]) rfl ⟨_,rfl,gu (i:=1) (vs:=[ni 3,ni (k:Int)]) S rfl jh rfl rfl⟩ ?_;refine⟨jI (mI c (j.trans ?_) (by simp)),S.below⟩;rw [lQ g];rw [if_pos (by omega)]
   refine lg 57 (.bool false) S (kt rfl rfl a6) (ly (.bool false) S Yf (ly (.bool false) S Ya (ln (fV rfl (fJ ?_)))));refine jZ MX (by kernel_rfl) S.drew ?_;refine qy (pa E 4) (Yb lZ) (qy (ni b.seq) (fI 2 T3) (qy (pa f 0) (Yb iO) (qy (sc y s.clock.length A) (fI 0 gL) (qy (pa E 3) (Yb ld) (qy (ni b.author) (fI 2 T3) ?_)))));obtain⟨Q,a7⟩:∃ z,(s.clock)[(b.author).toNat]? = some z:=gX (by first | assumption | omega);have az:=mi a7;obtain⟨aA,aB,aC,_,R,aD⟩:=hD jH iX I a7;have R:aB=[ni Q]:=R;subst R;refine qy aA (aD rfl rfl (by first | rfl | omega)) (qy (ni Q) (iE aC T3) ?_);by_cases a8:Q<b.seq
   ·
    refine qy (.bool true) (ko rfl rfl a8) (qy (.bool true) Ya (ig fun _ S=>fM (fS rfl (er (ly (ni (k:Int)) S Ym (ly (.agg #[ni 8,ni (k:Int)]) S (gy (ps:=[(0,ni 8),(1,ni (k:Int))]) rfl (fun _=>by kernel_rfl)) (fT (u:=.agg #[ni 8,ni (k:Int)]) (i:=1) (cs':=#[ni 8,ni (k:Int)]) S rfl rfl rfl iS rfl rfl rfl fun _ S=>ln (fR ?_))))))));refine g3 (v:=.agg #[ni 8,ni (k:Int)]) rfl ⟨_,rfl,gu (i:=1) (vs:=[ni 8,ni (k:Int)]) S rfl jh rfl rfl⟩ ?_;refine⟨jI (mI c (j.trans ?_) (by simp)),S.below⟩;rw [lQ g];rw [if_neg (by omega),if_pos (by omega)]
   refine qy (.bool false) (kt rfl rfl a8) (qy (.bool false) Ya (ig fun _ S=>fM (fV rfl (fJ ?_))));refine jZ MX (by kernel_rfl) S.drew ?_;refine qy (ni (k:Int)) Ym ?_;by_cases a9:0<(k:Int)
   ·
    refine qy (.bool true) (ko rfl rfl a9) (qy (.bool true) Ym (qg 79 (pa f 1) (Yb jn) (qg 79 (sc B s.lives.length C) (fI 0 k7) (qg 79 (ni (k:Int)) Ym (qg 79 (ni ((k:Int) - 1)) (qX (r:=(k:Int) - 1) rfl rfl (gl (by omega) (by omega))) ?_)))));obtain⟨D,T⟩:∃ z,(s.lives)[(k - 1)]? = some z:=gX (by first | assumption | omega);obtain⟨aE,aF,aG,_,aH,aI⟩:=hD iD iY N T;have aJ:aF=[.bool D.set,ni D.key,ni D.item,ni D.author,ni D.seq]:=aH;subst aJ;refine qg 79 aE (aI rfl rfl (by first | rfl | omega)) (qg 79 (.agg (kL D)) (jd aG j6) (qg 79 (.agg (kL b)) (gf 2 j6) ?_));refine nR (d':=79) (v:=ni (gQ D b)) (g4 (vs:=[.agg (kL D),.agg (kL b)]) (CF 86 _) rfl rfl) rfl rfl (fun w S=>(Order_c _ _ S.le _ _ _ _ (⟨_,rfl,rfl⟩:fW gB P _ D) (⟨_,rfl,rfl⟩:fW gB P _ b)).mono (by rintro e w' ⟨rfl,k⟩;exact⟨rfl,(S.callq k)⟩)) ?_;by_cases aa:0≤gQ D b
    ·
     refine qg 79 (.bool true) (jY rfl rfl aa) (qy (.bool true) Yt (qy (.bool true) Ya (ig fun _ S=>fM (fS rfl (er (ly (ni (k:Int)) S Ym (ly (.agg #[ni 2,ni (k:Int)]) S (gy (ps:=[(0,ni 2),(1,ni (k:Int))]) rfl (fun _=>by kernel_rfl)) (fT (u:=.agg #[ni 2,ni (k:Int)]) (i:=1) (cs':=#[ni 2,ni (k:Int)]) S rfl rfl rfl iS rfl rfl rfl fun _ S=>ln (fR ?_)))))))));refine g3 (v:=.agg #[ni 2,ni (k:Int)]) rfl ⟨_,rfl,gu (i:=1) (vs:=[ni 2,ni (k:Int)]) S rfl jh rfl rfl⟩ ?_;refine⟨jI (mI c (j.trans ?_) (by simp)),S.below⟩;rw [lQ g];rw [if_neg (by omega),if_neg (by omega),pq (by omega) T,if_pos (decide_eq_true (by omega))]
    refine qg 79 (.bool false) (k4 rfl rfl aa) (qy (.bool false) Yt (qy (.bool false) Ya (ig fun _ S=>fM (fV rfl (g1 (gA (gA (nr (ly (ni ((k:Int)+1)) S (gw (r:=(k:Int)+1) rfl rfl (gl (by omega) (by omega))) (ly (ni ((k:Int)+1)) S Ym (fL ?_)))))))))));refine fK ⟨(k+1),_,fk,⟨_,_,rfl,(S.tt 2 0),(fY M fZ),(by omega),(by rw [j,lQ g,if_neg (by omega),if_neg (by omega),pq (by omega) T,if_neg (by simp;omega),pJ,g])⟩,?_⟩
    show _<_;dsimp only;omega
   refine qy (.bool false) (kt rfl rfl a9) (qy (.bool false) Ym (qs 79 (qs 79 (qs 79 (qs 79 (qs 79 (qs 79 (qs 79 (qs 79 (qs 79 (qy (.bool false) Yf (qy (.bool false) Ya (ig fun _ S=>fM (fV rfl ?_))))))))))))));refine g1 (gA (gA (nr (ly (ni ((k:Int)+1)) S (gw (r:=(k:Int)+1) rfl rfl (gl (by omega) (by omega))) (ly (ni ((k:Int)+1)) S Ym (fL ?_))))));refine fK ⟨(k+1),_,fk,⟨_,_,rfl,(S.tt 2 0),(fY M fZ),(by omega),(by rw [j,lQ g,if_neg (by omega),if_neg (by omega),show nh s.lives k=none by unfold nh;rw [if_pos (by omega)],if_neg (by simp),pJ,g])⟩,?_⟩
   show _<_;dsimp only;omega
  refine ly (.bool false) S (gH rfl rfl Z) (ln (fJ (fV rfl (iP (iQ (j0 (iR (fM (fJ (er (ly (pa f 2) S (Yb kQ) (ly (sc q s.tallies.length t) S (fI 0 lP) (ly (ni (s.tallies.length:Int)) S (Yl iK) ?_)))))))))))));refine ly (ni 0) S Ym (ln (go ?_));have F:(mj s.clock n none s.lives 0).1=0:=by rw [j,wm (by omega)]
  clear j;refine et [(1,ni n),(2,pa f 0),(4,pa H 0),(94,sc q s.tallies.length t),(95,ni (s.tallies.length:Int)),(96,ni (0:Int))] (fun m => ?_);refine j1 (fun(K:Nat) ov w=>match K with | k => ∃ rd' m,ov=[(1,ni n),(2,pa f 0),(4,pa H 0),(94,sc q s.tallies.length t),(95,ni (s.tallies.length:Int)),(96,ni (k:Int))]++m∧St [] W rd rd' [(f,27,(kS s y A B C q t)),(H,84,#[ni 0,ni 0])] [] w∧Rd.le P rd'∧k≤s.tallies.length∧n7 s.clock n none s.tallies 0=n7 s.clock n (nh s.tallies k) (s.tallies.drop k) k) (fun K=>match K with | k=>s.tallies.length - k) 0 ⟨_,m,rfl,(S.rw' rfl rfl),fZ,(by omega),rfl⟩ ?_;rintro k _ _ ⟨aK,m,rfl,S,O,aq,x⟩;replace I:=fm I O;replace G:=fm G O;refine er ?_;by_cases ab:(k:Int)<(s.tallies.length:Int)
  ·
   refine ly (.bool true) S (gJ rfl rfl ab) (ln (fJ (fS rfl (g1 (fM (fJ (go (er (ly (ni (k:Int)) S Ym ?_)))))))));obtain⟨a,l⟩:∃ z,(s.tallies)[k]? = some z:=gX (by first | assumption | omega);obtain⟨ac,aL,aM,_,aN,aO⟩:=hD iK jf G l;have aP:aL=[ni a.key,ni a.author,ni a.sum]:=aN;subst aP;refine ly ac S (aO rfl rfl (by first | rfl | omega)) (ly (.agg #[ni a.key,ni a.author,ni a.sum]) S (jd aM kX) (gk (cs:=qb) S nl rfl fun o _ S=>ly (ni (k:Int)) S Ya (fT (u:=.agg #[ni a.key,ni a.author,ni a.sum]) (i:=2) (cs':=#[ni a.key,ni a.author,ni a.sum]) S rfl rfl rfl jf rfl rfl rfl fun _ S=>ln (er (ly (ni 0) S Ya (ln ?_))))));refine md (J:=fun ov w => ∃ (mx:Int),∃ rd' m,ov=[(1,ni n),(2,pa f 0),(4,pa H 0),(94,sc q s.tallies.length t),(95,ni (s.tallies.length:Int)),(96,ni (k:Int)),(97,.bool true),(98,ni (k:Int)),(99,ac),(100,.agg #[ni a.key,ni a.author,ni a.sum]),(9,pa o 0),(8,ni (k:Int)),(10,ni mx)]++m∧St [] W rd rd' [(f,27,(kS s y A B C q t)),(H,84,#[ni 0,ni 0]),(o,106,#[ni a.key,ni a.author,ni a.sum])] [] w∧Rd.le aK rd'∧mx=mh s.clock n a∧0≤mx∧mx≤100000000) ?_ ?_
   ·
    refine er (ly (pa o 1) S (Yb mg) (ly (ni a.author) S (fI 2 T3) ?_));by_cases ad:0≤a.author
    ·
     refine ly (.bool true) S (jY rfl rfl ad) (ly (.bool true) S Ym (lg 104 (pa o 1) S (Yb mg) (lg 104 (ni a.author) S (fI 2 T3) (lg 104 (ni n) S Ym ?_))));by_cases ae:a.author<n
     ·
      refine lg 104 (.bool true) S (gJ rfl rfl ae) (ly (.bool true) S Yt (ln (fS rfl (gU (ly (pa f 0) S (Yb iO) (ly (sc y s.clock.length A) S (fI 0 gL) (ly (pa o 1) S (Yb mg) (ly (ni a.author) S (fI 2 T3) ?_))))))));obtain⟨L,U⟩:∃ z,(s.clock)[(a.author).toNat]? = some z:=gX (by first | assumption | omega);have az:=mi U;have b1:=ap.2.2.2 _ (List.mem_of_getElem? U);obtain⟨aQ,aR,aS,_,V,aT⟩:=hD jH iX I U;have V:aR=[ni L]:=V;subst V;refine ly aQ S (aT rfl rfl (by first | rfl | omega)) (ly (ni L) S (iE aS T3) (ly (ni (1000 * L)) S (v8 (r:=1000 * L) rfl rfl (gl (by omega) (by omega))) (ly (ni (1000 * L)) S Ya (fL ?_))));refine fK ⟨_,fk,(1000 * L),_,_,rfl,(S.tt 3 0).rw' rfl rfl,fZ,(by unfold mh;rw [if_pos (by omega)];omega),(by omega)⟩
     refine lg 104 (.bool false) S (gH rfl rfl ae) (ly (.bool false) S Yt (ln (fV rfl (g1 ?_))));refine fK ⟨_,fk,0,_,_,rfl,(S.tt 3 0).rw' rfl rfl,fZ,(by unfold mh;rw [if_neg (by omega)]),(by omega)⟩
    refine ly (.bool false) S (k4 rfl rfl ad) (ly (.bool false) S Ym (ls 104 (ls 104 (ls 104 (ls 104 (ly (.bool false) S Yf (ln (fV rfl (g1 ?_)))))))));refine fK ⟨_,fk,0,_,_,rfl,(S.tt 3 0).rw' rfl rfl,fZ,(by unfold mh;rw [if_neg (by omega)]),(by omega)⟩
   rintro _ _ ⟨mx,af,m,rfl,S,X,_,_⟩;replace G:=fm G X;refine go (er (ly (pa o 1) S (Yb mg) (ly (ni a.author) S (fI 2 T3) ?_)));by_cases ag:a.author<0
   ·
    refine ly (.bool true) S (gJ rfl rfl ag) (ly (.bool true) S Ym (ls 121 (ls 121 (ls 121 (ls 121 (ly (.bool true) S Yt (ly (.bool true) S Ym (ls 127 (ls 127 (ls 127 (ly (.bool true) S Yt (ly (.bool true) S Ym (ls 132 (ls 132 (ls 132 ?_)))))))))))))));refine ly (.bool true) S Yt (ly (.bool true) S Ym (ls 137 (ls 137 (ls 137 (ls 137 (ls 137 (ly (.bool true) S Yt (ly (.bool true) S Ym (ls 144 (ls 144 (ls 144 (ls 144 (ly (.bool true) S Yt (ly (.bool true) S Ym (ls 150 ?_)))))))))))))));refine ls 150 (ls 150 (ly (.bool true) S Yt (ly (.bool true) S Ya (ln (fS rfl (er (ly (ni (k:Int)) S Ym (ly (.agg #[ni 3,ni (k:Int)]) S (gy (ps:=[(0,ni 3),(1,ni (k:Int))]) rfl (fun _=>by kernel_rfl)) (fT (u:=.agg #[ni 3,ni (k:Int)]) (i:=1) (cs':=#[ni 3,ni (k:Int)]) S rfl rfl rfl iS rfl rfl rfl fun _ S=>ln (fR ?_))))))))));refine g3 (v:=.agg #[ni 3,ni (k:Int)]) rfl ⟨_,rfl,gu (i:=1) (vs:=[ni 3,ni (k:Int)]) S rfl jh rfl rfl⟩ ?_;refine⟨jI (mG c F (x.trans ?_)),S.below⟩;rw [mt l];rw [if_pos (by omega)]
   refine ly (.bool false) S (gH rfl rfl ag) (ly (.bool false) S Ym (lg 121 (pa o 1) S (Yb mg) (lg 121 (ni a.author) S (fI 2 T3) (lg 121 (ni n) S Ym ?_))));by_cases ah:n≤a.author
   ·
    refine lg 121 (.bool true) S (jY rfl rfl ah) (ly (.bool true) S Yf (ly (.bool true) S Ym (ls 127 (ls 127 (ls 127 (ly (.bool true) S Yt (ly (.bool true) S Ym (ls 132 (ls 132 (ls 132 (ly (.bool true) S Yt (ly (.bool true) S Ym (ls 137 (ls 137 (ls 137 ?_)))))))))))))));refine ls 137 (ls 137 (ly (.bool true) S Yt (ly (.bool true) S Ym (ls 144 (ls 144 (ls 144 (ls 144 (ly (.bool true) S Yt (ly (.bool true) S Ym (ls 150 (ls 150 (ls 150 (ly (.bool true) S Yt (ly (.bool true) S Ya (fL ?_)))))))))))))));refine fM (fS rfl (er (ly (ni (k:Int)) S Ym (ly (.agg #[ni 3,ni (k:Int)]) S (gy (ps:=[(0,ni 3),(1,ni (k:Int))]) rfl (fun _=>by kernel_rfl)) (fT (u:=.agg #[ni 3,ni (k:Int)]) (i:=1) (cs':=#[ni 3,ni (k:Int)]) S rfl rfl rfl iS rfl rfl rfl fun _ S=>ln (fR ?_))))));refine g3 (v:=.agg #[ni 3,ni (k:Int)]) rfl ⟨_,rfl,gu (i:=1) (vs:=[ni 3,ni (k:Int)]) S rfl jh rfl rfl⟩ ?_;refine⟨jI (mG c F (x.trans ?_)),S.below⟩;rw [mt l];rw [if_pos (by omega)]
   refine lg 121 (.bool false) S (k4 rfl rfl ah) (ly (.bool false) S Yf (ly (.bool false) S Ym (lg 127 (pa o 0) S (Yb nW) (lg 127 (ni a.key) S (fI 2 T3) ?_))));by_cases ai:a.key<0
   ·
    refine lg 127 (.bool true) S (gJ rfl rfl ai) (ly (.bool true) S Yf (ly (.bool true) S Ym (ls 132 (ls 132 (ls 132 (ly (.bool true) S Yt (ly (.bool true) S Ym (ls 137 (ls 137 (ls 137 (ls 137 (ls 137 (ly (.bool true) S Yt (ly (.bool true) S Ym (ls 144 ?_)))))))))))))));refine ls 144 (ls 144 (ls 144 (ly (.bool true) S Yt (ly (.bool true) S Ym (ls 150 (ls 150 (ls 150 (ly (.bool true) S Yt (ly (.bool true) S Ya (ln (fS rfl (er (ly (ni (k:Int)) S Ym ?_)))))))))))));refine ly (.agg #[ni 3,ni (k:Int)]) S (gy (ps:=[(0,ni 3),(1,ni (k:Int))]) rfl (fun _=>by kernel_rfl)) (fT (u:=.agg #[ni 3,ni (k:Int)]) (i:=1) (cs':=#[ni 3,ni (k:Int)]) S rfl rfl rfl iS rfl rfl rfl fun _ S=>ln (fR ?_));refine g3 (v:=.agg #[ni 3,ni (k:Int)]) rfl ⟨_,rfl,gu (i:=1) (vs:=[ni 3,ni (k:Int)]) S rfl jh rfl rfl⟩ ?_;refine⟨jI (mG c F (x.trans ?_)),S.below⟩;rw [mt l];rw [if_pos (by omega)]
   refine lg 127 (.bool false) S (gH rfl rfl ai) (ly (.bool false) S Yf (ly (.bool false) S Ym (lg 132 (pa o 0) S (Yb nW) (lg 132 (ni a.key) S (fI 2 T3) ?_))));by_cases aj:15<a.key
   ·
    refine lg 132 (.bool true) S (ko rfl rfl aj) (ly (.bool true) S Yf (ly (.bool true) S Ym (ls 137 (ls 137 (ls 137 (ls 137 (ls 137 (ly (.bool true) S Yt (ly (.bool true) S Ym (ls 144 (ls 144 (ls 144 (ls 144 (ly (.bool true) S Yt (ly (.bool true) S Ym ?_)))))))))))))));refine ls 150 (ls 150 (ls 150 (ly (.bool true) S Yt (ly (.bool true) S Ya (ln (fS rfl (er (ly (ni (k:Int)) S Ym (ly (.agg #[ni 3,ni (k:Int)]) S (gy (ps:=[(0,ni 3),(1,ni (k:Int))]) rfl (fun _=>by kernel_rfl)) (fT (u:=.agg #[ni 3,ni (k:Int)]) (i:=1) (cs':=#[ni 3,ni (k:Int)]) S rfl rfl rfl iS rfl rfl rfl fun _ S=>ln (fR ?_)))))))))));refine g3 (v:=.agg #[ni 3,ni (k:Int)]) rfl ⟨_,rfl,gu (i:=1) (vs:=[ni 3,ni (k:Int)]) S rfl jh rfl rfl⟩ ?_;refine⟨jI (mG c F (x.trans ?_)),S.below⟩;rw [mt l];rw [if_pos (by omega)]
   refine lg 132 (.bool false) S (kt rfl rfl aj) (ly (.bool false) S Yf (ly (.bool false) S Ym (lg 137 (pa o 2) S (Yb nu) (lg 137 (ni a.sum) S (fI 2 T3) (lg 137 (ni mx) S Ym (lg 137 (ni (-mx)) S (C6 (r:=-mx) rfl (by rw [Int.zero_sub];exact gl (by omega) (by omega))) ?_))))));by_cases ak:a.sum < -mx
   ·
    refine lg 137 (.bool true) S (gJ rfl rfl ak) (ly (.bool true) S Yf (ly (.bool true) S Ym (ls 144 (ls 144 (ls 144 (ls 144 (ly (.bool true) S Yt (ly (.bool true) S Ym (ls 150 (ls 150 (ls 150 (ly (.bool true) S Yt (ly (.bool true) S Ya (ln ?_))))))))))))));refine fS rfl (er (ly (ni (k:Int)) S Ym (ly (.agg #[ni 3,ni (k:Int)]) S (gy (ps:=[(0,ni 3),(1,ni (k:Int))]) rfl (fun _=>by kernel_rfl)) (fT (u:=.agg #[ni 3,ni (k:Int)]) (i:=1) (cs':=#[ni 3,ni (k:Int)]) S rfl rfl rfl iS rfl rfl rfl fun _ S=>ln (fR ?_)))));refine g3 (v:=.agg #[ni 3,ni (k:Int)]) rfl ⟨_,rfl,gu (i:=1) (vs:=[ni 3,ni (k:Int)]) S rfl jh rfl rfl⟩ ?_;refine⟨jI (mG c F (x.trans ?_)),S.below⟩;rw [mt l];rw [if_pos (by omega)]
   refine lg 137 (.bool false) S (gH rfl rfl ak) (ly (.bool false) S Yf (ly (.bool false) S Ym (lg 144 (pa o 2) S (Yb nu) (lg 144 (ni a.sum) S (fI 2 T3) (lg 144 (ni mx) S Ym ?_)))));by_cases al:mx<a.sum
   ·
    refine lg 144 (.bool true) S (ko rfl rfl al) (ly (.bool true) S Yf (ly (.bool true) S Ym (ls 150 (ls 150 (ls 150 (ly (.bool true) S Yt (ly (.bool true) S Ya (ln (fS rfl (er (ly (ni (k:Int)) S Ym (ly (.agg #[ni 3,ni (k:Int)]) S (gy (ps:=[(0,ni 3),(1,ni (k:Int))]) rfl (fun _=>by kernel_rfl)) (fT (u:=.agg #[ni 3,ni (k:Int)]) (i:=1) (cs':=#[ni 3,ni (k:Int)]) S rfl rfl rfl iS rfl rfl rfl fun _ S => ?_)))))))))))));refine ln (fR ?_);refine g3 (v:=.agg #[ni 3,ni (k:Int)]) rfl ⟨_,rfl,gu (i:=1) (vs:=[ni 3,ni (k:Int)]) S rfl jh rfl rfl⟩ ?_;refine⟨jI (mG c F (x.trans ?_)),S.below⟩;rw [mt l];rw [if_pos (by omega)]
   refine lg 144 (.bool false) S (kt rfl rfl al) (ly (.bool false) S Yf (ly (.bool false) S Ym (lg 150 (pa o 2) S (Yb nu) (lg 150 (ni a.sum) S (fI 2 T3) ?_))));by_cases am:a.sum=0
   ·
    refine lg 150 (.bool true) S (iw rfl rfl am) (ly (.bool true) S Yf (ly (.bool true) S Ya (ln (fS rfl (er (ly (ni (k:Int)) S Ym (ly (.agg #[ni 3,ni (k:Int)]) S (gy (ps:=[(0,ni 3),(1,ni (k:Int))]) rfl (fun _=>by kernel_rfl)) (fT (u:=.agg #[ni 3,ni (k:Int)]) (i:=1) (cs':=#[ni 3,ni (k:Int)]) S rfl rfl rfl iS rfl rfl rfl fun _ S=>ln (fR ?_)))))))));refine g3 (v:=.agg #[ni 3,ni (k:Int)]) rfl ⟨_,rfl,gu (i:=1) (vs:=[ni 3,ni (k:Int)]) S rfl jh rfl rfl⟩ ?_;refine⟨jI (mG c F (x.trans ?_)),S.below⟩;rw [mt l];rw [if_pos (by omega)]
   refine lg 150 (.bool false) S (i5 rfl rfl am) (ly (.bool false) S Yf (ly (.bool false) S Ya (ln (fV rfl (fJ ?_)))));refine jZ MX (by kernel_rfl) S.drew ?_;refine qy (ni (k:Int)) Ym ?_;by_cases an:0<(k:Int)
   ·
    refine qy (.bool true) (ko rfl rfl an) (qy (.bool true) Ym (qg 160 (pa f 2) (Yb kQ) (qg 160 (sc q s.tallies.length t) (fI 0 lP) (qg 160 (ni (k:Int)) Ym (qg 160 (ni ((k:Int) - 1)) (qX (r:=(k:Int) - 1) rfl rfl (gl (by omega) (by omega))) ?_)))));obtain⟨p,Y⟩:∃ z,(s.tallies)[(k - 1)]? = some z:=gX (by first | assumption | omega);obtain⟨aU,aV,aW,_,aX,aY⟩:=hD iK jf G Y;have aZ:aV=[ni p.key,ni p.author,ni p.sum]:=aX;subst aZ;refine qg 160 aU (aY rfl rfl (by first | rfl | omega)) (qg 160 (.agg #[ni p.key,ni p.author,ni p.sum]) (jd aW kX) (qg 160 (.agg #[ni a.key,ni a.author,ni a.sum]) (gf 2 kX) ?_));refine nR (d':=160) (v:=ni (gY p a)) (g4 (vs:=[.agg #[ni p.key,ni p.author,ni p.sum],.agg #[ni a.key,ni a.author,ni a.sum]]) (CF 87 _) rfl rfl) rfl rfl (fun w S=>(Tally_c _ _ S.le _ _ _ _ (⟨_,rfl,rfl⟩:fW h8 af _ p) (⟨_,rfl,rfl⟩:fW h8 af _ a)).mono (by rintro e w' ⟨rfl,k⟩;exact⟨rfl,(S.callq k)⟩)) ?_;by_cases ao:0≤gY p a
    ·
     refine qg 160 (.bool true) (jY rfl rfl ao) (qy (.bool true) Yt (qy (.bool true) Ya (ig fun _ S=>fM (fS rfl (er (ly (ni (k:Int)) S Ym (ly (.agg #[ni 2,ni (k:Int)]) S (gy (ps:=[(0,ni 2),(1,ni (k:Int))]) rfl (fun _=>by kernel_rfl)) (fT (u:=.agg #[ni 2,ni (k:Int)]) (i:=1) (cs':=#[ni 2,ni (k:Int)]) S rfl rfl rfl iS rfl rfl rfl fun _ S=>ln (fR ?_)))))))));refine g3 (v:=.agg #[ni 2,ni (k:Int)]) rfl ⟨_,rfl,gu (i:=1) (vs:=[ni 2,ni (k:Int)]) S rfl jh rfl rfl⟩ ?_;refine⟨jI (mG c F (x.trans ?_)),S.below⟩;rw [mt l];rw [if_neg (by omega),pq (by omega) Y,if_pos (decide_eq_true (by omega))]
    refine qg 160 (.bool false) (k4 rfl rfl ao) (qy (.bool false) Yt (qy (.bool false) Ya (ig fun _ S=>fM (fV rfl (g1 (gA (gA (nr (ly (ni ((k:Int)+1)) S (gw (r:=(k:Int)+1) rfl rfl (gl (by omega) (by omega))) (ly (ni ((k:Int)+1)) S Ym (fL ?_)))))))))));refine fK ⟨(k+1),_,fk,⟨_,_,rfl,(S.tt 2 0),(fY O (fY fZ X)),(by omega),(by rw [x,mt l,if_neg (by omega),pq (by omega) Y,if_neg (by simp;omega),pJ,l])⟩,?_⟩
    show _<_;dsimp only;omega
   refine qy (.bool false) (kt rfl rfl an) (qy (.bool false) Ym (qs 160 (qs 160 (qs 160 (qs 160 (qs 160 (qs 160 (qs 160 (qs 160 (qs 160 (qy (.bool false) Yf (qy (.bool false) Ya (ig fun _ S=>fM (fV rfl ?_))))))))))))));refine g1 (gA (gA (nr (ly (ni ((k:Int)+1)) S (gw (r:=(k:Int)+1) rfl rfl (gl (by omega) (by omega))) (ly (ni ((k:Int)+1)) S Ym (fL ?_))))));refine fK ⟨(k+1),_,fk,⟨_,_,rfl,(S.tt 2 0),(fY O (fY fZ X)),(by omega),(by rw [x,mt l,if_neg (by omega),show nh s.tallies k=none by unfold nh;rw [if_pos (by omega)],if_neg (by simp),pJ,l])⟩,?_⟩
   show _<_;dsimp only;omega
  refine ly (.bool false) S (gH rfl rfl ab) (ln (fJ (fV rfl (iP (iQ (j0 (iR (fM (er (ly (.agg #[ni 0,ni 0]) S (gy (ps:=[]) rfl (fun _=>by kernel_rfl)) (fT (u:=.agg #[ni 0,ni 0]) (i:=1) (cs':=#[ni 0,ni 0]) S rfl rfl rfl iS rfl rfl rfl fun _ S=>ln ?_)))))))))));refine fR (g3 (v:=.agg #[ni 0,ni 0]) rfl ⟨_,rfl,gu (i:=1) (vs:=[ni 0,ni 0]) S rfl jh rfl rfl⟩ ?_);exact⟨jI (mG c F (x.trans (zb (by omega)))),S.below⟩
 refine ly (.bool true) S (j4 rfl rfl c) (ln (fS rfl (er (ly (ni (gb s.clock n)) S Ym (ly (.agg #[ni (gb s.clock n),ni 0]) S (gy (ps:=[(0,ni (gb s.clock n))]) rfl (fun _=>by kernel_rfl)) (fT (u:=.agg #[ni (gb s.clock n),ni 0]) (i:=1) (cs':=#[ni (gb s.clock n),ni 0]) S rfl rfl rfl iS rfl rfl rfl fun _ S=>ln (fR ?_)))))));refine g3 (v:=.agg #[ni (gb s.clock n),ni 0]) rfl ⟨_,rfl,gu (i:=1) (vs:=[ni (gb s.clock n),ni 0]) S rfl jh rfl rfl⟩ ?_;exact⟨jI (yA c),S.below⟩
def zF(W:World)(x:List Int × Int × Int)(e:Ending)(w':World):Prop:=∃ r,e = .returned (.tuple #[r,.agg #[.int .i64 x.2.1,.int .i64 x.2.2]])∧iC (newer w' W.heap.size) r x.1∧Below W.heap.size W w'
theorem sB{W:World}{x:List Int × Int × Int}{c:List Int}{e i:Int}(hx:x=(c,e,i)){r:Value}{w':World}(h:iC (newer w' W.heap.size) r c)(hb:Below W.heap.size W w') :
  zF W x (.returned (.tuple #[r,.agg #[.int .i64 e,.int .i64 i]])) w':=by
 subst hx;exact⟨_,rfl,h,hb⟩
theorem yH(v1 v2:Value)(base:List Int)(l:List fH)(n:Int)(W:World)(h1:iC (fX W) v1 base)(h2:rZ (fX W) v2 l) :
    Calls Tryz.prog 49 #[v1,v2,.int .i64 n] W (zF W (gc base l n)):=by
  obtain⟨_,_,rfl,_,X⟩:=h1.val
  obtain⟨_,_,rfl,_,Y⟩:=h2.val
  have h1:=fN.top h1
  have h2:=fN.top h2
  unfold maxLen at X Y
  have z:=iI.new_ W 84 #[.int .i64 0,.int .i64 0]
  have A:=lh W (.cells #[.int .i64 0,.int .i64 0] 84)
  have J:(W.alloc (.cells #[.int .i64 0,.int .i64 0] 84)).heap.size=W.heap.size+1:=by simp
  by_cases q:gb base n=0
  rotate_left
  · rw [show gc base l n=([],gb base n,0) by unfold gc;rw [if_pos q]]
    obtain⟨Z,N⟩:=za q
    clear q
    go_enter Tryz.func49,Tryz.ntmps49
    go_wp2_with fail
    generalize W.alloc (.cells #[.int .i64 0,.int .i64 0] 84)=W1 at *
    clear J
    obtain⟨g,h,m,p⟩:=z.c2
    refine(qo _ _ _ _ (fN.of_top h1 A)).mono ?_
    rintro e w' ⟨rfl,rfl⟩
    go_wp2
    refine bodyPost_ret (v:=.tuple #[.slice none 0 0,.agg #[.int .i64 (gb base n),.int .i64 0]]) (by simp [results,Tryz.results49,go_sem,g,h]) rfl ⟨_,rfl,fN.nil_ _,(Below.setCell (Below.setCell A (by show _≤W.heap.size;omega) _) (by show _≤W.heap.size;omega) _)⟩
  have O:=xN q
  by_cases P:300<l.length
  · rw [show gc base l n=([],5,0) by unfold gc;rw [if_neg (by simp [q]),if_pos P]]
    obtain⟨Z,N⟩:=O
    clear q
    go_enter Tryz.func49,Tryz.ntmps49
    go_wp2_with fail
    generalize W.alloc (.cells #[.int .i64 0,.int .i64 0] 84)=W1 at *
    clear J
    obtain⟨g,h,m,p⟩:=z.c2
    refine(qo _ _ _ _ (fN.of_top h1 A)).mono ?_
    rintro e w' ⟨rfl,rfl⟩
    go_wp2
    refine bodyPost_ret (v:=.tuple #[.slice none 0 0,.agg #[.int .i64 5,.int .i64 0]]) (by simp [results,Tryz.results49,go_sem,g,h]) rfl ⟨_,rfl,fN.nil_ _,(Below.setCell (Below.setCell A (by show _≤W.heap.size;omega) _) (by show _≤W.heap.size;omega) _)⟩
  have a1:=(i7 q)
  have af:base.length≤6:=by omega
  clear a1
  rw [show gc base l n=iL n base l 0 by unfold gc;rw [if_neg (by simp [q]),if_neg P]]
  obtain⟨Q,a2⟩:=O
  have a3:decide ((300:Int)<(l.length:Int))=false:=decide_eq_false (by omega)
  clear q
  go_enter Tryz.func49,Tryz.ntmps49
  go_wp2_with fail
  generalize W.alloc (.cells #[.int .i64 0,.int .i64 0] 84)=W1 at *
  refine(qo _ _ _ _ (fN.of_top h1 A)).mono ?_
  rintro e w' ⟨rfl,rfl⟩
  go_wp2_with fail
  refine(vm _ _ _ _ h1 (sz A) (by omega)).mono ?_
  rintro e N ⟨r,rfl,C,k⟩
  rw [J] at C k
  have R:=C.ints_newer
  clear C Q a2 a3
  go_wp2
  go_loopw [9,28] (fun cv i wr => ∃ (k:Nat) (c:List Int),k≤l.length∧i = .int .i64 k∧iC (newer wr (W.heap.size+1)) cv c∧Hid (c.length=base.length)∧Hid (iL n base l 0=iL n c (l.drop k) k)∧Below (W.heap.size+1) W1 wr) (fun _ i _=>l.length - (intOf i).toNat)
  case atStart=>exact⟨0,base,Nat.zero_le _,rfl,R,j3 rfl,j3 rfl,k⟩
  case round =>
    clear R k
    obtain⟨k,c,_,rfl,F,S,E,G⟩:=hrel
    have d:Below W.heap.size W wr:=A.trans (G.mono (by omega))
    have z:=z.upB G (by omega)
    have F:=iC.mono F (Ey _ _)
    obtain⟨Ac,cc,rfl,_,_⟩:=F.val
    by_cases H:k<l.length
    rotate_left
    · have a4:=j3 (E.out.trans (w7 (by omega)))
      clear E
      obtain⟨g,h,m,p⟩:=z.c2
      have Q:decide ((k:Int)<(l.length:Int))=false:=decide_eq_false (by omega)
      go_wp2
      refine bodyPost_ret (v:=.tuple #[.slice Ac c.length cc,.agg #[.int .i64 0,.int .i64 0]]) (by simp [results,Tryz.results49,go_sem,g,h]) rfl (sB a4.out ?_ (Below.setCell (Below.setCell ‹_› (by show _≤W.heap.size;omega) _) (by show _≤W.heap.size;omega) _))
      refine iC.mono ‹iC (newer wr _) _ _› (fY ?_ (uD (B:=W.heap.size+1) (by omega)))
      refine fY ?_ (sy (by show W.heap.size<W.heap.size+1;omega) _)
      exact sy (by show W.heap.size<W.heap.size+1;omega) _
    obtain⟨b,o,_,rfl,I,T⟩:=zS h2 H
    obtain⟨a5,a6,a7,a8,a9⟩:=T wr (sz d)
    clear T
    have I:=fN.of_top I d
    obtain⟨As,cs,rfl,_,_⟩:=I.val
    go_wp2_with fail
    have f:=iI.new_ wr 42 #[.int .i64 l[k].author,.slice As l[k].seen.length cs,.int .i64 l[k].kind,.int .i64 l[k].key,.int .i64 l[k].item]
    have kx:=lh wr (.cells #[.int .i64 l[k].author,.slice As l[k].seen.length cs,.int .i64 l[k].kind,.int .i64 l[k].key,.int .i64 l[k].item] 42)
    have z:=z.up kx
    have d:=lq d kx
    have F:=fN.up F kx
    have I:=fN.up I kx
    generalize wr.alloc (.cells #[.int .i64 l[k].author,.slice As l[k].seen.length cs,.int .i64 l[k].kind,.int .i64 l[k].key,.int .i64 l[k].item] 42)=w3 at *
    clear a5 a6 a7 a8 a9
    by_cases eU:j7 l[k] n=0
    rotate_left
    · have D:=j3 (show kv c l[k] n=j7 l[k] n by unfold kv;rw [if_pos eU])
      have aa:=j3 eU
      obtain⟨ab,ac⟩:=za eU
      clear eU
      refine(rJ _ _ _ _ (s9 (u:=l[k]) ‹_›)).mono ?_
      rintro e K ⟨rfl,kk⟩
      (repeat (first | replace kk:=ng kk | replace kk:=nJ kk));(repeat (rename fN _ _ (fX _) _ _=>a;replace a:=fN.up a kk;revert a));(repeat (rename fW _ (fX _) _ _=>a;replace a:=fW.up a kk;revert a));(repeat (rename iI _ _ _ _=>a;replace a:=iI.up a kk;revert a));(repeat (rename hJ _ _ _ _ _ (jW _ _ _) _ _=>a;replace a:=hJ.up a kk;revert a));intros;have d:=lq d kk;have kx:=lq kx kk
      have j:=‹iI _ W.heap.size _ _›;obtain⟨g,h,m,p⟩:=j.c2;have f:=‹iI _ wr.heap.size _ _›;obtain⟨s,t,w,x,y,_,_,_,_,_⟩:=f.c5
      go_wp2
      refine bodyPost_ret (v:=.tuple #[.slice none 0 0,.agg #[.int .i64 (j7 l[k] n),.int .i64 k]]) (by simp [results,Tryz.results49,go_sem,g,h]) rfl (sB (E.out.trans (tf H D.out aa.out)) fU (Below.setCell (Below.setCell ‹_› (by show _≤W.heap.size;omega) _) (by show _≤W.heap.size;omega) _))
    have L:=od.1 eU
    have ad:=L.len
    have ag:c.length≤6:=by have:=S.out;omega
    have ah:l[k].seen.length≤6:=by omega
    have ai:=j3 (show(0:Int)≤l[k].author from L.a0)
    obtain⟨ab,ac⟩:=xN eU
    have eU':=j3 eU
    clear eU L ad
    cases M:iJ c l[k]
    rotate_left
    · have D:=j3 (show kv c l[k] n=7 by unfold kv;rw [if_neg (by simp [eU'.out]),if_pos M])
      refine(rJ _ _ _ _ (s9 (u:=l[k]) ‹_›)).mono ?_
      rintro e K ⟨rfl,kk⟩
      (repeat (first | replace kk:=ng kk | replace kk:=nJ kk));(repeat (rename fN _ _ (fX _) _ _=>a;replace a:=fN.up a kk;revert a));(repeat (rename fW _ (fX _) _ _=>a;replace a:=fW.up a kk;revert a));(repeat (rename iI _ _ _ _=>a;replace a:=iI.up a kk;revert a));(repeat (rename hJ _ _ _ _ _ (jW _ _ _) _ _=>a;replace a:=hJ.up a kk;revert a));intros;have d:=lq d kk;have kx:=lq kx kk
      have j:=‹iI _ W.heap.size _ _›;obtain⟨g,h,m,p⟩:=j.c2;have f:=‹iI _ wr.heap.size _ _›;obtain⟨s,t,w,x,y,_,_,_,_,_⟩:=f.c5
      go_wp2_with fail
      refine(s8 _ _ _ _ _ ‹_› (sk (u:=l[k]) f ‹_›)).mono ?_
      rintro e U ⟨rfl,kk⟩
      (repeat (first | replace kk:=ng kk | replace kk:=nJ kk));(repeat (rename fN _ _ (fX _) _ _=>a;replace a:=fN.up a kk;revert a));(repeat (rename fW _ (fX _) _ _=>a;replace a:=fW.up a kk;revert a));(repeat (rename iI _ _ _ _=>a;replace a:=iI.up a kk;revert a));(repeat (rename hJ _ _ _ _ _ (jW _ _ _) _ _=>a;replace a:=hJ.up a kk;revert a));intros;have d:=lq d kk;have kx:=lq kx kk
      have j:=‹iI _ W.heap.size _ _›;obtain⟨g,h,m,p⟩:=j.c2;have f:=‹iI _ wr.heap.size _ _›;obtain⟨s,t,w,x,y,_,_,_,_,_⟩:=f.c5
      go_wp2
      refine bodyPost_ret (v:=.tuple #[.slice none 0 0,.agg #[.int .i64 (7),.int .i64 k]]) (by simp [results,Tryz.results49,go_sem,g,h]) rfl (sB (E.out.trans (tf H D.out (by decide))) fU (Below.setCell (Below.setCell ‹_› (by show _≤W.heap.size;omega) _) (by show _≤W.heap.size;omega) _))
    cases V:gO c l[k].seen
    · have D:=j3 (show kv c l[k] n=8 by unfold kv;rw [if_neg (by simp [eU'.out]),if_neg (by simp [M]),if_pos V])
      refine(rJ _ _ _ _ (s9 (u:=l[k]) ‹_›)).mono ?_
      rintro e K ⟨rfl,kk⟩
      (repeat (first | replace kk:=ng kk | replace kk:=nJ kk));(repeat (rename fN _ _ (fX _) _ _=>a;replace a:=fN.up a kk;revert a));(repeat (rename fW _ (fX _) _ _=>a;replace a:=fW.up a kk;revert a));(repeat (rename iI _ _ _ _=>a;replace a:=iI.up a kk;revert a));(repeat (rename hJ _ _ _ _ _ (jW _ _ _) _ _=>a;replace a:=hJ.up a kk;revert a));intros;have d:=lq d kk;have kx:=lq kx kk
      have j:=‹iI _ W.heap.size _ _›;obtain⟨g,h,m,p⟩:=j.c2;have f:=‹iI _ wr.heap.size _ _›;obtain⟨s,t,w,x,y,_,_,_,_,_⟩:=f.c5
      go_wp2_with fail
      refine(s8 _ _ _ _ _ ‹_› (sk (u:=l[k]) f ‹_›)).mono ?_
      rintro e U ⟨rfl,kk⟩
      (repeat (first | replace kk:=ng kk | replace kk:=nJ kk));(repeat (rename fN _ _ (fX _) _ _=>a;replace a:=fN.up a kk;revert a));(repeat (rename fW _ (fX _) _ _=>a;replace a:=fW.up a kk;revert a));(repeat (rename iI _ _ _ _=>a;replace a:=iI.up a kk;revert a));(repeat (rename hJ _ _ _ _ _ (jW _ _ _) _ _=>a;replace a:=hJ.up a kk;revert a));intros;have d:=lq d kk;have kx:=lq kx kk
      have j:=‹iI _ W.heap.size _ _›;obtain⟨g,h,m,p⟩:=j.c2;have f:=‹iI _ wr.heap.size _ _›;obtain⟨s,t,w,x,y,_,_,_,_,_⟩:=f.c5
      go_wp2_with fail
      refine(qv _ _ _ _ _ ‹_› ‹_› (by omega)).mono ?_
      rintro e ae ⟨rfl,kk⟩
      (repeat (first | replace kk:=ng kk | replace kk:=nJ kk));(repeat (rename fN _ _ (fX _) _ _=>a;replace a:=fN.up a kk;revert a));(repeat (rename fW _ (fX _) _ _=>a;replace a:=fW.up a kk;revert a));(repeat (rename iI _ _ _ _=>a;replace a:=iI.up a kk;revert a));(repeat (rename hJ _ _ _ _ _ (jW _ _ _) _ _=>a;replace a:=hJ.up a kk;revert a));intros;have d:=lq d kk;have kx:=lq kx kk
      have j:=‹iI _ W.heap.size _ _›;obtain⟨g,h,m,p⟩:=j.c2;have f:=‹iI _ wr.heap.size _ _›;obtain⟨s,t,w,x,y,_,_,_,_,_⟩:=f.c5
      go_wp2
      refine bodyPost_ret (v:=.tuple #[.slice none 0 0,.agg #[.int .i64 (8),.int .i64 k]]) (by simp [results,Tryz.results49,go_sem,g,h]) rfl (sB (E.out.trans (tf H D.out (by decide))) fU (Below.setCell (Below.setCell ‹_› (by show _≤W.heap.size;omega) _) (by show _≤W.heap.size;omega) _))
    · have D:=j3 (show kv c l[k] n=0 by unfold kv;rw [if_neg (by simp [eU'.out]),if_neg (by simp [M]),if_neg (by simp [V])])
      refine(rJ _ _ _ _ (s9 (u:=l[k]) ‹_›)).mono ?_
      rintro e K ⟨rfl,kk⟩
      (repeat (first | replace kk:=ng kk | replace kk:=nJ kk));(repeat (rename fN _ _ (fX _) _ _=>a;replace a:=fN.up a kk;revert a));(repeat (rename fW _ (fX _) _ _=>a;replace a:=fW.up a kk;revert a));(repeat (rename iI _ _ _ _=>a;replace a:=iI.up a kk;revert a));(repeat (rename hJ _ _ _ _ _ (jW _ _ _) _ _=>a;replace a:=hJ.up a kk;revert a));intros;have d:=lq d kk;have kx:=lq kx kk
      have j:=‹iI _ W.heap.size _ _›;obtain⟨g,h,m,p⟩:=j.c2;have f:=‹iI _ wr.heap.size _ _›;obtain⟨s,t,w,x,y,_,_,_,_,_⟩:=f.c5
      go_wp2_with fail
      refine(s8 _ _ _ _ _ ‹_› (sk (u:=l[k]) f ‹_›)).mono ?_
      rintro e U ⟨rfl,kk⟩
      (repeat (first | replace kk:=ng kk | replace kk:=nJ kk));(repeat (rename fN _ _ (fX _) _ _=>a;replace a:=fN.up a kk;revert a));(repeat (rename fW _ (fX _) _ _=>a;replace a:=fW.up a kk;revert a));(repeat (rename iI _ _ _ _=>a;replace a:=iI.up a kk;revert a));(repeat (rename hJ _ _ _ _ _ (jW _ _ _) _ _=>a;replace a:=hJ.up a kk;revert a));intros;have d:=lq d kk;have kx:=lq kx kk
      have j:=‹iI _ W.heap.size _ _›;obtain⟨g,h,m,p⟩:=j.c2;have f:=‹iI _ wr.heap.size _ _›;obtain⟨s,t,w,x,y,_,_,_,_,_⟩:=f.c5
      go_wp2_with fail
      refine(qv _ _ _ _ _ ‹_› ‹_› (by omega)).mono ?_
      rintro e ae ⟨rfl,kk⟩
      (repeat (first | replace kk:=ng kk | replace kk:=nJ kk));(repeat (rename fN _ _ (fX _) _ _=>a;replace a:=fN.up a kk;revert a));(repeat (rename fW _ (fX _) _ _=>a;replace a:=fW.up a kk;revert a));(repeat (rename iI _ _ _ _=>a;replace a:=iI.up a kk;revert a));(repeat (rename hJ _ _ _ _ _ (jW _ _ _) _ _=>a;replace a:=hJ.up a kk;revert a));intros;have d:=lq d kk;have kx:=lq kx kk
      have j:=‹iI _ W.heap.size _ _›;obtain⟨g,h,m,p⟩:=j.c2;have f:=‹iI _ wr.heap.size _ _›;obtain⟨s,t,w,x,y,_,_,_,_,_⟩:=f.c5
      go_wp2_with fail
      refine(r7 _ _ _ _ _ ‹_› fZ (by omega)).mono ?_
      rintro e _ ⟨_,rfl,C,kk⟩
      have aj:=kx.size
      have kx:=lq kx kk
      have C:=iC.mono C.ints_newer (uD (B':=W.heap.size+1) (by have:=G.size;omega))
      go_wp2
      go_roundw
      case rel=>exact⟨k+1,_,by omega,by go_num,C,j3 (by rw [rG];exact S.out),j3 (E.out.trans (wo H D.out)),G.trans (kx.mono (by have:=G.size;omega))⟩
      case measure=>simp [intOf];omega
theorem Cd:li Tryz.prog 28 42 5 56:=uY Tryz.underlying28 (z:=.agg #[.int .i64 0,.slice none 0 0,.int .i64 0,.int .i64 0,.int .i64 0]) (by kernel_rfl) rfl (by decide)
theorem wY(v1 v2:Value)(l:List fH)(c:List Int)(W:World)(h1:rZ (fX W) v1 l)(h2:iC (fX W) v2 c)(hbig:l.length * 56≤140737488355328)(hseen:∀ u∈l,u.seen.length * 8≤140737488355328) :
    Calls Tryz.prog 43 #[v1,v2] W fun e w' => ∃ r,e = .returned r∧hJ 5 gM W.heap.size 42 w' (jW w' W.heap.size r.ownBlock) r (i4 l c)∧Below W.heap.size W w':=by
  obtain⟨_,_,rfl,_,A⟩:=h1.val
  obtain⟨_,_,rfl,_,B⟩:=h2.val
  have h1:=fN.top h1
  have h2:=fN.top h2
  unfold maxLen at A B
  have hseen:=j3 hseen
  go_enter Tryz.func43,Tryz.ntmps43
  go_wp2
  go_loopw [5,10] (fun v i wr => ∃ k:Nat,k≤l.length∧i = .int .i64 k∧hJ 5 gM W.heap.size 42 wr (jW wr W.heap.size v.ownBlock) v (i4 (l.take k) c)∧Below W.heap.size W wr) (fun _ i _=>l.length - (intOf i).toNat)
  case atStart=>exact⟨0,Nat.zero_le _,rfl,by simpa [i4] using hJ.nil_,Below.refl _ _⟩
  case round =>
    obtain⟨k,_,rfl,f,d⟩:=hrel
    by_cases j:k<l.length
    rotate_left
    · have a:=j3 (show i4 (l.take k) c=i4 l c by rw [List.take_of_length_le (by omega)])
      rw [a.out] at f
      clear a
      have U:decide ((k:Int)<(l.length:Int))=false:=decide_eq_false (by omega)
      go_wp2
      go_ret
      exact⟨_,rfl,f,d⟩
    obtain⟨b,o,_,rfl,q,t⟩:=zS h1 j
    obtain⟨C,D,E,F,G⟩:=t _ (sz d)
    clear t
    have q:=fN.of_top q d
    have V:=fN.of_top h2 d
    obtain⟨As,cs,rfl,_,_⟩:=q.val
    have H:=j3 (Nat.le_trans (tw (l.take k) c) (show(l.take k).length≤k by simp;omega))
    rename World=>wr
    go_wp2_with fail
    have w:=iI.new_ wr 42 #[.int .i64 l[k].author,.slice As l[k].seen.length cs,.int .i64 l[k].kind,.int .i64 l[k].key,.int .i64 l[k].item]
    have kk:=lh wr (.cells #[.int .i64 l[k].author,.slice As l[k].seen.length cs,.int .i64 l[k].kind,.int .i64 l[k].key,.int .i64 l[k].item] 42)
    (repeat (first | replace kk:=ng kk | replace kk:=nJ kk));(repeat (rename fN _ _ (fX _) _ _=>a;replace a:=fN.up a kk;revert a));(repeat (rename fW _ (fX _) _ _=>a;replace a:=fW.up a kk;revert a));(repeat (rename iI _ _ _ _=>a;replace a:=iI.up a kk;revert a));(repeat (rename hJ _ _ _ _ _ (jW _ _ _) _ _=>a;replace a:=hJ.up a kk;revert a));intros;have d:=lq d kk
    generalize wr.alloc (.cells #[.int .i64 l[k].author,.slice As l[k].seen.length cs,.int .i64 l[k].kind,.int .i64 l[k].key,.int .i64 l[k].item] 42)=w3 at *
    clear C D E F G
    cases x:iJ c l[k]
    rotate_left
    · refine(s8 _ _ _ _ _ ‹_› (sk (u:=l[k]) ‹_› ‹_›)).mono ?_
      rintro e m ⟨rfl,kk⟩
      (repeat (first | replace kk:=ng kk | replace kk:=nJ kk));(repeat (rename fN _ _ (fX _) _ _=>a;replace a:=fN.up a kk;revert a));(repeat (rename fW _ (fX _) _ _=>a;replace a:=fW.up a kk;revert a));(repeat (rename iI _ _ _ _=>a;replace a:=iI.up a kk;revert a));(repeat (rename hJ _ _ _ _ _ (jW _ _ _) _ _=>a;replace a:=hJ.up a kk;revert a));intros;have d:=lq d kk
      have f:=‹hJ _ _ _ _ _ (jW m _ _) _ _›
      rw [← zO j x] at f
      go_wp2
      go_roundw
      case rel=>exact⟨k+1,by omega,by go_num,f,d⟩
      case measure=>simp [intOf];omega
    · refine(s8 _ _ _ _ _ ‹_› (sk (u:=l[k]) ‹_› ‹_›)).mono ?_
      rintro e m ⟨rfl,kk⟩
      (repeat (first | replace kk:=ng kk | replace kk:=nJ kk));(repeat (rename fN _ _ (fX _) _ _=>a;replace a:=fN.up a kk;revert a));(repeat (rename fW _ (fX _) _ _=>a;replace a:=fW.up a kk;revert a));(repeat (rename iI _ _ _ _=>a;replace a:=iI.up a kk;revert a));(repeat (rename hJ _ _ _ _ _ (jW _ _ _) _ _=>a;replace a:=hJ.up a kk;revert a));intros;have d:=lq d kk
      have w:=‹iI _ wr.heap.size _ _›;obtain⟨I,J,K,L,M,_,_,_,_,_⟩:=w.c5
      go_wp2_with fail
      have N:=(‹hJ _ _ _ _ m (jW m _ _) _ _›).lt
      have O:=d.size
      refine(wU _ l[k] _ _ (s9 ‹_›) fZ (hseen.out _ (List.getElem_mem j))).mono ?_
      rintro e n ⟨_,rfl,P,kk⟩
      (repeat (first | replace kk:=ng kk | replace kk:=nJ kk));(repeat (rename fN _ _ (fX _) _ _=>a;replace a:=fN.up a kk;revert a));(repeat (rename fW _ (fX _) _ _=>a;replace a:=fW.up a kk;revert a));(repeat (rename iI _ _ _ _=>a;replace a:=iI.up a kk;revert a));(repeat (rename hJ _ _ _ _ _ (jW _ _ _) _ _=>a;replace a:=hJ.up a kk;revert a));intros;have d:=lq d kk
      have f:=‹hJ _ _ _ _ n (jW n _ _) _ _›
      obtain⟨_,rfl,_,rfl,h⟩:=P
      have h:=iC.mono h (EW (g:=u5.ownBlock) O N)
      obtain⟨y,z,rfl,_,_⟩:=h.val
      have s:=lh n (.cells #[.int .i64 l[k].author,.slice y l[k].seen.length z,.int .i64 l[k].kind,.int .i64 l[k].key,.int .i64 l[k].item] 42)
      have f:=hJ.up f s
      have h:=iC.mono h (yG s)
      have d:=lq d s
      clear I J K L M
      go_wp2_with (at_builtin;refine pI _ rfl (.tmp 17) (.tmp 20) _ rfl W.heap.size 42 56 Cd _ _ _ rfl f n.heap.size 1 [.int .i64 l[k].author,.slice y l[k].seen.length z,.int .i64 l[k].kind,.int .i64 l[k].key,.int .i64 l[k].item] l[k] rfl rfl (q4 _ _ _ _) (i9.one (R:=gM) _ _ l[k] ⟨_,rfl,h⟩) ⟨_,rfl,h⟩ (by have:=H.out;simp only [maxLen];omega) d.size ?_;intro X Y p Q S T)
      have p:=hJ.next p S T
      rw [← zd j x] at p
      go_roundw
      case rel=>exact⟨k+1,by omega,by go_num,p,d.trans Q⟩
      case measure=>simp [intOf];omega
theorem yZ(v1 v2:Value)(l:List fH)(c:List Int)(W:World)(h1:rZ (fX W) v1 l)(h2:iC (fX W) v2 c)(hbig:l.length * 56≤140737488355328)(hseen:∀ u∈l,u.seen.length * 8≤140737488355328) :
  Calls Tryz.prog 43 #[v1,v2] W fun e w' => ∃ r,e = .returned r∧rZ (newer w' W.heap.size) r (i4 l c)∧Below W.heap.size W w' :=
 (wY v1 v2 l c W h1 h2 hbig hseen).mono fun e w' ⟨r,h,h2,h3⟩=>⟨r,h,h2.newer_,h3⟩
theorem tj(v u:Value)(a b:List Int)(w:World)(h:iC (fX w) v a)(h':iC (fX w) u b)(hbig:max a.length b.length * 8≤140737488355328) :
  Calls Tryz.prog 31 #[v,u] w fun e w' => ∃ r,e = .returned r∧iC (newer w' w.heap.size) r (g8 a b)∧Below w.heap.size w w' :=
 (CT v u a b w h h' hbig).mono fun e w' ⟨r,h,h2,h3⟩=>⟨r,h,h2.ints_newer,h3⟩
theorem BW(v u:Value)(a b:List Int)(w:World)(h:iC (fX w) v a)(h':iC (fX w) u b)(hbig:max a.length b.length * 8≤140737488355328) :
  Calls Tryz.prog 64 #[v,u] w fun e w' => ∃ r,e = .returned r∧iC (newer w' w.heap.size) r (k9 a b)∧Below w.heap.size w w' :=
 (Dr v u a b w h h' hbig).mono fun e w' ⟨r,h,h2,h3⟩=>⟨r,h,h2.ints_newer,h3⟩
section
theorem BI(l:List ga):(oB l).length=l.length:=by simpa [oB] using (sE (f:=gQ) l []).length_eq
theorem CY(l:List Tally):(ny l).length=l.length:=by simpa [ny] using (sE (f:=gY) l []).length_eq
theorem wZ{a b:gt}{n:Int}{k:Nat}{z:gt}(h:∀ y∈([a,b]:List gt).take k,(gj y n).1=0)(hz:([a,b]:List gt)[k]? = some z)(hE:(gj z n).1=0):∀ y∈([a,b]:List gt).take (k+1),(gj y n).1=0:=fun y hy=>by
 rw [jl hz] at hy
 rcases List.mem_append.1 hy with hy | hy
 ·exact h y hy
 ·rw [List.mem_singleton.1 hy];exact hE
theorem wj{a b:gt}{n:Int}{k:Nat}(h:∀ y∈([a,b]:List gt).take k,(gj y n).1=0)(hk:2≤k):iN a n∧iN b n:=by
 rw [List.take_of_length_le (by simpa using hk)] at h
 exact⟨mQ.1 (h a (by simp)),mQ.1 (h b (by simp))⟩
theorem z8{a b:gt}{k:Nat}{z:gt}(h:∀ y∈([a,b]:List gt).take k,(gj y (a.clock.length:Int)).1=0)(hz:([a,b]:List gt)[k]? = some z)(hE:¬ (gj z (a.clock.length:Int)).1=0):ip a b=(mN,(gj z (a.clock.length:Int)).1):=by
 unfold ip gn
 match k,hz with
 | 0,hz=>simp at hz;subst hz;rw [if_pos hE]
 | 1,hz=>simp at hz;subst hz;rw [if_neg (fun e=>e (h a (by simp))),if_pos hE]
 | k+2,hz=>simp at hz
theorem wy{α:Type}{l o:List α}{p:α→Bool}{k:Nat}{z:α}(ho:o=(l.take k).filter p)(hz:l[k]? = some z)(h:p z=true):o++[z]=(l.take (k+1)).filter p:=by rw [jl hz,List.filter_append,ho];simp [h]
theorem zN{α:Type}{l o:List α}{p:α→Bool}{k:Nat}{z:α}(ho:o=(l.take k).filter p)(hz:l[k]? = some z)(h:p z=false):o=(l.take (k+1)).filter p:=by rw [jl hz,List.filter_append,ho];simp [h]
theorem vJ{α:Type}{l o A:List α}{p:α→Bool}{k:Nat}{z:α}(ho:o=A++(l.take k).filter p)(hz:l[k]? = some z)(h:p z=true):o++[z]=A++(l.take (k+1)).filter p:=by rw [jl hz,List.filter_append,ho];simp [h]
theorem rO{α:Type}{l o A:List α}{p:α→Bool}{k:Nat}{z:α}(ho:o=A++(l.take k).filter p)(hz:l[k]? = some z)(h:p z=false):o=A++(l.take (k+1)).filter p:=by rw [jl hz,List.filter_append,ho];simp [h]
section
variable {a:gt} {l o A:List ga} {k:Nat} {z:ga}
theorem Ad(ho:o=(l.take k).foldl (fun out x=>if(jU a x && !out.contains x)=true then out++[x] else out) A)(hz:l[k]? = some z)(h1:jU a z=true)(h2:o.contains z=false):o++[z]=(l.take (k+1)).foldl (fun out x=>if(jU a x && !out.contains x)=true then out++[x] else out) A:=by
 rw [ue hz,← ho,h1,h2];rfl
theorem ER(ho:o=(l.take k).foldl (fun out x=>if(jU a x && !out.contains x)=true then out++[x] else out) A)(hz:l[k]? = some z)(h1:jU a z=false):o=(l.take (k+1)).foldl (fun out x=>if(jU a x && !out.contains x)=true then out++[x] else out) A:=by
 rw [ue hz,← ho,h1];rfl
theorem BR(ho:o=(l.take k).foldl (fun out x=>if(jU a x && !out.contains x)=true then out++[x] else out) A)(hz:l[k]? = some z)(h1:jU a z=true)(h2:o.contains z=true):o=(l.take (k+1)).foldl (fun out x=>if(jU a x && !out.contains x)=true then out++[x] else out) A:=by
 rw [ue hz,← ho,h1,h2];rfl
end
theorem xG{a:gt}:∀ (l A:List ga),(l.foldl (fun out x=>if(jU a x && !out.contains x)=true then out++[x] else out) A).length≤A.length+l.length
 | [],A=>Nat.le_refl _
 | x :: l,A=>by
  rw [List.foldl_cons]
  refine Nat.le_trans (xG l _) ?_
  split
  ·simp;omega
  ·simp only [List.length_cons];omega
section
variable {a b:gt} {n:Int} {p:List ga} {u:List Tally}
theorem EH(ra:iN a n)(rb:iN b n)(hp:p=qn a b)(hu:u=oF a b):ip a b=(⟨g8 a.clock b.clock,oB p,ny u⟩,0):=by rw [sY ra rb,hp,hu];rfl
theorem BG(ra:iN a n)(rb:iN b n)(hp:p=qn a b):p.Nodup:=by rw [hp];exact(uV ra rb).1
theorem Dd(ra:iN a n)(rb:iN b n)(hu:u=oF a b):oX u:=by rw [hu];exact uU ra rb
end
theorem Da(rd:Rd)(W:World)(hle:Rd.le rd (fX W))(v v2:Value)(a b:gt)(h:fW iW rd v a)(h2:fW iW rd v2 b) :
    Calls Tryz.prog 42 #[v,v2] W (fun e w' => ∃ v',e = .returned (.tuple #[v',.int .i64 (ip a b).2])∧fW iW (ext rd W w') v' (ip a b).1∧Below W.heap.size W w'):=by
 obtain⟨_,rfl,h⟩:=h;obtain⟨M,N,Q,T,O,P,rfl,s,K,F,_⟩:=h.d;obtain⟨_,rfl,h2⟩:=h2;obtain⟨Y,Z,a2,a3,U,V,rfl,B,L,C,_⟩:=h2.d;have cZ:=il;have S:St [] W rd rd [] [] W:=St.start hle;refine io (args:=[.agg (kS a M N Q T O P),.agg (kS b Y Z a2 a3 U V)]) 141 Tryz.func42 rfl rfl rfl ?_;refine er (ix (u:=.agg (kS a M N Q T O P)) (cs:=(kS a M N Q T O P)) S rfl rfl fun a7 _ S=>ix (u:=.agg (kS b Y Z a2 a3 U V)) (cs:=(kS b Y Z a2 a3 U V)) S rfl rfl fun a8 _ S=>gk (cs:=jX) S jP rfl fun X _ S=>ly (ni 0) S Ya ?_);obtain⟨_,S,ag,l⟩:=S.frzp (i:=0) rfl rfl;replace s:=fm s ag;replace K:=fm K ag;replace F:=fm F ag;replace B:=fm B ag;replace L:=fm L ag;replace C:=fm C ag;obtain⟨_,S,af,D⟩:=S.frzp (i:=0) rfl rfl;replace s:=fm s af;replace K:=fm K af;replace F:=fm F af;replace B:=fm B af;replace L:=fm L af;replace C:=fm C af;replace l:=j2.mono l af;refine ln (er ?_);obtain⟨bh,bi,bj⟩:=jB (us:=[sc M a.clock.length N,sc Q a.lives.length T,sc O a.tallies.length P]) iO l rfl;refine ly bh S (bj rfl) (ly (sc M a.clock.length N) S (iE bi gL) (ly (ni (a.clock.length:Int)) S (Yl jH) (ly (ni (a.clock.length:Int)) S Ya (ln (fJ (er (ly (.agg (kS a M N Q T O P)) S (jd l ir) (ly (.agg (kS b Y Z a2 a3 U V)) S (jd D ir) (iZ (ps:=[(0,.agg (kS a M N Q T O P)),(1,.agg (kS b Y Z a2 a3 U V))]) (cs:=#[sc M a.clock.length N,sc Q a.lives.length T,sc O a.tallies.length P,sc Y b.clock.length Z,sc a2 b.lives.length a3,sc U b.tallies.length V]) S qZ iM jP rfl rfl rfl (by kernel_rfl) fun aY _ S => ?_)))))))));obtain⟨bk,S,ad,bl⟩:=S.frz' (i:=1) rfl rfl;replace s:=fm s ad;replace K:=fm K ad;replace F:=fm F ad;replace B:=fm B ad;replace L:=fm L ad;replace C:=fm C ad;replace l:=j2.mono l ad;replace D:=j2.mono D ad;have aB:=bl (size:=3) (R:=iW) (xs:=([a,b]:List gt)) (n:=2) (c:=2) rfl (Nat.le_refl _) (by simp [maxLen]) ⟨[sc M a.clock.length N,sc Q a.lives.length T,sc O a.tallies.length P],_,rfl,rfl,⟨_,_,_,rfl,s,K,F⟩,⟨[sc Y b.clock.length Z,sc a2 b.lives.length a3,sc U b.tallies.length V],_,rfl,rfl,⟨_,_,_,rfl,B,L,C⟩,rfl⟩⟩;refine ly (ni 2) S (Yl qZ) (ly (ni 0) S Ym (ln (go ?_)));refine et [(2,.pointer (some ⟨a7,0,none⟩)),(3,.pointer (some ⟨a8,0,none⟩)),(4,pa X 0),(6,ni (a.clock.length:Int)),(24,sb aY 0 2 2),(25,ni 2),(26,ni (0:Int))] (fun m => ?_);refine j1 (fun(G:Nat) ov w=>match G with | k => ∃ rd' m,ov=[(2,.pointer (some ⟨a7,0,none⟩)),(3,.pointer (some ⟨a8,0,none⟩)),(4,pa X 0),(6,ni (a.clock.length:Int)),(24,sb aY 0 2 2),(25,ni 2),(26,ni (k:Int))]++m∧St [] W rd rd' [(X,27,#[sn,sn,sn])] [] w∧Rd.le bk rd'∧k≤2∧(∀ y∈(([a,b]:List gt)).take k,(gj y (a.clock.length:Int)).1=0)) (fun G=>match G with | k=>2 - k) 0 ⟨_,m,rfl,(S.rw' rfl rfl),fZ,(by omega),(by simp)⟩ ?_;rintro k _ _ ⟨aZ,m,rfl,S,aa,_,aC⟩;replace s:=fm s aa;replace K:=fm K aa;replace F:=fm F aa;replace B:=fm B aa;replace L:=fm L aa;replace C:=fm C aa;replace l:=j2.mono l aa;replace D:=j2.mono D aa;replace aB:=fm aB aa;refine er ?_;by_cases b0:(k:Int)<2
 ·
  refine ly (.bool true) S (gJ rfl rfl b0) (ln (fJ (fS rfl (g1 (fM (fJ (go (er ?_))))))));obtain⟨H,aD⟩:∃ z,(([a,b]:List gt))[k]? = some z:=gX (by simp only [List.length_cons,List.length_nil];omega);obtain⟨bm,_,bn,_,bo,bp⟩:=hD qZ iM aB aD;obtain⟨ah,ai,aj,al,an,ao,rfl,bq,br,bs,_⟩:=bo.d;refine ly bm S (bp rfl rfl (by first | rfl | omega)) (ly (.agg (kS H ah ai aj al an ao)) S (jd bn ir) (gk (cs:=jX) S jP rfl fun bt _ S=>fT (u:=.agg (kS H ah ai aj al an ao)) (i:=1) (cs':=(kS H ah ai aj al an ao)) S rfl rfl rfl iM rfl rfl rfl fun _ S=>ln (er (ly (.agg (kS H ah ai aj al an ao)) S (gf 1 ir) (ly (ni (a.clock.length:Int)) S Ym ?_)))));refine g7 (g4 (vs:=[.agg (kS H ah ai aj al an ao),ni (a.clock.length:Int)]) (CF 48 _) rfl rfl) (vF _ _ S.le _ H (a.clock.length:Int) (⟨_,rfl,⟨_,_,_,rfl,bq,br,bs⟩⟩:fW iW aZ _ H)) ?_;rintro e _ ⟨rfl,a5⟩;have S:=S.callq a5;refine g9 (gk (cs:=mr) S mn rfl fun aE _ S=>fT (u:=.agg #[ni ((gj H (a.clock.length:Int)).1),ni ((gj H (a.clock.length:Int)).2)]) (i:=2) (cs':=#[ni ((gj H (a.clock.length:Int)).1),ni ((gj H (a.clock.length:Int)).2)]) S rfl rfl rfl iS rfl rfl rfl fun _ S=>ln (er (ly (pa aE 0) S (Yb lu) (ly (ni ((gj H (a.clock.length:Int)).1)) S (fI 2 l8) ?_))));by_cases au:(gj H (a.clock.length:Int)).1=0
  ·
   refine ly (.bool false) S (iT rfl rfl au) (ln (fV rfl (g1 (gA (nr (ly (ni ((k:Int)+1)) S (gw (r:=(k:Int)+1) rfl rfl (gl (by omega) (by omega))) (ly (ni ((k:Int)+1)) S Ym (fL ?_))))))));refine fK ⟨(k+1),_,fk,⟨_,_,rfl,(S.tt 1 0),(fY aa fZ),(by omega),(wZ aC aD au)⟩,?_⟩
   show _<_;dsimp only;omega
  refine ly (.bool true) S (j4 rfl rfl au) (ln (fS rfl (fJ ?_)));refine iV (fun w=>St [] W rd aZ [(bt,27,(kS H ah ai aj al an ao)),(aE,84,#[ni ((gj H (a.clock.length:Int)).1),ni ((gj H (a.clock.length:Int)).2)])] [] w) MX rfl ?_;have S:=S.drew;have d0:=S.sup;have SC:=((S.tt 3 0).del 0);refine tk (.agg #[sn,sn,sn]) 0 rfl rfl SC (gy (ps:=[]) rfl (fun _=>by kernel_rfl)) (tk (pa aE 0) 1 rfl rfl SC (Yb lu) (tk (ni ((gj H (a.clock.length:Int)).1)) 2 rfl rfl SC (fI 1 l8) ?_));refine aO 3 rfl (by kernel_rfl) (fT (u:=.agg #[sn,sn,sn]) (i:=0) (cs':=#[sn,sn,sn]) S rfl rfl rfl iM rfl rfl rfl fun _ S=>fL ?_)
  have SC:=((S.tt 3 0).del 0);refine fK (ak SC ?_);refine tk (ni ((gj H (a.clock.length:Int)).1)) 4 rfl rfl SC Ya (gE (by kernel_rfl) ?_);refine fM (fR ?_);refine iv (v:=.agg #[sn,sn,sn]) (v':=ni ((gj H (a.clock.length:Int)).1)) rfl ⟨_,rfl,gu (i:=0) (vs:=[sn,sn,sn]) S rfl ir rfl rfl⟩ rfl ?_;rw [z8 aC aD au];exact⟨_,rfl,⟨_,rfl,⟨_,_,_,rfl,fU,fU,fU⟩⟩,S.below⟩
 refine ly (.bool false) S (gH rfl rfl b0) (ln (fJ (fV rfl (iP (iQ (j0 (iR (fM (er ?_)))))))));obtain⟨ra,rb⟩:=wj aC (by omega);have d1:=ra.clock_len;have d2:=rb.clock_len;have d3:=i7 ra.c;have d4:=i7 rb.c;obtain⟨bu,bv,bw⟩:=jB (us:=[sc M a.clock.length N,sc Q a.lives.length T,sc O a.tallies.length P]) iO l rfl;refine ly bu S (bw rfl) (ly (sc M a.clock.length N) S (iE bv gL) ?_);obtain⟨bx,bz,bA⟩:=jB (us:=[sc Y b.clock.length Z,sc a2 b.lives.length a3,sc U b.tallies.length V]) iO D rfl;refine ly bx S (bA rfl) (ly (sc Y b.clock.length Z) S (iE bz gL) ?_);refine g7 (g4 (vs:=[sc M a.clock.length N,sc Y b.clock.length Z]) (CF 31 _) rfl rfl) (tj _ _ _ _ _ (fm s S.le) (fm B S.le) (by omega)) ?_;rintro e _ ⟨_,rfl,a4,a5⟩;obtain⟨b1,S,ae,bB,_⟩:=S.call' a5;replace s:=fm s ae;replace K:=fm K ae;replace F:=fm F ae;replace B:=fm B ae;replace L:=fm L ae;replace C:=fm C ae;replace l:=j2.mono l ae;replace D:=j2.mono D ae;have a4:=fm a4 bB;obtain⟨I,J,rfl,_,_⟩:=a4.val;refine g9 (ly (.agg #[sc I ((g8 a.clock b.clock).length) J,sn,sn]) S (gy (ps:=[(0,sc I ((g8 a.clock b.clock).length) J)]) rfl (fun _=>by kernel_rfl)) (gk (cs:=jX) S jP rfl fun E _ S=>fT (u:=.agg #[sc I ((g8 a.clock b.clock).length) J,sn,sn]) (i:=1) (cs':=#[sc I ((g8 a.clock b.clock).length) J,sn,sn]) S rfl rfl rfl iM rfl rfl rfl fun _ S=>ln (fJ (er ?_))));obtain⟨bC,bD,bE⟩:=jB (us:=[sc Q a.lives.length T,sc O a.tallies.length P]) jn l rfl;refine ly bC S (bE rfl) (ly (sc Q a.lives.length T) S (iE bD k7) (ly (ni (a.lives.length:Int)) S (Yl iD) (ly (ni 0) S Ym (ln (go ?_)))));have S:=S.ownNil 104 5;have bF:fQ 5 gB b1 [] []:=rfl;refine et [(2,.pointer (some ⟨a7,0,none⟩)),(3,.pointer (some ⟨a8,0,none⟩)),(4,pa X 0),(10,pa E 0),(47,sc Q a.lives.length T),(48,ni (a.lives.length:Int)),(49,ni (0:Int))] (fun m => ?_);refine j1 (fun(G:Nat × (List ga) × (Option Addr) × Nat × Nat × (List Value)) ov w=>match G with | (k,o,AO,nO,cO,xsO) => ∃ rd' m,ov=[(2,.pointer (some ⟨a7,0,none⟩)),(3,.pointer (some ⟨a8,0,none⟩)),(4,pa X 0),(10,pa E 0),(47,sc Q a.lives.length T),(48,ni (a.lives.length:Int)),(49,ni (k:Int))]++m∧St [] W rd rd' [(X,27,#[sn,sn,sn]),(E,27,#[sc I ((g8 a.clock b.clock).length) J,sc AO nO cO,sn])] [⟨104,5,sc AO nO cO,nO,xsO⟩] w∧Rd.le b1 rd'∧(fQ 5 gB rd' xsO o∧nO=o.length)∧k≤(a.lives).length∧o=(a.lives.take k).filter (jU b)) (fun G=>match G with | (k,o,AO,nO,cO,xsO)=>(a.lives).length - k) (0,[],none,0,0,[]) ⟨_,m,rfl,(S.rw' rfl rfl),fZ,⟨bF,(by first | rfl | assumption | omega)⟩,(by omega),(by simp)⟩ ?_;rintro⟨k,o,AO,nO,cO,xsO⟩ _ _ ⟨b2,m,rfl,S,a9,⟨OO,_⟩,_,av⟩;replace s:=fm s a9;replace K:=fm K a9;replace F:=fm F a9;replace B:=fm B a9;replace L:=fm L a9;replace C:=fm C a9;replace l:=j2.mono l a9;replace D:=j2.mono D a9;replace a4:=fm a4 a9;have d5:o.length≤400000000:=by rw [av];exact Nat.le_trans (List.length_filter_le _ _) (Nat.le_trans (List.length_take_le' _ _) ra.lives_len)
 refine er ?_;by_cases b3:(k:Int)<(a.lives.length:Int)
 ·
  refine ly (.bool true) S (gJ rfl rfl b3) (ln (fJ (fS rfl (g1 (fM (fJ (go (er ?_))))))));obtain⟨q,aF⟩:∃ z,(a.lives)[k]? = some z:=gX (by first | assumption | omega);obtain⟨bG,bH,bI,_,bJ,bK⟩:=hD iD iY K aF;have bL:bH=[.bool q.set,ni q.key,ni q.item,ni q.author,ni q.seq]:=bJ;subst bL;refine ly bG S (bK rfl rfl (by first | rfl | omega)) (ly (.agg (kL q)) S (jd bI j6) (gk (cs:=nj) S lv rfl fun _ _ S=>fT (u:=.agg (kL q)) (i:=2) (cs':=(kL q)) S rfl rfl rfl iY rfl rfl rfl fun _ S=>ln (er (ly (.agg (kL q)) S (gf 2 j6) ?_))));refine g7 (g4 (vs:=[.agg (kL q),.pointer (some ⟨a8,0,none⟩)]) (CF 78 _) rfl rfl) (wX _ _ S.le _ _ _ _ _ q b (⟨_,rfl,rfl⟩:fW gB b2 _ q) D B L C) ?_;rintro e _ ⟨rfl,a5⟩;have S:=S.callq a5
  cases b4:jU b q
  ·
   refine kn (fM (fV rfl (g1 (gA (nr (ly (ni ((k:Int)+1)) S (gw (r:=(k:Int)+1) rfl rfl (gl (by omega) (by omega))) (ly (ni ((k:Int)+1)) S Ym (fL ?_))))))));refine fK ⟨(k+1,o,AO,nO,cO,xsO),_,fk,⟨_,_,rfl,(S.tt 2 1),(fY a9 fZ),⟨OO,(by first | assumption | omega)⟩,(by omega),(zN av aF b4)⟩,?_⟩
   show _<_;dsimp only;omega
  refine kn (fM (fS rfl (gU (ly (pa E 1) S (Yb jn) (ly (sc AO nO cO) S (fI 1 k7) (ly (.agg (kL q)) S (gf 2 j6) (iZ (ps:=[(0,.agg (kL q))]) (cs:=#[.bool q.set,ni q.key,ni q.item,ni q.author,ni q.seq]) S iD iY lv rfl rfl rfl (by kernel_rfl) fun _ _ S => ?_)))))));refine js (e':=0) (i:=0) (i':=3) S og rfl rfl rfl rfl rfl rfl rfl (by simp only [maxLen];omega) (by first | omega | (dsimp only;omega)) fun bM _ S => ?_
  have OO:=fQ.push (x:=q) (cs:=(kL q).toList) OO rfl rfl;obtain⟨aG,aH,bN,_,_⟩:∃ A c,bM = .slice A (nO+1) c∧(nO+1)≤c∧c≤maxLen:=i8 S (i:=0) rfl;subst bN;refine ly (pa E 1) S (Yb jn) (fT (u:=sc aG (nO+1) aH) (i:=1) (cs':=#[sc I ((g8 a.clock b.clock).length) J,sc aG (nO+1) aH,sn]) S rfl rfl rfl nm rfl rfl rfl fun _ S=>fL (gA (nr (ly (ni ((k:Int)+1)) S (gw (r:=(k:Int)+1) rfl rfl (gl (by omega) (by omega))) (ly (ni ((k:Int)+1)) S Ym (fL ?_))))));refine fK ⟨(k+1,o++[q],aG,nO+1,aH,(xsO++(kL q).toList)),_,fk,⟨_,_,rfl,(S.tt 2 1),(fY a9 fZ),⟨OO,(by simp;omega)⟩,(by omega),(wy av aF b4)⟩,?_⟩
  show _<_;dsimp only;omega
 refine ly (.bool false) S (gH rfl rfl b3) (ln (fJ (fV rfl (iP (iQ (j0 (iR (fM (fJ (er ?_))))))))));obtain⟨bO,bP,bQ⟩:=jB (us:=[sc a2 b.lives.length a3,sc U b.tallies.length V]) jn D rfl;refine ly bO S (bQ rfl) (ly (sc a2 b.lives.length a3) S (iE bP k7) (ly (ni (b.lives.length:Int)) S (Yl iD) (ly (ni 0) S Ym (ln (go ?_)))));refine et [(2,.pointer (some ⟨a7,0,none⟩)),(3,.pointer (some ⟨a8,0,none⟩)),(4,pa X 0),(10,pa E 0),(63,sc a2 b.lives.length a3),(64,ni (b.lives.length:Int)),(65,ni (0:Int))] (fun m => ?_);refine j1 (fun(G:Nat × (List ga) × (Option Addr) × Nat × Nat × (List Value)) ov w=>match G with | (k,p,AP,nP,cP,xsP) => ∃ rd' m,ov=[(2,.pointer (some ⟨a7,0,none⟩)),(3,.pointer (some ⟨a8,0,none⟩)),(4,pa X 0),(10,pa E 0),(63,sc a2 b.lives.length a3),(64,ni (b.lives.length:Int)),(65,ni (k:Int))]++m∧St [] W rd rd' [(X,27,#[sn,sn,sn]),(E,27,#[sc I ((g8 a.clock b.clock).length) J,sc AP nP cP,sn])] [⟨104,5,sc AP nP cP,nP,xsP⟩] w∧Rd.le b2 rd'∧(fQ 5 gB rd' xsP p∧nP=p.length)∧k≤(b.lives).length∧p=(b.lives.take k).foldl (fun out x=>if(jU a x && !out.contains x)=true then out++[x] else out) (a.lives.filter (jU b))) (fun G=>match G with | (k,p,AP,nP,cP,xsP)=>(b.lives).length - k) (0,o,AO,nO,cO,xsO) ⟨_,m,rfl,(S.rw' rfl rfl),fZ,⟨OO,(by first | rfl | assumption | omega)⟩,(by omega),(by rw [av,List.take_of_length_le (by omega)];rfl)⟩ ?_;rintro⟨k,p,AP,nP,cP,xsP⟩ _ _ ⟨aw,m,rfl,S,a6,⟨OP,_⟩,_,ap⟩;replace s:=fm s a6;replace K:=fm K a6;replace F:=fm F a6;replace B:=fm B a6;replace L:=fm L a6;replace C:=fm C a6;replace l:=j2.mono l a6;replace D:=j2.mono D a6;replace a4:=fm a4 a6;have d6:p.length≤800000000:=by rw [ap];exact Nat.le_trans (xG _ _) (by have:=ra.lives_len;have:=rb.lives_len;have:=List.length_filter_le (jU b) a.lives;have:=List.length_take_le' k b.lives;omega)
 refine er ?_;by_cases b5:(k:Int)<(b.lives.length:Int)
 ·
  refine ly (.bool true) S (gJ rfl rfl b5) (ln (fJ (fS rfl (g1 (fM (fJ (go (er ?_))))))));obtain⟨j,ax⟩:∃ z,(b.lives)[k]? = some z:=gX (by first | assumption | omega);obtain⟨bR,bS,bT,_,bU,bV⟩:=hD iD iY L ax;have bW:bS=[.bool j.set,ni j.key,ni j.item,ni j.author,ni j.seq]:=bU;subst bW;refine ly bR S (bV rfl rfl (by first | rfl | omega)) (ly (.agg (kL j)) S (jd bT j6) (gk (cs:=nj) S lv rfl fun _ _ S=>fT (u:=.agg (kL j)) (i:=2) (cs':=(kL j)) S rfl rfl rfl iY rfl rfl rfl fun _ S=>ln (er (ly (.agg (kL j)) S (gf 2 j6) ?_))));refine g7 (g4 (vs:=[.agg (kL j),.pointer (some ⟨a7,0,none⟩)]) (CF 78 _) rfl rfl) (wX _ _ S.le _ _ _ _ _ j a (⟨_,rfl,rfl⟩:fW gB aw _ j) l s K F) ?_;rintro e _ ⟨rfl,a5⟩;have S:=S.callq a5
  cases aI:jU a j
  ·
   refine g9 (ly (.bool false) S Ym (ls 71 (ls 71 (ls 71 (ls 71 (ls 71 (ly (.bool false) S Yf (ln (fV rfl (g1 (gA (nr (ly (ni ((k:Int)+1)) S (gw (r:=(k:Int)+1) rfl rfl (gl (by omega) (by omega))) ?_)))))))))))));refine ly (ni ((k:Int)+1)) S Ym (fL ?_);refine fK ⟨(k+1,p,AP,nP,cP,xsP),_,fk,⟨_,_,rfl,(S.tt 2 1),(fY a6 fZ),⟨OP,(by first | assumption | omega)⟩,(by omega),(ER ap ax aI)⟩,?_⟩
   show _<_;dsimp only;omega
  refine g9 (ly (.bool true) S Ym (lg 71 (pa E 1) S (Yb jn) (lg 71 (sc AP nP cP) S (fI 1 k7) (lg 71 (.agg (kL j)) S (gf 2 j6) ?_))));refine lj (d':=71) (g4 (vs:=[sc AP nP cP,.agg (kL j)]) (CF 79 _) rfl rfl) rfl rfl (vT (fX _) _ fZ _ _ p j (S.rowS (n:=0) (i:=0) rfl rfl (by first | rfl | assumption | omega) rfl OP) (am (⟨_,rfl,rfl⟩:fW gB aw _ j) S.le)) ?_;rintro e _ ⟨rfl,a5⟩;have S:=S.callq a5
  cases b6:(p).contains j
  ·
   refine g9 (lg 71 (.bool true) S (iH rfl rfl) (ly (.bool true) S Yt (ln (fS rfl (gU (ly (pa E 1) S (Yb jn) (ly (sc AP nP cP) S (fI 1 k7) (ly (.agg (kL j)) S (gf 2 j6) (iZ (ps:=[(0,.agg (kL j))]) (cs:=#[.bool j.set,ni j.key,ni j.item,ni j.author,ni j.seq]) S iD iY lv rfl rfl rfl (by kernel_rfl) fun _ _ S => ?_)))))))));refine js (e':=0) (i:=0) (i':=3) S og rfl rfl rfl rfl rfl rfl rfl (by simp only [maxLen];omega) (by first | omega | (dsimp only;omega)) fun bX _ S => ?_
   have OP:=fQ.push (x:=j) (cs:=(kL j).toList) OP rfl rfl;obtain⟨aJ,aK,bY,_,_⟩:∃ A c,bX = .slice A (nP+1) c∧(nP+1)≤c∧c≤maxLen:=i8 S (i:=0) rfl;subst bY;refine ly (pa E 1) S (Yb jn) (fT (u:=sc aJ (nP+1) aK) (i:=1) (cs':=#[sc I ((g8 a.clock b.clock).length) J,sc aJ (nP+1) aK,sn]) S rfl rfl rfl nm rfl rfl rfl fun _ S=>fL (gA (nr (ly (ni ((k:Int)+1)) S (gw (r:=(k:Int)+1) rfl rfl (gl (by omega) (by omega))) (ly (ni ((k:Int)+1)) S Ym (fL ?_))))));refine fK ⟨(k+1,p++[j],aJ,nP+1,aK,(xsP++(kL j).toList)),_,fk,⟨_,_,rfl,(S.tt 2 1),(fY a6 fZ),⟨OP,(by simp;omega)⟩,(by omega),(Ad ap ax aI b6)⟩,?_⟩
   show _<_;dsimp only;omega
  refine g9 (lg 71 (.bool false) S (iH rfl rfl) (ly (.bool false) S Yt (ln (fV rfl (g1 (gA (nr (ly (ni ((k:Int)+1)) S (gw (r:=(k:Int)+1) rfl rfl (gl (by omega) (by omega))) (ly (ni ((k:Int)+1)) S Ym (fL ?_))))))))));refine fK ⟨(k+1,p,AP,nP,cP,xsP),_,fk,⟨_,_,rfl,(S.tt 2 1),(fY a6 fZ),⟨OP,(by first | assumption | omega)⟩,(by omega),(BR ap ax aI b6)⟩,?_⟩
  show _<_;dsimp only;omega
 refine ly (.bool false) S (gH rfl rfl b5) (ln (fJ (fV rfl (iP (iQ (j0 (iR (fM (fJ (er ?_))))))))));obtain⟨bZ,c0,c1⟩:=jB (us:=[sc O a.tallies.length P]) kQ l rfl;refine ly bZ S (c1 rfl) (ly (sc O a.tallies.length P) S (iE c0 lP) (ly (ni (a.tallies.length:Int)) S (Yl iK) (ly (ni 0) S Ym (ln (go ?_)))));have S:=S.ownNil 106 3;have c2:fQ 3 h8 aw [] []:=rfl;refine et [(2,.pointer (some ⟨a7,0,none⟩)),(3,.pointer (some ⟨a8,0,none⟩)),(4,pa X 0),(10,pa E 0),(86,sc O a.tallies.length P),(87,ni (a.tallies.length:Int)),(88,ni (0:Int))] (fun m => ?_);refine j1 (fun(G:Nat × (List Tally) × (Option Addr) × Nat × Nat × (List Value)) ov w=>match G with | (k,t,AT,nT,cT,xsT) => ∃ rd' m,ov=[(2,.pointer (some ⟨a7,0,none⟩)),(3,.pointer (some ⟨a8,0,none⟩)),(4,pa X 0),(10,pa E 0),(86,sc O a.tallies.length P),(87,ni (a.tallies.length:Int)),(88,ni (k:Int))]++m∧St [] W rd rd' [(X,27,#[sn,sn,sn]),(E,27,#[sc I ((g8 a.clock b.clock).length) J,sc AP nP cP,sc AT nT cT])] [⟨104,5,sc AP nP cP,nP,xsP⟩,⟨106,3,sc AT nT cT,nT,xsT⟩] w∧Rd.le aw rd'∧(fQ 3 h8 rd' xsT t∧nT=t.length)∧k≤(a.tallies).length∧t=(a.tallies.take k).filter (fun t:Tally=>decide (g6 b.clock t.author.toNat≤g6 a.clock t.author.toNat))) (fun G=>match G with | (k,t,AT,nT,cT,xsT)=>(a.tallies).length - k) (0,[],none,0,0,[]) ⟨_,m,rfl,(S.rw' rfl rfl),fZ,⟨c2,(by first | rfl | assumption | omega)⟩,(by omega),(by simp)⟩ ?_;rintro⟨k,t,AT,nT,cT,xsT⟩ _ _ ⟨c3,m,rfl,S,ab,⟨OT,_⟩,_,ay⟩;replace s:=fm s ab;replace F:=fm F ab;replace B:=fm B ab;replace C:=fm C ab;replace l:=j2.mono l ab;replace D:=j2.mono D ab;replace a4:=fm a4 ab;replace OP:=rm OP ab;have d7:t.length≤96:=by rw [ay];exact Nat.le_trans (List.length_filter_le _ _) (Nat.le_trans (List.length_take_le' _ _) ra.tallies_len)
 refine er ?_;by_cases b7:(k:Int)<(a.tallies.length:Int)
 ·
  refine ly (.bool true) S (gJ rfl rfl b7) (ln (fJ (fS rfl (g1 (fM (fJ (go (er ?_))))))));obtain⟨f,az⟩:∃ z,(a.tallies)[k]? = some z:=gX (by first | assumption | omega);have aq:=ra.t _ (List.mem_of_getElem? az);have c4:=aq.a0;have c5:=aq.a1;obtain⟨c6,c7,c8,_,c9,ca⟩:=hD iK jf F az;have cb:c7=[ni f.key,ni f.author,ni f.sum]:=c9;subst cb;refine ly c6 S (ca rfl rfl (by first | rfl | omega)) (ly (.agg #[ni f.key,ni f.author,ni f.sum]) S (jd c8 kX) (gk (cs:=qb) S nl rfl fun b8 _ S=>fT (u:=.agg #[ni f.key,ni f.author,ni f.sum]) (i:=2) (cs':=#[ni f.key,ni f.author,ni f.sum]) S rfl rfl rfl jf rfl rfl rfl fun _ S=>ln (fJ ?_)));refine jZ MX (by kernel_rfl) S.drew ?_;obtain⟨cc,cd,ce⟩:=jB (us:=[sc M a.clock.length N,sc Q a.lives.length T,sc O a.tallies.length P]) iO l rfl;refine qy cc (ce rfl) (qy (sc M a.clock.length N) (iE cd gL) (qy (pa b8 1) (Yb mg) (qy (ni f.author) (fI 2 T3) ?_)));obtain⟨aL,b9⟩:∃ z,(a.clock)[f.author.toNat]? = some z:=gX (by omega);have:=mi b9;obtain⟨cf,cg,ch,_,aM,ci⟩:=hD jH iX s b9;have aM:cg=[ni aL]:=aM;subst aM;refine qy cf (ci rfl rfl (by first | rfl | omega)) (qy (ni aL) (iE ch T3) ?_);obtain⟨cj,ck,cl⟩:=jB (us:=[sc Y b.clock.length Z,sc a2 b.lives.length a3,sc U b.tallies.length V]) iO D rfl;refine qy cj (cl rfl) (qy (sc Y b.clock.length Z) (iE ck gL) (qy (pa b8 1) (Yb mg) (qy (ni f.author) (fI 2 T3) ?_)));obtain⟨aN,ba⟩:∃ z,(b.clock)[f.author.toNat]? = some z:=gX (by omega);have:=mi ba;obtain⟨cm,cn,co,_,aP,cp⟩:=hD jH iX B ba;have aP:cn=[ni aN]:=aP;subst aP;refine qy cm (cp rfl rfl (by first | rfl | omega)) (qy (ni aN) (iE co T3) ?_);by_cases bb:aN≤aL
  ·
   refine qy (.bool true) (jY rfl rfl bb) (ig fun _ S=>fM (fS rfl (gU (ly (pa E 2) S (Yb kQ) (ly (sc AT nT cT) S (fI 1 lP) (ly (.agg #[ni f.key,ni f.author,ni f.sum]) S (gf 2 kX) (iZ (ps:=[(0,.agg #[ni f.key,ni f.author,ni f.sum])]) (cs:=#[ni f.key,ni f.author,ni f.sum]) S iK jf nl rfl rfl rfl (by kernel_rfl) fun _ _ S => ?_)))))));refine js (e':=0) (i:=1) (i':=3) S oD rfl rfl rfl rfl rfl rfl rfl (by simp only [maxLen];omega) (by first | omega | (dsimp only;omega)) fun cq _ S => ?_
   have OT:=fQ.push (x:=f) (cs:=[ni f.key,ni f.author,ni f.sum]) OT rfl rfl;obtain⟨aQ,aR,cr,_,_⟩:∃ A c,cq = .slice A (nT+1) c∧(nT+1)≤c∧c≤maxLen:=i8 S (i:=1) rfl;subst cr;refine ly (pa E 2) S (Yb kQ) (fT (u:=sc aQ (nT+1) aR) (i:=1) (cs':=#[sc I ((g8 a.clock b.clock).length) J,sc AP nP cP,sc aQ (nT+1) aR]) S rfl rfl rfl pT rfl rfl rfl fun _ S=>fL (gA (nr (ly (ni ((k:Int)+1)) S (gw (r:=(k:Int)+1) rfl rfl (gl (by omega) (by omega))) (ly (ni ((k:Int)+1)) S Ym (fL ?_))))));refine fK ⟨(k+1,t++[f],aQ,nT+1,aR,(xsT++[ni f.key,ni f.author,ni f.sum])),_,fk,⟨_,_,rfl,(S.tt 2 2),(fY ab fZ),⟨OT,(by simp;omega)⟩,(by omega),(wy ay az (decide_eq_true (by omega)))⟩,?_⟩
   show _<_;dsimp only;omega
  refine qy (.bool false) (k4 rfl rfl bb) (ig fun _ S=>fM (fV rfl (g1 (gA (nr (ly (ni ((k:Int)+1)) S (gw (r:=(k:Int)+1) rfl rfl (gl (by omega) (by omega))) (ly (ni ((k:Int)+1)) S Ym (fL ?_))))))));refine fK ⟨(k+1,t,AT,nT,cT,xsT),_,fk,⟨_,_,rfl,(S.tt 2 2),(fY ab fZ),⟨OT,(by first | assumption | omega)⟩,(by omega),(zN ay az (decide_eq_false (by omega)))⟩,?_⟩
  show _<_;dsimp only;omega
 refine ly (.bool false) S (gH rfl rfl b7) (ln (fJ (fV rfl (iP (iQ (j0 (iR (fM (fJ (er ?_))))))))));obtain⟨ct,cu,cv⟩:=jB (us:=[sc U b.tallies.length V]) kQ D rfl;refine ly ct S (cv rfl) (ly (sc U b.tallies.length V) S (iE cu lP) (ly (ni (b.tallies.length:Int)) S (Yl iK) (ly (ni 0) S Ym (ln (go ?_)))));refine et [(2,.pointer (some ⟨a7,0,none⟩)),(3,.pointer (some ⟨a8,0,none⟩)),(4,pa X 0),(10,pa E 0),(113,sc U b.tallies.length V),(114,ni (b.tallies.length:Int)),(115,ni (0:Int))] (fun m => ?_);refine j1 (fun(G:Nat × (List Tally) × (Option Addr) × Nat × Nat × (List Value)) ov w=>match G with | (k,u,AU,nU,cU,xsU) => ∃ rd' m,ov=[(2,.pointer (some ⟨a7,0,none⟩)),(3,.pointer (some ⟨a8,0,none⟩)),(4,pa X 0),(10,pa E 0),(113,sc U b.tallies.length V),(114,ni (b.tallies.length:Int)),(115,ni (k:Int))]++m∧St [] W rd rd' [(X,27,#[sn,sn,sn]),(E,27,#[sc I ((g8 a.clock b.clock).length) J,sc AP nP cP,sc AU nU cU])] [⟨104,5,sc AP nP cP,nP,xsP⟩,⟨106,3,sc AU nU cU,nU,xsU⟩] w∧Rd.le c3 rd'∧(fQ 3 h8 rd' xsU u∧nU=u.length)∧k≤(b.tallies).length∧u=(a.tallies.filter (fun t:Tally=>decide (g6 b.clock t.author.toNat≤g6 a.clock t.author.toNat)))++(b.tallies.take k).filter (fun t:Tally=>decide (g6 a.clock t.author.toNat<g6 b.clock t.author.toNat))) (fun G=>match G with | (k,u,AU,nU,cU,xsU)=>(b.tallies).length - k) (0,t,AT,nT,cT,xsT) ⟨_,m,rfl,(S.rw' rfl rfl),fZ,⟨OT,(by first | rfl | assumption | omega)⟩,(by omega),(by rw [ay,List.take_of_length_le (by omega)];simp)⟩ ?_;rintro⟨k,u,AU,nU,cU,xsU⟩ _ _ ⟨_,m,rfl,S,ac,⟨OU,_⟩,_,ar⟩;replace s:=fm s ac;replace B:=fm B ac;replace C:=fm C ac;replace l:=j2.mono l ac;replace D:=j2.mono D ac;replace a4:=fm a4 ac;replace OP:=rm OP ac;have d8:u.length≤192:=by rw [ar,List.length_append];have:=ra.tallies_len;have:=rb.tallies_len;have:=List.length_filter_le (fun t:Tally=>decide (g6 b.clock t.author.toNat≤g6 a.clock t.author.toNat)) a.tallies;have:=List.length_filter_le (fun t:Tally=>decide (g6 a.clock t.author.toNat<g6 b.clock t.author.toNat)) (b.tallies.take k);have:=List.length_take_le' k b.tallies;omega
 refine er ?_;by_cases bc:(k:Int)<(b.tallies.length:Int)
 ·
  refine ly (.bool true) S (gJ rfl rfl bc) (ln (fJ (fS rfl (g1 (fM (fJ (go (er ?_))))))));obtain⟨g,aA⟩:∃ z,(b.tallies)[k]? = some z:=gX (by first | assumption | omega);have aq:=rb.t _ (List.mem_of_getElem? aA);have c4:=aq.a0;have c5:=aq.a1;obtain⟨cw,cx,cy,_,cz,cA⟩:=hD iK jf C aA;have cB:cx=[ni g.key,ni g.author,ni g.sum]:=cz;subst cB;refine ly cw S (cA rfl rfl (by first | rfl | omega)) (ly (.agg #[ni g.key,ni g.author,ni g.sum]) S (jd cy kX) (gk (cs:=qb) S nl rfl fun bd _ S=>fT (u:=.agg #[ni g.key,ni g.author,ni g.sum]) (i:=2) (cs':=#[ni g.key,ni g.author,ni g.sum]) S rfl rfl rfl jf rfl rfl rfl fun _ S=>ln (fJ ?_)));refine jZ MX (by kernel_rfl) S.drew ?_;obtain⟨cC,cD,cE⟩:=jB (us:=[sc Y b.clock.length Z,sc a2 b.lives.length a3,sc U b.tallies.length V]) iO D rfl;refine qy cC (cE rfl) (qy (sc Y b.clock.length Z) (iE cD gL) (qy (pa bd 1) (Yb mg) (qy (ni g.author) (fI 2 T3) ?_)));obtain⟨aS,be⟩:∃ z,(b.clock)[g.author.toNat]? = some z:=gX (by omega);have:=mi be;obtain⟨cF,cG,cH,_,aT,cI⟩:=hD jH iX B be;have aT:cG=[ni aS]:=aT;subst aT;refine qy cF (cI rfl rfl (by first | rfl | omega)) (qy (ni aS) (iE cH T3) ?_);obtain⟨cJ,cK,cL⟩:=jB (us:=[sc M a.clock.length N,sc Q a.lives.length T,sc O a.tallies.length P]) iO l rfl;refine qy cJ (cL rfl) (qy (sc M a.clock.length N) (iE cK gL) (qy (pa bd 1) (Yb mg) (qy (ni g.author) (fI 2 T3) ?_)));obtain⟨aU,bf⟩:∃ z,(a.clock)[g.author.toNat]? = some z:=gX (by omega);have:=mi bf;obtain⟨cM,cN,cQ,_,aV,cR⟩:=hD jH iX s bf;have aV:cN=[ni aU]:=aV;subst aV;refine qy cM (cR rfl rfl (by first | rfl | omega)) (qy (ni aU) (iE cQ T3) ?_);by_cases bg:aU<aS
  ·
   refine qy (.bool true) (ko rfl rfl bg) (ig fun _ S=>fM (fS rfl (gU (ly (pa E 2) S (Yb kQ) (ly (sc AU nU cU) S (fI 1 lP) (ly (.agg #[ni g.key,ni g.author,ni g.sum]) S (gf 2 kX) (iZ (ps:=[(0,.agg #[ni g.key,ni g.author,ni g.sum])]) (cs:=#[ni g.key,ni g.author,ni g.sum]) S iK jf nl rfl rfl rfl (by kernel_rfl) fun _ _ S => ?_)))))));refine js (e':=0) (i:=1) (i':=3) S oD rfl rfl rfl rfl rfl rfl rfl (by simp only [maxLen];omega) (by first | omega | (dsimp only;omega)) fun cS _ S => ?_
   have OU:=fQ.push (x:=g) (cs:=[ni g.key,ni g.author,ni g.sum]) OU rfl rfl;obtain⟨aW,aX,cV,_,_⟩:∃ A c,cS = .slice A (nU+1) c∧(nU+1)≤c∧c≤maxLen:=i8 S (i:=1) rfl;subst cV;refine ly (pa E 2) S (Yb kQ) (fT (u:=sc aW (nU+1) aX) (i:=1) (cs':=#[sc I ((g8 a.clock b.clock).length) J,sc AP nP cP,sc aW (nU+1) aX]) S rfl rfl rfl pT rfl rfl rfl fun _ S=>fL (gA (nr (ly (ni ((k:Int)+1)) S (gw (r:=(k:Int)+1) rfl rfl (gl (by omega) (by omega))) (ly (ni ((k:Int)+1)) S Ym (fL ?_))))));refine fK ⟨(k+1,u++[g],aW,nU+1,aX,(xsU++[ni g.key,ni g.author,ni g.sum])),_,fk,⟨_,_,rfl,(S.tt 2 2),(fY ac fZ),⟨OU,(by simp;omega)⟩,(by omega),(vJ ar aA (decide_eq_true (by omega)))⟩,?_⟩
   show _<_;dsimp only;omega
  refine qy (.bool false) (kt rfl rfl bg) (ig fun _ S=>fM (fV rfl (g1 (gA (nr (ly (ni ((k:Int)+1)) S (gw (r:=(k:Int)+1) rfl rfl (gl (by omega) (by omega))) (ly (ni ((k:Int)+1)) S Ym (fL ?_))))))));refine fK ⟨(k+1,u,AU,nU,cU,xsU),_,fk,⟨_,_,rfl,(S.tt 2 2),(fY ac fZ),⟨OU,(by first | assumption | omega)⟩,(by omega),(rO ar aA (decide_eq_false (by omega)))⟩,?_⟩
  show _<_;dsimp only;omega
 refine ly (.bool false) S (gH rfl rfl bc) (ln (fJ (fV rfl (iP (iQ (j0 (iR (fM (er (ly (.agg #[sc I ((g8 a.clock b.clock).length) J,sc AP nP cP,sc AU nU cU]) S (gf 1 ir) ?_))))))))));have S:=S.toEndO (i:=0) rfl;have S:=S.toEndO (i:=0) rfl;refine g7 (g4 (vs:=[.agg #[sc I ((g8 a.clock b.clock).length) J,sc AP nP cP,sc AU nU cU]]) (CF 80 _) rfl rfl) (Ax _ _ _ _ _ _ _ _ _ _ _ _ _ _ p u (S.giveN 2 0) OP OU (BG ra rb (by rw [ap,List.take_of_length_le (by omega)];rfl)) (Dd ra rb (by rw [ar,List.take_of_length_le (by omega)];rfl)) (by omega) (by omega)) ?_;rintro e _ ⟨_,_,rfl,a5,cW,cX⟩;have cY:=a5.sup;have S:=S.compN 2 0 a5;replace a4:=fm a4 cY;refine g9 (fT (u:=.agg #[sc I ((g8 a.clock b.clock).length) J,sc AP nP cP,sc AU nU cU]) (i:=0) (cs':=#[sc I ((g8 a.clock b.clock).length) J,sc AP nP cP,sc AU nU cU]) S rfl rfl rfl iM rfl rfl rfl fun _ S=>ly (ni 0) S Ya (ln (fR ?_)));refine iv (v:=.agg #[sc I ((g8 a.clock b.clock).length) J,sc AP nP cP,sc AU nU cU]) (v':=ni 0) rfl ⟨_,rfl,gu (i:=0) (vs:=[sc I ((g8 a.clock b.clock).length) J,sc AP nP cP,sc AU nU cU]) S rfl ir rfl rfl⟩ rfl ?_;have ej:=EH (p:=p) (u:=u) ra rb (by rw [ap,List.take_of_length_le (by omega)];rfl) (by rw [ar,List.take_of_length_le (by omega)];rfl);rw [ej];exact⟨_,rfl,⟨_,rfl,⟨_,_,_,rfl,(fm a4 S.out),(S.rowOut (i:=0) rfl rfl ((show nP=(p).length by first | rfl | assumption | omega).trans (BI _).symm) rfl cW),(S.rowOut (i:=1) rfl rfl ((show nU=(u).length by first | rfl | assumption | omega).trans (CY _).symm) rfl cX)⟩⟩,S.below⟩
end
section
structure nM where
 a:gt
 b:gt
def sP:CR nM:=fun rd cs p => ∃ c1 c2 c3 c4 c5 c6,cs=[c1,c2,c3,c4,c5,c6]∧fN 1 ge rd c1 p.a.clock∧fN 5 gB rd c2 p.a.lives∧fN 3 h8 rd c3 p.a.tallies∧fN 1 ge rd c4 p.b.clock∧fN 5 gB rd c5 p.b.lives∧fN 3 h8 rd c6 p.b.tallies
theorem sP.d{rd:Rd}{cs:List Value}{p:nM}(h:sP rd cs p):∃ A0 c0 A1 c1 A2 c2 A3 c3 A4 c4 A5 c5,cs=[.slice A0 p.a.clock.length c0,.slice A1 p.a.lives.length c1,.slice A2 p.a.tallies.length c2,.slice A3 p.b.clock.length c3,.slice A4 p.b.lives.length c4,.slice A5 p.b.tallies.length c5]∧fN 1 ge rd (.slice A0 p.a.clock.length c0) p.a.clock∧fN 5 gB rd (.slice A1 p.a.lives.length c1) p.a.lives∧fN 3 h8 rd (.slice A2 p.a.tallies.length c2) p.a.tallies∧fN 1 ge rd (.slice A3 p.b.clock.length c3) p.b.clock∧fN 5 gB rd (.slice A4 p.b.lives.length c4) p.b.lives∧fN 3 h8 rd (.slice A5 p.b.tallies.length c5) p.b.tallies∧(p.a.clock.length≤c0∧c0≤maxLen)∧(p.a.lives.length≤c1∧c1≤maxLen)∧(p.a.tallies.length≤c2∧c2≤maxLen)∧(p.b.clock.length≤c3∧c3≤maxLen)∧(p.b.lives.length≤c4∧c4≤maxLen)∧(p.b.tallies.length≤c5∧c5≤maxLen):=by
 obtain⟨_,_,_,_,_,_,e,c,f,g,i,j,k⟩:=h
 obtain⟨A0,c0,l,m⟩:=c.val
 obtain⟨A1,c1,n,o⟩:=f.val
 obtain⟨A2,c2,q,r⟩:=g.val
 obtain⟨A3,c3,s,t⟩:=i.val
 obtain⟨A4,c4,u,v⟩:=j.val
 obtain⟨A5,c5,w,x⟩:=k.val
 subst l n q s u w
 exact⟨A0,c0,A1,c1,A2,c2,A3,c3,A4,c4,A5,c5,e,c,f,g,i,j,k,m,o,r,t,v,x⟩
theorem qM{α:Type}{size:Nat}{R:CR α}{rd:Rd}{v:Value}{l:List α}(h:fN size R rd v l):v.oneCell'=true:=by
 obtain⟨A,c,e,_⟩:=h.val;subst e;rfl
instance:i9 sP:=⟨fun _ _ _ _ hle ⟨a,b,c,e,f,g,ee,h1,h2,h3,h4,h5,h6⟩=>⟨a,b,c,e,f,g,ee,h1.mono i9.mono hle,h2.mono i9.mono hle,h3.mono i9.mono hle,h4.mono i9.mono hle,h5.mono i9.mono hle,h6.mono i9.mono hle⟩,
 fun _ _ _ ⟨a,b,c,e,f,g,ee,h1,h2,h3,h4,h5,h6⟩ u hu=>by
  subst ee
  simp only [List.mem_cons,List.not_mem_nil,or_false] at hu
  rcases hu with h | h | h | h | h | h <;> subst h
  ·exact qM h1
  ·exact qM h2
  ·exact qM h3
  ·exact qM h4
  ·exact qM h5
  ·exact qM h6⟩
theorem Cb{a b:gt}{n:Int}{i:Nat}{z:nM}(ra:iN a n)(rb:iN b n)(hz:([⟨a,b⟩,⟨b,a⟩]:List nM)[i]? = some z):iN z.a n∧iN z.b n:=by
 match i,hz with
 | 0,hz=>simp at hz;subst hz;exact⟨ra,rb⟩
 | 1,hz=>simp at hz;subst hz;exact⟨rb,ra⟩
 | i+2,hz=>simp at hz
section
variable {b:gt} {l o p:List ga} {k:Nat} {y:ga}
theorem BO(hp:p=(l.take k).foldl (m5 b) o)(hy:l[k]? = some y)(h:p.contains y=true):p=(l.take (k+1)).foldl (m5 b) o:=by
 rw [jl hy,List.foldl_append,← hp];simp only [List.foldl_cons,List.foldl_nil,m5];rw [if_pos h]
theorem zu(hp:p=(l.take k).foldl (m5 b) o)(hy:l[k]? = some y)(h:p.contains y=false)(hk:b.lives.contains y=true∨g6 b.clock y.author.toNat<y.seq):k6 p y=(l.take (k+1)).foldl (m5 b) o:=by
 have e:pe b y=true:=by unfold pe;rcases hk with hk | hk <;> simp only [hk,decide_true,Bool.true_or,Bool.or_true]
 rw [jl hy,List.foldl_append,← hp];simp only [List.foldl_cons,List.foldl_nil,m5];rw [if_neg (by rw [h];simp),if_pos e]
theorem Ar(hp:p=(l.take k).foldl (m5 b) o)(hy:l[k]? = some y)(h:p.contains y=false)(h1:b.lives.contains y=false)(h2:¬ g6 b.clock y.author.toNat<y.seq):p=(l.take (k+1)).foldl (m5 b) o:=by
 have e:¬ pe b y=true:=by unfold pe;rw [h1,decide_eq_false h2];simp
 rw [jl hy,List.foldl_append,← hp];simp only [List.foldl_cons,List.foldl_nil,m5];rw [if_neg (by rw [h];simp),if_neg e]
end
theorem AE{a b:gt}{n:Int}(ra:iN a n)(rb:iN b n)(q i:Nat):((mX a b i).tallies.filter (kF q i)).length≤96:=by
 refine Nat.le_trans (List.length_filter_le _ _) ?_
 unfold mX;split
 ·exact rb.tallies_len
 ·exact ra.tallies_len
theorem uK{a b:gt}{n:Int}(ra:iN a n)(rb:iN b n)(q:Nat):∀ m:Nat,((List.range m).flatMap fun(i:Nat)=>(mX a b i).tallies.filter (kF q (i:Nat))).length≤96 * m
 | 0=>by simp
 | m+1=>by
  rw [List.range_succ,List.flatMap_append,List.length_append,List.flatMap_singleton]
  have:=uK ra rb q m;have:=AE ra rb q m;omega
theorem ur{a b:gt}{n:Int}(ra:iN a n)(rb:iN b n)(h:a.clock.length≤6):∀ q:Nat,((List.range q).flatMap fun(key:Nat)=>(List.range a.clock.length).flatMap fun(i:Nat)=>(mX a b i).tallies.filter (kF (key:Nat) (i:Nat))).length≤576 * q
 | 0=>by simp
 | q+1=>by
  rw [List.range_succ,List.flatMap_append,List.length_append,List.flatMap_singleton]
  have:=ur ra rb h q;have:=uK ra rb q a.clock.length;omega
theorem sK(rd:Rd)(W:World)(hle:Rd.le rd (fX W))(v u:Value)(a b:List Int)(h:fN 1 ge rd v a)(h2:fN 1 ge rd u b)(hb:max a.length b.length * 8≤140737488355328):Calls Tryz.prog 61 #[v,u] W fun e w' => ∃ v',e = .returned v'∧fN 1 ge (ext rd W w') v' (g8 a b)∧Below W.heap.size W w' :=
 (D3 v u a b W (fm h hle) (fm h2 hle) hb).mono fun e w' ⟨r,h1,h2,k⟩=>⟨r,h1,fm h2.ints_newer si,k⟩
theorem AG(rd:Rd)(W:World)(hle:Rd.le rd (fX W))(v v2:Value)(a b:gt)(h:fW iW rd v a)(h2:fW iW rd v2 b) :
    Calls Tryz.prog 60 #[v,v2] W (fun e w' => ∃ v',e = .returned (.tuple #[v',.int .i64 (ip a b).2])∧fW iW (ext rd W w') v' (ip a b).1∧Below W.heap.size W w'):=by
 obtain⟨_,rfl,h⟩:=h;obtain⟨g,j,H,I,C,D,rfl,af,an,ad,_⟩:=h.d;obtain⟨_,rfl,h2⟩:=h2;obtain⟨s,B,L,M,E,F,rfl,ag,ao,ae,_⟩:=h2.d;have cZ:=il;have S:St [] W rd rd [] [] W:=St.start hle;refine io (args:=[.agg (kS a g j H I C D),.agg (kS b s B L M E F)]) 145 Tryz.func60 rfl rfl rfl ?_;refine er (ix (u:=.agg (kS a g j H I C D)) (cs:=(kS a g j H I C D)) S rfl rfl fun O _ S=>ix (u:=.agg (kS b s B L M E F)) (cs:=(kS b s B L M E F)) S rfl rfl fun Q _ S=>gk (cs:=jX) S jP rfl fun U _ S=>ly (ni 0) S Ya (ln (er (ly (pa O 0) S (Yb iO) (ly (sc g a.clock.length j) S (fI 0 gL) (ly (ni (a.clock.length:Int)) S (Yl jH) (ly (ni (a.clock.length:Int)) S Ya (ln ?_))))))));refine fJ (er (ly (.agg (kS a g j H I C D)) S (gf 0 ir) (ly (.agg (kS b s B L M E F)) S (gf 1 ir) (iZ (ps:=[(0,.agg (kS a g j H I C D)),(1,.agg (kS b s B L M E F))]) (cs:=#[sc g a.clock.length j,sc H a.lives.length I,sc C a.tallies.length D,sc s b.clock.length B,sc L b.lives.length M,sc E b.tallies.length F]) S qZ iM jP rfl rfl rfl (by kernel_rfl) fun bx _ S => ?_))));obtain⟨bR,S,aE,bS⟩:=S.frz' (i:=3) rfl rfl;replace af:=fm af aE;replace an:=fm an aE;replace ad:=fm ad aE;replace ag:=fm ag aE;replace ao:=fm ao aE;replace ae:=fm ae aE;have bg:=bS (size:=3) (R:=iW) (xs:=([a,b]:List gt)) (n:=2) (c:=2) rfl (Nat.le_refl _) (by simp [maxLen]) ⟨[sc g a.clock.length j,sc H a.lives.length I,sc C a.tallies.length D],_,rfl,rfl,⟨_,_,_,rfl,af,an,ad⟩,⟨[sc s b.clock.length B,sc L b.lives.length M,sc E b.tallies.length F],_,rfl,rfl,⟨_,_,_,rfl,ag,ao,ae⟩,rfl⟩⟩;refine ly (ni 2) S (Yl qZ) (ly (ni 0) S Ym (ln (go ?_)));refine et [(2,pa O 0),(3,pa Q 0),(4,pa U 0),(6,ni (a.clock.length:Int)),(27,sb bx 0 2 2),(28,ni 2),(29,ni (0:Int))] (fun N => ?_);refine j1 (fun(V:Nat) ov w=>match V with | k => ∃ rd' N,ov=[(2,pa O 0),(3,pa Q 0),(4,pa U 0),(6,ni (a.clock.length:Int)),(27,sb bx 0 2 2),(28,ni 2),(29,ni (k:Int))]++N∧St [] W rd rd' [(O,27,(kS a g j H I C D)),(Q,27,(kS b s B L M E F)),(U,27,#[sn,sn,sn])] [] w∧Rd.le bR rd'∧k≤2∧(∀ y∈(([a,b]:List gt)).take k,(gj y (a.clock.length:Int)).1=0)) (fun V=>match V with | k=>2 - k) 0 ⟨_,N,rfl,(S.rw' rfl rfl),fZ,(by omega),(by simp)⟩ ?_;rintro k _ _ ⟨bz,N,rfl,S,aw,_,bh⟩;replace af:=fm af aw;replace an:=fm an aw;replace ad:=fm ad aw;replace ag:=fm ag aw;replace ao:=fm ao aw;replace ae:=fm ae aw;replace bg:=fm bg aw;refine er ?_;by_cases bA:(k:Int)<2
 ·
  refine ly (.bool true) S (gJ rfl rfl bA) (ln (fJ (fS rfl (g1 (fM (fJ (go (er ?_))))))));obtain⟨ah,bi⟩:∃ z,(([a,b]:List gt))[k]? = some z:=gX (by simp only [List.length_cons,List.length_nil];omega);obtain⟨bT,_,bU,_,bV,bW⟩:=hD qZ iM bg bi;obtain⟨aF,aG,aH,aI,aJ,aK,rfl,bX,bY,bZ,_⟩:=bV.d;refine ly bT S (bW rfl rfl (by first | rfl | omega)) (ly (.agg (kS ah aF aG aH aI aJ aK)) S (jd bU ir) (gk (cs:=jX) S jP rfl fun c0 _ S=>fT (u:=.agg (kS ah aF aG aH aI aJ aK)) (i:=3) (cs':=(kS ah aF aG aH aI aJ aK)) S rfl rfl rfl iM rfl rfl rfl fun _ S=>ln (er (ly (.agg (kS ah aF aG aH aI aJ aK)) S (gf 3 ir) (ly (ni (a.clock.length:Int)) S Ym ?_)))));refine g7 (g4 (vs:=[.agg (kS ah aF aG aH aI aJ aK),ni (a.clock.length:Int)]) (CF 51 _) rfl rfl) (vp _ _ S.le _ ah (a.clock.length:Int) (⟨_,rfl,⟨_,_,_,rfl,bX,bY,bZ⟩⟩:fW iW bz _ ah)) ?_;rintro e _ ⟨rfl,ar⟩;have S:=S.callq ar;refine g9 (gk (cs:=mr) S mn rfl fun bj _ S=>fT (u:=.agg #[ni ((gj ah (a.clock.length:Int)).1),ni ((gj ah (a.clock.length:Int)).2)]) (i:=4) (cs':=#[ni ((gj ah (a.clock.length:Int)).1),ni ((gj ah (a.clock.length:Int)).2)]) S rfl rfl rfl iS rfl rfl rfl fun _ S=>ln (er (ly (pa bj 0) S (Yb lu) (ly (ni ((gj ah (a.clock.length:Int)).1)) S (fI 4 l8) ?_))));by_cases b1:(gj ah (a.clock.length:Int)).1=0
  ·
   refine ly (.bool false) S (iT rfl rfl b1) (ln (fV rfl (g1 (gA (nr (ly (ni ((k:Int)+1)) S (gw (r:=(k:Int)+1) rfl rfl (gl (by omega) (by omega))) (ly (ni ((k:Int)+1)) S Ym (fL ?_))))))));refine fK ⟨(k+1),_,fk,⟨_,_,rfl,(S.tt 3 0),(fY aw fZ),(by omega),(wZ bh bi b1)⟩,?_⟩
   show _<_;dsimp only;omega
  refine ly (.bool true) S (j4 rfl rfl b1) (ln (fS rfl (fJ ?_)));refine iV (fun w=>St [] W rd bz [(O,27,(kS a g j H I C D)),(Q,27,(kS b s B L M E F)),(c0,27,(kS ah aF aG aH aI aJ aK)),(bj,84,#[ni ((gj ah (a.clock.length:Int)).1),ni ((gj ah (a.clock.length:Int)).2)])] [] w) MX rfl ?_;have S:=S.drew;have d0:=S.sup;have SC:=((S.tt 5 0).del 2);refine tk (.agg #[sn,sn,sn]) 0 rfl rfl SC (gy (ps:=[]) rfl (fun _=>by kernel_rfl)) (tk (pa bj 0) 1 rfl rfl SC (Yb lu) (tk (ni ((gj ah (a.clock.length:Int)).1)) 2 rfl rfl SC (fI 3 l8) ?_));refine aO 3 rfl (by kernel_rfl) (fT (u:=.agg #[sn,sn,sn]) (i:=2) (cs':=#[sn,sn,sn]) S rfl rfl rfl iM rfl rfl rfl fun _ S=>fL ?_)
  have SC:=((S.tt 5 0).del 2);refine fK (ak SC ?_);refine tk (ni ((gj ah (a.clock.length:Int)).1)) 4 rfl rfl SC Ya (gE (by kernel_rfl) ?_);refine fM (fR ?_);refine iv (v:=.agg #[sn,sn,sn]) (v':=ni ((gj ah (a.clock.length:Int)).1)) rfl ⟨_,rfl,gu (i:=2) (vs:=[sn,sn,sn]) S rfl ir rfl rfl⟩ rfl ?_;rw [z8 bh bi b1];exact⟨_,rfl,⟨_,rfl,⟨_,_,_,rfl,fU,fU,fU⟩⟩,S.below⟩
 refine ly (.bool false) S (gH rfl rfl bA) (ln (fJ (fV rfl (iP (iQ (j0 (iR (fM (er ?_)))))))));obtain⟨ra,rb⟩:=wj bh (by omega);have bB:=ra.clock_len;have d1:=rb.clock_len;have d2:=i7 ra.c;have d3:=i7 rb.c;have d4:=ra.tallies_len;have d5:=rb.tallies_len;refine ly (pa O 0) S (Yb iO) (ly (sc g a.clock.length j) S (fI 0 gL) (ly (pa Q 0) S (Yb iO) (ly (sc s b.clock.length B) S (fI 1 gL) ?_)));refine g7 (g4 (vs:=[sc g a.clock.length j,sc s b.clock.length B]) (CF 61 _) rfl rfl) (sK _ _ S.le _ _ a.clock b.clock af ag (by omega)) ?_;rintro e _ ⟨_,rfl,aq,ar⟩;obtain⟨_,S,aL,_,c1⟩:=S.call' ar;replace af:=fm af aL;replace an:=fm an aL;replace ad:=fm ad aL;replace ag:=fm ag aL;replace ao:=fm ao aL;replace ae:=fm ae aL;replace aq:=fm aq c1;obtain⟨a3,a4,rfl,_,_⟩:=aq.val;refine g9 (ly (.agg #[sc a3 ((g8 a.clock b.clock).length) a4,sn,sn]) S (gy (ps:=[(0,sc a3 ((g8 a.clock b.clock).length) a4)]) rfl (fun _=>by kernel_rfl)) (gk (cs:=jX) S jP rfl fun T _ S=>fT (u:=.agg #[sc a3 ((g8 a.clock b.clock).length) a4,sn,sn]) (i:=3) (cs':=#[sc a3 ((g8 a.clock b.clock).length) a4,sn,sn]) S rfl rfl rfl iM rfl rfl rfl fun _ S=>ln (fJ (er (ly (.agg (kS a g j H I C D)) S (gf 0 ir) (ly (.agg (kS b s B L M E F)) S (gf 1 ir) (ly (.agg #[sc g a.clock.length j,sc H a.lives.length I,sc C a.tallies.length D,sc s b.clock.length B,sc L b.lives.length M,sc E b.tallies.length F]) S (gy (ps:=[(0,.agg (kS a g j H I C D)),(1,.agg (kS b s B L M E F))]) rfl (fun _=>by kernel_rfl)) (ly (.agg (kS b s B L M E F)) S (gf 1 ir) (ly (.agg (kS a g j H I C D)) S (gf 0 ir) (ly (.agg #[sc s b.clock.length B,sc L b.lives.length M,sc E b.tallies.length F,sc g a.clock.length j,sc H a.lives.length I,sc C a.tallies.length D]) S (gy (ps:=[(0,.agg (kS b s B L M E F)),(1,.agg (kS a g j H I C D))]) rfl (fun _=>by kernel_rfl)) (iZ (ps:=[(0,.agg #[sc g a.clock.length j,sc H a.lives.length I,sc C a.tallies.length D,sc s b.clock.length B,sc L b.lives.length M,sc E b.tallies.length F]),(1,.agg #[sc s b.clock.length B,sc L b.lives.length M,sc E b.tallies.length F,sc g a.clock.length j,sc H a.lives.length I,sc C a.tallies.length D])]) (cs:=#[sc g a.clock.length j,sc H a.lives.length I,sc C a.tallies.length D,sc s b.clock.length B,sc L b.lives.length M,sc E b.tallies.length F,sc s b.clock.length B,sc L b.lives.length M,sc E b.tallies.length F,sc g a.clock.length j,sc H a.lives.length I,sc C a.tallies.length D]) S uC uc yQ rfl rfl rfl (by kernel_rfl) fun aP _ S => ?_)))))))))));obtain⟨c2,S,ay,c3⟩:=S.frz' (i:=4) rfl rfl;replace af:=fm af ay;replace an:=fm an ay;replace ad:=fm ad ay;replace ag:=fm ag ay;replace ao:=fm ao ay;replace ae:=fm ae ay;replace aq:=fm aq ay;have bk:=c3 (size:=6) (R:=sP) (xs:=([(⟨a,b⟩:nM),(⟨b,a⟩:nM)]:List nM)) (n:=2) (c:=2) rfl (Nat.le_refl _) (by simp [maxLen]) ⟨[sc g a.clock.length j,sc H a.lives.length I,sc C a.tallies.length D,sc s b.clock.length B,sc L b.lives.length M,sc E b.tallies.length F],_,rfl,rfl,⟨_,_,_,_,_,_,rfl,af,an,ad,ag,ao,ae⟩,⟨[sc s b.clock.length B,sc L b.lives.length M,sc E b.tallies.length F,sc g a.clock.length j,sc H a.lives.length I,sc C a.tallies.length D],_,rfl,rfl,⟨_,_,_,_,_,_,rfl,ag,ao,ae,af,an,ad⟩,rfl⟩⟩;refine ly (ni 2) S (Yl uC) (ly (ni 0) S Ym (ln (go ?_)));refine et [(2,pa O 0),(3,pa Q 0),(4,pa U 0),(6,ni (a.clock.length:Int)),(10,pa T 0),(55,sb aP 0 2 2),(56,ni 2),(57,ni (0:Int))] (fun N => ?_);refine j1 (fun(V:Nat × (List ga) × (Option Addr) × Nat) ov w=>match V with | (ii,o,AO,cO) => ∃ rd' N,ov=[(2,pa O 0),(3,pa Q 0),(4,pa U 0),(6,ni (a.clock.length:Int)),(10,pa T 0),(55,sb aP 0 2 2),(56,ni 2),(57,ni (ii:Int))]++N∧St [] W rd rd' [(O,27,(kS a g j H I C D)),(Q,27,(kS b s B L M E F)),(U,27,#[sn,sn,sn]),(T,27,#[sc a3 ((g8 a.clock b.clock).length) a4,sc AO o.length cO,sn])] [] w∧Rd.le c2 rd'∧fN 5 gB rd' (sc AO o.length cO) o∧ii≤2∧o=(([(⟨a,b⟩:nM),(⟨b,a⟩:nM)]:List nM).take ii).foldl (fun o p=>p.a.lives.foldl (m5 p.b) o) []∧o.length≤400000000 * ii) (fun V=>match V with | (ii,o,AO,cO)=>2 - ii) (0,[],none,0) ⟨_,N,rfl,(S.rw' rfl rfl),fZ,fU,(by omega),rfl,(by simp)⟩ ?_;rintro⟨ii,o,AO,cO⟩ _ _ ⟨b2,N,rfl,S,az,fO,_,bC,_⟩;replace af:=fm af az;replace ad:=fm ad az;replace ag:=fm ag az;replace ae:=fm ae az;replace aq:=fm aq az;replace bk:=fm bk az;refine er ?_;by_cases bD:(ii:Int)<2
 ·
  refine ly (.bool true) S (gJ rfl rfl bD) (ln (fJ (fS rfl (g1 (fM (fJ (go (er ?_))))))));obtain⟨f,bl⟩:∃ z,(([(⟨a,b⟩:nM),(⟨b,a⟩:nM)]:List nM))[ii]? = some z:=gX (by simp only [List.length_cons,List.length_nil];omega);have bm:=Cb ra rb bl;have d6:=bm.1.lives_len;have d7:=i7 bm.2.c;obtain⟨b3,_,c4,_,c5,c6⟩:=hD uC uc bk bl;obtain⟨a7,a8,X,Y,a9,aa,a5,a6,Z,a2,ab,ac,rfl,_,aQ,_,aR,aM,_,_⟩:=c5.d;refine ly b3 S (c6 rfl rfl (by first | rfl | omega)) (ly (.agg #[sc a7 f.a.clock.length a8,sc X f.a.lives.length Y,sc a9 f.a.tallies.length aa,sc a5 f.b.clock.length a6,sc Z f.b.lives.length a2,sc ab f.b.tallies.length ac]) S (jd c4 BZ) (gk (cs:=Av) S yQ rfl fun ai _ S=>fT (u:=.agg #[sc a7 f.a.clock.length a8,sc X f.a.lives.length Y,sc a9 f.a.tallies.length aa,sc a5 f.b.clock.length a6,sc Z f.b.lives.length a2,sc ab f.b.tallies.length ac]) (i:=4) (cs':=#[sc a7 f.a.clock.length a8,sc X f.a.lives.length Y,sc a9 f.a.tallies.length aa,sc a5 f.b.clock.length a6,sc Z f.b.lives.length a2,sc ab f.b.tallies.length ac]) S rfl rfl rfl uc rfl rfl rfl fun _ S=>ln ?_));refine md (J:=fun ov w => ∃ al am,∃ rd' N,ov=[(2,pa O 0),(3,pa Q 0),(4,pa U 0),(6,ni (a.clock.length:Int)),(10,pa T 0),(55,sb aP 0 2 2),(56,ni 2),(57,ni (ii:Int)),(58,.bool true),(59,b3),(60,.agg #[sc a7 f.a.clock.length a8,sc X f.a.lives.length Y,sc a9 f.a.tallies.length aa,sc a5 f.b.clock.length a6,sc Z f.b.lives.length a2,sc ab f.b.tallies.length ac]),(12,pa ai 0),(13,pa al 0),(14,pa am 0),(61,pa ai 0),(62,.agg (kS f.a a7 a8 X Y a9 aa)),(63,pa ai 3),(64,.agg (kS f.b a5 a6 Z a2 ab ac))]++N∧St [] W rd rd' [(O,27,(kS a g j H I C D)),(Q,27,(kS b s B L M E F)),(U,27,#[sn,sn,sn]),(T,27,#[sc a3 ((g8 a.clock b.clock).length) a4,sc AO o.length cO,sn]),(ai,143,#[sc a7 f.a.clock.length a8,sc X f.a.lives.length Y,sc a9 f.a.tallies.length aa,sc a5 f.b.clock.length a6,sc Z f.b.lives.length a2,sc ab f.b.tallies.length ac]),(al,27,(kS f.a a7 a8 X Y a9 aa)),(am,27,(kS f.b a5 a6 Z a2 ab ac))] [] w∧Rd.le b2 rd') ?_ ?_
  ·
   refine iV (fun w=>St [] W rd b2 [(O,27,(kS a g j H I C D)),(Q,27,(kS b s B L M E F)),(U,27,#[sn,sn,sn]),(T,27,#[sc a3 ((g8 a.clock b.clock).length) a4,sc AO o.length cO,sn]),(ai,143,#[sc a7 f.a.clock.length a8,sc X f.a.lives.length Y,sc a9 f.a.tallies.length aa,sc a5 f.b.clock.length a6,sc Z f.b.lives.length a2,sc ab f.b.tallies.length ac])] [] w) MX rfl ?_;have S:=S.drew;have d8:=S.sup;have SC:=S.tt 5 0;refine tk (pa ai 0) 0 rfl rfl SC (oL (k:=0) xa iM (by decide) rfl rfl rfl rfl) (tk (.agg (kS f.a a7 a8 X Y a9 aa)) 1 rfl rfl SC (gf 4 ir) (tk (pa ai 3) 2 rfl rfl SC (oL (k:=1) xa iM (by decide) rfl rfl rfl rfl) (tk (.agg (kS f.b a5 a6 Z a2 ab ac)) 3 rfl rfl SC (gf 4 ir) ?_)));refine ji (rs:=[4,5]) (by kernel_rfl) rfl ?_;refine iA rfl ?_ ?_
   ·
    refine gk (cs:=jX) S jP rfl fun al _ S=>fL ?_
    have SC:=S.tt 5 0;refine fK (ak SC ?_);refine aO 5 rfl (by kernel_rfl) (gk (cs:=jX) S jP rfl fun am _ S=>fL ?_)
    have SC:=S.tt 5 0;refine fK (ak SC ?_);refine aO 6 rfl (by kernel_rfl) (fT (u:=.agg (kS f.a a7 a8 X Y a9 aa)) (i:=5) (cs':=(kS f.a a7 a8 X Y a9 aa)) S rfl rfl rfl iM rfl rfl rfl fun _ S=>fL ?_)
    have SC:=S.tt 5 0;refine fK (ak SC ?_);refine aO 7 rfl (by kernel_rfl) (fT (u:=.agg (kS f.b a5 a6 Z a2 ab ac)) (i:=6) (cs':=(kS f.b a5 a6 Z a2 ab ac)) S rfl rfl rfl iM rfl rfl rfl fun _ S=>fL ?_)
    have SC:=S.tt 5 0;refine fK (ak SC ?_);refine gE (by kernel_rfl) ?_;refine fK ⟨_,fk,al,am,_,_,rfl,(S.tt 7 0).rw' rfl rfl,fZ⟩
   refine iA rfl ?_ ?_
   ·
    refine gk (cs:=jX) S jP rfl fun c7 _ S=>fL ?_
    have SC:=S.tt 5 0;refine fK (ak SC ?_);refine aO 4 rfl (by kernel_rfl) (gk (cs:=jX) S jP rfl fun c8 _ S=>fL ?_)
    have SC:=S.tt 5 0;refine fK (ak SC ?_);refine aO 6 rfl (by kernel_rfl) (fT (u:=.agg (kS f.a a7 a8 X Y a9 aa)) (i:=6) (cs':=(kS f.a a7 a8 X Y a9 aa)) S rfl rfl rfl iM rfl rfl rfl fun _ S=>fL ?_)
    have SC:=S.tt 5 0;refine fK (ak SC ?_);refine aO 7 rfl (by kernel_rfl) (fT (u:=.agg (kS f.b a5 a6 Z a2 ab ac)) (i:=5) (cs':=(kS f.b a5 a6 Z a2 ab ac)) S rfl rfl rfl iM rfl rfl rfl fun _ S=>fL ?_)
    have SC:=S.tt 5 0;refine fK (ak SC ?_);refine gE (by kernel_rfl) ?_;have S:=S.toEndB (i:=0) rfl;have S:=S.toEndB (i:=0) rfl;have S:=S.toEndB (i:=0) rfl;have S:=S.toEndB (i:=0) rfl;have S:=S.toEndB (i:=0) rfl;have S:=S.toEndB (i:=1) rfl;have S:=S.toEndB (i:=0) rfl;refine fK ⟨_,fk,c8,c7,_,_,rfl,(S.tt 7 0).rw' rfl rfl,fZ⟩
   exact jk
  rintro _ _ ⟨al,am,c9,N,rfl,S,aS⟩;replace fO:=fm fO aS;replace aQ:=fm aQ aS;replace aR:=fm aR aS;replace aM:=fm aM aS;refine er (ly (pa al 1) S (Yb jn) (ly (sc X f.a.lives.length Y) S (fI 5 k7) (ly (ni (f.a.lives.length:Int)) S (Yl iD) (ly (ni 0) S Ym (ln (go ?_))))));refine et [(2,pa O 0),(3,pa Q 0),(4,pa U 0),(6,ni (a.clock.length:Int)),(10,pa T 0),(55,sb aP 0 2 2),(56,ni 2),(57,ni (ii:Int)),(58,.bool true),(59,b3),(60,.agg #[sc a7 f.a.clock.length a8,sc X f.a.lives.length Y,sc a9 f.a.tallies.length aa,sc a5 f.b.clock.length a6,sc Z f.b.lives.length a2,sc ab f.b.tallies.length ac]),(12,pa ai 0),(13,pa al 0),(14,pa am 0),(61,pa ai 0),(62,.agg (kS f.a a7 a8 X Y a9 aa)),(63,pa ai 3),(64,.agg (kS f.b a5 a6 Z a2 ab ac)),(65,pa al 1),(66,sc X f.a.lives.length Y),(67,ni (f.a.lives.length:Int)),(68,ni (0:Int))] (fun N => ?_);refine j1 (fun(V:Nat × (List ga) × (Option Addr) × Nat) ov w=>match V with | (k,p,AP,cP) => ∃ rd' N,ov=[(2,pa O 0),(3,pa Q 0),(4,pa U 0),(6,ni (a.clock.length:Int)),(10,pa T 0),(55,sb aP 0 2 2),(56,ni 2),(57,ni (ii:Int)),(58,.bool true),(59,b3),(60,.agg #[sc a7 f.a.clock.length a8,sc X f.a.lives.length Y,sc a9 f.a.tallies.length aa,sc a5 f.b.clock.length a6,sc Z f.b.lives.length a2,sc ab f.b.tallies.length ac]),(12,pa ai 0),(13,pa al 0),(14,pa am 0),(61,pa ai 0),(62,.agg (kS f.a a7 a8 X Y a9 aa)),(63,pa ai 3),(64,.agg (kS f.b a5 a6 Z a2 ab ac)),(65,pa al 1),(66,sc X f.a.lives.length Y),(67,ni (f.a.lives.length:Int)),(68,ni (k:Int))]++N∧St [] W rd rd' [(O,27,(kS a g j H I C D)),(Q,27,(kS b s B L M E F)),(U,27,#[sn,sn,sn]),(T,27,#[sc a3 ((g8 a.clock b.clock).length) a4,sc AP p.length cP,sn]),(ai,143,#[sc a7 f.a.clock.length a8,sc X f.a.lives.length Y,sc a9 f.a.tallies.length aa,sc a5 f.b.clock.length a6,sc Z f.b.lives.length a2,sc ab f.b.tallies.length ac]),(al,27,(kS f.a a7 a8 X Y a9 aa)),(am,27,(kS f.b a5 a6 Z a2 ab ac))] [] w∧Rd.le c9 rd'∧fN 5 gB rd' (sc AP p.length cP) p∧k≤f.a.lives.length∧p=(f.a.lives.take k).foldl (m5 f.b) o∧p.length≤400000000 * ii+k) (fun V=>match V with | (k,p,AP,cP)=>f.a.lives.length - k) (0,o,AO,cO) ⟨_,N,rfl,(S.rw' rfl rfl),fZ,fO,(by omega),rfl,(by omega)⟩ ?_;rintro⟨k,p,AP,cP⟩ _ _ ⟨aT,N,rfl,S,ax,fP,_,aU,_⟩;replace aQ:=fm aQ ax;replace aR:=fm aR ax;replace aM:=fm aM ax;refine er ?_;by_cases bE:(k:Int)<(f.a.lives.length:Int)
  ·
   refine ly (.bool true) S (gJ rfl rfl bE) (ln (fJ (fS rfl (g1 (fM (fJ (go (er ?_))))))));obtain⟨G,aN⟩:∃ z,(f.a.lives)[k]? = some z:=gX (by omega);have bF:=bm.1.l _ (List.mem_of_getElem? aN);have d9:=bF.a0;have da:=bF.a1;obtain⟨ca,cb,cc,_,cd,ce⟩:=hD iD iY aQ aN;have cf:cb=[.bool G.set,ni G.key,ni G.item,ni G.author,ni G.seq]:=cd;subst cf;refine ly ca S (ce rfl rfl (by first | rfl | omega)) (ly (.agg (kL G)) S (jd cc j6) (gk (cs:=nj) S lv rfl fun b4 _ S=>fT (u:=.agg (kL G)) (i:=7) (cs':=(kL G)) S rfl rfl rfl iY rfl rfl rfl fun _ S=>ln (fJ (er (ly (pa T 1) S (Yb jn) (ly (sc AP p.length cP) S (fI 3 k7) (ly (.agg (kL G)) S (gf 7 j6) ?_)))))));refine g7 (g4 (vs:=[sc AP p.length cP,.agg (kL G)]) (CF 102 _) rfl rfl) (ug _ _ S.le _ _ p G fP (⟨_,rfl,rfl⟩:fW gB aT _ G)) ?_;rintro e _ ⟨rfl,ar⟩;have S:=S.callq ar
   cases b5:(p).contains G
   ·
    refine kn (fM (fV rfl (g1 (fM (fJ ?_)))));refine jZ MX (by kernel_rfl) S.drew ?_;refine qy (pa am 1) (Yb jn) (qy (sc Z f.b.lives.length a2) (fI 6 k7) (qy (.agg (kL G)) (gf 7 j6) ?_))
    cases bG:(f.b.lives).contains G
    ·
     refine n0 (v:=.bool false) (g4 (vs:=[sc Z f.b.lives.length a2,.agg (kL G)]) (CF 102 _) rfl rfl) (fun w S=>(ug _ _ S.le _ _ f.b.lives G aM (⟨_,rfl,rfl⟩:fW gB aT _ G)).mono (by rintro e w' ⟨rfl,k⟩;exact⟨im ‹_›,(S.callq k)⟩)) ?_;refine qy (.bool false) Ym (qg 80 (pa am 0) (Yb iO) (qg 80 (sc a5 f.b.clock.length a6) (fI 6 gL) (qg 80 (pa b4 3) (Yb ld) (qg 80 (ni G.author) (fI 7 T3) ?_))));obtain⟨bn,bH⟩:∃ z,(f.b.clock)[G.author.toNat]? = some z:=gX (by omega);have bI:=mi bH;obtain⟨cg,ch,ci,_,bo,cj⟩:=hD jH iX aR bH;have bo:ch=[ni bn]:=bo;subst bo;refine qg 80 cg (cj rfl rfl (by first | rfl | omega)) (qg 80 (ni bn) (iE ci T3) (qg 80 (pa b4 4) (Yb lZ) (qg 80 (ni G.seq) (fI 7 T3) ?_)));by_cases b6:bn<G.seq
     ·
      refine qg 80 (.bool true) (gJ rfl rfl b6) (qy (.bool true) Yf (ig fun _ S=>fM (fS rfl (gU (ly (pa T 1) S (Yb jn) (ly (sc AP p.length cP) S (fI 3 k7) (ly (.agg (kL G)) S (gf 7 j6) ?_)))))));refine g7 (g4 (vs:=[sc AP p.length cP,.agg (kL G)]) (CF 99 _) rfl rfl) (qJ _ _ S.le _ _ p G fP (⟨_,rfl,rfl⟩:fW gB aT _ G) (by omega)) ?_;rintro e _ ⟨_,rfl,b7,ar⟩;obtain⟨ck,S,cl,_,cm⟩:=S.call' ar;replace b7:=fm b7 cm;obtain⟨b8,b9,rfl,_,_⟩:=b7.val;refine g9 (ly (pa T 1) S (Yb jn) (fT (u:=sc b8 ((k6 p G).length) b9) (i:=3) (cs':=#[sc a3 ((g8 a.clock b.clock).length) a4,sc b8 ((k6 p G).length) b9,sn]) S rfl rfl rfl nm rfl rfl rfl fun _ S => ?_));have S:St [] W rd ck [(O,27,(kS a g j H I C D)),(Q,27,(kS b s B L M E F)),(U,27,#[sn,sn,sn]),(T,27,#[sc a3 ((g8 a.clock b.clock).length) a4,sc b8 ((k6 p G).length) b9,sn]),(ai,143,#[sc a7 f.a.clock.length a8,sc X f.a.lives.length Y,sc a9 f.a.tallies.length aa,sc a5 f.b.clock.length a6,sc Z f.b.lives.length a2,sc ab f.b.tallies.length ac]),(al,27,(kS f.a a7 a8 X Y a9 aa)),(am,27,(kS f.b a5 a6 Z a2 ab ac)),(b4,104,(kL G))] [] _:=S.rw' rfl rfl;refine fL (gA (nr (ly (ni ((k:Int)+1)) S (gw (r:=(k:Int)+1) rfl rfl (gl (by omega) (by omega))) (ly (ni ((k:Int)+1)) S Ym (fL ?_)))));refine fK ⟨(k+1,(k6 p G),b8,b9),_,fk,⟨_,_,rfl,(S.tt 7 0),(fY ax (fY fZ cl)),b7,(by omega),(zu aU aN b5 (.inr (by rw [bI];exact b6))),(by rw [ry];omega)⟩,?_⟩
      show _<_;dsimp only;omega
     refine qg 80 (.bool false) (gH rfl rfl b6) (qy (.bool false) Yf (ig fun _ S=>fM (fV rfl (g1 (gA (nr (ly (ni ((k:Int)+1)) S (gw (r:=(k:Int)+1) rfl rfl (gl (by omega) (by omega))) (ly (ni ((k:Int)+1)) S Ym (fL ?_)))))))));refine fK ⟨(k+1,p,AP,cP),_,fk,⟨_,_,rfl,(S.tt 7 0),(fY ax fZ),fP,(by omega),(Ar aU aN b5 bG (by rw [bI];exact b6)),(by omega)⟩,?_⟩
     show _<_;dsimp only;omega
    refine n0 (v:=.bool true) (g4 (vs:=[sc Z f.b.lives.length a2,.agg (kL G)]) (CF 102 _) rfl rfl) (fun w S=>(ug _ _ S.le _ _ f.b.lives G aM (⟨_,rfl,rfl⟩:fW gB aT _ G)).mono (by rintro e w' ⟨rfl,k⟩;exact⟨im ‹_›,(S.callq k)⟩)) ?_;refine qy (.bool true) Ym (qs 80 (qs 80 (qs 80 (qs 80 (qs 80 (qs 80 (qs 80 (qs 80 (qs 80 (qy (.bool true) Yt (ig fun _ S=>fM (fS rfl (gU (ly (pa T 1) S (Yb jn) ?_))))))))))))));refine ly (sc AP p.length cP) S (fI 3 k7) (ly (.agg (kL G)) S (gf 7 j6) ?_);refine g7 (g4 (vs:=[sc AP p.length cP,.agg (kL G)]) (CF 99 _) rfl rfl) (qJ _ _ S.le _ _ p G fP (⟨_,rfl,rfl⟩:fW gB aT _ G) (by omega)) ?_;rintro e _ ⟨_,rfl,ba,ar⟩;obtain⟨cn,S,co,_,cp⟩:=S.call' ar;replace ba:=fm ba cp;obtain⟨bb,bc,rfl,_,_⟩:=ba.val;refine g9 (ly (pa T 1) S (Yb jn) (fT (u:=sc bb ((k6 p G).length) bc) (i:=3) (cs':=#[sc a3 ((g8 a.clock b.clock).length) a4,sc bb ((k6 p G).length) bc,sn]) S rfl rfl rfl nm rfl rfl rfl fun _ S => ?_));have S:St [] W rd cn [(O,27,(kS a g j H I C D)),(Q,27,(kS b s B L M E F)),(U,27,#[sn,sn,sn]),(T,27,#[sc a3 ((g8 a.clock b.clock).length) a4,sc bb ((k6 p G).length) bc,sn]),(ai,143,#[sc a7 f.a.clock.length a8,sc X f.a.lives.length Y,sc a9 f.a.tallies.length aa,sc a5 f.b.clock.length a6,sc Z f.b.lives.length a2,sc ab f.b.tallies.length ac]),(al,27,(kS f.a a7 a8 X Y a9 aa)),(am,27,(kS f.b a5 a6 Z a2 ab ac)),(b4,104,(kL G))] [] _:=S.rw' rfl rfl;refine fL (gA (nr (ly (ni ((k:Int)+1)) S (gw (r:=(k:Int)+1) rfl rfl (gl (by omega) (by omega))) (ly (ni ((k:Int)+1)) S Ym (fL ?_)))));refine fK ⟨(k+1,(k6 p G),bb,bc),_,fk,⟨_,_,rfl,(S.tt 7 0),(fY ax (fY fZ co)),ba,(by omega),(zu aU aN b5 (.inl bG)),(by rw [ry];omega)⟩,?_⟩
    show _<_;dsimp only;omega
   refine kn (fM (fS rfl (iP (iQ (iR (nr (ly (ni ((k:Int)+1)) S (gw (r:=(k:Int)+1) rfl rfl (gl (by omega) (by omega))) (ly (ni ((k:Int)+1)) S Ym (fL ?_)))))))));refine fK ⟨(k+1,p,AP,cP),_,fk,⟨_,_,rfl,(S.tt 7 0),(fY ax fZ),fP,(by omega),(BO aU aN b5),(by omega)⟩,?_⟩
   show _<_;dsimp only;omega
  refine ly (.bool false) S (gH rfl rfl bE) (ln (fJ (fV rfl (iP (iQ (j0 (iR (gA (nr (ly (ni ((ii:Int)+1)) S (gw (r:=(ii:Int)+1) rfl rfl (gl (by omega) (by omega))) (ly (ni ((ii:Int)+1)) S Ym (fL ?_))))))))))));refine fK ⟨(ii+1,p,AP,cP),_,fk,⟨_,_,rfl,(S.tt 4 0),(fY az (fY (fY fZ aS) ax)),fP,(by omega),(by rw [jl bl,List.foldl_append,← bC,List.foldl_cons,List.foldl_nil,aU,List.take_of_length_le (by omega)]),(by omega)⟩,?_⟩
  show _<_;dsimp only;omega
 refine ly (.bool false) S (gH rfl rfl bD) (ln (fJ (fV rfl (iP (iQ (j0 (iR (fM (fJ (er (ly (ni 0) S Ya (ln ?_))))))))))));refine go ?_;have S:=S.ownNil 106 3;have cq:fQ 3 h8 b2 [] []:=rfl;refine et [(2,pa O 0),(3,pa Q 0),(4,pa U 0),(6,ni (a.clock.length:Int)),(10,pa T 0),(17,ni (0:Int))] (fun N => ?_);refine j1 (fun(V:Nat × (List Tally) × (Option Addr) × Nat × Nat × (List Value)) ov w=>match V with | (q,t,AT,nT,cT,xsT) => ∃ rd' N,ov=[(2,pa O 0),(3,pa Q 0),(4,pa U 0),(6,ni (a.clock.length:Int)),(10,pa T 0),(17,ni (q:Int))]++N∧St [] W rd rd' [(O,27,(kS a g j H I C D)),(Q,27,(kS b s B L M E F)),(U,27,#[sn,sn,sn]),(T,27,#[sc a3 ((g8 a.clock b.clock).length) a4,sc AO o.length cO,sc AT nT cT])] [⟨106,3,sc AT nT cT,nT,xsT⟩] w∧Rd.le b2 rd'∧(fQ 3 h8 rd' xsT t∧nT=t.length)∧q≤16∧t=(List.range q).flatMap fun(key:Nat)=>(List.range a.clock.length).flatMap fun(i:Nat)=>(mX a b i).tallies.filter (kF (key:Nat) (i:Nat))) (fun V=>match V with | (q,t,AT,nT,cT,xsT)=>16 - q) (0,[],none,0,0,[]) ⟨_,N,rfl,(S.rw' rfl rfl),fZ,⟨cq,(by first | rfl | assumption | omega | simp)⟩,(by omega),(by simp)⟩ ?_;rintro⟨q,t,AT,nT,cT,xsT⟩ _ _ ⟨cr,N,rfl,S,aA,⟨OT,_⟩,_,bp⟩;replace af:=fm af aA;replace ad:=fm ad aA;replace ag:=fm ag aA;replace ae:=fm ae aA;replace aq:=fm aq aA;replace fO:=fm fO aA;have db:t.length≤576 * q:=by rw [bp];exact ur ra rb bB q
 refine fJ (er (ly (ni (q:Int)) S Ym ?_));by_cases bJ:(q:Int)≤15
 ·
  refine ly (.bool true) S (zQ rfl rfl bJ) (ln (fS rfl (g1 (fM (fJ (go (er (ly (ni 0) S Ya (ln (go ?_))))))))));refine et [(2,pa O 0),(3,pa Q 0),(4,pa U 0),(6,ni (a.clock.length:Int)),(10,pa T 0),(17,ni (q:Int)),(98,ni (q:Int)),(99,.bool true),(18,ni (0:Int))] (fun N => ?_);refine j1 (fun(V:Nat × (List Tally) × (Option Addr) × Nat × Nat × (List Value)) ov w=>match V with | (m,u,AU,nU,cU,xsU) => ∃ rd' N,ov=[(2,pa O 0),(3,pa Q 0),(4,pa U 0),(6,ni (a.clock.length:Int)),(10,pa T 0),(17,ni (q:Int)),(98,ni (q:Int)),(99,.bool true),(18,ni (m:Int))]++N∧St [] W rd rd' [(O,27,(kS a g j H I C D)),(Q,27,(kS b s B L M E F)),(U,27,#[sn,sn,sn]),(T,27,#[sc a3 ((g8 a.clock b.clock).length) a4,sc AO o.length cO,sc AU nU cU])] [⟨106,3,sc AU nU cU,nU,xsU⟩] w∧Rd.le cr rd'∧(fQ 3 h8 rd' xsU u∧nU=u.length)∧m≤a.clock.length∧u=((List.range q).flatMap fun(key:Nat)=>(List.range a.clock.length).flatMap fun(i:Nat)=>(mX a b i).tallies.filter (kF (key:Nat) (i:Nat)))++(List.range m).flatMap fun(i:Nat)=>(mX a b i).tallies.filter (kF q (i:Nat))) (fun V=>match V with | (m,u,AU,nU,cU,xsU)=>a.clock.length - m) (0,t,AT,nT,cT,xsT) ⟨_,N,rfl,(S.rw' rfl rfl),fZ,⟨OT,(by first | rfl | assumption | omega | simp)⟩,(by omega),(by rw [bp];simp)⟩ ?_;rintro⟨m,u,AU,nU,cU,xsU⟩ _ _ ⟨bK,N,rfl,S,aB,⟨OU,_⟩,_,bd⟩;replace af:=fm af aB;replace ad:=fm ad aB;replace ag:=fm ag aB;replace ae:=fm ae aB;have dc:u.length≤576 * q+96 * m:=by rw [bd,List.length_append];have:=ur ra rb bB q;have:=uK ra rb q m;omega
  refine fJ (er (ly (ni (m:Int)) S Ym (ly (ni (a.clock.length:Int)) S Ym ?_)));by_cases bL:(m:Int)<(a.clock.length:Int)
  ·
   refine ly (.bool true) S (gJ rfl rfl bL) (ln (fS rfl (g1 (fM (fJ (go (er (ly (.agg (kS a g j H I C D)) S (gf 0 ir) (gk (cs:=jX) S jP rfl fun aj _ S=>fT (u:=.agg (kS a g j H I C D)) (i:=4) (cs':=(kS a g j H I C D)) S rfl rfl rfl iM rfl rfl rfl fun _ S=>ln (fJ ?_))))))))));refine fJ (jZ MX (by kernel_rfl) S.drew ?_);refine qy (pa Q 0) (Yb iO) (qy (sc s b.clock.length B) (fI 1 gL) (qy (ni (m:Int)) Ym ?_));obtain⟨aC,bM⟩:∃ z,(b.clock)[m]? = some z:=gX (by omega);have dd:=mi bM;obtain⟨aV,ct,cu,_,bq,cv⟩:=hD jH iX ag bM;have bq:ct=[ni aC]:=bq;subst bq;refine qy aV (cv rfl rfl (by first | rfl | omega)) (qy (ni aC) (iE cu T3) (qy (pa O 0) (Yb iO) (qy (sc g a.clock.length j) (fI 0 gL) (qy (ni (m:Int)) Ym ?_))));obtain⟨aD,bN⟩:∃ z,(a.clock)[m]? = some z:=gX (by omega);have de:=mi bN;obtain⟨aW,cw,cx,_,br,cy⟩:=hD jH iX af bN;have br:cw=[ni aD]:=br;subst br;refine qy aW (cy rfl rfl (by first | rfl | omega)) (qy (ni aD) (iE cx T3) ?_);by_cases bO:aD<aC
   ·
    refine qy (.bool true) (ko rfl rfl bO) (ig fun _ S=>fM (fS rfl (gU (ly (.agg (kS b s B L M E F)) S (gf 1 ir) (fT (u:=.agg (kS b s B L M E F)) (i:=4) (cs':=(kS b s B L M E F)) S rfl rfl rfl iM rfl rfl rfl fun _ S=>ln (er ?_))))));have bs:mX a b m=b:=by unfold mX;rw [if_pos (by omega)]
    skip
    refine ly (pa aj 2) S (Yb kQ) (ly (sc E b.tallies.length F) S (fI 4 lP) (ly (ni (b.tallies.length:Int)) S (Yl iK) (ly (ni 0) S Ym (ln (go ?_)))));refine et [(2,pa O 0),(3,pa Q 0),(4,pa U 0),(6,ni (a.clock.length:Int)),(10,pa T 0),(17,ni (q:Int)),(98,ni (q:Int)),(99,.bool true),(18,ni (m:Int)),(102,ni (m:Int)),(103,ni (a.clock.length:Int)),(104,.bool true),(107,.agg (kS a g j H I C D)),(19,pa aj 0),(108,pa Q 0),(109,sc s b.clock.length B),(110,ni (m:Int)),(111,aV),(112,ni aC),(113,pa O 0),(114,sc g a.clock.length j),(115,ni (m:Int)),(116,aW),(117,ni aD),(118,.bool true),(119,.agg (kS b s B L M E F)),(120,pa aj 2),(121,sc E b.tallies.length F),(122,ni (b.tallies.length:Int)),(123,ni (0:Int))] (fun N => ?_);refine j1 (fun(V:Nat × (List Tally) × (Option Addr) × Nat × Nat × (List Value)) ov w=>match V with | (i,v,AV,nV,cV,xsV) => ∃ rd' N,ov=[(2,pa O 0),(3,pa Q 0),(4,pa U 0),(6,ni (a.clock.length:Int)),(10,pa T 0),(17,ni (q:Int)),(98,ni (q:Int)),(99,.bool true),(18,ni (m:Int)),(102,ni (m:Int)),(103,ni (a.clock.length:Int)),(104,.bool true),(107,.agg (kS a g j H I C D)),(19,pa aj 0),(108,pa Q 0),(109,sc s b.clock.length B),(110,ni (m:Int)),(111,aV),(112,ni aC),(113,pa O 0),(114,sc g a.clock.length j),(115,ni (m:Int)),(116,aW),(117,ni aD),(118,.bool true),(119,.agg (kS b s B L M E F)),(120,pa aj 2),(121,sc E b.tallies.length F),(122,ni (b.tallies.length:Int)),(123,ni (i:Int))]++N∧St [] W rd rd' [(O,27,(kS a g j H I C D)),(Q,27,(kS b s B L M E F)),(U,27,#[sn,sn,sn]),(T,27,#[sc a3 ((g8 a.clock b.clock).length) a4,sc AO o.length cO,sc AV nV cV]),(aj,27,(kS b s B L M E F))] [⟨106,3,sc AV nV cV,nV,xsV⟩] w∧Rd.le bK rd'∧(fQ 3 h8 rd' xsV v∧nV=v.length)∧i≤(b.tallies).length∧v=u++(b.tallies.take i).filter (kF q m)) (fun V=>match V with | (i,v,AV,nV,cV,xsV)=>(b.tallies).length - i) (0,u,AU,nU,cU,xsU) ⟨_,N,rfl,(S.rw' rfl rfl),fZ,⟨OU,(by first | rfl | assumption | omega | simp)⟩,(by omega),(by simp)⟩ ?_;rintro⟨i,v,AV,nV,cV,xsV⟩ _ _ ⟨cz,N,rfl,S,aX,⟨OV,_⟩,cA,ap⟩;replace ae:=fm ae aX;have cB:v.length≤576 * q+96 * m+i:=by rw [ap,List.length_append];have:=List.length_filter_le (kF q m) (b.tallies.take i);have:=List.length_take_le i b.tallies;omega
    refine er ?_;by_cases bP:(i:Int)<(b.tallies.length:Int)
    ·
     refine ly (.bool true) S (gJ rfl rfl bP) (ln (fJ (fS rfl (g1 (fM (fJ (go (er ?_))))))));obtain⟨P,be⟩:∃ z,(b.tallies)[i]? = some z:=gX (by omega);obtain⟨cC,cD,cE,_,cF,cG⟩:=hD iK jf ae be;have cH:cD=[ni P.key,ni P.author,ni P.sum]:=cF;subst cH;refine ly cC S (cG rfl rfl (by first | rfl | omega)) (ly (.agg #[ni P.key,ni P.author,ni P.sum]) S (jd cE kX) (gk (cs:=qb) S nl rfl fun bt _ S=>fT (u:=.agg #[ni P.key,ni P.author,ni P.sum]) (i:=5) (cs':=#[ni P.key,ni P.author,ni P.sum]) S rfl rfl rfl jf rfl rfl rfl fun _ S => ?_));have S:St [] W rd cz [(O,27,(kS a g j H I C D)),(Q,27,(kS b s B L M E F)),(U,27,#[sn,sn,sn]),(T,27,#[sc a3 ((g8 a.clock b.clock).length) a4,sc AO o.length cO,sc AV nV cV]),(aj,27,(kS b s B L M E F)),(bt,106,#[ni P.key,ni P.author,ni P.sum])] [⟨106,3,sc AV nV cV,nV,xsV⟩] _:=S.rw' rfl rfl;refine ln (er (ly (pa bt 0) S (Yb nW) (ly (ni P.key) S (fI 5 T3) (ly (ni (q:Int)) S Ym ?_))));by_cases au:P.key=(q:Int)
     ·
      refine ly (.bool true) S (iw rfl rfl au) (ly (.bool true) S Ym (lg 131 (pa bt 1) S (Yb mg) (lg 131 (ni P.author) S (fI 5 T3) (lg 131 (ni (m:Int)) S Ym ?_))));by_cases av:P.author=(m:Int)
      ·
       refine lg 131 (.bool true) S (iw rfl rfl av) (ly (.bool true) S Yt (ln (fS rfl (gU (ly (pa T 2) S (Yb kQ) (ly (sc AV nV cV) S (fI 3 lP) (ly (.agg #[ni P.key,ni P.author,ni P.sum]) S (gf 5 kX) (iZ (ps:=[(0,.agg #[ni P.key,ni P.author,ni P.sum])]) (cs:=#[ni P.key,ni P.author,ni P.sum]) S iK jf nl rfl rfl rfl (by kernel_rfl) fun _ _ S => ?_))))))));refine js (e':=0) (i:=0) (i':=6) S oD rfl rfl rfl rfl rfl rfl rfl (by simp only [maxLen];omega) (by first | omega | (dsimp only;omega)) fun cI _ S => ?_
       have OV:=fQ.push (x:=P) (cs:=[ni P.key,ni P.author,ni P.sum]) OV rfl rfl;obtain⟨bu,bv,cJ,_,_⟩:∃ A c,cI = .slice A (nV+1) c∧(nV+1)≤c∧c≤maxLen:=i8 S (i:=0) rfl;subst cJ;refine ly (pa T 2) S (Yb kQ) (fT (u:=sc bu (nV+1) bv) (i:=3) (cs':=#[sc a3 ((g8 a.clock b.clock).length) a4,sc AO o.length cO,sc bu (nV+1) bv]) S rfl rfl rfl pT rfl rfl rfl fun _ S=>fL (gA (nr (ly (ni ((i:Int)+1)) S (gw (r:=(i:Int)+1) rfl rfl (gl (by omega) (by omega))) (ly (ni ((i:Int)+1)) S Ym (fL ?_))))));refine fK ⟨(i+1,v++[P],bu,nV+1,bv,(xsV++[ni P.key,ni P.author,ni P.sum])),_,fk,⟨_,_,rfl,(S.tt 5 1),(fY aX fZ),⟨OV,(by first | omega | (simp;omega))⟩,(by omega),(vJ ap be (mH.2 ⟨au,av⟩))⟩,?_⟩
       show _<_;dsimp only;omega
      refine lg 131 (.bool false) S (i5 rfl rfl av) (ly (.bool false) S Yt (ln (fV rfl (g1 (gA (nr (ly (ni ((i:Int)+1)) S (gw (r:=(i:Int)+1) rfl rfl (gl (by omega) (by omega))) (ly (ni ((i:Int)+1)) S Ym (fL ?_)))))))));refine fK ⟨(i+1,v,AV,nV,cV,xsV),_,fk,⟨_,_,rfl,(S.tt 5 1),(fY aX fZ),⟨OV,(by first | assumption | omega)⟩,(by omega),(rO ap be (Bool.eq_false_iff.2 fun w=>av (mH.1 w).2))⟩,?_⟩
      show _<_;dsimp only;omega
     refine ly (.bool false) S (i5 rfl rfl au) (ly (.bool false) S Ym (ls 131 (ls 131 (ls 131 (ls 131 (ly (.bool false) S Yf (ln (fV rfl (g1 (gA (nr (ly (ni ((i:Int)+1)) S (gw (r:=(i:Int)+1) rfl rfl (gl (by omega) (by omega))) (ly (ni ((i:Int)+1)) S Ym ?_)))))))))))));refine fL (fK ⟨(i+1,v,AV,nV,cV,xsV),_,fk,⟨_,_,rfl,(S.tt 5 1),(fY aX fZ),⟨OV,(by first | assumption | omega)⟩,(by omega),(rO ap be (Bool.eq_false_iff.2 fun w=>au (mH.1 w).1))⟩,?_⟩)
     show _<_;dsimp only;omega
    refine ly (.bool false) S (gH rfl rfl bP) (ln (fJ (fV rfl (iP (iQ (j0 (iR (gA (nr (ly (ni (m:Int)) S Ym (ly (ni ((m:Int)+1)) S (gw (r:=(m:Int)+1) rfl rfl (gl (by omega) (by omega))) (ly (ni ((m:Int)+1)) S Ya (fL ?_)))))))))))));refine fK ⟨(m+1,v,AV,nV,cV,xsV),_,fk,⟨_,_,rfl,(S.tt 4 1),(fY aB (fY fZ aX)),⟨OV,(by first | omega | (simp;omega))⟩,(by omega),(by rw [ap,bd,List.take_of_length_le (by omega),List.range_succ,List.flatMap_append,List.flatMap_singleton,bs,List.append_assoc])⟩,?_⟩
    show _<_;dsimp only;omega
   refine qy (.bool false) (kt rfl rfl bO) (ig fun _ S=>fM (fV rfl (g1 (fM (er ?_)))));have bs:mX a b m=a:=by unfold mX;rw [if_neg (by omega)]
   skip
   refine ly (pa aj 2) S (Yb kQ) (ly (sc C a.tallies.length D) S (fI 4 lP) (ly (ni (a.tallies.length:Int)) S (Yl iK) (ly (ni 0) S Ym (ln (go ?_)))));refine et [(2,pa O 0),(3,pa Q 0),(4,pa U 0),(6,ni (a.clock.length:Int)),(10,pa T 0),(17,ni (q:Int)),(98,ni (q:Int)),(99,.bool true),(18,ni (m:Int)),(102,ni (m:Int)),(103,ni (a.clock.length:Int)),(104,.bool true),(107,.agg (kS a g j H I C D)),(19,pa aj 0),(108,pa Q 0),(109,sc s b.clock.length B),(110,ni (m:Int)),(111,aV),(112,ni aC),(113,pa O 0),(114,sc g a.clock.length j),(115,ni (m:Int)),(116,aW),(117,ni aD),(118,.bool false),(120,pa aj 2),(121,sc C a.tallies.length D),(122,ni (a.tallies.length:Int)),(123,ni (0:Int))] (fun N => ?_);refine j1 (fun(V:Nat × (List Tally) × (Option Addr) × Nat × Nat × (List Value)) ov w=>match V with | (i,v,AV,nV,cV,xsV) => ∃ rd' N,ov=[(2,pa O 0),(3,pa Q 0),(4,pa U 0),(6,ni (a.clock.length:Int)),(10,pa T 0),(17,ni (q:Int)),(98,ni (q:Int)),(99,.bool true),(18,ni (m:Int)),(102,ni (m:Int)),(103,ni (a.clock.length:Int)),(104,.bool true),(107,.agg (kS a g j H I C D)),(19,pa aj 0),(108,pa Q 0),(109,sc s b.clock.length B),(110,ni (m:Int)),(111,aV),(112,ni aC),(113,pa O 0),(114,sc g a.clock.length j),(115,ni (m:Int)),(116,aW),(117,ni aD),(118,.bool false),(120,pa aj 2),(121,sc C a.tallies.length D),(122,ni (a.tallies.length:Int)),(123,ni (i:Int))]++N∧St [] W rd rd' [(O,27,(kS a g j H I C D)),(Q,27,(kS b s B L M E F)),(U,27,#[sn,sn,sn]),(T,27,#[sc a3 ((g8 a.clock b.clock).length) a4,sc AO o.length cO,sc AV nV cV]),(aj,27,(kS a g j H I C D))] [⟨106,3,sc AV nV cV,nV,xsV⟩] w∧Rd.le bK rd'∧(fQ 3 h8 rd' xsV v∧nV=v.length)∧i≤(a.tallies).length∧v=u++(a.tallies.take i).filter (kF q m)) (fun V=>match V with | (i,v,AV,nV,cV,xsV)=>(a.tallies).length - i) (0,u,AU,nU,cU,xsU) ⟨_,N,rfl,(S.rw' rfl rfl),fZ,⟨OU,(by first | rfl | assumption | omega | simp)⟩,(by omega),(by simp)⟩ ?_;rintro⟨i,v,AV,nV,cV,xsV⟩ _ _ ⟨cK,N,rfl,S,aY,⟨OV,_⟩,cA,ap⟩;replace ad:=fm ad aY;have cB:v.length≤576 * q+96 * m+i:=by rw [ap,List.length_append];have:=List.length_filter_le (kF q m) (a.tallies.take i);have:=List.length_take_le i a.tallies;omega
   refine er ?_;by_cases bQ:(i:Int)<(a.tallies.length:Int)
   ·
    refine ly (.bool true) S (gJ rfl rfl bQ) (ln (fJ (fS rfl (g1 (fM (fJ (go (er ?_))))))));obtain⟨K,bf⟩:∃ z,(a.tallies)[i]? = some z:=gX (by omega);obtain⟨cL,cM,cN,_,cQ,cR⟩:=hD iK jf ad bf;have cS:cM=[ni K.key,ni K.author,ni K.sum]:=cQ;subst cS;refine ly cL S (cR rfl rfl (by first | rfl | omega)) (ly (.agg #[ni K.key,ni K.author,ni K.sum]) S (jd cN kX) (gk (cs:=qb) S nl rfl fun bw _ S=>fT (u:=.agg #[ni K.key,ni K.author,ni K.sum]) (i:=5) (cs':=#[ni K.key,ni K.author,ni K.sum]) S rfl rfl rfl jf rfl rfl rfl fun _ S=>ln (er (ly (pa bw 0) S (Yb nW) (ly (ni K.key) S (fI 5 T3) (ly (ni (q:Int)) S Ym ?_))))));by_cases au:K.key=(q:Int)
    ·
     refine ly (.bool true) S (iw rfl rfl au) (ly (.bool true) S Ym (lg 131 (pa bw 1) S (Yb mg) (lg 131 (ni K.author) S (fI 5 T3) (lg 131 (ni (m:Int)) S Ym ?_))));by_cases av:K.author=(m:Int)
     ·
      refine lg 131 (.bool true) S (iw rfl rfl av) (ly (.bool true) S Yt (ln (fS rfl (gU (ly (pa T 2) S (Yb kQ) (ly (sc AV nV cV) S (fI 3 lP) (ly (.agg #[ni K.key,ni K.author,ni K.sum]) S (gf 5 kX) (iZ (ps:=[(0,.agg #[ni K.key,ni K.author,ni K.sum])]) (cs:=#[ni K.key,ni K.author,ni K.sum]) S iK jf nl rfl rfl rfl (by kernel_rfl) fun cW _ S => ?_))))))));refine js (e':=0) (i:=0) (i':=6) S oD rfl rfl rfl rfl rfl rfl rfl (by simp only [maxLen];omega) (by first | omega | (dsimp only;omega)) fun cX _ S => ?_
      have OV:=fQ.push (x:=K) (cs:=[ni K.key,ni K.author,ni K.sum]) OV rfl rfl;obtain⟨aZ,b0,cY,_,_⟩:∃ A c,cX = .slice A (nV+1) c∧(nV+1)≤c∧c≤maxLen:=i8 S (i:=0) rfl;subst cY;refine ly (pa T 2) S (Yb kQ) (fT (u:=sc aZ (nV+1) b0) (i:=3) (cs':=#[sc a3 ((g8 a.clock b.clock).length) a4,sc AO o.length cO,sc aZ (nV+1) b0]) S rfl rfl rfl pT rfl rfl rfl fun _ S => ?_);have S:St [] W rd cK [(O,27,(kS a g j H I C D)),(Q,27,(kS b s B L M E F)),(U,27,#[sn,sn,sn]),(T,27,#[sc a3 ((g8 a.clock b.clock).length) a4,sc AO o.length cO,sc aZ (nV+1) b0]),(aj,27,(kS a g j H I C D)),(bw,106,#[ni K.key,ni K.author,ni K.sum]),(cW,106,#[ni K.key,ni K.author,ni K.sum])] [⟨106,3,sc aZ (nV+1) b0,nV+1,xsV++[ni K.key,ni K.author,ni K.sum]⟩] _:=S.rw' rfl rfl;refine fL (gA (nr (ly (ni ((i:Int)+1)) S (gw (r:=(i:Int)+1) rfl rfl (gl (by omega) (by omega))) (ly (ni ((i:Int)+1)) S Ym (fL ?_)))));refine fK ⟨(i+1,v++[K],aZ,nV+1,b0,(xsV++[ni K.key,ni K.author,ni K.sum])),_,fk,⟨_,_,rfl,(S.tt 5 1),(fY aY fZ),⟨OV,(by first | omega | (simp;omega))⟩,(by omega),(vJ ap bf (mH.2 ⟨au,av⟩))⟩,?_⟩
      show _<_;dsimp only;omega
     refine lg 131 (.bool false) S (i5 rfl rfl av) (ly (.bool false) S Yt (ln (fV rfl (g1 (gA (nr (ly (ni ((i:Int)+1)) S (gw (r:=(i:Int)+1) rfl rfl (gl (by omega) (by omega))) (ly (ni ((i:Int)+1)) S Ym (fL ?_)))))))));refine fK ⟨(i+1,v,AV,nV,cV,xsV),_,fk,⟨_,_,rfl,(S.tt 5 1),(fY aY fZ),⟨OV,(by first | assumption | omega)⟩,(by omega),(rO ap bf (Bool.eq_false_iff.2 fun w=>av (mH.1 w).2))⟩,?_⟩
     show _<_;dsimp only;omega
    refine ly (.bool false) S (i5 rfl rfl au) (ly (.bool false) S Ym (ls 131 (ls 131 (ls 131 (ls 131 (ly (.bool false) S Yf (ln (fV rfl (g1 (gA (nr (ly (ni ((i:Int)+1)) S (gw (r:=(i:Int)+1) rfl rfl (gl (by omega) (by omega))) (ly (ni ((i:Int)+1)) S Ym ?_)))))))))))));refine fL (fK ⟨(i+1,v,AV,nV,cV,xsV),_,fk,⟨_,_,rfl,(S.tt 5 1),(fY aY fZ),⟨OV,(by first | assumption | omega)⟩,(by omega),(rO ap bf (Bool.eq_false_iff.2 fun w=>au (mH.1 w).1))⟩,?_⟩)
    show _<_;dsimp only;omega
   refine ly (.bool false) S (gH rfl rfl bQ) (ln (fJ (fV rfl (iP (iQ (j0 (iR (gA (nr (ly (ni (m:Int)) S Ym (ly (ni ((m:Int)+1)) S (gw (r:=(m:Int)+1) rfl rfl (gl (by omega) (by omega))) (ly (ni ((m:Int)+1)) S Ya (fL ?_)))))))))))));refine fK ⟨(m+1,v,AV,nV,cV,xsV),_,fk,⟨_,_,rfl,(S.tt 4 1),(fY aB (fY fZ aY)),⟨OV,(by first | omega | (simp;omega))⟩,(by omega),(by rw [ap,bd,List.take_of_length_le (by omega),List.range_succ,List.flatMap_append,List.flatMap_singleton,bs,List.append_assoc])⟩,?_⟩
   show _<_;dsimp only;omega
  refine ly (.bool false) S (gH rfl rfl bL) (ln (fV rfl (iP (iQ (j0 (iR (gA (nr (ly (ni (q:Int)) S Ym (ly (ni ((q:Int)+1)) S (gw (r:=(q:Int)+1) rfl rfl (gl (by omega) (by omega))) (ly (ni ((q:Int)+1)) S Ya (fL ?_))))))))))));refine fK ⟨(q+1,u,AU,nU,cU,xsU),_,fk,⟨_,_,rfl,(S.tt 4 1),(fY aA (fY fZ aB)),⟨OU,(by first | omega | (simp;omega))⟩,(by omega),(by rw [bd,show m=a.clock.length by omega,List.range_succ,List.flatMap_append,List.flatMap_singleton])⟩,?_⟩
  show _<_;dsimp only;omega
 refine ly (.bool false) S (wJ rfl rfl bJ) (ln (fV rfl (iP (iQ (j0 (iR (fM (er (ly (.agg #[sc a3 ((g8 a.clock b.clock).length) a4,sc AO o.length cO,sc AT nT cT]) S (gf 3 ir) (fT (u:=.agg #[sc a3 ((g8 a.clock b.clock).length) a4,sc AO o.length cO,sc AT nT cT]) (i:=2) (cs':=#[sc a3 ((g8 a.clock b.clock).length) a4,sc AO o.length cO,sc AT nT cT]) S rfl rfl rfl iM rfl rfl rfl fun _ S=>ly (ni 0) S Ya (ln ?_)))))))))));refine fR (iv (v:=.agg #[sc a3 ((g8 a.clock b.clock).length) a4,sc AO o.length cO,sc AT nT cT]) (v':=ni 0) rfl ⟨_,rfl,gu (i:=2) (vs:=[sc a3 ((g8 a.clock b.clock).length) a4,sc AO o.length cO,sc AT nT cT]) S rfl ir rfl rfl⟩ rfl ?_);have el:sX a b=o:=by rw [bC,show ii=2 by omega];rfl
 have et:ss a b a.clock.length=t:=by rw [bp,show q=16 by omega];rfl
 rw [Af ra rb,el,et];exact⟨_,rfl,⟨_,rfl,⟨_,_,_,rfl,(fm aq S.out),(fm fO S.out),(S.rowOut (i:=0) rfl rfl (by first | assumption | omega) rfl OT)⟩⟩,S.below⟩
end
def gT:CR gh:=fun rd cs d => ∃ a b c e f g,cs=[.int .i64 d.self,a,b,c,e,f,g]∧fN 1 ge rd a d.state.clock∧fN 5 gB rd b d.state.lives∧fN 3 h8 rd c d.state.tallies∧fN 1 ge rd e d.base∧fN 5 gM rd f d.log∧fN 1 (jy 1 ge) rd g d.known
theorem gT.d{rd:Rd}{cs:List Value}{d:gh}(h:gT rd cs d):∃ A0 c0 A1 c1 A2 c2 A3 c3 A4 c4 A5 c5,cs=[.int .i64 d.self,.slice A0 d.state.clock.length c0,.slice A1 d.state.lives.length c1,.slice A2 d.state.tallies.length c2,.slice A3 d.base.length c3,.slice A4 d.log.length c4,.slice A5 d.known.length c5]∧fN 1 ge rd (.slice A0 d.state.clock.length c0) d.state.clock∧fN 5 gB rd (.slice A1 d.state.lives.length c1) d.state.lives∧fN 3 h8 rd (.slice A2 d.state.tallies.length c2) d.state.tallies∧fN 1 ge rd (.slice A3 d.base.length c3) d.base∧fN 5 gM rd (.slice A4 d.log.length c4) d.log∧fN 1 (jy 1 ge) rd (.slice A5 d.known.length c5) d.known∧(d.state.clock.length≤c0∧c0≤maxLen)∧(d.state.lives.length≤c1∧c1≤maxLen)∧(d.state.tallies.length≤c2∧c2≤maxLen)∧(d.base.length≤c3∧c3≤maxLen)∧(d.log.length≤c4∧c4≤maxLen)∧(d.known.length≤c5∧c5≤maxLen):=by
 obtain⟨_,_,_,_,_,_,e,a,b,c,f,g,i⟩:=h
 obtain⟨A0,c0,j,k⟩:=a.val
 obtain⟨A1,c1,l,m⟩:=b.val
 obtain⟨A2,c2,n,o⟩:=c.val
 obtain⟨A3,c3,p,q⟩:=f.val
 obtain⟨A4,c4,r,s⟩:=g.val
 obtain⟨A5,c5,t,u⟩:=i.val
 subst j l n p r t
 exact⟨A0,c0,A1,c1,A2,c2,A3,c3,A4,c4,A5,c5,e,a,b,c,f,g,i,k,m,o,q,s,u⟩
def j5:CR i2:=fun rd cs p => ∃ a b c e f,cs=[.bool p.whole,a,b,c,e,f]∧fN 1 ge rd a p.state.clock∧fN 5 gB rd b p.state.lives∧fN 3 h8 rd c p.state.tallies∧fN 5 gM rd e p.updates∧fN 1 ge rd f p.clock
theorem j5.d{rd:Rd}{cs:List Value}{p:i2}(h:j5 rd cs p):∃ A0 c0 A1 c1 A2 c2 A3 c3 A4 c4,cs=[.bool p.whole,.slice A0 p.state.clock.length c0,.slice A1 p.state.lives.length c1,.slice A2 p.state.tallies.length c2,.slice A3 p.updates.length c3,.slice A4 p.clock.length c4]∧fN 1 ge rd (.slice A0 p.state.clock.length c0) p.state.clock∧fN 5 gB rd (.slice A1 p.state.lives.length c1) p.state.lives∧fN 3 h8 rd (.slice A2 p.state.tallies.length c2) p.state.tallies∧fN 5 gM rd (.slice A3 p.updates.length c3) p.updates∧fN 1 ge rd (.slice A4 p.clock.length c4) p.clock∧(p.state.clock.length≤c0∧c0≤maxLen)∧(p.state.lives.length≤c1∧c1≤maxLen)∧(p.state.tallies.length≤c2∧c2≤maxLen)∧(p.updates.length≤c3∧c3≤maxLen)∧(p.clock.length≤c4∧c4≤maxLen):=by
 obtain⟨_,_,_,_,_,e,a,b,c,f,g⟩:=h
 obtain⟨A0,c0,i,j⟩:=a.val
 obtain⟨A1,c1,k,l⟩:=b.val
 obtain⟨A2,c2,m,n⟩:=c.val
 obtain⟨A3,c3,o,q⟩:=f.val
 obtain⟨A4,c4,r,s⟩:=g.val
 subst i k m o r
 exact⟨A0,c0,A1,c1,A2,c2,A3,c3,A4,c4,e,a,b,c,f,g,j,l,n,q,s⟩
theorem nI{α:Type}{size:Nat}{R:CR α}{rd:Rd}{v:Value}{l:List α}(h:fN size R rd v l):v.oneCell'=true:=by
 obtain⟨A,c,e,_⟩:=h.val;subst e;rfl
instance:i9 gT:=⟨fun _ _ _ _ hle ⟨a,b,c,e,f,g,ee,h1,h2,h3,h4,h5,h6⟩=>⟨a,b,c,e,f,g,ee,h1.mono i9.mono hle,h2.mono i9.mono hle,h3.mono i9.mono hle,h4.mono i9.mono hle,h5.mono i9.mono hle,h6.mono i9.mono hle⟩,
 fun _ _ _ ⟨a,b,c,e,f,g,ee,h1,h2,h3,h4,h5,h6⟩ u hu=>by
  subst ee
  simp only [List.mem_cons,List.not_mem_nil,or_false] at hu
  rcases hu with h | h | h | h | h | h | h <;> subst h
  ·rfl
  ·exact nI h1
  ·exact nI h2
  ·exact nI h3
  ·exact nI h4
  ·exact nI h5
  ·exact nI h6⟩
instance:i9 j5:=⟨fun _ _ _ _ hle ⟨a,b,c,e,f,ee,h1,h2,h3,h4,h5⟩=>⟨a,b,c,e,f,ee,h1.mono i9.mono hle,h2.mono i9.mono hle,h3.mono i9.mono hle,h4.mono i9.mono hle,h5.mono i9.mono hle⟩,
 fun _ _ _ ⟨a,b,c,e,f,ee,h1,h2,h3,h4,h5⟩ u hu=>by
  subst ee
  simp only [List.mem_cons,List.not_mem_nil,or_false] at hu
  rcases hu with h | h | h | h | h | h <;> subst h
  ·rfl
  ·exact nI h1
  ·exact nI h2
  ·exact nI h3
  ·exact nI h4
  ·exact nI h5⟩
end Go.Proofs.YtkjknlnhffmkkacGreat
