/- Part of the proof of WorldTells: lemmas; no condition. -/
import Derived.Test.YtkjknlnhffmkkacGreatQD
import Derived.Test.YtkjknlnhffmkkacGreatQA
import Derived.Test.YtkjknlnhffmkkacGreatQB
import Derived.Test.YtkjknlnhffmkkacGreatQC
import Derived.Shelf.SlSortCmp.WholeK
import Derived.Test.YtkjknlnhffmkkacGreatProg
import Derived.Shelf.SlSortCmp.NoneTotal
set_option linter.unusedVariables false
set_option linter.unusedSimpArgs false
set_option maxRecDepth 100000
set_option maxHeartbeats 16000000
namespace Go.Proofs.YtkjknlnhffmkkacGreat
open Go.RowKit
theorem t8{u:fH}:mv u=true↔u.kind=1∨u.kind=3:=by unfold mv;simp
theorem w5(k a:Int):∀ l1 l2:List fH,l0 k a (l1++l2)=l0 k a l1+l0 k a l2
 | [],l2=>by simp [l0]
 | u :: l1,l2=>by simp only [List.cons_append,l0,w5 k a l1 l2];omega
theorem tJ{k a:Int}{l:List fH}{m:Nat}{u:fH}(h:l[m]? = some u):l0 k a (l.take (m+1))=l0 k a (l.take m)+(if u.kind=5∧u.key=k∧u.author=a then u.item else 0):=by
 rw [jl h,w5];simp [l0]
theorem Ca{s:gt}{n:Int}(h:iN s n){z:Tally}(hz:z∈s.tallies):-1000000≤z.sum∧z.sum≤1000000:=by
 have q:=h.t z hz
 have:=q.s0;have:=q.s1;have:=lO h.c z.author.toNat
 omega
theorem EY(s:gt)(l:List fH)(k a:Nat):(mR s l k a).length≤1:=by unfold mR;split <;> simp
theorem uq(s:gt)(l:List fH)(k:Nat):∀ n:Nat,((List.range n).flatMap fun(a:Nat)=>mR s l k a).length≤n
 | 0=>by simp
 | n+1=>by
  rw [List.range_succ,List.flatMap_append,List.length_append,List.flatMap_singleton]
  have:=uq s l k n;have:=EY s l k n;omega
theorem ve{s:gt}{l:List fH}(h:s.clock.length≤6):∀ q:Nat,((List.range q).flatMap fun(key:Nat)=>(List.range s.clock.length).flatMap fun(a:Nat)=>mR s l key a).length≤6 * q
 | 0=>by simp
 | q+1=>by
  rw [List.range_succ,List.flatMap_append,List.length_append,List.flatMap_singleton]
  have:=ve (l:=l) h q;have:=uq s l q s.clock.length;omega
theorem Ds{s:gt}{l:List fH}{k a:Nat}{d:Int}(hd:d=jc k a s.tallies+l0 k a l)(h:¬ d=0):mR s l k a=[⟨k,a,d⟩]:=by
 subst hd;unfold mR q9;rw [if_pos h]
theorem C3{s:gt}{l:List fH}{k a:Nat}{d:Int}(hd:d=jc k a s.tallies+l0 k a l)(h:d=0):mR s l k a=[]:=by
 subst hd;unfold mR q9;rw [if_neg (fun k=>k h)]
theorem vW(rd:Rd)(W:World)(hle:Rd.le rd (fX W))(v v2:Value)(s:gt)(l:List fH)(h:fW iW rd v s)(h2:fN 5 gM rd v2 l) :
    Calls Tryz.prog 56 #[v,v2] W (fun e w' => ∃ v',e = .returned (.tuple #[v',.agg #[.int .i64 (g5 s l).2.1,.int .i64 (g5 s l).2.2]])∧fW iW (ext rd W w') v' (g5 s l).1∧Below W.heap.size W w'):=by
 obtain⟨_,rfl,h⟩:=h;obtain⟨J,K,L,M,D,E,rfl,b2,ae,Y,_⟩:=h.d;obtain⟨H,I,rfl,_,_⟩:=h2.val;have ch:=il;have S:St [] W rd rd [] [] W:=St.start hle;refine io (args:=[.agg (kS s J K L M D E),sc H l.length I]) 186 Tryz.func56 rfl rfl rfl ?_;refine er (ix (u:=.agg (kS s J K L M D E)) (cs:=(kS s J K L M D E)) S rfl rfl fun f _ S=>gk (cs:=jX) S jP rfl fun F _ S=>gk (cs:=mr) S mn rfl fun G _ S=>ln (er (ly (pa f 0) S (Yb iO) (ly (sc J s.clock.length K) S (fI 0 gL) (ly (ni (s.clock.length:Int)) S (Yl jH) (ly (ni (s.clock.length:Int)) S Ya (ln (fJ ?_))))))));refine er (ly (.agg (kS s J K L M D E)) S (gf 0 ir) (ly (ni (s.clock.length:Int)) S Ym ?_));refine g7 (g4 (vs:=[.agg (kS s J K L M D E),ni (s.clock.length:Int)]) (CF 51 _) rfl rfl) (vp _ _ S.le _ s (s.clock.length:Int) (⟨_,rfl,⟨_,_,_,rfl,b2,ae,Y⟩⟩:fW iW rd _ s)) ?_;rintro e _ ⟨rfl,R⟩;have S:=S.callq R;refine g9 (gk (cs:=mr) S mn rfl fun T _ S=>fT (u:=.agg #[ni ((gj s (s.clock.length:Int)).1),ni ((gj s (s.clock.length:Int)).2)]) (i:=3) (cs':=#[ni ((gj s (s.clock.length:Int)).1),ni ((gj s (s.clock.length:Int)).2)]) S rfl rfl rfl iS rfl rfl rfl fun _ S=>ln (er (ly (pa T 0) S (Yb lu) (ly (ni ((gj s (s.clock.length:Int)).1)) S (fI 3 l8) ?_))));by_cases af:(gj s (s.clock.length:Int)).1=0
 ·
  refine ly (.bool false) S (iT rfl rfl af) (ln (fV rfl (g1 (fM (er (ly (pa f 0) S (Yb iO) (ly (sc J s.clock.length K) S (fI 0 gL) (ly (sc H l.length I) S Ym (ly (ni (s.clock.length:Int)) S Ym ?_)))))))));refine g7 (g4 (vs:=[sc J s.clock.length K,sc H l.length I,ni (s.clock.length:Int)]) (CF 52 _) rfl rfl) (xc _ _ S.le _ _ s.clock l (s.clock.length:Int) b2 h2) ?_;rintro e _ ⟨_,rfl,a3,R⟩;obtain⟨b3,S,aN,_,br⟩:=S.call' R;replace ae:=fm ae aN;replace Y:=fm Y aN;replace h2:=fm h2 aN;replace a3:=fm a3 br;obtain⟨n,y,rfl,_,_⟩:=a3.val;refine g9 (ly (.tuple #[sc n (((gc s.clock l (s.clock.length:Int)).1).length) y,.agg #[ni ((gc s.clock l (s.clock.length:Int)).2.1),ni ((gc s.clock l (s.clock.length:Int)).2.2)]]) S Ym (ly (sc n (((gc s.clock l (s.clock.length:Int)).1).length) y) S Ye (ly (.agg #[ni ((gc s.clock l (s.clock.length:Int)).2.1),ni ((gc s.clock l (s.clock.length:Int)).2.2)]) S Ye (gk (cs:=mr) S mn rfl fun V _ S=>ly (sc n (((gc s.clock l (s.clock.length:Int)).1).length) y) S Ya (fT (u:=.agg #[ni ((gc s.clock l (s.clock.length:Int)).2.1),ni ((gc s.clock l (s.clock.length:Int)).2.2)]) (i:=4) (cs':=#[ni ((gc s.clock l (s.clock.length:Int)).2.1),ni ((gc s.clock l (s.clock.length:Int)).2.2)]) S rfl rfl rfl iS rfl rfl rfl fun _ S=>ln (fJ (er (ly (pa V 0) S (Yb lu) (ly (ni ((gc s.clock l (s.clock.length:Int)).2.1)) S (fI 4 l8) ?_)))))))));by_cases ag:(gc s.clock l (s.clock.length:Int)).2.1=0
  ·
   refine ly (.bool false) S (iT rfl rfl ag) (ln (fV rfl (g1 (fM (er ?_)))));have ab:=mQ.1 af;obtain⟨bs,_,bt⟩:=sh ag;have b4:jv (s.clock.length:Int) s.clock l:=(oJ (i:=0) bs).1 (by rw [← bt];exact ag);have ci:=ab.lives_len;have cj:=ab.tallies_len;have b5:=ab.clock_len
   skip
   refine ly (sc n (((gc s.clock l (s.clock.length:Int)).1).length) y) S Ym (ly (.agg #[sc n (((gc s.clock l (s.clock.length:Int)).1).length) y,sn,sn]) S (gy (ps:=[(0,sc n (((gc s.clock l (s.clock.length:Int)).1).length) y)]) rfl (fun _=>by kernel_rfl)) (gk (cs:=jX) S jP rfl fun g _ S=>fT (u:=.agg #[sc n (((gc s.clock l (s.clock.length:Int)).1).length) y,sn,sn]) (i:=5) (cs':=#[sc n (((gc s.clock l (s.clock.length:Int)).1).length) y,sn,sn]) S rfl rfl rfl iM rfl rfl rfl fun _ S=>ln (er (ly (.func (.func 97) #[] #[]) S Ya (ln (fJ (er (ly (pa f 1) S (Yb jn) (ly (sc L s.lives.length M) S (fI 0 k7) ?_)))))))));refine ly (ni (s.lives.length:Int)) S (Yl iD) (ly (ni 0) S Ym (ln (go ?_)));refine et [(1,sc H l.length I),(2,pa f 0),(4,pa F 0),(5,pa G 0),(6,ni (s.clock.length:Int)),(10,pa g 0),(11,.func (.func 97) #[] #[]),(53,sc L s.lives.length M),(54,ni (s.lives.length:Int)),(55,ni (0:Int))] (fun C => ?_);refine j1 (fun(O:Nat × (List ga) × (Option Addr) × Nat) ov w=>match O with | (k,o,AO,cO) => ∃ rd' C,ov=[(1,sc H l.length I),(2,pa f 0),(4,pa F 0),(5,pa G 0),(6,ni (s.clock.length:Int)),(10,pa g 0),(11,.func (.func 97) #[] #[]),(53,sc L s.lives.length M),(54,ni (s.lives.length:Int)),(55,ni (k:Int))]++C∧St [] W rd rd' [(f,27,(kS s J K L M D E)),(F,27,#[sn,sn,sn]),(G,84,#[ni 0,ni 0]),(T,84,#[ni ((gj s (s.clock.length:Int)).1),ni ((gj s (s.clock.length:Int)).2)]),(V,84,#[ni ((gc s.clock l (s.clock.length:Int)).2.1),ni ((gc s.clock l (s.clock.length:Int)).2.2)]),(g,27,#[sc n (((gc s.clock l (s.clock.length:Int)).1).length) y,sc AO o.length cO,sn])] [] w∧Rd.le b3 rd'∧fN 5 gB rd' (sc AO o.length cO) o∧k≤s.lives.length∧o=(s.lives.take k).foldl (oE l) []∧o.length≤k) (fun O=>match O with | (k,o,AO,cO)=>s.lives.length - k) (0,[],none,0) ⟨_,C,rfl,(S.rw' rfl rfl),fZ,fU,(by omega),rfl,(by simp)⟩ ?_;rintro⟨k,o,AO,cO⟩ _ _ ⟨ay,C,rfl,S,ah,fO,_,aP,_⟩;replace ae:=fm ae ah;replace Y:=fm Y ah;replace h2:=fm h2 ah;replace a3:=fm a3 ah;refine er ?_;by_cases b6:(k:Int)<(s.lives.length:Int)
   ·
    refine ly (.bool true) S (gJ rfl rfl b6) (ln (fJ (fS rfl (g1 (fM (fJ (go (er ?_))))))));obtain⟨Q,az⟩:∃ z,(s.lives)[k]? = some z:=gX (by omega);have aA:=(ab.l _ (List.mem_of_getElem? az)).a0;obtain⟨bu,bv,bw,_,bx,bz⟩:=hD iD iY ae az;have bA:bv=[.bool Q.set,ni Q.key,ni Q.item,ni Q.author,ni Q.seq]:=bx;subst bA;refine ly bu S (bz rfl rfl (by first | rfl | omega)) (ly (.agg (kL Q)) S (jd bw j6) (gk (cs:=nj) S lv rfl fun bB _ S=>fT (u:=.agg (kL Q)) (i:=6) (cs':=(kL Q)) S rfl rfl rfl iY rfl rfl rfl fun _ S => ?_));have S:St [] W rd ay [(f,27,(kS s J K L M D E)),(F,27,#[sn,sn,sn]),(G,84,#[ni 0,ni 0]),(T,84,#[ni ((gj s (s.clock.length:Int)).1),ni ((gj s (s.clock.length:Int)).2)]),(V,84,#[ni ((gc s.clock l (s.clock.length:Int)).2.1),ni ((gc s.clock l (s.clock.length:Int)).2.2)]),(g,27,#[sc n (((gc s.clock l (s.clock.length:Int)).1).length) y,sc AO o.length cO,sn]),(bB,104,(kL Q))] [] _:=S.rw' rfl rfl;refine ln (er (ly (.func (.func 97) #[] #[]) S Ym (ly (.agg (kL Q)) S (gf 6 j6) (ly (sc H l.length I) S Ym ?_))));refine g7 (g4 (vs:=[.agg (kL Q),sc H l.length I]) (CF 97 _) rfl rfl) (tT _ _ S.le _ _ Q l (⟨_,rfl,rfl⟩:fW gB ay _ Q) h2 (by first | exact aA | exact Z.a0)) ?_;rintro e _ ⟨rfl,R⟩;have S:=S.callq R
    cases a2:nX Q l
    ·
     refine kn (fM (fV rfl (g1 (gA (nr (ly (ni ((k:Int)+1)) S (gw (r:=(k:Int)+1) rfl rfl (gl (by omega) (by omega))) (ly (ni ((k:Int)+1)) S Ym (fL ?_))))))));refine fK ⟨(k+1,o,AO,cO),_,fk,⟨_,_,rfl,(S.tt 6 0),(fY ah fZ),fO,(by omega),(by rw [jl az,List.foldl_append,← aP];simp [oE,a2]),(by omega)⟩,?_⟩
     show _<_;dsimp only;omega
    refine kn (fM (fS rfl (gU (ly (pa g 1) S (Yb jn) (ly (sc AO o.length cO) S (fI 5 k7) (ly (.agg (kL Q)) S (gf 6 j6) ?_))))));refine g7 (g4 (vs:=[sc AO o.length cO,.agg (kL Q)]) (CF 99 _) rfl rfl) (qJ _ _ S.le _ _ o Q fO (⟨_,rfl,rfl⟩:fW gB ay _ Q) (by omega)) ?_;rintro e _ ⟨_,rfl,aB,R⟩;obtain⟨_,S,bC,_,bD⟩:=S.call' R;replace aB:=fm aB bD;obtain⟨aQ,aR,rfl,_,_⟩:=aB.val;refine g9 (ly (pa g 1) S (Yb jn) (fT (u:=sc aQ ((k6 o Q).length) aR) (i:=5) (cs':=#[sc n (((gc s.clock l (s.clock.length:Int)).1).length) y,sc aQ ((k6 o Q).length) aR,sn]) S rfl rfl rfl nm rfl rfl rfl fun _ S=>fL (gA (nr (ly (ni ((k:Int)+1)) S (gw (r:=(k:Int)+1) rfl rfl (gl (by omega) (by omega))) (ly (ni ((k:Int)+1)) S Ym (fL ?_)))))));refine fK ⟨(k+1,(k6 o Q),aQ,aR),_,fk,⟨_,_,rfl,(S.tt 6 0),(fY ah (fY fZ bC)),aB,(by omega),(by rw [jl az,List.foldl_append,← aP];simp [oE,a2]),(by rw [ry];omega)⟩,?_⟩
    show _<_;dsimp only;omega
   refine ly (.bool false) S (gH rfl rfl b6) (ln (fJ (fV rfl (iP (iQ (j0 (iR (fM (fJ (er (ly (sc H l.length I) S Ym (ly (ni (l.length:Int)) S (Yl iF) (ly (ni 0) S Ym ?_)))))))))))));refine ln (go ?_);refine et [(1,sc H l.length I),(2,pa f 0),(4,pa F 0),(5,pa G 0),(6,ni (s.clock.length:Int)),(10,pa g 0),(11,.func (.func 97) #[] #[]),(69,sc H l.length I),(70,ni (l.length:Int)),(71,ni (0:Int))] (fun C => ?_);refine j1 (fun(O:Nat × (List ga) × (Option Addr) × Nat) ov w=>match O with | (j,p,AP,cP) => ∃ rd' C,ov=[(1,sc H l.length I),(2,pa f 0),(4,pa F 0),(5,pa G 0),(6,ni (s.clock.length:Int)),(10,pa g 0),(11,.func (.func 97) #[] #[]),(69,sc H l.length I),(70,ni (l.length:Int)),(71,ni (j:Int))]++C∧St [] W rd rd' [(f,27,(kS s J K L M D E)),(F,27,#[sn,sn,sn]),(G,84,#[ni 0,ni 0]),(T,84,#[ni ((gj s (s.clock.length:Int)).1),ni ((gj s (s.clock.length:Int)).2)]),(V,84,#[ni ((gc s.clock l (s.clock.length:Int)).2.1),ni ((gc s.clock l (s.clock.length:Int)).2.2)]),(g,27,#[sc n (((gc s.clock l (s.clock.length:Int)).1).length) y,sc AP p.length cP,sn])] [] w∧Rd.le ay rd'∧fN 5 gB rd' (sc AP p.length cP) p∧j≤l.length∧s4 s l=nt p (l.drop j)∧p.length≤s.lives.length+j) (fun O=>match O with | (j,p,AP,cP)=>l.length - j) (0,o,AO,cO) ⟨_,C,rfl,(S.rw' rfl rfl),fZ,fO,(by omega),(by rw [aP,List.take_of_length_le (by omega)];rfl),(by omega)⟩ ?_;rintro⟨j,p,AP,cP⟩ _ _ ⟨a1,C,rfl,S,a4,fP,_,a8,_⟩;replace Y:=fm Y a4;replace h2:=fm h2 a4;replace a3:=fm a3 a4;refine er ?_;by_cases b7:(j:Int)<(l.length:Int)
   ·
    refine ly (.bool true) S (gJ rfl rfl b7) (ln (fJ (fS rfl (g1 (fM (fJ (go (er (ly (ni (j:Int)) S Ym ?_)))))))));obtain⟨b,a5⟩:∃ z,(l)[j]? = some z:=gX (by omega);have Z:=(mO ab.c b4 (List.mem_of_getElem? a5)).1;have ck:=Z.a0;obtain⟨bE,_,bF,_,bG,bH⟩:=hD iF jg h2 a5;obtain⟨a6,a7,rfl,b8,_⟩:=bG.d;refine ly bE S (bH rfl rfl (by first | rfl | omega)) (ly (.agg (kU b a6 a7)) S (jd bF jx) (gk (cs:=p9) S kH rfl fun U _ S=>ly (ni (j:Int)) S Ya (fT (u:=.agg (kU b a6 a7)) (i:=6) (cs':=(kU b a6 a7)) S rfl rfl rfl jg rfl rfl rfl fun _ S => ?_)));have S:St [] W rd a1 [(f,27,(kS s J K L M D E)),(F,27,#[sn,sn,sn]),(G,84,#[ni 0,ni 0]),(T,84,#[ni ((gj s (s.clock.length:Int)).1),ni ((gj s (s.clock.length:Int)).2)]),(V,84,#[ni ((gc s.clock l (s.clock.length:Int)).2.1),ni ((gc s.clock l (s.clock.length:Int)).2.2)]),(g,27,#[sc n (((gc s.clock l (s.clock.length:Int)).1).length) y,sc AP p.length cP,sn]),(U,42,(kU b a6 a7))] [] _:=S.rw' rfl rfl;refine ln (fJ ?_);refine iV (fun w=>St [] W rd a1 [(f,27,(kS s J K L M D E)),(F,27,#[sn,sn,sn]),(G,84,#[ni 0,ni 0]),(T,84,#[ni ((gj s (s.clock.length:Int)).1),ni ((gj s (s.clock.length:Int)).2)]),(V,84,#[ni ((gc s.clock l (s.clock.length:Int)).2.1),ni ((gc s.clock l (s.clock.length:Int)).2.2)]),(g,27,#[sc n (((gc s.clock l (s.clock.length:Int)).1).length) y,sc AP p.length cP,sn]),(U,42,(kU b a6 a7))] [] w) MX rfl ?_;have S:=S.drew;have cl:=S.sup;have SC:=S.tt 7 0;refine tk (pa U 2) 0 rfl rfl SC (Yb jG) (tk (ni b.kind) 1 rfl rfl SC (fI 6 T3) ?_);by_cases ai:b.kind=3
    ·
     refine tk (.bool true) 2 rfl rfl SC (iw rfl rfl ai) (tk (pa U 3) 3 rfl rfl SC (Yb nH) (tk (ni b.key) 4 rfl rfl SC (fI 6 T3) (tk (pa U 4) 5 rfl rfl SC (Yb nv) (tk (ni b.item) 6 rfl rfl SC (fI 6 T3) (tk (pa U 0) 7 rfl rfl SC (Yb kR) (tk (ni b.author) 8 rfl rfl SC (fI 6 T3) (tk (pa U 1) 9 rfl rfl SC (Yb mY) (tk (sc a6 b.seen.length a7) 10 rfl rfl SC (fI 6 gL) (tk (pa U 0) 11 rfl rfl SC (Yb kR) (tk (ni b.author) 12 rfl rfl SC (fI 6 T3) ?_))))))))));obtain⟨B,b9⟩:∃ z,(b.seen)[b.author.toNat]? = some z:=gX Z.at_;have aS:=mi b9;have bI:=lO Z.c b.author.toNat;obtain⟨bJ,bK,bL,_,aT,bM⟩:=hD jH iX b8 b9;have aT:bK=[ni B]:=aT;subst aT;refine tk bJ 13 rfl rfl SC (bM rfl rfl (by first | rfl | omega)) (tk (ni B) 14 rfl rfl SC (iE bL T3) (tk (ni (B+1)) 15 rfl rfl SC (gw (r:=B+1) rfl rfl (gl (by omega) (by omega))) (tk (.agg #[.bool true,ni b.key,ni b.item,ni b.author,ni (B+1)]) 16 rfl rfl SC (gy (ps:=[(0,.bool true),(1,ni b.key),(2,ni b.item),(3,ni b.author),(4,ni (B+1))]) rfl (fun _=>by kernel_rfl)) ?_)));refine aO 17 rfl (by kernel_rfl) (gk (cs:=nj) S lv rfl fun bN _ S=>fL ?_)
     have SC:=S.tt 7 0;refine fK (ak SC ?_);refine aO 18 rfl (by kernel_rfl) (fT (u:=.agg #[.bool true,ni b.key,ni b.item,ni b.author,ni (B+1)]) (i:=7) (cs':=#[.bool true,ni b.key,ni b.item,ni b.author,ni (B+1)]) S rfl rfl rfl iY rfl rfl rfl fun _ S=>fL ?_)
     have SC:=S.tt 7 0;refine fK (ak SC ?_);refine gE (by kernel_rfl) ?_;refine fM (fJ ?_);refine iV (fun w=>St [] W rd a1 [(f,27,(kS s J K L M D E)),(F,27,#[sn,sn,sn]),(G,84,#[ni 0,ni 0]),(T,84,#[ni ((gj s (s.clock.length:Int)).1),ni ((gj s (s.clock.length:Int)).2)]),(V,84,#[ni ((gc s.clock l (s.clock.length:Int)).2.1),ni ((gc s.clock l (s.clock.length:Int)).2.2)]),(g,27,#[sc n (((gc s.clock l (s.clock.length:Int)).1).length) y,sc AP p.length cP,sn]),(U,42,(kU b a6 a7)),(bN,104,#[.bool true,ni b.key,ni b.item,ni b.author,ni (B+1)])] [] w) MX rfl ?_;have S:=S.drew;have cm:=S.sup;have SC:=S.tt 8 0;have ac:kA b=⟨true,b.key,b.item,b.author,B+1⟩:=by unfold kA;rw [aS,decide_eq_true ai]
     skip
     refine tk (pa U 2) 0 rfl rfl SC (Yb jG) (tk (ni b.kind) 1 rfl rfl SC (fI 6 T3) ?_);by_cases am:b.kind=1
     ·
      refine tk (.bool true) 2 rfl rfl SC (iw rfl rfl am) (tk (.bool true) 3 rfl rfl SC Ym (kO (d':=96) 4 rfl rfl SC rfl rfl rfl (kO (d':=96) 5 rfl rfl SC rfl rfl rfl (kO (d':=96) 6 rfl rfl SC rfl rfl rfl (tk (.bool true) 7 rfl rfl SC Yt (tk (.bool true) 8 rfl rfl SC Ym ?_))))));have an:mv b=true:=t8.2 (by omega)
      skip
      refine jC (d':=101) (v:=.func (.func 97) #[] #[]) 9 rfl rfl SC rfl rfl rfl Ym (jC (d':=101) (v:=.agg #[.bool true,ni b.key,ni b.item,ni b.author,ni (B+1)]) 10 rfl rfl SC rfl rfl rfl (gf 7 j6) (jC (d':=101) (v:=sc H l.length I) 11 rfl rfl SC rfl rfl rfl Ym (jC (d':=101) (v:=ni (j:Int)) 12 rfl rfl SC rfl rfl rfl Ym (jC (d':=101) (v:=ni ((j:Int)+1)) 13 rfl rfl SC rfl rfl rfl (gw (r:=(j:Int)+1) rfl rfl (gl (by omega) (by omega))) ?_))));obtain⟨ba,bb,bc,bO⟩:=tV (lo:=(j+1)) (hi:=l.length) iF jg h2 (by omega) (by first | exact Nat.le_refl _ | omega);rw [List.take_length] at bc;refine jC (d':=101) (v:=sc ba (l.length - (j+1)) bb) 14 rfl rfl SC rfl rfl rfl (bO rfl (.inr ⟨_,_,_,rfl,rfl,(by first | rfl | omega)⟩) (.inl ⟨rfl,rfl⟩)) ?_;refine aO 15 rfl (by kernel_rfl) (lj (d':=101) (g4 (vs:=[.agg #[.bool true,ni b.key,ni b.item,ni b.author,ni (B+1)],sc ba (l.length - (j+1)) bb]) (CF 97 _) rfl rfl) rfl rfl (tT _ _ S.le _ _ (⟨true,b.key,b.item,b.author,B+1⟩:ga) ((l).drop (j+1)) (⟨_,rfl,rfl⟩:fW gB a1 _ (⟨true,b.key,b.item,b.author,B+1⟩:ga)) bc (by first | exact aA | exact Z.a0)) ?_);rintro e _ ⟨rfl,R⟩;have S:=S.callq R
      cases a2:nX (⟨true,b.key,b.item,b.author,B+1⟩:ga) ((l).drop (j+1))
      ·
       refine kn ?_;have SC:=S.tt 8 0;refine fK (ak SC ?_);refine tk (.bool false) 16 rfl rfl SC Yt (gE (by kernel_rfl) ?_);refine fM (fV rfl (g1 (gA (nr (ly (ni ((j:Int)+1)) S (gw (r:=(j:Int)+1) rfl rfl (gl (by omega) (by omega))) (ly (ni ((j:Int)+1)) S Ym (fL ?_)))))));refine fK ⟨(j+1,p,AP,cP),_,fk,⟨_,_,rfl,(S.tt 6 0),(fY a4 fZ),fP,(by omega),(by rw [a8,qB a5];unfold pA;rw [ac,if_neg (fun q=>by rw [a2] at q;cases q.2)]),(by omega)⟩,?_⟩
       show _<_;dsimp only;omega
      refine kn ?_;have SC:=S.tt 8 0;refine fK (ak SC ?_);refine tk (.bool true) 16 rfl rfl SC Yt (gE (by kernel_rfl) ?_);refine fM (fS rfl (gU (ly (pa g 1) S (Yb jn) (ly (sc AP p.length cP) S (fI 5 k7) (ly (.agg #[.bool true,ni b.key,ni b.item,ni b.author,ni (B+1)]) S (gf 7 j6) ?_)))));refine g7 (g4 (vs:=[sc AP p.length cP,.agg #[.bool true,ni b.key,ni b.item,ni b.author,ni (B+1)]]) (CF 99 _) rfl rfl) (qJ _ _ S.le _ _ p (⟨true,b.key,b.item,b.author,B+1⟩:ga) fP (⟨_,rfl,rfl⟩:fW gB a1 _ (⟨true,b.key,b.item,b.author,B+1⟩:ga)) (by omega)) ?_;rintro e _ ⟨_,rfl,aC,R⟩;obtain⟨_,S,bP,_,bQ⟩:=S.call' R;replace aC:=fm aC bQ;obtain⟨aU,aV,rfl,_,_⟩:=aC.val;refine g9 (ly (pa g 1) S (Yb jn) (fT (u:=sc aU ((k6 p (⟨true,b.key,b.item,b.author,B+1⟩:ga)).length) aV) (i:=5) (cs':=#[sc n (((gc s.clock l (s.clock.length:Int)).1).length) y,sc aU ((k6 p (⟨true,b.key,b.item,b.author,B+1⟩:ga)).length) aV,sn]) S rfl rfl rfl nm rfl rfl rfl fun _ S=>fL (gA (nr (ly (ni ((j:Int)+1)) S (gw (r:=(j:Int)+1) rfl rfl (gl (by omega) (by omega))) (ly (ni ((j:Int)+1)) S Ym (fL ?_)))))));refine fK ⟨(j+1,(k6 p (⟨true,b.key,b.item,b.author,B+1⟩:ga)),aU,aV),_,fk,⟨_,_,rfl,(S.tt 6 0),(fY a4 (fY fZ bP)),aC,(by omega),(by rw [a8,qB a5];unfold pA;rw [ac,if_pos ⟨an,a2⟩]),(by rw [ry];omega)⟩,?_⟩
      show _<_;dsimp only;omega
     refine tk (.bool false) 2 rfl rfl SC (i5 rfl rfl am) (tk (.bool false) 3 rfl rfl SC Ym (jC (d':=96) (v:=pa U 2) 4 rfl rfl SC rfl rfl rfl (Yb jG) (jC (d':=96) (v:=ni b.kind) 5 rfl rfl SC rfl rfl rfl (fI 6 T3) (jC (d':=96) (v:=.bool true) 6 rfl rfl SC rfl rfl rfl (iw rfl rfl ai) (tk (.bool true) 7 rfl rfl SC Yf (tk (.bool true) 8 rfl rfl SC Ym ?_))))));have an:mv b=true:=t8.2 (by omega)
     skip
     refine jC (d':=101) (v:=.func (.func 97) #[] #[]) 9 rfl rfl SC rfl rfl rfl Ym (jC (d':=101) (v:=.agg #[.bool true,ni b.key,ni b.item,ni b.author,ni (B+1)]) 10 rfl rfl SC rfl rfl rfl (gf 7 j6) (jC (d':=101) (v:=sc H l.length I) 11 rfl rfl SC rfl rfl rfl Ym (jC (d':=101) (v:=ni (j:Int)) 12 rfl rfl SC rfl rfl rfl Ym (jC (d':=101) (v:=ni ((j:Int)+1)) 13 rfl rfl SC rfl rfl rfl (gw (r:=(j:Int)+1) rfl rfl (gl (by omega) (by omega))) ?_))));obtain⟨bd,be,bf,bR⟩:=tV (lo:=(j+1)) (hi:=l.length) iF jg h2 (by omega) (by first | exact Nat.le_refl _ | omega);rw [List.take_length] at bf;refine jC (d':=101) (v:=sc bd (l.length - (j+1)) be) 14 rfl rfl SC rfl rfl rfl (bR rfl (.inr ⟨_,_,_,rfl,rfl,(by first | rfl | omega)⟩) (.inl ⟨rfl,rfl⟩)) ?_;refine aO 15 rfl (by kernel_rfl) (lj (d':=101) (g4 (vs:=[.agg #[.bool true,ni b.key,ni b.item,ni b.author,ni (B+1)],sc bd (l.length - (j+1)) be]) (CF 97 _) rfl rfl) rfl rfl (tT _ _ S.le _ _ (⟨true,b.key,b.item,b.author,B+1⟩:ga) ((l).drop (j+1)) (⟨_,rfl,rfl⟩:fW gB a1 _ (⟨true,b.key,b.item,b.author,B+1⟩:ga)) bf (by first | exact aA | exact Z.a0)) ?_);rintro e _ ⟨rfl,R⟩;have S:=S.callq R
     cases a2:nX (⟨true,b.key,b.item,b.author,B+1⟩:ga) ((l).drop (j+1))
     ·
      refine kn ?_;have SC:=S.tt 8 0;refine fK (ak SC ?_);refine tk (.bool false) 16 rfl rfl SC Yt (gE (by kernel_rfl) ?_);refine fM (fV rfl (g1 (gA (nr (ly (ni ((j:Int)+1)) S (gw (r:=(j:Int)+1) rfl rfl (gl (by omega) (by omega))) (ly (ni ((j:Int)+1)) S Ym (fL ?_)))))));refine fK ⟨(j+1,p,AP,cP),_,fk,⟨_,_,rfl,(S.tt 6 0),(fY a4 fZ),fP,(by omega),(by rw [a8,qB a5];unfold pA;rw [ac,if_neg (fun q=>by rw [a2] at q;cases q.2)]),(by omega)⟩,?_⟩
      show _<_;dsimp only;omega
     refine kn ?_;have SC:=S.tt 8 0;refine fK (ak SC ?_);refine tk (.bool true) 16 rfl rfl SC Yt (gE (by kernel_rfl) ?_);refine fM (fS rfl (gU (ly (pa g 1) S (Yb jn) (ly (sc AP p.length cP) S (fI 5 k7) (ly (.agg #[.bool true,ni b.key,ni b.item,ni b.author,ni (B+1)]) S (gf 7 j6) ?_)))));refine g7 (g4 (vs:=[sc AP p.length cP,.agg #[.bool true,ni b.key,ni b.item,ni b.author,ni (B+1)]]) (CF 99 _) rfl rfl) (qJ _ _ S.le _ _ p (⟨true,b.key,b.item,b.author,B+1⟩:ga) fP (⟨_,rfl,rfl⟩:fW gB a1 _ (⟨true,b.key,b.item,b.author,B+1⟩:ga)) (by omega)) ?_;rintro e _ ⟨_,rfl,aD,R⟩;obtain⟨_,S,bS,_,bT⟩:=S.call' R;replace aD:=fm aD bT;obtain⟨aW,aX,rfl,_,_⟩:=aD.val;refine g9 (ly (pa g 1) S (Yb jn) (fT (u:=sc aW ((k6 p (⟨true,b.key,b.item,b.author,B+1⟩:ga)).length) aX) (i:=5) (cs':=#[sc n (((gc s.clock l (s.clock.length:Int)).1).length) y,sc aW ((k6 p (⟨true,b.key,b.item,b.author,B+1⟩:ga)).length) aX,sn]) S rfl rfl rfl nm rfl rfl rfl fun _ S=>fL (gA (nr (ly (ni ((j:Int)+1)) S (gw (r:=(j:Int)+1) rfl rfl (gl (by omega) (by omega))) (ly (ni ((j:Int)+1)) S Ym (fL ?_)))))));refine fK ⟨(j+1,(k6 p (⟨true,b.key,b.item,b.author,B+1⟩:ga)),aW,aX),_,fk,⟨_,_,rfl,(S.tt 6 0),(fY a4 (fY fZ bS)),aD,(by omega),(by rw [a8,qB a5];unfold pA;rw [ac,if_pos ⟨an,a2⟩]),(by rw [ry];omega)⟩,?_⟩
     show _<_;dsimp only;omega
    refine tk (.bool false) 2 rfl rfl SC (i5 rfl rfl ai) (tk (pa U 3) 3 rfl rfl SC (Yb nH) (tk (ni b.key) 4 rfl rfl SC (fI 6 T3) (tk (pa U 4) 5 rfl rfl SC (Yb nv) (tk (ni b.item) 6 rfl rfl SC (fI 6 T3) (tk (pa U 0) 7 rfl rfl SC (Yb kR) (tk (ni b.author) 8 rfl rfl SC (fI 6 T3) (tk (pa U 1) 9 rfl rfl SC (Yb mY) (tk (sc a6 b.seen.length a7) 10 rfl rfl SC (fI 6 gL) (tk (pa U 0) 11 rfl rfl SC (Yb kR) (tk (ni b.author) 12 rfl rfl SC (fI 6 T3) ?_))))))))));obtain⟨P,bg⟩:∃ z,(b.seen)[b.author.toNat]? = some z:=gX Z.at_;have aS:=mi bg;have bI:=lO Z.c b.author.toNat;obtain⟨bU,bV,bW,_,aY,bX⟩:=hD jH iX b8 bg;have aY:bV=[ni P]:=aY;subst aY;refine tk bU 13 rfl rfl SC (bX rfl rfl (by first | rfl | omega)) (tk (ni P) 14 rfl rfl SC (iE bW T3) (tk (ni (P+1)) 15 rfl rfl SC (gw (r:=P+1) rfl rfl (gl (by omega) (by omega))) (tk (.agg #[.bool false,ni b.key,ni b.item,ni b.author,ni (P+1)]) 16 rfl rfl SC (gy (ps:=[(0,.bool false),(1,ni b.key),(2,ni b.item),(3,ni b.author),(4,ni (P+1))]) rfl (fun _=>by kernel_rfl)) ?_)));refine aO 17 rfl (by kernel_rfl) (gk (cs:=nj) S lv rfl fun bY _ S=>fL ?_)
    have SC:=S.tt 7 0;refine fK (ak SC ?_);refine aO 18 rfl (by kernel_rfl) (fT (u:=.agg #[.bool false,ni b.key,ni b.item,ni b.author,ni (P+1)]) (i:=7) (cs':=#[.bool false,ni b.key,ni b.item,ni b.author,ni (P+1)]) S rfl rfl rfl iY rfl rfl rfl fun _ S=>fL ?_)
    have SC:=S.tt 7 0;refine fK (ak SC ?_);refine gE (by kernel_rfl) ?_;refine fM (fJ ?_);refine iV (fun w=>St [] W rd a1 [(f,27,(kS s J K L M D E)),(F,27,#[sn,sn,sn]),(G,84,#[ni 0,ni 0]),(T,84,#[ni ((gj s (s.clock.length:Int)).1),ni ((gj s (s.clock.length:Int)).2)]),(V,84,#[ni ((gc s.clock l (s.clock.length:Int)).2.1),ni ((gc s.clock l (s.clock.length:Int)).2.2)]),(g,27,#[sc n (((gc s.clock l (s.clock.length:Int)).1).length) y,sc AP p.length cP,sn]),(U,42,(kU b a6 a7)),(bY,104,#[.bool false,ni b.key,ni b.item,ni b.author,ni (P+1)])] [] w) MX rfl ?_;have S:=S.drew;have cn:=S.sup;have SC:=S.tt 8 0;have ac:kA b=⟨false,b.key,b.item,b.author,P+1⟩:=by unfold kA;rw [aS,decide_eq_false ai]
    skip
    refine tk (pa U 2) 0 rfl rfl SC (Yb jG) (tk (ni b.kind) 1 rfl rfl SC (fI 6 T3) ?_);by_cases am:b.kind=1
    ·
     refine tk (.bool true) 2 rfl rfl SC (iw rfl rfl am) (tk (.bool true) 3 rfl rfl SC Ym (kO (d':=96) 4 rfl rfl SC rfl rfl rfl (kO (d':=96) 5 rfl rfl SC rfl rfl rfl (kO (d':=96) 6 rfl rfl SC rfl rfl rfl (tk (.bool true) 7 rfl rfl SC Yt (tk (.bool true) 8 rfl rfl SC Ym ?_))))));have an:mv b=true:=t8.2 (by omega)
     skip
     refine jC (d':=101) (v:=.func (.func 97) #[] #[]) 9 rfl rfl SC rfl rfl rfl Ym (jC (d':=101) (v:=.agg #[.bool false,ni b.key,ni b.item,ni b.author,ni (P+1)]) 10 rfl rfl SC rfl rfl rfl (gf 7 j6) (jC (d':=101) (v:=sc H l.length I) 11 rfl rfl SC rfl rfl rfl Ym (jC (d':=101) (v:=ni (j:Int)) 12 rfl rfl SC rfl rfl rfl Ym (jC (d':=101) (v:=ni ((j:Int)+1)) 13 rfl rfl SC rfl rfl rfl (gw (r:=(j:Int)+1) rfl rfl (gl (by omega) (by omega))) ?_))));obtain⟨bh,bi,bj,bZ⟩:=tV (lo:=(j+1)) (hi:=l.length) iF jg h2 (by omega) (by first | exact Nat.le_refl _ | omega);rw [List.take_length] at bj;refine jC (d':=101) (v:=sc bh (l.length - (j+1)) bi) 14 rfl rfl SC rfl rfl rfl (bZ rfl (.inr ⟨_,_,_,rfl,rfl,(by first | rfl | omega)⟩) (.inl ⟨rfl,rfl⟩)) ?_;refine aO 15 rfl (by kernel_rfl) (lj (d':=101) (g4 (vs:=[.agg #[.bool false,ni b.key,ni b.item,ni b.author,ni (P+1)],sc bh (l.length - (j+1)) bi]) (CF 97 _) rfl rfl) rfl rfl (tT _ _ S.le _ _ (⟨false,b.key,b.item,b.author,P+1⟩:ga) ((l).drop (j+1)) (⟨_,rfl,rfl⟩:fW gB a1 _ (⟨false,b.key,b.item,b.author,P+1⟩:ga)) bj (by first | exact aA | exact Z.a0)) ?_);rintro e _ ⟨rfl,R⟩;have S:=S.callq R
     cases a2:nX (⟨false,b.key,b.item,b.author,P+1⟩:ga) ((l).drop (j+1))
     ·
      refine kn ?_;have SC:=S.tt 8 0;refine fK (ak SC ?_);refine tk (.bool false) 16 rfl rfl SC Yt (gE (by kernel_rfl) ?_);refine fM (fV rfl (g1 (gA (nr (ly (ni ((j:Int)+1)) S (gw (r:=(j:Int)+1) rfl rfl (gl (by omega) (by omega))) (ly (ni ((j:Int)+1)) S Ym (fL ?_)))))));refine fK ⟨(j+1,p,AP,cP),_,fk,⟨_,_,rfl,(S.tt 6 0),(fY a4 fZ),fP,(by omega),(by rw [a8,qB a5];unfold pA;rw [ac,if_neg (fun q=>by rw [a2] at q;cases q.2)]),(by omega)⟩,?_⟩
      show _<_;dsimp only;omega
     refine kn ?_;have SC:=S.tt 8 0;refine fK (ak SC ?_);refine tk (.bool true) 16 rfl rfl SC Yt (gE (by kernel_rfl) ?_);refine fM (fS rfl (gU (ly (pa g 1) S (Yb jn) (ly (sc AP p.length cP) S (fI 5 k7) (ly (.agg #[.bool false,ni b.key,ni b.item,ni b.author,ni (P+1)]) S (gf 7 j6) ?_)))));refine g7 (g4 (vs:=[sc AP p.length cP,.agg #[.bool false,ni b.key,ni b.item,ni b.author,ni (P+1)]]) (CF 99 _) rfl rfl) (qJ _ _ S.le _ _ p (⟨false,b.key,b.item,b.author,P+1⟩:ga) fP (⟨_,rfl,rfl⟩:fW gB a1 _ (⟨false,b.key,b.item,b.author,P+1⟩:ga)) (by omega)) ?_;rintro e _ ⟨_,rfl,aE,R⟩;obtain⟨_,S,c0,_,c1⟩:=S.call' R;replace aE:=fm aE c1;obtain⟨aZ,b0,rfl,_,_⟩:=aE.val;refine g9 (ly (pa g 1) S (Yb jn) (fT (u:=sc aZ ((k6 p (⟨false,b.key,b.item,b.author,P+1⟩:ga)).length) b0) (i:=5) (cs':=#[sc n (((gc s.clock l (s.clock.length:Int)).1).length) y,sc aZ ((k6 p (⟨false,b.key,b.item,b.author,P+1⟩:ga)).length) b0,sn]) S rfl rfl rfl nm rfl rfl rfl fun _ S=>fL (gA (nr (ly (ni ((j:Int)+1)) S (gw (r:=(j:Int)+1) rfl rfl (gl (by omega) (by omega))) (ly (ni ((j:Int)+1)) S Ym (fL ?_)))))));refine fK ⟨(j+1,(k6 p (⟨false,b.key,b.item,b.author,P+1⟩:ga)),aZ,b0),_,fk,⟨_,_,rfl,(S.tt 6 0),(fY a4 (fY fZ c0)),aE,(by omega),(by rw [a8,qB a5];unfold pA;rw [ac,if_pos ⟨an,a2⟩]),(by rw [ry];omega)⟩,?_⟩
     show _<_;dsimp only;omega
    refine tk (.bool false) 2 rfl rfl SC (i5 rfl rfl am) (tk (.bool false) 3 rfl rfl SC Ym (jC (d':=96) (v:=pa U 2) 4 rfl rfl SC rfl rfl rfl (Yb jG) (jC (d':=96) (v:=ni b.kind) 5 rfl rfl SC rfl rfl rfl (fI 6 T3) (jC (d':=96) (v:=.bool false) 6 rfl rfl SC rfl rfl rfl (i5 rfl rfl ai) (tk (.bool false) 7 rfl rfl SC Yf (tk (.bool false) 8 rfl rfl SC Ym (kO (d':=101) 9 rfl rfl SC rfl rfl rfl (kO (d':=101) 10 rfl rfl SC rfl rfl rfl (kO (d':=101) 11 rfl rfl SC rfl rfl rfl (kO (d':=101) 12 rfl rfl SC rfl rfl rfl (kO (d':=101) 13 rfl rfl SC rfl rfl rfl (kO (d':=101) 14 rfl rfl SC rfl rfl rfl (kO (d':=101) 15 rfl rfl SC rfl rfl rfl (tk (.bool false) 16 rfl rfl SC Yf ?_))))))))))))));refine gE (by kernel_rfl) ?_;refine fM (fV rfl (g1 (gA (nr (ly (ni ((j:Int)+1)) S (gw (r:=(j:Int)+1) rfl rfl (gl (by omega) (by omega))) (ly (ni ((j:Int)+1)) S Ym (fL ?_)))))));refine fK ⟨(j+1,p,AP,cP),_,fk,⟨_,_,rfl,(S.tt 6 0),(fY a4 fZ),fP,(by omega),(by rw [a8,qB a5];unfold pA;rw [if_neg (fun q=>by have:=t8.1 q.1;omega)]),(by omega)⟩,?_⟩
    show _<_;dsimp only;omega
   refine ly (.bool false) S (gH rfl rfl b7) (ln (fJ (fV rfl (iP (iQ (j0 (iR (fM (fJ (er (ly (ni 0) S Ya (ln ?_))))))))))));refine go ?_;have S:=S.ownNil 106 3;have c2:fQ 3 h8 a1 [] []:=rfl;refine et [(1,sc H l.length I),(2,pa f 0),(4,pa F 0),(5,pa G 0),(6,ni (s.clock.length:Int)),(10,pa g 0),(17,ni (0:Int))] (fun C => ?_);refine j1 (fun(O:Nat × (List Tally) × (Option Addr) × Nat × Nat × (List Value)) ov w=>match O with | (q,t,AT,nT,cT,xsT) => ∃ rd' C,ov=[(1,sc H l.length I),(2,pa f 0),(4,pa F 0),(5,pa G 0),(6,ni (s.clock.length:Int)),(10,pa g 0),(17,ni (q:Int))]++C∧St [] W rd rd' [(f,27,(kS s J K L M D E)),(F,27,#[sn,sn,sn]),(G,84,#[ni 0,ni 0]),(T,84,#[ni ((gj s (s.clock.length:Int)).1),ni ((gj s (s.clock.length:Int)).2)]),(V,84,#[ni ((gc s.clock l (s.clock.length:Int)).2.1),ni ((gc s.clock l (s.clock.length:Int)).2.2)]),(g,27,#[sc n (((gc s.clock l (s.clock.length:Int)).1).length) y,sc AP p.length cP,sc AT nT cT])] [⟨106,3,sc AT nT cT,nT,xsT⟩] w∧Rd.le a1 rd'∧(fQ 3 h8 rd' xsT t∧nT=t.length)∧q≤16∧t=(List.range q).flatMap fun(key:Nat)=>(List.range s.clock.length).flatMap fun(a:Nat)=>mR s l key a) (fun O=>match O with | (q,t,AT,nT,cT,xsT)=>16 - q) (0,[],none,0,0,[]) ⟨_,C,rfl,(S.rw' rfl rfl),fZ,⟨c2,(by first | rfl | assumption | omega | simp)⟩,(by omega),(by simp)⟩ ?_;rintro⟨q,t,AT,nT,cT,xsT⟩ _ _ ⟨bk,C,rfl,S,ao,⟨OT,_⟩,_,b1⟩;replace Y:=fm Y ao;replace h2:=fm h2 ao;replace a3:=fm a3 ao;replace fP:=fm fP ao;have co:t.length≤6 * q:=by rw [b1];exact ve b5 q
   refine fJ (er (ly (ni (q:Int)) S Ym ?_));by_cases bl:(q:Int)≤15
   ·
    refine ly (.bool true) S (zQ rfl rfl bl) (ln (fS rfl (g1 (fM (fJ (go (er (ly (ni 0) S Ya (ln (go ?_))))))))));refine et [(1,sc H l.length I),(2,pa f 0),(4,pa F 0),(5,pa G 0),(6,ni (s.clock.length:Int)),(10,pa g 0),(17,ni (q:Int)),(116,ni (q:Int)),(117,.bool true),(18,ni (0:Int))] (fun C => ?_);refine j1 (fun(O:Nat × (List Tally) × (Option Addr) × Nat × Nat × (List Value)) ov w=>match O with | (a,u,AU,nU,cU,xsU) => ∃ rd' C,ov=[(1,sc H l.length I),(2,pa f 0),(4,pa F 0),(5,pa G 0),(6,ni (s.clock.length:Int)),(10,pa g 0),(17,ni (q:Int)),(116,ni (q:Int)),(117,.bool true),(18,ni (a:Int))]++C∧St [] W rd rd' [(f,27,(kS s J K L M D E)),(F,27,#[sn,sn,sn]),(G,84,#[ni 0,ni 0]),(T,84,#[ni ((gj s (s.clock.length:Int)).1),ni ((gj s (s.clock.length:Int)).2)]),(V,84,#[ni ((gc s.clock l (s.clock.length:Int)).2.1),ni ((gc s.clock l (s.clock.length:Int)).2.2)]),(g,27,#[sc n (((gc s.clock l (s.clock.length:Int)).1).length) y,sc AP p.length cP,sc AU nU cU])] [⟨106,3,sc AU nU cU,nU,xsU⟩] w∧Rd.le bk rd'∧(fQ 3 h8 rd' xsU u∧nU=u.length)∧a≤s.clock.length∧u=((List.range q).flatMap fun(key:Nat)=>(List.range s.clock.length).flatMap fun(a:Nat)=>mR s l key a)++(List.range a).flatMap fun(a:Nat)=>mR s l q a) (fun O=>match O with | (a,u,AU,nU,cU,xsU)=>s.clock.length - a) (0,t,AT,nT,cT,xsT) ⟨_,C,rfl,(S.rw' rfl rfl),fZ,⟨OT,(by first | rfl | assumption | omega | simp)⟩,(by omega),(by rw [b1];simp)⟩ ?_;rintro⟨a,u,AU,nU,cU,xsU⟩ _ _ ⟨c3,C,rfl,S,ap,⟨OU,_⟩,_,aF⟩;replace Y:=fm Y ap;replace h2:=fm h2 ap;have cp:u.length≤6 * q+a:=by rw [aF,List.length_append];have:=ve (s:=s) (l:=l) b5 q;have:=uq s l q a;omega
    refine fJ (er (ly (ni (a:Int)) S Ym (ly (ni (s.clock.length:Int)) S Ym ?_)));by_cases bm:(a:Int)<(s.clock.length:Int)
    ·
     refine ly (.bool true) S (gJ rfl rfl bm) (ln (fS rfl (g1 (fM (fJ (go (er (ly (ni 0) S Ya (ln (fJ (er ?_)))))))))));refine ly (pa f 2) S (Yb kQ) (ly (sc D s.tallies.length E) S (fI 0 lP) (ly (ni (s.tallies.length:Int)) S (Yl iK) (ly (ni 0) S Ym (ln (go ?_)))));refine et [(1,sc H l.length I),(2,pa f 0),(4,pa F 0),(5,pa G 0),(6,ni (s.clock.length:Int)),(10,pa g 0),(17,ni (q:Int)),(116,ni (q:Int)),(117,.bool true),(18,ni (a:Int)),(120,ni (a:Int)),(121,ni (s.clock.length:Int)),(122,.bool true),(125,pa f 2),(126,sc D s.tallies.length E),(127,ni (s.tallies.length:Int)),(128,ni (0:Int)),(19,ni 0)] (fun C => ?_);refine j1 (fun(O:Nat × Int) ov w=>match O with | (i,c) => ∃ rd' C,ov=[(1,sc H l.length I),(2,pa f 0),(4,pa F 0),(5,pa G 0),(6,ni (s.clock.length:Int)),(10,pa g 0),(17,ni (q:Int)),(116,ni (q:Int)),(117,.bool true),(18,ni (a:Int)),(120,ni (a:Int)),(121,ni (s.clock.length:Int)),(122,.bool true),(125,pa f 2),(126,sc D s.tallies.length E),(127,ni (s.tallies.length:Int)),(128,ni (i:Int)),(19,ni c)]++C∧St [] W rd rd' [(f,27,(kS s J K L M D E)),(F,27,#[sn,sn,sn]),(G,84,#[ni 0,ni 0]),(T,84,#[ni ((gj s (s.clock.length:Int)).1),ni ((gj s (s.clock.length:Int)).2)]),(V,84,#[ni ((gc s.clock l (s.clock.length:Int)).2.1),ni ((gc s.clock l (s.clock.length:Int)).2.2)]),(g,27,#[sc n (((gc s.clock l (s.clock.length:Int)).1).length) y,sc AP p.length cP,sc AU nU cU])] [⟨106,3,sc AU nU cU,nU,xsU⟩] w∧Rd.le c3 rd'∧i≤s.tallies.length∧c=jc q a (s.tallies.take i) ∧ -(1000000 * (i:Int))≤c∧c≤1000000 * (i:Int)) (fun O=>match O with | (i,c)=>s.tallies.length - i) (0,0) ⟨_,C,rfl,(S.rw' rfl rfl),fZ,(by omega),rfl,(by omega),(by omega)⟩ ?_;rintro⟨i,c⟩ _ _ ⟨bn,C,rfl,S,a9,hi,aG,_,_⟩;replace Y:=fm Y a9;replace h2:=fm h2 a9;replace OU:=rm OU a9;refine er ?_;by_cases bo:(i:Int)<(s.tallies.length:Int)
     ·
      refine ly (.bool true) S (gJ rfl rfl bo) (ln (fJ (fS rfl (g1 (fM (fJ (go (er ?_))))))));obtain⟨N,aq⟩:∃ z,(s.tallies)[i]? = some z:=gX (by omega);have cq:=Ca ab (List.mem_of_getElem? aq);obtain⟨c4,c5,c6,_,c7,c8⟩:=hD iK jf Y aq;have c9:c5=[ni N.key,ni N.author,ni N.sum]:=c7;subst c9;refine ly c4 S (c8 rfl rfl (by first | rfl | omega)) (ly (.agg #[ni N.key,ni N.author,ni N.sum]) S (jd c6 kX) (gk (cs:=qb) S nl rfl fun aH _ S=>fT (u:=.agg #[ni N.key,ni N.author,ni N.sum]) (i:=6) (cs':=#[ni N.key,ni N.author,ni N.sum]) S rfl rfl rfl jf rfl rfl rfl fun _ S => ?_));have S:St [] W rd bn [(f,27,(kS s J K L M D E)),(F,27,#[sn,sn,sn]),(G,84,#[ni 0,ni 0]),(T,84,#[ni ((gj s (s.clock.length:Int)).1),ni ((gj s (s.clock.length:Int)).2)]),(V,84,#[ni ((gc s.clock l (s.clock.length:Int)).2.1),ni ((gc s.clock l (s.clock.length:Int)).2.2)]),(g,27,#[sc n (((gc s.clock l (s.clock.length:Int)).1).length) y,sc AP p.length cP,sc AU nU cU]),(aH,106,#[ni N.key,ni N.author,ni N.sum])] [⟨106,3,sc AU nU cU,nU,xsU⟩] _:=S.rw' rfl rfl;refine ln (er (ly (pa aH 0) S (Yb nW) (ly (ni N.key) S (fI 6 T3) (ly (ni (q:Int)) S Ym ?_))));by_cases ar:N.key=(q:Int)
      ·
       refine ly (.bool true) S (iw rfl rfl ar) (ly (.bool true) S Ym (lg 136 (pa aH 1) S (Yb mg) (lg 136 (ni N.author) S (fI 6 T3) (lg 136 (ni (a:Int)) S Ym ?_))));by_cases aI:N.author=(a:Int)
       ·
        refine lg 136 (.bool true) S (iw rfl rfl aI) (ly (.bool true) S Yt (ln (fS rfl (gU (ly (ni c) S Ym (ly (pa aH 2) S (Yb nu) (ly (ni N.sum) S (fI 6 T3) (ly (ni (c+N.sum)) S (gw (r:=c+N.sum) rfl rfl (gl (by omega) (by omega))) (ly (ni (c+N.sum)) S Ya (fL (gA (nr (ly (ni ((i:Int)+1)) S (gw (r:=(i:Int)+1) rfl rfl (gl (by omega) (by omega))) ?_)))))))))))));refine ly (ni ((i:Int)+1)) S Ym (fL ?_);refine fK ⟨(i+1,(c+N.sum)),_,fk,⟨_,_,rfl,(S.tt 6 1),(fY a9 fZ),(by omega),(by rw [jl aq,nK,← aG];simp [jc,kF,ar,aI]),(by omega),(by omega)⟩,?_⟩
        show _<_;dsimp only;omega
       refine lg 136 (.bool false) S (i5 rfl rfl aI) (ly (.bool false) S Yt (ln (fV rfl (g1 (gA (nr (ly (ni ((i:Int)+1)) S (gw (r:=(i:Int)+1) rfl rfl (gl (by omega) (by omega))) (ly (ni ((i:Int)+1)) S Ym (fL ?_)))))))));refine fK ⟨(i+1,c),_,fk,⟨_,_,rfl,(S.tt 6 1),(fY a9 fZ),(by omega),(by rw [jl aq,nK,← aG];simp [jc,kF,ar,aI]),(by omega),(by omega)⟩,?_⟩
       show _<_;dsimp only;omega
      refine ly (.bool false) S (i5 rfl rfl ar) (ly (.bool false) S Ym (ls 136 (ls 136 (ls 136 (ls 136 (ly (.bool false) S Yf (ln (fV rfl (g1 (gA (nr (ly (ni ((i:Int)+1)) S (gw (r:=(i:Int)+1) rfl rfl (gl (by omega) (by omega))) (ly (ni ((i:Int)+1)) S Ym ?_)))))))))))));refine fL (fK ⟨(i+1,c),_,fk,⟨_,_,rfl,(S.tt 6 1),(fY a9 fZ),(by omega),(by rw [jl aq,nK,← aG];simp [jc,kF,ar]),(by omega),(by omega)⟩,?_⟩)
      show _<_;dsimp only;omega
     refine ly (.bool false) S (gH rfl rfl bo) (ln (fJ (fV rfl (iP (iQ (j0 (iR (fM (fJ (er (ly (sc H l.length I) S Ym (ly (ni (l.length:Int)) S (Yl iF) (ly (ni 0) S Ym ?_)))))))))))));refine ln (go ?_);refine et [(1,sc H l.length I),(2,pa f 0),(4,pa F 0),(5,pa G 0),(6,ni (s.clock.length:Int)),(10,pa g 0),(17,ni (q:Int)),(116,ni (q:Int)),(117,.bool true),(18,ni (a:Int)),(120,ni (a:Int)),(121,ni (s.clock.length:Int)),(122,.bool true),(125,pa f 2),(126,sc D s.tallies.length E),(127,ni (s.tallies.length:Int)),(128,ni (i:Int)),(129,.bool false),(147,sc H l.length I),(148,ni (l.length:Int)),(149,ni (0:Int)),(19,ni c)] (fun C => ?_);refine j1 (fun(O:Nat × Int) ov w=>match O with | (m,d) => ∃ rd' C,ov=[(1,sc H l.length I),(2,pa f 0),(4,pa F 0),(5,pa G 0),(6,ni (s.clock.length:Int)),(10,pa g 0),(17,ni (q:Int)),(116,ni (q:Int)),(117,.bool true),(18,ni (a:Int)),(120,ni (a:Int)),(121,ni (s.clock.length:Int)),(122,.bool true),(125,pa f 2),(126,sc D s.tallies.length E),(127,ni (s.tallies.length:Int)),(128,ni (i:Int)),(129,.bool false),(147,sc H l.length I),(148,ni (l.length:Int)),(149,ni (m:Int)),(19,ni d)]++C∧St [] W rd rd' [(f,27,(kS s J K L M D E)),(F,27,#[sn,sn,sn]),(G,84,#[ni 0,ni 0]),(T,84,#[ni ((gj s (s.clock.length:Int)).1),ni ((gj s (s.clock.length:Int)).2)]),(V,84,#[ni ((gc s.clock l (s.clock.length:Int)).2.1),ni ((gc s.clock l (s.clock.length:Int)).2.2)]),(g,27,#[sc n (((gc s.clock l (s.clock.length:Int)).1).length) y,sc AP p.length cP,sc AU nU cU])] [⟨106,3,sc AU nU cU,nU,xsU⟩] w∧Rd.le bn rd'∧m≤l.length∧d=jc q a s.tallies+l0 q a (l.take m) ∧ -(96000000+1000 * (m:Int))≤d∧d≤96000000+1000 * (m:Int)) (fun O=>match O with | (m,d)=>l.length - m) (0,c) ⟨_,C,rfl,(S.rw' rfl rfl),fZ,(by omega),(by rw [aG,List.take_of_length_le (by omega)];simp [l0]),(by omega),(by omega)⟩ ?_;rintro⟨m,d⟩ _ _ ⟨bp,C,rfl,S,aa,_,ad,_,_⟩;replace h2:=fm h2 aa;replace OU:=rm OU aa;refine er ?_;by_cases bq:(m:Int)<(l.length:Int)
     ·
      refine ly (.bool true) S (gJ rfl rfl bq) (ln (fJ (fS rfl (g1 (fM (fJ (go (er ?_))))))));obtain⟨X,aj⟩:∃ z,(l)[m]? = some z:=gX (by omega);have Z:=(mO ab.c b4 (List.mem_of_getElem? aj)).1;have cr:=Z.i0;have ct:=Z.i1;obtain⟨ca,_,cb,_,cc,cd⟩:=hD iF jg h2 aj;obtain⟨aJ,aK,rfl,_,_⟩:=cc.d;refine ly ca S (cd rfl rfl (by first | rfl | omega)) (ly (.agg (kU X aJ aK)) S (jd cb jx) (gk (cs:=p9) S kH rfl fun au _ S=>fT (u:=.agg (kU X aJ aK)) (i:=6) (cs':=(kU X aJ aK)) S rfl rfl rfl jg rfl rfl rfl fun _ S => ?_));have S:St [] W rd bp [(f,27,(kS s J K L M D E)),(F,27,#[sn,sn,sn]),(G,84,#[ni 0,ni 0]),(T,84,#[ni ((gj s (s.clock.length:Int)).1),ni ((gj s (s.clock.length:Int)).2)]),(V,84,#[ni ((gc s.clock l (s.clock.length:Int)).2.1),ni ((gc s.clock l (s.clock.length:Int)).2.2)]),(g,27,#[sc n (((gc s.clock l (s.clock.length:Int)).1).length) y,sc AP p.length cP,sc AU nU cU]),(au,42,(kU X aJ aK))] [⟨106,3,sc AU nU cU,nU,xsU⟩] _:=S.rw' rfl rfl;refine ln (er (ly (pa au 2) S (Yb jG) (ly (ni X.kind) S (fI 6 T3) ?_)));by_cases al:X.kind=5
      ·
       refine ly (.bool true) S (iw rfl rfl al) (ly (.bool true) S Ym (lg 156 (pa au 3) S (Yb nH) (lg 156 (ni X.key) S (fI 6 T3) (lg 156 (ni (q:Int)) S Ym ?_))));by_cases av:X.key=(q:Int)
       ·
        refine lg 156 (.bool true) S (iw rfl rfl av) (ly (.bool true) S Yt (ly (.bool true) S Ym (lg 162 (pa au 0) S (Yb kR) (lg 162 (ni X.author) S (fI 6 T3) (lg 162 (ni (a:Int)) S Ym ?_)))));by_cases aL:X.author=(a:Int)
        ·
         refine lg 162 (.bool true) S (iw rfl rfl aL) (ly (.bool true) S Yt (ln (fS rfl (gU (ly (ni d) S Ym (ly (pa au 4) S (Yb nv) (ly (ni X.item) S (fI 6 T3) (ly (ni (d+X.item)) S (gw (r:=d+X.item) rfl rfl (gl (by omega) (by omega))) (ly (ni (d+X.item)) S Ya (fL (gA (nr (ly (ni ((m:Int)+1)) S (gw (r:=(m:Int)+1) rfl rfl (gl (by omega) (by omega))) ?_)))))))))))));refine ly (ni ((m:Int)+1)) S Ym (fL ?_);refine fK ⟨(m+1,(d+X.item)),_,fk,⟨_,_,rfl,(S.tt 6 1),(fY aa fZ),(by omega),(by rw [tJ aj,ad];simp [al,av,aL];omega),(by omega),(by omega)⟩,?_⟩
         show _<_;dsimp only;omega
        refine lg 162 (.bool false) S (i5 rfl rfl aL) (ly (.bool false) S Yt (ln (fV rfl (g1 (gA (nr (ly (ni ((m:Int)+1)) S (gw (r:=(m:Int)+1) rfl rfl (gl (by omega) (by omega))) (ly (ni ((m:Int)+1)) S Ym (fL ?_)))))))));refine fK ⟨(m+1,d),_,fk,⟨_,_,rfl,(S.tt 6 1),(fY aa fZ),(by omega),(by rw [tJ aj,ad];simp [al,av,aL]),(by omega),(by omega)⟩,?_⟩
        show _<_;dsimp only;omega
       refine lg 156 (.bool false) S (i5 rfl rfl av) (ly (.bool false) S Yt (ly (.bool false) S Ym (ls 162 (ls 162 (ls 162 (ls 162 (ly (.bool false) S Yf (ln (fV rfl (g1 (gA (nr (ly (ni ((m:Int)+1)) S (gw (r:=(m:Int)+1) rfl rfl (gl (by omega) (by omega))) ?_)))))))))))));refine ly (ni ((m:Int)+1)) S Ym (fL ?_);refine fK ⟨(m+1,d),_,fk,⟨_,_,rfl,(S.tt 6 1),(fY aa fZ),(by omega),(by rw [tJ aj,ad];simp [al,av]),(by omega),(by omega)⟩,?_⟩
       show _<_;dsimp only;omega
      refine ly (.bool false) S (i5 rfl rfl al) (ly (.bool false) S Ym (ls 156 (ls 156 (ls 156 (ls 156 (ly (.bool false) S Yf (ly (.bool false) S Ym (ls 162 (ls 162 (ls 162 (ls 162 (ly (.bool false) S Yf (ln (fV rfl ?_))))))))))))));refine g1 (gA (nr (ly (ni ((m:Int)+1)) S (gw (r:=(m:Int)+1) rfl rfl (gl (by omega) (by omega))) (ly (ni ((m:Int)+1)) S Ym (fL ?_)))));refine fK ⟨(m+1,d),_,fk,⟨_,_,rfl,(S.tt 6 1),(fY aa fZ),(by omega),(by rw [tJ aj,ad];simp [al]),(by omega),(by omega)⟩,?_⟩
      show _<_;dsimp only;omega
     refine ly (.bool false) S (gH rfl rfl bq) (ln (fJ (fV rfl (iP (iQ (j0 (iR (fM (er ?_)))))))));rw [List.take_of_length_le (by omega)] at ad
     skip
     refine ly (ni d) S Ym ?_;by_cases aM:d=0
     ·
      refine ly (.bool false) S (iT rfl rfl aM) (ln (fV rfl (g1 (gA (nr (ly (ni (a:Int)) S Ym (ly (ni ((a:Int)+1)) S (gw (r:=(a:Int)+1) rfl rfl (gl (by omega) (by omega))) (ly (ni ((a:Int)+1)) S Ya (fL ?_)))))))));refine fK ⟨(a+1,u,AU,nU,cU,xsU),_,fk,⟨_,_,rfl,(S.tt 6 1),(fY ap (fY (fY fZ a9) aa)),⟨OU,(by first | assumption | omega)⟩,(by omega),(by rw [aF,List.range_succ,List.flatMap_append,List.flatMap_singleton,C3 ad aM,List.append_nil])⟩,?_⟩
      show _<_;dsimp only;omega
     refine ly (.bool true) S (j4 rfl rfl aM) (ln (fS rfl (gU (ly (pa g 2) S (Yb kQ) (ly (sc AU nU cU) S (fI 5 lP) (ly (ni (q:Int)) S Ym (ly (ni (a:Int)) S Ym (ly (ni d) S Ym (ly (.agg #[ni (q:Int),ni (a:Int),ni d]) S (gy (ps:=[(0,ni (q:Int)),(1,ni (a:Int)),(2,ni d)]) rfl (fun _=>by kernel_rfl)) (iZ (ps:=[(0,.agg #[ni (q:Int),ni (a:Int),ni d])]) (cs:=#[ni (q:Int),ni (a:Int),ni d]) S iK jf nl rfl rfl rfl (by kernel_rfl) fun ce _ S => ?_))))))))));refine js (e':=0) (i:=0) (i':=6) S oD rfl rfl rfl rfl rfl rfl rfl (by simp only [maxLen];omega) (by first | omega | (dsimp only;omega)) fun cf _ S => ?_
     have OU:=fQ.push (x:=(⟨(q:Int),(a:Int),d⟩:Tally)) (cs:=[ni (q:Int),ni (a:Int),ni d]) OU rfl rfl;obtain⟨aw,ax,cg,_,_⟩:∃ A c,cf = .slice A (nU+1) c∧(nU+1)≤c∧c≤maxLen:=i8 S (i:=0) rfl;subst cg;refine ly (pa g 2) S (Yb kQ) (fT (u:=sc aw (nU+1) ax) (i:=5) (cs':=#[sc n (((gc s.clock l (s.clock.length:Int)).1).length) y,sc AP p.length cP,sc aw (nU+1) ax]) S rfl rfl rfl pT rfl rfl rfl fun _ S => ?_);have S:St [] W rd bp [(f,27,(kS s J K L M D E)),(F,27,#[sn,sn,sn]),(G,84,#[ni 0,ni 0]),(T,84,#[ni ((gj s (s.clock.length:Int)).1),ni ((gj s (s.clock.length:Int)).2)]),(V,84,#[ni ((gc s.clock l (s.clock.length:Int)).2.1),ni ((gc s.clock l (s.clock.length:Int)).2.2)]),(g,27,#[sc n (((gc s.clock l (s.clock.length:Int)).1).length) y,sc AP p.length cP,sc aw (nU+1) ax]),(ce,106,#[ni (q:Int),ni (a:Int),ni d])] [⟨106,3,sc aw (nU+1) ax,nU+1,xsU++[ni (q:Int),ni (a:Int),ni d]⟩] _:=S.rw' rfl rfl;refine fL (gA (nr (ly (ni (a:Int)) S Ym (ly (ni ((a:Int)+1)) S (gw (r:=(a:Int)+1) rfl rfl (gl (by omega) (by omega))) (ly (ni ((a:Int)+1)) S Ya (fL ?_))))));refine fK ⟨(a+1,u++[(⟨(q:Int),(a:Int),d⟩:Tally)],aw,nU+1,ax,(xsU++[ni (q:Int),ni (a:Int),ni d])),_,fk,⟨_,_,rfl,(S.tt 6 1),(fY ap (fY (fY fZ a9) aa)),⟨OU,(by first | omega | (simp;omega))⟩,(by omega),(by rw [aF,List.range_succ,List.flatMap_append,List.flatMap_singleton,Ds ad aM,List.append_assoc])⟩,?_⟩
     show _<_;dsimp only;omega
    refine ly (.bool false) S (gH rfl rfl bm) (ln (fV rfl (iP (iQ (j0 (iR (gA (nr (ly (ni (q:Int)) S Ym (ly (ni ((q:Int)+1)) S (gw (r:=(q:Int)+1) rfl rfl (gl (by omega) (by omega))) (ly (ni ((q:Int)+1)) S Ya (fL ?_))))))))))));refine fK ⟨(q+1,u,AU,nU,cU,xsU),_,fk,⟨_,_,rfl,(S.tt 6 1),(fY ao (fY fZ ap)),⟨OU,(by first | omega | (simp;omega))⟩,(by omega),(by rw [aF,show a=s.clock.length by omega,List.range_succ,List.flatMap_append,List.flatMap_singleton])⟩,?_⟩
    show _<_;dsimp only;omega
   refine ly (.bool false) S (wJ rfl rfl bl) (ln (fV rfl (iP (iQ (j0 (iR (fM (er (ly (.agg #[sc n (((gc s.clock l (s.clock.length:Int)).1).length) y,sc AP p.length cP,sc AT nT cT]) S (gf 5 ir) (ly (.agg #[ni 0,ni 0]) S (gy (ps:=[]) rfl (fun _=>by kernel_rfl)) (fT (u:=.agg #[sc n (((gc s.clock l (s.clock.length:Int)).1).length) y,sc AP p.length cP,sc AT nT cT]) (i:=1) (cs':=#[sc n (((gc s.clock l (s.clock.length:Int)).1).length) y,sc AP p.length cP,sc AT nT cT]) S rfl rfl rfl iM rfl rfl rfl fun _ S => ?_)))))))))));have S:St [] W rd bk [(f,27,(kS s J K L M D E)),(F,27,#[sc n (((gc s.clock l (s.clock.length:Int)).1).length) y,sc AP p.length cP,sc AT nT cT]),(G,84,#[ni 0,ni 0]),(T,84,#[ni ((gj s (s.clock.length:Int)).1),ni ((gj s (s.clock.length:Int)).2)]),(V,84,#[ni ((gc s.clock l (s.clock.length:Int)).2.1),ni ((gc s.clock l (s.clock.length:Int)).2.2)]),(g,27,#[sc n (((gc s.clock l (s.clock.length:Int)).1).length) y,sc AP p.length cP,sc AT nT cT])] [⟨106,3,sc AT nT cT,nT,xsT⟩] _:=S.rw' rfl rfl;refine fT (u:=.agg #[ni 0,ni 0]) (i:=2) (cs':=#[ni 0,ni 0]) S rfl rfl rfl iS rfl rfl rfl fun _ S=>ln (fR ?_)
   refine iv (v:=.agg #[sc n (((gc s.clock l (s.clock.length:Int)).1).length) y,sc AP p.length cP,sc AT nT cT]) (v':=.agg #[ni 0,ni 0]) rfl ⟨_,rfl,gu (i:=1) (vs:=[sc n (((gc s.clock l (s.clock.length:Int)).1).length) y,sc AP p.length cP,sc AT nT cT]) S rfl ir rfl rfl⟩ ⟨_,rfl,gu (i:=2) (vs:=[ni 0,ni 0]) S rfl jh rfl rfl⟩ ?_;have el:s4 s l=p:=by rw [a8,List.drop_eq_nil_of_le (by omega)];rfl
   have et:sD s l s.clock.length=t:=by rw [b1,show q=16 by omega];rfl
   rw [BA af ag,el,et];exact⟨_,rfl,⟨_,rfl,⟨_,_,_,rfl,(fm a3 S.out),(fm fP S.out),(S.rowOut (i:=0) rfl rfl (by first | assumption | omega | (simp;omega)) rfl OT)⟩⟩,S.below⟩
  refine ly (.bool true) S (j4 rfl rfl ag) (ln (fS rfl (fJ ?_)));refine iV (fun w=>St [] W rd b3 [(f,27,(kS s J K L M D E)),(T,84,#[ni ((gj s (s.clock.length:Int)).1),ni ((gj s (s.clock.length:Int)).2)]),(V,84,#[ni ((gc s.clock l (s.clock.length:Int)).2.1),ni ((gc s.clock l (s.clock.length:Int)).2.2)])] [] w) MX rfl ?_;have S:=S.drew;have cu:=S.sup;have SC:=(((S.tt 5 0).del 2).del 1);refine tk (.agg #[sn,sn,sn]) 0 rfl rfl SC (gy (ps:=[]) rfl (fun _=>by kernel_rfl)) (tk (.agg #[ni ((gc s.clock l (s.clock.length:Int)).2.1),ni ((gc s.clock l (s.clock.length:Int)).2.2)]) 1 rfl rfl SC (gf 2 jh) ?_);refine aO 2 rfl (by kernel_rfl) (fT (u:=.agg #[sn,sn,sn]) (i:=1) (cs':=#[sn,sn,sn]) S rfl rfl rfl iM rfl rfl rfl fun _ S=>fL ?_)
  have SC:=(((S.tt 5 0).del 2).del 1);refine fK (ak SC ?_);refine aO 3 rfl (by kernel_rfl) (fT (u:=.agg #[ni ((gc s.clock l (s.clock.length:Int)).2.1),ni ((gc s.clock l (s.clock.length:Int)).2.2)]) (i:=2) (cs':=#[ni ((gc s.clock l (s.clock.length:Int)).2.1),ni ((gc s.clock l (s.clock.length:Int)).2.2)]) S rfl rfl rfl iS rfl rfl rfl fun _ S=>fL ?_)
  have SC:=(((S.tt 5 0).del 2).del 1);refine fK (ak SC ?_);refine gE (by kernel_rfl) ?_;refine fM (fR ?_);refine iv (v:=.agg #[sn,sn,sn]) (v':=.agg #[ni ((gc s.clock l (s.clock.length:Int)).2.1),ni ((gc s.clock l (s.clock.length:Int)).2.2)]) rfl ⟨_,rfl,gu (i:=1) (vs:=[sn,sn,sn]) S rfl ir rfl rfl⟩ ⟨_,rfl,gu (i:=2) (vs:=[ni ((gc s.clock l (s.clock.length:Int)).2.1),ni ((gc s.clock l (s.clock.length:Int)).2.2)]) S rfl jh rfl rfl⟩ ?_;rw [D1 af ag];exact⟨_,rfl,⟨_,rfl,⟨_,_,_,rfl,fU,fU,fU⟩⟩,S.below⟩
 refine ly (.bool true) S (j4 rfl rfl af) (ln (fS rfl (fJ ?_)));refine iV (fun w=>St [] W rd rd [(f,27,(kS s J K L M D E)),(T,84,#[ni ((gj s (s.clock.length:Int)).1),ni ((gj s (s.clock.length:Int)).2)])] [] w) MX rfl ?_;have S:=S.drew;have cv:=S.sup;have SC:=(((S.tt 4 0).del 2).del 1);refine tk (.agg #[sn,sn,sn]) 0 rfl rfl SC (gy (ps:=[]) rfl (fun _=>by kernel_rfl)) (tk (pa T 0) 1 rfl rfl SC (Yb lu) (tk (ni ((gj s (s.clock.length:Int)).1)) 2 rfl rfl SC (fI 1 l8) (tk (.agg #[ni ((gj s (s.clock.length:Int)).1),ni 0]) 3 rfl rfl SC (gy (ps:=[(0,ni ((gj s (s.clock.length:Int)).1))]) rfl (fun _=>by kernel_rfl)) ?_)));refine aO 4 rfl (by kernel_rfl) (fT (u:=.agg #[sn,sn,sn]) (i:=1) (cs':=#[sn,sn,sn]) S rfl rfl rfl iM rfl rfl rfl fun _ S=>fL ?_)
 have SC:=(((S.tt 4 0).del 2).del 1);refine fK (ak SC ?_);refine aO 5 rfl (by kernel_rfl) (fT (u:=.agg #[ni ((gj s (s.clock.length:Int)).1),ni 0]) (i:=2) (cs':=#[ni ((gj s (s.clock.length:Int)).1),ni 0]) S rfl rfl rfl iS rfl rfl rfl fun _ S=>fL ?_)
 have SC:=(((S.tt 4 0).del 2).del 1);refine fK (ak SC ?_);refine gE (by kernel_rfl) ?_;refine fM (fR ?_);refine iv (v:=.agg #[sn,sn,sn]) (v':=.agg #[ni ((gj s (s.clock.length:Int)).1),ni 0]) rfl ⟨_,rfl,gu (i:=1) (vs:=[sn,sn,sn]) S rfl ir rfl rfl⟩ ⟨_,rfl,gu (i:=2) (vs:=[ni ((gj s (s.clock.length:Int)).1),ni 0]) S rfl jh rfl rfl⟩ ?_;rw [DZ af];exact⟨_,rfl,⟨_,rfl,⟨_,_,_,rfl,fU,fU,fU⟩⟩,S.below⟩
section
open Go.Proofs.YtkjknlnhffmkkacGreat
namespace D
variable {ds:List Deferred}
structure Below (B:Nat) (w w':World):Prop where
 os:w'.os=w.os
 tape:w'.tape=w.tape
 output:w'.output=w.output
 drawn:w.drawn≤w'.drawn
 size:w.heap.size≤w'.heap.size
 block:∀ k,k<B→w'.heap[k]? = w.heap[k]?
theorem Below.kit{B:Nat}{w w':World}(h:Below B w w'):Go.RowKit.Below B w w':=⟨h.os,h.tape,h.output,h.size,h.block⟩
structure jj (X:List Nat) (w w':World):Prop where
 os:w'.os=w.os
 tape:w'.tape=w.tape
 output:w'.output=w.output
 drawn:w.drawn≤w'.drawn
 size:w.heap.size≤w'.heap.size
 block:∀ k,k<w.heap.size→k ∉ X→w'.heap[k]? = w.heap[k]?
theorem jj.below{w w':World}(h:jj [] w w'):Below w.heap.size w w':=⟨h.os,h.tape,h.output,h.drawn,h.size,fun k hk=>h.block k hk (by simp)⟩
theorem jj.refl(X:List Nat)(w:World):jj X w w:=⟨rfl,rfl,rfl,Nat.le_refl _,Nat.le_refl _,fun _ _ _=>rfl⟩
structure St (X:List Nat) (W:World) (r0 rd:Rd) (bx:List je) (ow:List h7) (w:World):Prop where
 fr:jj X W w
 sub:∀ b o v,b<W.heap.size→rd b o=some v→r0 b o=some v
 sup:Rd.le r0 rd
 le:Rd.le rd (fX w)
 box:∀ p∈bx,(W.heap.size≤p.1∨p.1∈X)∧w.heap[p.1]? = some (.cells p.2.2 p.2.1 (0,0)) ∧ ∀ o,rd p.1 o=none
 own:∀ q∈ow,w.ownsRow 0 q.e q.size q.v q.n q.xs ∧ ∀ g,q.v.ownBlock=some g→(W.heap.size≤g∨g∈X) ∧ ∀ o,rd g o=none
 d1:bx.Pairwise fun p q=>p.1 ≠ q.1
 d2:ow.Pairwise fun p q=>p.v.ownBlock=none∨p.v.ownBlock ≠ q.v.ownBlock
 d3:∀ p∈bx,∀ q∈ow,q.v.ownBlock ≠ some p.1
section
variable {X:List Nat} {W w w':World} {r0 rd:Rd} {bx:List je} {ow:List h7}
theorem St.below(S:St [] W r0 rd bx ow w):Below W.heap.size W w:=S.fr.below
theorem St.start(h:Rd.le r0 (fX W)):St X W r0 r0 [] [] W :=
 ⟨jj.refl _ _,fun _ _ _ _ h=>h,Rd.le_refl _,h,by simp,by simp,.nil,.nil,by simp⟩
theorem St.base_le(S:St X W r0 rd bx ow w):W.heap.size≤w.heap.size:=S.fr.size
theorem St.lt_box(S:St X W r0 rd bx ow w){p:je}(hp:p∈bx):p.1<w.heap.size:=by
 have:=(S.box p hp).2.1
 rcases Nat.lt_or_ge p.1 w.heap.size with h | h
 ·exact h
 ·rw [Array.getElem?_eq_none h] at this;cases this
theorem St.free(S:St X W r0 rd bx ow w){k:Nat}(hk:w.heap.size≤k)(o:Nat):rd k o=none:=by
 cases h:rd k o with
 | none=>rfl
 | some v=>have:=o8 (S.le _ _ _ h);omega
theorem St.fr_grown(S:St X W r0 rd bx ow w){row:Option Nat}(hg:w.grownBy w' row)(hd:w.drawn≤w'.drawn)(hr:∀ k,row=some k→W.heap.size≤k∨k∈X):jj X W w' :=
 ⟨hg.os.trans S.fr.os,hg.tape.trans S.fr.tape,hg.output.trans S.fr.output,Nat.le_trans S.fr.drawn hd,Nat.le_trans S.fr.size hg.size,fun k hk hX=>by
  rw [hg.block k (Nat.lt_of_lt_of_le hk S.fr.size) (fun e=>(hr k e.symm).elim (fun h=>by omega) hX)]
  exact S.fr.block k hk hX⟩
theorem sm(S:St X W r0 rd bx ow w){row:Option Nat}(hg:w.grownBy w' row){p:je}(hp:p∈bx)(hne:row ≠ some p.1):w'.heap[p.1]? = some (.cells p.2.2 p.2.1 (0,0)) :=
 (hg.block p.1 (S.lt_box hp) (fun e=>hne e.symm)).trans (S.box p hp).2.1
theorem so(S:St X W r0 rd bx ow w){row:Option Nat}(hg:w.grownBy w' row){q:h7}(hq:q∈ow)(hne:q.v.ownBlock=none∨q.v.ownBlock ≠ row):w'.ownsRow 0 q.e q.size q.v q.n q.xs :=
 (S.own q hq).1.kept hg hne
theorem St.grown0(S:St X W r0 rd bx ow w)(hg:w.grownBy w' none)(hd:w.drawn≤w'.drawn):St X W r0 rd bx ow w' :=
 ⟨S.fr_grown hg hd (fun _ h=>by cases h),S.sub,S.sup,tB S.le hg (fun _ h=>by cases h),fun p hp=>⟨(S.box p hp).1,sm S hg hp (by simp),(S.box p hp).2.2⟩,
  fun q hq=>⟨so S hg hq (by cases h:q.v.ownBlock <;> simp),(S.own q hq).2⟩,S.d1,S.d2,S.d3⟩
theorem St.callq(S:St X W r0 rd bx ow w)(k:Below w.heap.size w w'):St X W r0 rd bx ow w':=S.grown0 (vQ k.kit) k.drawn
theorem St.drew(S:St X W r0 rd bx ow w):St X W r0 rd bx ow w.drew:=S.callq ⟨rfl,rfl,rfl,Nat.le_succ _,Nat.le_refl _,fun _ _=>rfl⟩
theorem w4{r:Rd}{w w':World}(h:Rd.le r (fX w))(k:Below w.heap.size w w'):Rd.le (ext r w w') (fX w'):=fun b o v e=>by
 unfold ext at e;split at e
 ·rename_i hb;exact(k.kit.cell (p:=⟨b,o,none⟩) hb).trans (h _ _ _ e)
 ·exact e
theorem St.call(S:St X W r0 rd bx ow w)(k:Below w.heap.size w w'):St X W r0 (ext rd w w') bx ow w':=by
 have S':=S.callq k
 refine⟨S'.fr,fun b o v f e => ?_,fY S.sup (oC S.le),w4 S.le k,fun p a=>⟨(S'.box p a).1,(S'.box p a).2.1,fun o => ?_⟩,fun q c=>⟨(S'.own q c).1,fun g d=>⟨((S'.own q c).2 g d).1,fun o => ?_⟩⟩,S.d1,S.d2,S.d3⟩
 ·have:b<w.heap.size:=Nat.lt_of_lt_of_le f S.base_le
  unfold ext at e;rw [if_pos this] at e
  exact S.sub b o v f e
 ·unfold ext;rw [if_pos (S.lt_box a)];exact(S.box p a).2.2 o
 ·unfold ext;rw [if_pos ((S.own q c).1.lt g d).2];exact((S.own q c).2 g d).2 o
theorem St.alloc(S:St X W r0 rd bx ow w)(T:TypeId)(cs:Array Value):St X W r0 rd (bx++[(w.heap.size,T,cs)]) ow (w.alloc (.cells cs T)):=by
 have S':=S.grown0 (yN w (.cells cs T)) (Nat.le_refl _)
 refine⟨S'.fr,S'.sub,S'.sup,S'.le,fun p a => ?_,S'.own,?_,S.d2,fun p a q b => ?_⟩
 ·rcases List.mem_append.1 a with h | h
  ·exact S'.box p h
  ·obtain rfl:=List.mem_singleton.1 h
   exact⟨.inl S.base_le,heap_alloc_new w _,fun o=>S.free (Nat.le_refl _) o⟩
 ·rw [List.pairwise_append]
  refine⟨S.d1,List.pairwise_singleton _ _,fun p a q b => ?_⟩
  obtain rfl:=List.mem_singleton.1 b
  have:=S.lt_box a
  show p.1 ≠ w.heap.size
  omega
 ·rcases List.mem_append.1 a with h | h
  ·exact S.d3 p h q b
  ·obtain rfl:=List.mem_singleton.1 h
   intro e
   have:=((S.own q b).1.lt _ e).2
   exact absurd this (Nat.lt_irrefl _)
theorem oK(S:St X W r0 rd bx ow w){i j:Nat}{p q:je}(hi:bx[i]? = some p)(hj:bx[j]? = some q)(hn:j ≠ i):q.1 ≠ p.1:=by
 have b:=(List.pairwise_iff_getElem.1 S.d1)
 obtain⟨c,d⟩:=List.getElem?_eq_some_iff.1 hi
 obtain⟨f,g⟩:=List.getElem?_eq_some_iff.1 hj
 rcases Nat.lt_or_gt_of_ne hn with a | a
 ·have:=b j i f c a;rw [d,g] at this;exact this
 ·have:=b i j c f a;rw [d,g] at this;exact fun e=>this e.symm
theorem St.frz(S:St X W r0 rd bx ow w){i g:Nat}{T:TypeId}{cs:Array Value}(hi:bx[i]? = some (g,T,cs))(hX:g ∉ X):St X W r0 (k8 rd w (some g)) (bx.eraseIdx i) ow w:=by
 have n:=List.mem_of_getElem? hi
 have r:=S.box _ n
 refine⟨S.fr,fun b o v s e => ?_,fY S.sup (qr fun k e=>by injection e with e;subst e;exact r.2.2),td S.le,fun p d => ?_,fun q a=>⟨(S.own q a).1,fun k f=>⟨((S.own q a).2 k f).1,fun o => ?_⟩⟩,qj S.d1,S.d2,fun p d => ?_⟩
 ·unfold k8 at e;split at e
  ·rename_i l;injection l with l;subst l;exact r.1.elim (fun h=>absurd s (by dsimp only at h;omega)) (fun h=>absurd h hX)
  ·exact S.sub b o v s e
 ·obtain⟨j,t,c⟩:=mq d
  have m:=List.mem_of_getElem? c
  refine⟨(S.box p m).1,(S.box p m).2.1,fun o => ?_⟩
  unfold k8;rw [if_neg (fun e=>oK S hi c t (by injection e))];exact(S.box p m).2.2 o
 ·unfold k8;rw [if_neg (fun e=>S.d3 _ n q a (by rw [f,e]))];exact((S.own q a).2 k f).2 o
 ·obtain⟨j,t,c⟩:=mq d
  exact S.d3 p (List.mem_of_getElem? c)
theorem St.frz_le(S:St X W r0 rd bx ow w){i g:Nat}{T:TypeId}{cs:Array Value}(hi:bx[i]? = some (g,T,cs)):Rd.le rd (k8 rd w (some g)):=qr fun k e=>by injection e with e;subst e;exact(S.box _ (List.mem_of_getElem? hi)).2.2
theorem St.frz_sl{α:Type}{size:Nat}{R:CR α}{xs:List α}(S:St X W r0 rd bx ow w){i g:Nat}{T:TypeId}{cs:Array Value}(hi:bx[i]? = some (g,T,cs)){n c:Nat}(hn:n=xs.length)(hc:xs.length≤c)(hm:c≤maxLen)
  (hr:fQ size R (k8 rd w (some g)) cs.toList xs):fN size R (k8 rd w (some g)) (.slice (some ⟨g,0,none⟩) n c) xs:=by
 subst hn
 refine⟨_,_,_,rfl,hc,hm,hr,fun _=>⟨g,0,rfl,fun j u a => ?_⟩⟩
 unfold k8;rw [if_pos rfl,Nat.zero_add]
 rw [cell_of_row w g j cs T (0,0) (S.box _ (List.mem_of_getElem? hi)).2.1];simpa using a
end
section
variable {P:Program} {X:List Nat} {W w w':World} {r0 rd:Rd} {bx:List je} {ow:List h7} {C:World→Prop} {e:Operand→Value} {d:Option Tmp} {t ty:TypeId} {pos:String} {af:Array Edge} {gd:Option (Nat × Bool)} {v p:Value} {x y:Operand} {g i j:Nat} {T:TypeId} {cs:Array Value}
theorem St.cell(S:St X W r0 rd bx ow w)(hi:bx[i]? = some (g,T,cs))(j:Nat):w.cell? ⟨g,j,none⟩=cs[j]?:=cell_of_row w g j cs T (0,0) (S.box _ (List.mem_of_getElem? hi)).2.1
theorem jm(S:St X W r0 rd bx ow w)(hi:bx[i]? = some (g,T,cs))(hj:cs[j]? = some v)(ht:lM P t):Ld P w t (.pointer (some ⟨g,j,none⟩)) v:=rL ht (by rw [S.cell hi];exact hj)
theorem gu{k:Nat}{vs:List Value}(S:St X W r0 rd bx ow w)(hi:bx[i]? = some (g,T,cs))(ht:mE P t k)(hk:vs.length=k)(hv:(cs.toList.drop j).take k=vs):Ld P w t (.pointer (some ⟨g,j,none⟩)) (.agg vs.toArray) :=
 rX ht hk fun j' u hu=>by
  rw [S.cell hi]
  rw [← hv,List.getElem?_take] at hu
  split at hu
  ·rw [List.getElem?_drop] at hu;simpa using hu
  ·cases hu
end
section
variable {P:Program} {Q:Exit→Act→World→Prop} {X:List Nat} {W w w':World} {r0 rd:Rd} {bx:List je} {ow:List h7} {n d:Nat} {l:Ov} {t ty:TypeId} {pos:String} {af:Array Edge} {v p:Value} {x y:Operand} {g i j:Nat} {T:TypeId} {cs cs':Array Value} {rest:List Oper} {ops:Array Oper}
theorem gk{z:Value}(S:St X W r0 rd bx ow w)(hz:∀ w,(zeroValue T).run P w = .ok z w)(hc:z.cells=cs)
  (h:∀ g w',St X W r0 rd (bx++[(g,T,cs)]) ow w'→WL P ops Q rest (fd ds n ((d,(.pointer (some ⟨g,0,none⟩))) :: l)) w'):WL P ops Q (⟨some d,.alloc T,ty,pos,af,none⟩ :: rest) (fd ds n l) w:=by
 subst hc
 exact mz (.inl (by simp [execOp,Instr.alloc,hz,newVar,newRow])) (h _ _ (S.alloc T z.cells))
theorem ix{u:Value}(S:St X W r0 rd bx ow w)(hx:ev n l x=u)(hc:u.cells=cs)
  (h:∀ g w',St X W r0 rd (bx++[(g,T,cs)]) ow w'→WL P ops Q rest (fd ds n ((d,(.pointer (some ⟨g,0,none⟩))) :: l)) w'):WL P ops Q (⟨some d,.box T x,ty,pos,af,none⟩ :: rest) (fd ds n l) w:=by
 subst hc hx
 exact mz (.inl (by simp [execOp,Instr.box,newVar,newRow])) (h _ _ (S.alloc T _))
theorem iZ{el:TypeId}{len size:Nat}{z:Value}{parts:Array (Nat × Operand)}{ps:List (Nat × Value)}(S:St X W r0 rd bx ow w)(hu:P.underlying t=some (.slice el))(hs:∀ w,(sizeOf el).run P w = .ok size w)(hz:∀ w,(zeroValue el).run P w = .ok z w)
  (hp:parts.toList.map (fun q=>(q.1,ev n l q.2))=ps) (hl:Nat.blt (2 ^ 24) (len * size)=false) (hl0:Nat.beq (len * size) 0=false)
  (hf:Instr.fill (fun i=>some (i * size,size)) ((Array.range (len * size)).map (z.cells[· % z.cells.size]!)) ps=some cs)
  (h:∀ g w',St X W r0 rd (bx++[(g,el,cs)]) ow w'→WL P ops Q rest (fd ds n ((d,(.slice (some ⟨g,0,none⟩) len len)) :: l)) w'):WL P ops Q (⟨some d,.buildSlice t len parts,ty,pos,af,none⟩ :: rest) (fd ds n l) w:=by
 have a:¬ len * size > 2 ^ 24:=fun b=>by
  have:Nat.blt (2 ^ 24) (len * size)=true:=Nat.ble_eq_true_of_le b
  rw [this] at hl;cases hl
 have c:¬ len * size=0:=fun e=>by rw [e] at hl0;cases hl0
 have f:(Instr.buildSlice t len ps.toArray).run P w = .ok (.slice (some ⟨w.heap.size,0,none⟩) len len) (w.alloc (.cells cs el)):=by
  unfold Instr.buildSlice
  rw [Sem.run_bind,run_underlying hu]
  simp only [Result.andThen_ok,Sem.run_bind,hs]
  rw [if_neg a,if_neg c]
  simp only [Sem.run_bind,Sem.run_pure,Result.andThen_ok,hz]
  split
  ·rename_i cells j
   rw [j] at hf;injection hf with hf;subst hf
   simp [newRow]
  ·rename_i k
   exact absurd hf (by intro hf;exact k _ hf)
 refine mz (.inl ?_) (h _ _ (S.alloc el cs))
 have m:(parts.map fun(i,x)=>(i,ev n l x))=ps.toArray:=q6 hp
 simp only [execOp]
 rw [m,Sem.run_bind,f]
 rfl
theorem nn{el:TypeId}{size:Nat}(S:St X W r0 rd bx ow w)(hu:P.underlying t=some (.slice el))(hs:∀ w,(sizeOf el).run P w = .ok size w)
  (h:∀ g w',St X W r0 rd (bx++[(g,el,#[])]) ow w'→WL P ops Q rest (fd ds n ((d,(.slice (some ⟨g,0,none⟩) 0 0)) :: l)) w'):WL P ops Q (⟨some d,.buildSlice t 0 #[],ty,pos,af,none⟩ :: rest) (fd ds n l) w:=by
 refine mz (.inl ?_) (h _ _ (S.alloc el #[]))
 have a:(Instr.buildSlice t 0 #[]).run P w = .ok (.slice (some ⟨w.heap.size,0,none⟩) 0 0) (w.alloc (.cells #[] el)):=by
  unfold Instr.buildSlice
  rw [Sem.run_bind,run_underlying hu]
  simp [hs,Instr.fill,newRow]
  rw [show Array.range 0=(#[]:Array Nat) from by simp,Array.map_empty]
 simp only [execOp,Array.map_empty]
 rw [Sem.run_bind,a]
 rfl
end
section
variable {P:Program} {Q:Exit→Act→World→Prop} {s:List Kf} {X:List Nat} {W w w':World} {r0 rd:Rd} {bx bx':List je} {ow ow':List h7} {n:Nat} {l m:Ov} {c:Code}
theorem St.call'(S:St X W r0 rd bx ow w)(k:Below w.heap.size w w'):∃ rd',St X W r0 rd' bx ow w'∧Rd.le rd rd'∧Rd.le (newer w' w.heap.size) rd'∧Rd.le (ext rd w w') rd' :=
 ⟨_,S.call k,oC S.le,si,Rd.le_refl _⟩
theorem St.frz'(S:St X W r0 rd bx ow w){i g:Nat}{T:TypeId}{cs:Array Value}(hi:bx[i]? = some (g,T,cs))(hX:X=[]):∃ rd',St X W r0 rd' (bx.eraseIdx i) ow w∧Rd.le rd rd' ∧
  ∀ {α:Type} {size:Nat} {R:CR α} {xs:List α} {n c:Nat},n=xs.length→xs.length≤c→c≤maxLen→fQ size R rd' cs.toList xs→fN size R rd' (.slice (some ⟨g,0,none⟩) n c) xs :=
 ⟨_,S.frz hi (by subst hX;simp),S.frz_le hi,fun h1 h2 h3 h4=>S.frz_sl hi h1 h2 h3 h4⟩
theorem St.out(S:St X W r0 rd bx ow w):Rd.le rd (ext r0 W w):=fun b o v e=>by
 unfold ext;split
 ·rename_i h;exact S.sub b o v h e
 ·exact S.le b o v e
theorem St.tk(S:St X W r0 rd bx ow w)(a b:Nat)(h1:bx.take a=bx')(h2:ow.take b=ow'):St X W r0 rd bx' ow' w:=by
 subst h1 h2
 exact⟨S.fr,S.sub,S.sup,S.le,fun p c=>S.box p (List.mem_of_mem_take c),fun q d=>S.own q (List.mem_of_mem_take d),S.d1.sublist (List.take_sublist _ _),S.d2.sublist (List.take_sublist _ _),fun p c q d=>S.d3 p (List.mem_of_mem_take c) q (List.mem_of_mem_take d)⟩
theorem St.tt(S:St X W r0 rd bx ow w)(a b:Nat):St X W r0 rd (bx.take a) (ow.take b) w:=S.tk a b rfl rfl
theorem St.rw'(S:St X W r0 rd bx ow w)(h1:bx=bx')(h2:ow=ow'):St X W r0 rd bx' ow' w:=by subst h1 h2;exact S
end
section
variable {X:List Nat} {W w w':World} {r0 rd rd':Rd} {bx bx':List je} {ow ow':List h7}
theorem St.del(S:St X W r0 rd bx ow w)(i:Nat):St X W r0 rd (bx.eraseIdx i) ow w :=
 ⟨S.fr,S.sub,S.sup,S.le,fun p hp=>S.box p (List.mem_of_mem_eraseIdx hp),S.own,qj S.d1,S.d2,fun p hp=>S.d3 p (List.mem_of_mem_eraseIdx hp)⟩
theorem St.weak(S:St X W r0 rd' bx ow w)(h0:Rd.le r0 rd)(h:Rd.le rd rd'):St X W r0 rd bx ow w :=
 ⟨S.fr,fun b o v hb e=>S.sub b o v hb (h _ _ _ e),h0,fY h S.le,fun p hp=>⟨(S.box p hp).1,(S.box p hp).2.1,fun o=>tM h ((S.box p hp).2.2 o)⟩,
  fun q hq=>⟨(S.own q hq).1,fun g hg=>⟨((S.own q hq).2 g hg).1,fun o=>tM h (((S.own q hq).2 g hg).2 o)⟩⟩,S.d1,S.d2,S.d3⟩
end
end D
end
namespace D
theorem isNaN_c(rd:Rd)(W:World)(hle:Rd.le rd (fX W))(a:Int) :
    Calls Tryz.prog 126 #[(.int .i64 a)] W (fun e w'=>e = .returned (.bool false)∧Below W.heap.size W w'):=by
 have c:=il;have S:St [] W rd rd [] [] W:=St.start hle;refine io (args:=[ni a]) 6 Tryz.func126 rfl rfl rfl ?_;refine fJ (gU (ly (.bool false) S (kI rfl) (fL (fM (fJ (gU (ly (ni a) S (l7 rfl) (ly (ni a) S (l7 rfl) ?_))))))));have b:a=a:=rfl;refine ly (.bool false) S (iT rfl rfl b) (ly (.bool false) S (kI rfl) (fL (fM (fR ?_))));refine g3 (v:=.bool false) rfl rfl ?_;exact⟨rfl,S.below⟩
theorem Compare_c(rd:Rd)(W:World)(hle:Rd.le rd (fX W))(a b:Int) :
    Calls Tryz.prog 116 #[(.int .i64 a),(.int .i64 b)] W (fun e w'=>e = .returned (.int .i64 (gr a b))∧Below W.heap.size W w'):=by
 have g:=il;have S:St [] W rd rd [] [] W:=St.start hle;refine io (args:=[ni a,ni b]) 20 Tryz.func116 rfl rfl rfl ?_;refine fJ (gU (ly (ni 0) S (kI rfl) (fL (fM (fJ (gU (ly (ni a) S (l7 rfl) ?_)))))));refine g7 (g4 (vs:=[ni a]) (CF 126 _) rfl rfl) (isNaN_c _ _ S.le _) ?_;rintro e _ ⟨rfl,c⟩;have S:=S.callq c;refine g9 (ly (.bool false) S (kI rfl) (fL (fM (fJ (gU (ly (ni b) S (l7 rfl) ?_))))));refine g7 (g4 (vs:=[ni b]) (CF 126 _) rfl rfl) (isNaN_c _ _ S.le _) ?_;rintro e _ ⟨rfl,c⟩;have S:=S.callq c;refine g9 (ly (.bool false) S (kI rfl) (fL (fM (fJ (fJ (gU (ly (.bool false) S (l7 rfl) (fL (fM (fV rfl (g1 (fM (fJ (fJ (gU ?_)))))))))))))));refine ly (.bool false) S (l7 rfl) (fL (fM (fV rfl (g1 (fM (fJ (fJ (gU (ly (ni a) S (l7 rfl) (ly (ni b) S (l7 rfl) ?_))))))))));by_cases d:a<b
 ·
  refine ly (.bool true) S (gJ rfl rfl d) (fL (fM (fS rfl (fJ (gU (ly (ni (-1)) S (kI rfl) (fL (fM (fR ?_)))))))));refine g3 (v:=ni (-1)) rfl rfl ?_;exact⟨iy (by unfold gr;first | (rw [if_pos (by omega)]) | (rw [if_neg (by omega),if_pos (by omega)]) | (rw [if_neg (by omega),if_neg (by omega)])),S.below⟩
 refine ly (.bool false) S (gH rfl rfl d) (fL (fM (fV rfl (g1 (fM (fJ (fJ (gU (ly (ni a) S (l7 rfl) (ly (ni b) S (l7 rfl) ?_))))))))));by_cases f:b<a
 ·
  refine ly (.bool true) S (ko rfl rfl f) (fL (fM (fS rfl (fJ (gU (ly (ni 1) S (kI rfl) (fL (fM (fR ?_)))))))));refine g3 (v:=ni 1) rfl rfl ?_;exact⟨iy (by unfold gr;first | (rw [if_pos (by omega)]) | (rw [if_neg (by omega),if_pos (by omega)]) | (rw [if_neg (by omega),if_neg (by omega)])),S.below⟩
 refine ly (.bool false) S (kt rfl rfl f) (fL (fM (fV rfl (g1 (fM (fJ (gU (ly (ni 0) S (kI rfl) (fL (fM (fR ?_)))))))))));refine g3 (v:=ni 0) rfl rfl ?_;exact⟨iy (by unfold gr;first | (rw [if_pos (by omega)]) | (rw [if_neg (by omega),if_pos (by omega)]) | (rw [if_neg (by omega),if_neg (by omega)])),S.below⟩
theorem Or_c(rd:Rd)(W:World)(hle:Rd.le rd (fX W))(v:Value)(l:List Int)(h:iC rd v l) :
    Calls Tryz.prog 115 #[v] W (fun e w'=>e = .returned (.int .i64 (m6 l))∧Below W.heap.size W w'):=by
 obtain⟨b,c,rfl,_,p⟩:=h.val;have x:=il
 unfold maxLen at p
 have S:St [] W rd rd [] [] W:=St.start hle;refine io (args:=[sc b l.length c]) 18 Tryz.func115 rfl rfl rfl ?_;refine fJ (gU (ly (ni 0) S (kI rfl) (fL (fM (fJ (gU (ly (ni 0) S (kI rfl) (fL (fM (fJ (fJ (gU (ly (sc b l.length c) S (l7 rfl) (ly (ni (l.length:Int)) S (xI nD rfl rfl) (ly (ni 0) S (l7 rfl) ?_)))))))))))))));refine fL (fM (go ?_));refine et [(3,ni 0),(6,sc b l.length c),(7,ni (l.length:Int)),(8,ni (0:Int))] (fun d => ?_);refine j1 (fun(g:Nat) ov w=>match g with | k => ∃ rd' d,ov=[(3,ni 0),(6,sc b l.length c),(7,ni (l.length:Int)),(8,ni (k:Int))]++d∧St [] W rd rd' [] [] w∧Rd.le rd rd'∧k≤l.length∧m6 l=m6 (l.drop k)) (fun g=>match g with | k=>l.length - k) 0 ⟨_,d,rfl,(S.rw' rfl rfl),fZ,(by omega),rfl⟩ ?_;rintro k _ _ ⟨_,d,rfl,S,n,_,i⟩;replace h:=fm h n;refine fJ (gU ?_);by_cases o:(k:Int)<(l.length:Int)
 ·
  refine ly (.bool true) S (gJ rfl rfl o) (fL (fM (fJ (fS rfl (g1 (fM (fJ (go (fJ (gU ?_))))))))));obtain⟨a,j⟩:∃ z,(l)[k]? = some z:=gX (by first | assumption | omega);obtain⟨q,s,t,_,m,u⟩:=hD nD iX h j;have m:s=[ni a]:=m;subst m;refine ly q S (u rfl rfl (by first | rfl | omega)) (ly (ni a) S (gG rfl (fun w S=>m4 S.le t rfl T3)) (ly (ni a) S (kI rfl) (fL (fM (fJ (gU (ly (ni a) S (l7 rfl) (ly (ni 0) S (l7 rfl) ?_))))))));by_cases f:a=0
  ·
   refine ly (.bool false) S (iT rfl rfl f) (fL (fM (fV rfl (g1 (gA (fM (gU (ly (ni ((k:Int)+1)) S (gw (r:=(k:Int)+1) rfl rfl (gl (by omega) (by omega))) (ly (ni ((k:Int)+1)) S (l7 rfl) (fL ?_))))))))));refine fK ⟨(k+1),_,fk,⟨_,_,rfl,(S.tt 0 0),(fY n fZ),(by omega),(by rw [i,yS j,if_pos f])⟩,?_⟩
   show _<_;dsimp only;omega
  refine ly (.bool true) S (j4 rfl rfl f) (fL (fM (fS rfl (fJ (gU (ly (ni a) S (l7 rfl) (ly (ni a) S (kI rfl) (fL (fM (fR ?_))))))))));refine g3 (v:=ni a) rfl rfl ?_;refine⟨iy ?_,S.below⟩;rw [i,yS j,if_neg f]
 refine ly (.bool false) S (gH rfl rfl o) (fL (fM (fJ (fV rfl (iP (iQ (j0 (iR (fM (fJ (gU (ly (ni 0) S (l7 rfl) (ly (ni 0) S (kI rfl) (fL (fM ?_)))))))))))))));refine fR (g3 (v:=ni 0) rfl rfl ?_);refine⟨iy ?_,S.below⟩;rw [i,List.drop_eq_nil_of_le (by omega)];rfl
theorem Order_c(rd:Rd)(W:World)(hle:Rd.le rd (fX W))(v u:Value)(a b:ga)(h1:fW gB rd v a)(h2:fW gB rd u b) :
    Calls Tryz.prog 86 #[v,u] W (fun e w'=>e = .returned (.int .i64 (gQ a b))∧Below W.heap.size W w'):=by
 obtain⟨x,rfl,h1⟩:=h1;have y:x=[.bool a.set,ni a.key,ni a.item,ni a.author,ni a.seq]:=h1;subst y;obtain⟨z,rfl,h2⟩:=h2;have A:z=[.bool b.set,ni b.key,ni b.item,ni b.author,ni b.seq]:=h2;subst A;have N:=il;have S:St [] W rd rd [] [] W:=St.start hle;refine io (args:=[.agg (kL a),.agg (kL b)]) 45 Tryz.func86 rfl rfl rfl ?_;refine fJ (gU (ix (u:=.agg (kL a)) (cs:=(kL a)) S rfl rfl fun f _ S=>ix (u:=.agg (kL b)) (cs:=(kL b)) S rfl rfl fun g _ S=>ly (ni 0) S (kI rfl) (fL (fM (fJ (gU (ly (ni 0) S (kI rfl) (fL (fM (fJ (go (fJ (gU ?_)))))))))))));refine ly (pa g 0) S (jr n3 rfl rfl) ?_
 rcases Bool.eq_false_or_eq_true b.set with h | h
 ·
  refine ly (.bool true) S (jA (gG rfl (fun w S=>jm (i:=1) S rfl rfl T4)) h) (ly (.bool true) S (l7 rfl) (lg 9 (pa f 0) S (jr n3 rfl rfl) ?_))
  rcases Bool.eq_false_or_eq_true a.set with j | j
  ·
   refine lg 9 (.bool true) S (jA (gG rfl (fun w S=>jm (i:=0) S rfl rfl T4)) j) (lg 9 (.bool false) S (iH rfl rfl) (ly (.bool false) S (rK rfl rfl) (ly (.bool false) S (kI rfl) (fL (fM (fV rfl (fJ (gU (ly (pa f 0) S (jr n3 rfl rfl) (ly (.bool true) S (jA (gG rfl (fun w S=>jm (i:=0) S rfl rfl T4)) j) (ly (.bool true) S (l7 rfl) (lg 17 (pa g 0) S (jr n3 rfl rfl) (lg 17 (.bool true) S (jA (gG rfl (fun w S=>jm (i:=1) S rfl rfl T4)) h) (lg 17 (.bool false) S (iH rfl rfl) (ly (.bool false) S (rK rfl rfl) ?_)))))))))))))));refine ly (.bool false) S (kI rfl) (fL (fM (fV rfl (g1 (gA (fM (fJ ?_)))))));refine iV (fun w=>St [] W rd rd [(f,104,(kL a)),(g,104,(kL b))] [] w) MX rfl ?_;have S:=S.drew;have l:=S.sup;have SC:=S.tt 2 0;refine tk (ni 0) 0 rfl rfl SC (l7 rfl) (tk (pa f 1) 1 rfl rfl SC (jr mu rfl rfl) (tk (ni a.key) 2 rfl rfl SC (gG rfl (fun w S=>jm (i:=0) S rfl rfl T3)) (tk (pa g 1) 3 rfl rfl SC (jr mu rfl rfl) (tk (ni b.key) 4 rfl rfl SC (gG rfl (fun w S=>jm (i:=1) S rfl rfl T3)) (tk (pa f 2) 6 rfl rfl SC (jr mJ rfl rfl) (tk (ni a.item) 7 rfl rfl SC (gG rfl (fun w S=>jm (i:=0) S rfl rfl T3)) (tk (pa g 2) 8 rfl rfl SC (jr mJ rfl rfl) (tk (ni b.item) 9 rfl rfl SC (gG rfl (fun w S=>jm (i:=1) S rfl rfl T3)) (tk (pa f 3) 11 rfl rfl SC (jr ld rfl rfl) (tk (ni a.author) 12 rfl rfl SC (gG rfl (fun w S=>jm (i:=0) S rfl rfl T3)) (tk (pa g 3) 13 rfl rfl SC (jr ld rfl rfl) (tk (ni b.author) 14 rfl rfl SC (gG rfl (fun w S=>jm (i:=1) S rfl rfl T3)) (tk (pa f 4) 16 rfl rfl SC (jr lZ rfl rfl) (tk (ni a.seq) 17 rfl rfl SC (gG rfl (fun w S=>jm (i:=0) S rfl rfl T3)) (tk (pa g 4) 18 rfl rfl SC (jr lZ rfl rfl) ?_)))))))))))))));refine tk (ni b.seq) 19 rfl rfl SC (gG rfl (fun w S=>jm (i:=1) S rfl rfl T3)) (ji (rs:=[5]) (by kernel_rfl) rfl ?_);refine iA rfl ?_ ?_
   ·
    refine g7 (g4 (vs:=[ni a.key,ni b.key]) (CF 116 _) rfl rfl) (Compare_c _ _ S.le _ _) ?_;rintro e _ ⟨rfl,d⟩;have S:=S.callq d;refine g9 (fL ?_);have SC:=S.tt 2 0;refine fK (ak SC ?_);refine ji (rs:=[10]) (by kernel_rfl) rfl ?_;refine iA rfl ?_ ?_
    ·
     refine g7 (g4 (vs:=[ni a.item,ni b.item]) (CF 116 _) rfl rfl) (Compare_c _ _ S.le _ _) ?_;rintro e _ ⟨rfl,d⟩;have S:=S.callq d;refine g9 (fL ?_);have SC:=S.tt 2 0;refine fK (ak SC ?_);refine ji (rs:=[15]) (by kernel_rfl) rfl ?_;refine iA rfl ?_ ?_
     ·
      refine g7 (g4 (vs:=[ni a.author,ni b.author]) (CF 116 _) rfl rfl) (Compare_c _ _ S.le _ _) ?_;rintro e _ ⟨rfl,d⟩;have S:=S.callq d;refine g9 (fL ?_);have SC:=S.tt 2 0;refine fK (ak SC ?_);refine ji (rs:=[20]) (by kernel_rfl) rfl ?_;refine iA rfl ?_ ?_
      ·
       refine g7 (g4 (vs:=[ni a.seq,ni b.seq]) (CF 116 _) rfl rfl) (Compare_c _ _ S.le _ _) ?_;rintro e _ ⟨rfl,d⟩;have S:=S.callq d;refine g9 (fL ?_);have SC:=S.tt 2 0;refine fK (ak SC ?_);refine ji (rs:=[21]) (by kernel_rfl) rfl ?_;refine iA rfl ?_ ?_
       ·
        refine iZ (ps:=[(0,ni 0),(1,ni (gr a.key b.key)),(2,ni (gr a.item b.item)),(3,ni (gr a.author b.author)),(4,ni (gr a.seq b.seq))]) (cs:=#[ni 0,ni (gr a.key b.key),ni (gr a.item b.item),ni (gr a.author b.author),ni (gr a.seq b.seq)]) S nD iX Z3 rfl rfl rfl (by kernel_rfl) fun B _ S => ?_
        obtain⟨_,S,m,C⟩:=S.frz' (i:=2) rfl rfl;have D:=C (size:=1) (R:=ge) (xs:=([0,gr a.key b.key,gr a.item b.item,gr a.author b.author,gr a.seq b.seq]:List Int)) (n:=5) (c:=5) rfl (Nat.le_refl _) (by simp [maxLen]) (ri _ ([0,gr a.key b.key,gr a.item b.item,gr a.author b.author,gr a.seq b.seq]:List Int));refine fL ?_;have SC:=((S.tt 2 0).weak l m);refine fK (ak SC ?_);refine ji (rs:=[22]) (by kernel_rfl) rfl ?_;refine iA rfl ?_ ?_
        ·
         refine g7 (g4 (vs:=[sb B 0 5 5]) (CF 115 _) rfl rfl) (Or_c _ _ S.le _ _ D) ?_;rintro e _ ⟨rfl,d⟩;have S:=S.callq d;refine g9 (fL ?_);have SC:=((S.tt 2 0).weak l m);refine fK (ak SC ?_);refine tk (ni (m6 ([0,gr a.key b.key,gr a.item b.item,gr a.author b.author,gr a.seq b.seq]:List Int))) 23 rfl rfl SC (kI rfl) (gE (by kernel_rfl) ?_);refine fM (fR ?_);refine g3 (v:=ni (m6 ([0,gr a.key b.key,gr a.item b.item,gr a.author b.author,gr a.seq b.seq]:List Int))) rfl rfl ?_;refine⟨iy ?_,S.below⟩
         unfold gQ;simp [h,j]
        exact jk
       exact jk
      exact jk
     exact jk
    exact jk
   exact jk
  refine lg 9 (.bool false) S (jA (gG rfl (fun w S=>jm (i:=0) S rfl rfl T4)) j) (lg 9 (.bool true) S (iH rfl rfl) (ly (.bool true) S (rK rfl rfl) (ly (.bool true) S (kI rfl) (fL (fM (fS rfl (gU (ly (ni (-1)) S (kI rfl) (fL (gA (fM (fJ ?_))))))))))));refine iV (fun w=>St [] W rd rd [(f,104,(kL a)),(g,104,(kL b))] [] w) MX rfl ?_;have S:=S.drew;have o:=S.sup;have SC:=S.tt 2 0;refine tk (ni (-1)) 0 rfl rfl SC (l7 rfl) (tk (pa f 1) 1 rfl rfl SC (jr mu rfl rfl) (tk (ni a.key) 2 rfl rfl SC (gG rfl (fun w S=>jm (i:=0) S rfl rfl T3)) (tk (pa g 1) 3 rfl rfl SC (jr mu rfl rfl) (tk (ni b.key) 4 rfl rfl SC (gG rfl (fun w S=>jm (i:=1) S rfl rfl T3)) (tk (pa f 2) 6 rfl rfl SC (jr mJ rfl rfl) (tk (ni a.item) 7 rfl rfl SC (gG rfl (fun w S=>jm (i:=0) S rfl rfl T3)) (tk (pa g 2) 8 rfl rfl SC (jr mJ rfl rfl) (tk (ni b.item) 9 rfl rfl SC (gG rfl (fun w S=>jm (i:=1) S rfl rfl T3)) (tk (pa f 3) 11 rfl rfl SC (jr ld rfl rfl) (tk (ni a.author) 12 rfl rfl SC (gG rfl (fun w S=>jm (i:=0) S rfl rfl T3)) (tk (pa g 3) 13 rfl rfl SC (jr ld rfl rfl) (tk (ni b.author) 14 rfl rfl SC (gG rfl (fun w S=>jm (i:=1) S rfl rfl T3)) (tk (pa f 4) 16 rfl rfl SC (jr lZ rfl rfl) (tk (ni a.seq) 17 rfl rfl SC (gG rfl (fun w S=>jm (i:=0) S rfl rfl T3)) (tk (pa g 4) 18 rfl rfl SC (jr lZ rfl rfl) ?_)))))))))))))));refine tk (ni b.seq) 19 rfl rfl SC (gG rfl (fun w S=>jm (i:=1) S rfl rfl T3)) (ji (rs:=[5]) (by kernel_rfl) rfl ?_);refine iA rfl ?_ ?_
  ·
   refine g7 (g4 (vs:=[ni a.key,ni b.key]) (CF 116 _) rfl rfl) (Compare_c _ _ S.le _ _) ?_;rintro e _ ⟨rfl,d⟩;have S:=S.callq d;refine g9 (fL ?_);have SC:=S.tt 2 0;refine fK (ak SC ?_);refine ji (rs:=[10]) (by kernel_rfl) rfl ?_;refine iA rfl ?_ ?_
   ·
    refine g7 (g4 (vs:=[ni a.item,ni b.item]) (CF 116 _) rfl rfl) (Compare_c _ _ S.le _ _) ?_;rintro e _ ⟨rfl,d⟩;have S:=S.callq d;refine g9 (fL ?_);have SC:=S.tt 2 0;refine fK (ak SC ?_);refine ji (rs:=[15]) (by kernel_rfl) rfl ?_;refine iA rfl ?_ ?_
    ·
     refine g7 (g4 (vs:=[ni a.author,ni b.author]) (CF 116 _) rfl rfl) (Compare_c _ _ S.le _ _) ?_;rintro e _ ⟨rfl,d⟩;have S:=S.callq d;refine g9 (fL ?_);have SC:=S.tt 2 0;refine fK (ak SC ?_);refine ji (rs:=[20]) (by kernel_rfl) rfl ?_;refine iA rfl ?_ ?_
     ·
      refine g7 (g4 (vs:=[ni a.seq,ni b.seq]) (CF 116 _) rfl rfl) (Compare_c _ _ S.le _ _) ?_;rintro e _ ⟨rfl,d⟩;have S:=S.callq d;refine g9 (fL ?_);have SC:=S.tt 2 0;refine fK (ak SC ?_);refine ji (rs:=[21]) (by kernel_rfl) rfl ?_;refine iA rfl ?_ ?_
      ·
       refine iZ (ps:=[(0,ni (-1)),(1,ni (gr a.key b.key)),(2,ni (gr a.item b.item)),(3,ni (gr a.author b.author)),(4,ni (gr a.seq b.seq))]) (cs:=#[ni (-1),ni (gr a.key b.key),ni (gr a.item b.item),ni (gr a.author b.author),ni (gr a.seq b.seq)]) S nD iX Z3 rfl rfl rfl (by kernel_rfl) fun E _ S => ?_
       obtain⟨_,S,p,F⟩:=S.frz' (i:=2) rfl rfl;have G:=F (size:=1) (R:=ge) (xs:=([(-1),gr a.key b.key,gr a.item b.item,gr a.author b.author,gr a.seq b.seq]:List Int)) (n:=5) (c:=5) rfl (Nat.le_refl _) (by simp [maxLen]) (ri _ ([(-1),gr a.key b.key,gr a.item b.item,gr a.author b.author,gr a.seq b.seq]:List Int));refine fL ?_;have SC:=((S.tt 2 0).weak o p);refine fK (ak SC ?_);refine ji (rs:=[22]) (by kernel_rfl) rfl ?_;refine iA rfl ?_ ?_
       ·
        refine g7 (g4 (vs:=[sb E 0 5 5]) (CF 115 _) rfl rfl) (Or_c _ _ S.le _ _ G) ?_;rintro e _ ⟨rfl,d⟩;have S:=S.callq d;refine g9 (fL ?_);have SC:=((S.tt 2 0).weak o p);refine fK (ak SC ?_);refine tk (ni (m6 ([(-1),gr a.key b.key,gr a.item b.item,gr a.author b.author,gr a.seq b.seq]:List Int))) 23 rfl rfl SC (kI rfl) (gE (by kernel_rfl) ?_);refine fM (fR ?_);refine g3 (v:=ni (m6 ([(-1),gr a.key b.key,gr a.item b.item,gr a.author b.author,gr a.seq b.seq]:List Int))) rfl rfl ?_;refine⟨iy ?_,S.below⟩
        unfold gQ;simp [h,j]
       exact jk
      exact jk
     exact jk
    exact jk
   exact jk
  exact jk
 refine ly (.bool false) S (jA (gG rfl (fun w S=>jm (i:=1) S rfl rfl T4)) h) (ly (.bool false) S (l7 rfl) (ls 9 (ls 9 (ls 9 (ly (.bool false) S (uh rfl rfl) (ly (.bool false) S (kI rfl) (fL (fM (fV rfl (fJ (gU (ly (pa f 0) S (jr n3 rfl rfl) ?_))))))))))))
 rcases Bool.eq_false_or_eq_true a.set with k | k
 ·
  refine ly (.bool true) S (jA (gG rfl (fun w S=>jm (i:=0) S rfl rfl T4)) k) (ly (.bool true) S (l7 rfl) (lg 17 (pa g 0) S (jr n3 rfl rfl) (lg 17 (.bool false) S (jA (gG rfl (fun w S=>jm (i:=1) S rfl rfl T4)) h) (lg 17 (.bool true) S (iH rfl rfl) (ly (.bool true) S (rK rfl rfl) (ly (.bool true) S (kI rfl) (fL (fM (fS rfl (gU (ly (ni 1) S (kI rfl) (fL (gA (fM (fJ ?_)))))))))))))));refine iV (fun w=>St [] W rd rd [(f,104,(kL a)),(g,104,(kL b))] [] w) MX rfl ?_;have S:=S.drew;have q:=S.sup;have SC:=S.tt 2 0;refine tk (ni 1) 0 rfl rfl SC (l7 rfl) (tk (pa f 1) 1 rfl rfl SC (jr mu rfl rfl) (tk (ni a.key) 2 rfl rfl SC (gG rfl (fun w S=>jm (i:=0) S rfl rfl T3)) (tk (pa g 1) 3 rfl rfl SC (jr mu rfl rfl) (tk (ni b.key) 4 rfl rfl SC (gG rfl (fun w S=>jm (i:=1) S rfl rfl T3)) (tk (pa f 2) 6 rfl rfl SC (jr mJ rfl rfl) (tk (ni a.item) 7 rfl rfl SC (gG rfl (fun w S=>jm (i:=0) S rfl rfl T3)) (tk (pa g 2) 8 rfl rfl SC (jr mJ rfl rfl) (tk (ni b.item) 9 rfl rfl SC (gG rfl (fun w S=>jm (i:=1) S rfl rfl T3)) (tk (pa f 3) 11 rfl rfl SC (jr ld rfl rfl) (tk (ni a.author) 12 rfl rfl SC (gG rfl (fun w S=>jm (i:=0) S rfl rfl T3)) (tk (pa g 3) 13 rfl rfl SC (jr ld rfl rfl) (tk (ni b.author) 14 rfl rfl SC (gG rfl (fun w S=>jm (i:=1) S rfl rfl T3)) (tk (pa f 4) 16 rfl rfl SC (jr lZ rfl rfl) (tk (ni a.seq) 17 rfl rfl SC (gG rfl (fun w S=>jm (i:=0) S rfl rfl T3)) (tk (pa g 4) 18 rfl rfl SC (jr lZ rfl rfl) ?_)))))))))))))));refine tk (ni b.seq) 19 rfl rfl SC (gG rfl (fun w S=>jm (i:=1) S rfl rfl T3)) (ji (rs:=[5]) (by kernel_rfl) rfl ?_);refine iA rfl ?_ ?_
  ·
   refine g7 (g4 (vs:=[ni a.key,ni b.key]) (CF 116 _) rfl rfl) (Compare_c _ _ S.le _ _) ?_;rintro e _ ⟨rfl,d⟩;have S:=S.callq d;refine g9 (fL ?_);have SC:=S.tt 2 0;refine fK (ak SC ?_);refine ji (rs:=[10]) (by kernel_rfl) rfl ?_;refine iA rfl ?_ ?_
   ·
    refine g7 (g4 (vs:=[ni a.item,ni b.item]) (CF 116 _) rfl rfl) (Compare_c _ _ S.le _ _) ?_;rintro e _ ⟨rfl,d⟩;have S:=S.callq d;refine g9 (fL ?_);have SC:=S.tt 2 0;refine fK (ak SC ?_);refine ji (rs:=[15]) (by kernel_rfl) rfl ?_;refine iA rfl ?_ ?_
    ·
     refine g7 (g4 (vs:=[ni a.author,ni b.author]) (CF 116 _) rfl rfl) (Compare_c _ _ S.le _ _) ?_;rintro e _ ⟨rfl,d⟩;have S:=S.callq d;refine g9 (fL ?_);have SC:=S.tt 2 0;refine fK (ak SC ?_);refine ji (rs:=[20]) (by kernel_rfl) rfl ?_;refine iA rfl ?_ ?_
     ·
      refine g7 (g4 (vs:=[ni a.seq,ni b.seq]) (CF 116 _) rfl rfl) (Compare_c _ _ S.le _ _) ?_;rintro e _ ⟨rfl,d⟩;have S:=S.callq d;refine g9 (fL ?_);have SC:=S.tt 2 0;refine fK (ak SC ?_);refine ji (rs:=[21]) (by kernel_rfl) rfl ?_;refine iA rfl ?_ ?_
      ·
       refine iZ (ps:=[(0,ni 1),(1,ni (gr a.key b.key)),(2,ni (gr a.item b.item)),(3,ni (gr a.author b.author)),(4,ni (gr a.seq b.seq))]) (cs:=#[ni 1,ni (gr a.key b.key),ni (gr a.item b.item),ni (gr a.author b.author),ni (gr a.seq b.seq)]) S nD iX Z3 rfl rfl rfl (by kernel_rfl) fun H _ S => ?_
       obtain⟨_,S,r,I⟩:=S.frz' (i:=2) rfl rfl;have J:=I (size:=1) (R:=ge) (xs:=([1,gr a.key b.key,gr a.item b.item,gr a.author b.author,gr a.seq b.seq]:List Int)) (n:=5) (c:=5) rfl (Nat.le_refl _) (by simp [maxLen]) (ri _ ([1,gr a.key b.key,gr a.item b.item,gr a.author b.author,gr a.seq b.seq]:List Int));refine fL ?_;have SC:=((S.tt 2 0).weak q r);refine fK (ak SC ?_);refine ji (rs:=[22]) (by kernel_rfl) rfl ?_;refine iA rfl ?_ ?_
       ·
        refine g7 (g4 (vs:=[sb H 0 5 5]) (CF 115 _) rfl rfl) (Or_c _ _ S.le _ _ J) ?_;rintro e _ ⟨rfl,d⟩;have S:=S.callq d;refine g9 (fL ?_);have SC:=((S.tt 2 0).weak q r);refine fK (ak SC ?_);refine tk (ni (m6 ([1,gr a.key b.key,gr a.item b.item,gr a.author b.author,gr a.seq b.seq]:List Int))) 23 rfl rfl SC (kI rfl) (gE (by kernel_rfl) ?_);refine fM (fR ?_);refine g3 (v:=ni (m6 ([1,gr a.key b.key,gr a.item b.item,gr a.author b.author,gr a.seq b.seq]:List Int))) rfl rfl ?_;refine⟨iy ?_,S.below⟩
        unfold gQ;simp [h,k]
       exact jk
      exact jk
     exact jk
    exact jk
   exact jk
  exact jk
 refine ly (.bool false) S (jA (gG rfl (fun w S=>jm (i:=0) S rfl rfl T4)) k) (ly (.bool false) S (l7 rfl) (ls 17 (ls 17 (ls 17 (ly (.bool false) S (uh rfl rfl) (ly (.bool false) S (kI rfl) (fL (fM (fV rfl (g1 (gA (fM (fJ ?_)))))))))))));refine iV (fun w=>St [] W rd rd [(f,104,(kL a)),(g,104,(kL b))] [] w) MX rfl ?_;have S:=S.drew;have s:=S.sup;have SC:=S.tt 2 0;refine tk (ni 0) 0 rfl rfl SC (l7 rfl) (tk (pa f 1) 1 rfl rfl SC (jr mu rfl rfl) (tk (ni a.key) 2 rfl rfl SC (gG rfl (fun w S=>jm (i:=0) S rfl rfl T3)) (tk (pa g 1) 3 rfl rfl SC (jr mu rfl rfl) (tk (ni b.key) 4 rfl rfl SC (gG rfl (fun w S=>jm (i:=1) S rfl rfl T3)) (tk (pa f 2) 6 rfl rfl SC (jr mJ rfl rfl) (tk (ni a.item) 7 rfl rfl SC (gG rfl (fun w S=>jm (i:=0) S rfl rfl T3)) (tk (pa g 2) 8 rfl rfl SC (jr mJ rfl rfl) (tk (ni b.item) 9 rfl rfl SC (gG rfl (fun w S=>jm (i:=1) S rfl rfl T3)) (tk (pa f 3) 11 rfl rfl SC (jr ld rfl rfl) (tk (ni a.author) 12 rfl rfl SC (gG rfl (fun w S=>jm (i:=0) S rfl rfl T3)) (tk (pa g 3) 13 rfl rfl SC (jr ld rfl rfl) (tk (ni b.author) 14 rfl rfl SC (gG rfl (fun w S=>jm (i:=1) S rfl rfl T3)) (tk (pa f 4) 16 rfl rfl SC (jr lZ rfl rfl) (tk (ni a.seq) 17 rfl rfl SC (gG rfl (fun w S=>jm (i:=0) S rfl rfl T3)) (tk (pa g 4) 18 rfl rfl SC (jr lZ rfl rfl) ?_)))))))))))))));refine tk (ni b.seq) 19 rfl rfl SC (gG rfl (fun w S=>jm (i:=1) S rfl rfl T3)) (ji (rs:=[5]) (by kernel_rfl) rfl ?_);refine iA rfl ?_ ?_
 ·
  refine g7 (g4 (vs:=[ni a.key,ni b.key]) (CF 116 _) rfl rfl) (Compare_c _ _ S.le _ _) ?_;rintro e _ ⟨rfl,d⟩;have S:=S.callq d;refine g9 (fL ?_);have SC:=S.tt 2 0;refine fK (ak SC ?_);refine ji (rs:=[10]) (by kernel_rfl) rfl ?_;refine iA rfl ?_ ?_
  ·
   refine g7 (g4 (vs:=[ni a.item,ni b.item]) (CF 116 _) rfl rfl) (Compare_c _ _ S.le _ _) ?_;rintro e _ ⟨rfl,d⟩;have S:=S.callq d;refine g9 (fL ?_);have SC:=S.tt 2 0;refine fK (ak SC ?_);refine ji (rs:=[15]) (by kernel_rfl) rfl ?_;refine iA rfl ?_ ?_
   ·
    refine g7 (g4 (vs:=[ni a.author,ni b.author]) (CF 116 _) rfl rfl) (Compare_c _ _ S.le _ _) ?_;rintro e _ ⟨rfl,d⟩;have S:=S.callq d;refine g9 (fL ?_);have SC:=S.tt 2 0;refine fK (ak SC ?_);refine ji (rs:=[20]) (by kernel_rfl) rfl ?_;refine iA rfl ?_ ?_
    ·
     refine g7 (g4 (vs:=[ni a.seq,ni b.seq]) (CF 116 _) rfl rfl) (Compare_c _ _ S.le _ _) ?_;rintro e _ ⟨rfl,d⟩;have S:=S.callq d;refine g9 (fL ?_);have SC:=S.tt 2 0;refine fK (ak SC ?_);refine ji (rs:=[21]) (by kernel_rfl) rfl ?_;refine iA rfl ?_ ?_
     ·
      refine iZ (ps:=[(0,ni 0),(1,ni (gr a.key b.key)),(2,ni (gr a.item b.item)),(3,ni (gr a.author b.author)),(4,ni (gr a.seq b.seq))]) (cs:=#[ni 0,ni (gr a.key b.key),ni (gr a.item b.item),ni (gr a.author b.author),ni (gr a.seq b.seq)]) S nD iX Z3 rfl rfl rfl (by kernel_rfl) fun K _ S => ?_
      obtain⟨_,S,t,L⟩:=S.frz' (i:=2) rfl rfl;have M:=L (size:=1) (R:=ge) (xs:=([0,gr a.key b.key,gr a.item b.item,gr a.author b.author,gr a.seq b.seq]:List Int)) (n:=5) (c:=5) rfl (Nat.le_refl _) (by simp [maxLen]) (ri _ ([0,gr a.key b.key,gr a.item b.item,gr a.author b.author,gr a.seq b.seq]:List Int));refine fL ?_;have SC:=((S.tt 2 0).weak s t);refine fK (ak SC ?_);refine ji (rs:=[22]) (by kernel_rfl) rfl ?_;refine iA rfl ?_ ?_
      ·
       refine g7 (g4 (vs:=[sb K 0 5 5]) (CF 115 _) rfl rfl) (Or_c _ _ S.le _ _ M) ?_;rintro e _ ⟨rfl,d⟩;have S:=S.callq d;refine g9 (fL ?_);have SC:=((S.tt 2 0).weak s t);refine fK (ak SC ?_);refine tk (ni (m6 ([0,gr a.key b.key,gr a.item b.item,gr a.author b.author,gr a.seq b.seq]:List Int))) 23 rfl rfl SC (kI rfl) (gE (by kernel_rfl) ?_);refine fM (fR ?_);refine g3 (v:=ni (m6 ([0,gr a.key b.key,gr a.item b.item,gr a.author b.author,gr a.seq b.seq]:List Int))) rfl rfl ?_;refine⟨iy ?_,S.below⟩
       unfold gQ;simp [h,k]
      exact jk
     exact jk
    exact jk
   exact jk
  exact jk
 exact jk
theorem Tally_c(rd:Rd)(W:World)(hle:Rd.le rd (fX W))(v u:Value)(a b:Tally)(h1:fW h8 rd v a)(h2:fW h8 rd u b) :
    Calls Tryz.prog 87 #[v,u] W (fun e w'=>e = .returned (.int .i64 (gY a b))∧Below W.heap.size W w'):=by
 obtain⟨k,rfl,h1⟩:=h1;have l:k=[ni a.key,ni a.author,ni a.sum]:=h1;subst l;obtain⟨m,rfl,h2⟩:=h2;have o:m=[ni b.key,ni b.author,ni b.sum]:=h2;subst o;have s:=il;have S:St [] W rd rd [] [] W:=St.start hle;refine io (args:=[.agg #[ni a.key,ni a.author,ni a.sum],.agg #[ni b.key,ni b.author,ni b.sum]]) 17 Tryz.func87 rfl rfl rfl ?_;refine fJ (gU (ix (u:=.agg #[ni a.key,ni a.author,ni a.sum]) (cs:=#[ni a.key,ni a.author,ni a.sum]) S rfl rfl fun f _ S=>ix (u:=.agg #[ni b.key,ni b.author,ni b.sum]) (cs:=#[ni b.key,ni b.author,ni b.sum]) S rfl rfl fun g _ S=>ly (ni 0) S (kI rfl) (fL (fM (fJ ?_)))));refine iV (fun w=>St [] W rd rd [(f,106,#[ni a.key,ni a.author,ni a.sum]),(g,106,#[ni b.key,ni b.author,ni b.sum])] [] w) MX rfl ?_;have S:=S.drew;have h:=S.sup;have SC:=S.tt 2 0;refine tk (pa f 0) 0 rfl rfl SC (jr nW rfl rfl) (tk (ni a.key) 1 rfl rfl SC (gG rfl (fun w S=>jm (i:=0) S rfl rfl T3)) (tk (pa g 0) 2 rfl rfl SC (jr nW rfl rfl) (tk (ni b.key) 3 rfl rfl SC (gG rfl (fun w S=>jm (i:=1) S rfl rfl T3)) (tk (pa f 1) 5 rfl rfl SC (jr mg rfl rfl) (tk (ni a.author) 6 rfl rfl SC (gG rfl (fun w S=>jm (i:=0) S rfl rfl T3)) (tk (pa g 1) 7 rfl rfl SC (jr mg rfl rfl) (tk (ni b.author) 8 rfl rfl SC (gG rfl (fun w S=>jm (i:=1) S rfl rfl T3)) ?_)))))));refine ji (rs:=[4]) (by kernel_rfl) rfl ?_;refine iA rfl ?_ ?_
 ·
  refine g7 (g4 (vs:=[ni a.key,ni b.key]) (CF 116 _) rfl rfl) (Compare_c _ _ S.le _ _) ?_;rintro e _ ⟨rfl,d⟩;have S:=S.callq d;refine g9 (fL ?_);have SC:=S.tt 2 0;refine fK (ak SC ?_);refine ji (rs:=[9]) (by kernel_rfl) rfl ?_;refine iA rfl ?_ ?_
  ·
   refine g7 (g4 (vs:=[ni a.author,ni b.author]) (CF 116 _) rfl rfl) (Compare_c _ _ S.le _ _) ?_;rintro e _ ⟨rfl,d⟩;have S:=S.callq d;refine g9 (fL ?_);have SC:=S.tt 2 0;refine fK (ak SC ?_);refine ji (rs:=[10]) (by kernel_rfl) rfl ?_;refine iA rfl ?_ ?_
   ·
    refine iZ (ps:=[(0,ni (gr a.key b.key)),(1,ni (gr a.author b.author))]) (cs:=#[ni (gr a.key b.key),ni (gr a.author b.author)]) S nD iX Z3 rfl rfl rfl (by kernel_rfl) fun p _ S => ?_
    obtain⟨_,S,j,q⟩:=S.frz' (i:=2) rfl rfl;have r:=q (size:=1) (R:=ge) (xs:=([gr a.key b.key,gr a.author b.author]:List Int)) (n:=2) (c:=2) rfl (Nat.le_refl _) (by simp [maxLen]) (ri _ ([gr a.key b.key,gr a.author b.author]:List Int));refine fL ?_;have SC:=((S.tt 2 0).weak h j);refine fK (ak SC ?_);refine ji (rs:=[11]) (by kernel_rfl) rfl ?_;refine iA rfl ?_ ?_
    ·
     refine g7 (g4 (vs:=[sb p 0 2 2]) (CF 115 _) rfl rfl) (Or_c _ _ S.le _ _ r) ?_;rintro e _ ⟨rfl,d⟩;have S:=S.callq d;refine g9 (fL ?_);have SC:=((S.tt 2 0).weak h j);refine fK (ak SC ?_);refine tk (ni (m6 ([gr a.key b.key,gr a.author b.author]:List Int))) 12 rfl rfl SC (kI rfl) (gE (by kernel_rfl) ?_);refine fM (fR ?_);refine g3 (v:=ni (m6 ([gr a.key b.key,gr a.author b.author]:List Int))) rfl rfl ?_;exact⟨rfl,S.below⟩
    exact jk
   exact jk
  exact jk
 exact jk
end D
theorem isNaN_c(rd:Rd)(W:World)(hle:Rd.le rd (fX W))(a:Int) :
  Calls Tryz.prog 126 #[(.int .i64 a)] W (fun e w'=>e = .returned (.bool false)∧Below W.heap.size W w') :=
 (D.isNaN_c rd W hle a).mono fun e w' h=>⟨h.1,h.2.kit⟩
theorem Compare_c(rd:Rd)(W:World)(hle:Rd.le rd (fX W))(a b:Int) :
  Calls Tryz.prog 116 #[(.int .i64 a),(.int .i64 b)] W (fun e w'=>e = .returned (.int .i64 (gr a b))∧Below W.heap.size W w') :=
 (D.Compare_c rd W hle a b).mono fun e w' h=>⟨h.1,h.2.kit⟩
theorem Or_c(rd:Rd)(W:World)(hle:Rd.le rd (fX W))(v:Value)(l:List Int)(h:iC rd v l) :
  Calls Tryz.prog 115 #[v] W (fun e w'=>e = .returned (.int .i64 (m6 l))∧Below W.heap.size W w') :=
 (D.Or_c rd W hle v l h).mono fun e w' h=>⟨h.1,h.2.kit⟩
theorem Order_c(rd:Rd)(W:World)(hle:Rd.le rd (fX W))(v u:Value)(a b:ga)(h1:fW gB rd v a)(h2:fW gB rd u b) :
  Calls Tryz.prog 86 #[v,u] W (fun e w'=>e = .returned (.int .i64 (gQ a b))∧Below W.heap.size W w') :=
 (D.Order_c rd W hle v u a b h1 h2).mono fun e w' h=>⟨h.1,h.2.kit⟩
theorem Tally_c(rd:Rd)(W:World)(hle:Rd.le rd (fX W))(v u:Value)(a b:Tally)(h1:fW h8 rd v a)(h2:fW h8 rd u b) :
  Calls Tryz.prog 87 #[v,u] W (fun e w'=>e = .returned (.int .i64 (gY a b))∧Below W.heap.size W w') :=
 (D.Tally_c rd W hle v u a b h1 h2).mono fun e w' h=>⟨h.1,h.2.kit⟩
theorem Es{l:List ga}{x z:ga}{k:Nat}(hb:∀ (j:Nat) (y:ga),j<k→l[j]? = some y→decide (x=y)=false)(hz:l[k]? = some z)(h:¬ x=z):∀ (j:Nat) (y:ga),j<k+1→l[j]? = some y→decide (x=y)=false:=fun j y hj hy=>by
 by_cases e:j=k
 ·subst e;rw [hz] at hy;injection hy with hy;subst hy;exact decide_eq_false h
 ·exact hb j y (by omega) hy
theorem xV{l:List ga}{x:ga}:l.contains x=decide (0≤jD (fun y=>decide (x=y)) l):=by
 rw [t6,List.contains_eq_any_beq];rfl
theorem D0(rd:Rd)(W:World)(hle:Rd.le rd (fX W))(v u:Value)(l:List ga)(x:ga)(h:fN 5 gB rd v l)(h2:fW gB rd u x) :
    Calls Tryz.prog 112 #[v,u] W (fun e w'=>e = .returned (.int .i64 (jD (fun y=>decide (x=y)) l))∧Below W.heap.size W w'):=by
 obtain⟨b,c,rfl,_,_⟩:=h.val;obtain⟨s,rfl,h2⟩:=h2;have t:s=[.bool x.set,ni x.key,ni x.item,ni x.author,ni x.seq]:=h2;subst t;have G:=il;have S:St [] W rd rd [] [] W:=St.start hle;refine io (args:=[sc b l.length c,.agg (kL x)]) 19 Tryz.func112 rfl rfl rfl ?_;refine er (ix (u:=.agg (kL x)) (cs:=(kL x)) S rfl rfl fun g _ S=>ly (ni 0) S Ya (ln (fJ (er (ly (sc b l.length c) S Ym (ly (ni (l.length:Int)) S (Yl iD) (ly (ni 0) S Ym (ln (go ?_)))))))));refine et [(0,sc b l.length c),(3,pa g 0),(7,ni (l.length:Int)),(8,ni (0:Int))] (fun d => ?_);refine j1 (fun(i:Nat) ov w=>match i with | k => ∃ rd' d,ov=[(0,sc b l.length c),(3,pa g 0),(7,ni (l.length:Int)),(8,ni (k:Int))]++d∧St [] W rd rd' [(g,104,(kL x))] [] w∧Rd.le rd rd'∧k≤l.length∧(∀ (j:Nat) (y:ga),j<k→l[j]? = some y→decide (x=y)=false)) (fun i=>match i with | k=>l.length - k) 0 ⟨_,d,rfl,(S.rw' rfl rfl),fZ,(by omega),(fun j y h=>absurd h (by omega))⟩ ?_;rintro k _ _ ⟨_,d,rfl,S,o,_,m⟩;replace h:=fm h o;refine er ?_;by_cases p:(k:Int)<(l.length:Int)
 ·
  refine ly (.bool true) S (gJ rfl rfl p) (ln (fJ (fS rfl (g1 (fM (fJ (go (er (ly (ni (k:Int)) S Ym (ly (ni (k:Int)) S Ya (ln (fJ ?_))))))))))));refine jZ MX (by kernel_rfl) S.drew ?_;refine qy (.agg (kL x)) (gf 0 j6) (qy (sc b l.length c) Ym (qy (ni (k:Int)) Ym ?_));obtain⟨a,n⟩:∃ z,(l)[k]? = some z:=gX (by first | assumption | omega);obtain⟨A,B,C,_,D,E⟩:=hD iD iY h n;have F:B=[.bool a.set,ni a.key,ni a.item,ni a.author,ni a.seq]:=D;subst F;refine qy A (E rfl rfl (by first | rfl | omega)) (qy (.agg (kL a)) (jd C j6) ?_);by_cases f:x=a
  ·
   refine qy (.bool true) (pH (fun _ _ _=>by kernel_rfl) (fun w=>yB w f) rfl rfl) (ig fun _ S=>fM (fS rfl (er (ly (ni (k:Int)) S Ym (ly (ni (k:Int)) S Ya (ln (fR ?_)))))));refine g3 (v:=ni (k:Int)) rfl rfl ?_;exact⟨iy (sZ n (decide_eq_true f) m).symm,S.below⟩
  refine qy (.bool false) (pH (fun _ _ _=>by kernel_rfl) (fun w=>yD w f) rfl rfl) (ig fun _ S=>fM (fV rfl (g1 (gA (nr (ly (ni ((k:Int)+1)) S (gw (r:=(k:Int)+1) rfl rfl (gl (by omega) (by omega))) (ly (ni ((k:Int)+1)) S Ym (fL ?_))))))));refine fK ⟨(k+1),_,fk,⟨_,_,rfl,(S.tt 1 0),(fY o fZ),(by omega),(Es m n f)⟩,?_⟩
  show _<_;dsimp only;omega
 refine ly (.bool false) S (gH rfl rfl p) (ln (fJ (fV rfl (iP (iQ (j0 (iR (fM (er (ly (ni (-1)) S Ya (ln (fR ?_))))))))))));refine g3 (v:=ni (-1)) rfl rfl ?_;exact⟨iy (tr fun j y q=>m j y (by have:=(List.getElem?_eq_some_iff.1 q).1;omega) q).symm,S.below⟩
theorem vT(rd:Rd)(W:World)(hle:Rd.le rd (fX W))(v u:Value)(l:List ga)(x:ga)(h:fN 5 gB rd v l)(h2:fW gB rd u x) :
    Calls Tryz.prog 79 #[v,u] W (fun e w'=>e = .returned (.bool (l.contains x))∧Below W.heap.size W w'):=by
 obtain⟨b,c,rfl,_,_⟩:=h.val;obtain⟨d,rfl,h2⟩:=h2;have f:d=[.bool x.set,ni x.key,ni x.item,ni x.author,ni x.seq]:=h2;subst f;have i:=il;have S:St [] W rd rd [] [] W:=St.start hle;refine io (args:=[sc b l.length c,.agg (kL x)]) 9 Tryz.func79 rfl rfl rfl ?_;refine er (ix (u:=.agg (kL x)) (cs:=(kL x)) S rfl rfl fun _ _ S=>ly (.bool false) S Ya (ln (er (ly (sc b l.length c) S Ym (ly (.agg (kL x)) S (gf 0 j6) ?_)))));refine g7 (g4 (vs:=[sc b l.length c,.agg (kL x)]) (CF 112 _) rfl rfl) (D0 _ _ S.le _ _ l x h (⟨_,rfl,rfl⟩:fW gB rd _ x)) ?_;rintro e _ ⟨rfl,g⟩;have S:=S.callq g;refine g9 ?_;by_cases a:0≤jD (fun y=>decide (x=y)) l
 ·
  refine ly (.bool true) S (jY rfl rfl a) (ly (.bool true) S Ya (ln (fR ?_)));refine g3 (v:=.bool true) rfl rfl ?_;exact⟨im (by rw [xV];exact(decide_eq_true a).symm),S.below⟩
 refine ly (.bool false) S (k4 rfl rfl a) (ly (.bool false) S Ya (ln (fR ?_)));refine g3 (v:=.bool false) rfl rfl ?_;exact⟨im (by rw [xV];exact(decide_eq_false a).symm),S.below⟩
theorem wX(rd:Rd)(W:World)(hle:Rd.le rd (fX W))(v p s1 s2 s3:Value)(x:ga)(o:gt)(h:fW gB rd v x)(hp:j2 rd p [s1,s2,s3])(h1:fN 1 ge rd s1 o.clock)(h2:fN 5 gB rd s2 o.lives)(h3:fN 3 h8 rd s3 o.tallies) :
    Calls Tryz.prog 78 #[v,p] W (fun e w'=>e = .returned (.bool (jU o x))∧Below W.heap.size W w'):=by
 obtain⟨j,rfl,h⟩:=h;have l:j=[.bool x.set,ni x.key,ni x.item,ni x.author,ni x.seq]:=h;subst l;obtain⟨c,d,rfl,_,_⟩:=h1.val;obtain⟨a,b,rfl,_,_⟩:=h2.val;obtain⟨f,g,rfl,_,_⟩:=h3.val;have y:=il;have S:St [] W rd rd [] [] W:=St.start hle;refine io (args:=[.agg (kL x),p]) 23 Tryz.func78 rfl rfl rfl ?_;refine er (ix (u:=.agg (kL x)) (cs:=(kL x)) S rfl rfl fun i _ S=>ly (.bool false) S Ya (ln (fJ ?_)));refine jZ MX (by kernel_rfl) S.drew ?_;refine qy p Ym (qy p (j2.nc hp rfl) ?_);obtain⟨m,n,q⟩:=jB (us:=[sc a o.lives.length b,sc f o.tallies.length g]) jn hp rfl;refine qy m (q rfl) (qy (sc a o.lives.length b) (iE n k7) (qy (.agg (kL x)) (gf 0 j6) ?_))
 cases z:(o.lives).contains x
 ·
  refine n0 (v:=.bool false) (g4 (vs:=[sc a o.lives.length b,.agg (kL x)]) (CF 79 _) rfl rfl) (fun w S=>(vT _ _ S.le _ _ o.lives x h2 (⟨_,rfl,rfl⟩:fW gB rd _ x)).mono (by rintro e w' ⟨rfl,k⟩;exact⟨im ‹_›,(S.callq k)⟩)) ?_;refine qy (.bool false) Ym (qg 11 p Ym (qg 11 p (j2.nc hp rfl) ?_));obtain⟨r,s,t⟩:=jB (us:=[sc c o.clock.length d,sc a o.lives.length b,sc f o.tallies.length g]) iO hp rfl;refine qg 11 r (t rfl) (qg 11 (sc c o.clock.length d) (iE s gL) (qg 11 (pa i 3) (Yb ld) (qg 11 (ni x.author) (fI 0 T3) (qg 11 (pa i 4) (Yb lZ) (qg 11 (ni x.seq) (fI 0 T3) ?_)))))
  cases A:kK o.clock x.author x.seq
  ·
   refine nR (d':=11) (v:=.bool false) (g4 (vs:=[sc c o.clock.length d,ni x.author,ni x.seq]) (CF 83 _) rfl rfl) rfl rfl (fun w S=>(rD _ _ _ _ _ (fm h1 S.le)).mono (by rintro e w' ⟨rfl,rfl⟩;exact⟨im ‹_›,S⟩)) ?_;refine qg 11 (.bool true) (iH rfl rfl) (qy (.bool true) Yf (qy (.bool true) Ya (ig fun _ S=>fM (fR ?_))));refine g3 (v:=.bool true) rfl rfl ?_;exact⟨im (by unfold jU;simp_all),S.below⟩
  refine nR (d':=11) (v:=.bool true) (g4 (vs:=[sc c o.clock.length d,ni x.author,ni x.seq]) (CF 83 _) rfl rfl) rfl rfl (fun w S=>(rD _ _ _ _ _ (fm h1 S.le)).mono (by rintro e w' ⟨rfl,rfl⟩;exact⟨im ‹_›,S⟩)) ?_;refine qg 11 (.bool false) (iH rfl rfl) (qy (.bool false) Yf (qy (.bool false) Ya (ig fun _ S=>fM (fR ?_))));refine g3 (v:=.bool false) rfl rfl ?_;exact⟨im (by unfold jU;simp_all),S.below⟩
 refine n0 (v:=.bool true) (g4 (vs:=[sc a o.lives.length b,.agg (kL x)]) (CF 79 _) rfl rfl) (fun w S=>(vT _ _ S.le _ _ o.lives x h2 (⟨_,rfl,rfl⟩:fW gB rd _ x)).mono (by rintro e w' ⟨rfl,k⟩;exact⟨im ‹_›,(S.callq k)⟩)) ?_;refine qy (.bool true) Ym (qs 11 (qs 11 (qs 11 (qs 11 (qs 11 (qs 11 (qs 11 (qs 11 (qs 11 (qs 11 (qy (.bool true) Yt (qy (.bool true) Ya (ig fun _ S=>fM (fR ?_))))))))))))));refine g3 (v:=.bool true) rfl rfl ?_;exact⟨im (by unfold jU;simp_all),S.below⟩
end Go.Proofs.YtkjknlnhffmkkacGreat
section
open Go.Shelf
namespace Go.Proofs
def Tryz.sortLive_ren:Go.Shelf.Ren:=⟨fun | 6=>113 | 15=>124 | 14=>123 | 28=>141 | 29=>142 | 20=>133 | 21=>134 | 22=>135 | 23=>136 | 24=>137 | 25=>138 | 26=>139 | 27=>140 | 46=>154 | 47=>155 | 48=>156 | 49=>157 | 50=>158 | 57=>164 | n=>n,fun | 22=>24 | 24=>104 | 25=>128 | 3=>3 | 39=>167 | 0=>0 | 53=>183 | 55=>185 | 4=>4 | 46=>177 | 45=>176 | 50=>160 | 5=>5 | 9=>9 | 66=>193 | 70=>197 | 76=>202 | 77=>203 | n=>n,fun | n=>n⟩
theorem Tryz.sortLive:Go.Proofs.SlLaysF0.n6 Tryz.prog Tryz.sortLive_ren:={
 mixed:=by kernel_rfl
 f6:=⟨Tryz.f113.name,by decide,Tryz.func113.trans (congrArg some (by kernel_rfl))⟩
 f14:=⟨Tryz.f123.name,by decide,Tryz.func123.trans (congrArg some (by kernel_rfl))⟩
 f15:=Tryz.func124.trans (congrArg some (by kernel_rfl))
 f20:=⟨Tryz.f133.name,by decide,Tryz.func133.trans (congrArg some (by kernel_rfl))⟩
 f21:=⟨Tryz.f134.name,by decide,Tryz.func134.trans (congrArg some (by kernel_rfl))⟩
 f22:=⟨Tryz.f135.name,by decide,Tryz.func135.trans (congrArg some (by kernel_rfl))⟩
 f23:=⟨Tryz.f136.name,by decide,Tryz.func136.trans (congrArg some (by kernel_rfl))⟩
 f24:=⟨Tryz.f137.name,by decide,Tryz.func137.trans (congrArg some (by kernel_rfl))⟩
 f25:=⟨Tryz.f138.name,by decide,Tryz.func138.trans (congrArg some (by kernel_rfl))⟩
 f26:=⟨Tryz.f139.name,by decide,Tryz.func139.trans (congrArg some (by kernel_rfl))⟩
 f27:=⟨Tryz.f140.name,by decide,Tryz.func140.trans (congrArg some (by kernel_rfl))⟩
 f28:=Tryz.func141.trans (congrArg some (by kernel_rfl))
 f29:=Tryz.func142.trans (congrArg some (by kernel_rfl))
 f46:=⟨Tryz.f154.name,by decide,Tryz.func154.trans (congrArg some (by kernel_rfl))⟩
 f47:=Tryz.func155.trans (congrArg some (by kernel_rfl))
 f48:=Tryz.func156.trans (congrArg some (by kernel_rfl))
 f49:=⟨Tryz.f157.name,by decide,Tryz.func157.trans (congrArg some (by kernel_rfl))⟩
 f50:=⟨Tryz.f158.name,by decide,Tryz.func158.trans (congrArg some (by kernel_rfl))⟩
 f57:=⟨Tryz.f164.name,by decide,Tryz.func164.trans (congrArg some (by kernel_rfl))⟩
 t0:=Tryz.underlying0
 a0:=Tryz.isAgg0
 z0:=Tryz.sizeOf0
 v0:=Tryz.zeroValue0
 t3:=Tryz.underlying3
 a3:=Tryz.isAgg3
 z3:=Tryz.sizeOf3
 v3:=Tryz.zeroValue3
 t4:=Tryz.underlying4
 a4:=Tryz.isAgg4
 z4:=Tryz.sizeOf4
 v4:=Tryz.zeroValue4
 t5:=Tryz.underlying5
 a5:=Tryz.isAgg5
 z5:=Tryz.sizeOf5
 v5:=Tryz.zeroValue5
 t9:=Tryz.underlying9
 a9:=Tryz.isAgg9
 z9:=Tryz.sizeOf9
 v9:=Tryz.zeroValue9
 t22:=Tryz.underlying24
 a22:=Tryz.isAgg24
 z22:=Tryz.sizeOf24
 v22:=Tryz.zeroValue24
 t25:=Tryz.underlying128
 a25:=Tryz.isAgg128
 z25:=Tryz.sizeOf128
 v25:=Tryz.zeroValue128
 t39:=Tryz.underlying167
 a39:=Tryz.isAgg167
 z39:=Tryz.sizeOf167
 v39:=Tryz.zeroValue167
 t45:=Tryz.underlying176
 a45:=Tryz.isAgg176
 z45:=Tryz.sizeOf176
 v45:=Tryz.zeroValue176
 t46:=Tryz.underlying177
 a46:=Tryz.isAgg177
 z46:=Tryz.sizeOf177
 v46:=Tryz.zeroValue177
 t50:=Tryz.underlying160
 a50:=Tryz.isAgg160
 z50:=Tryz.sizeOf160
 v50:=Tryz.zeroValue160
 t53:=Tryz.underlying183
 a53:=Tryz.isAgg183
 z53:=Tryz.sizeOf183
 v53:=Tryz.zeroValue183
 t55:=Tryz.underlying185
 a55:=Tryz.isAgg185
 z55:=Tryz.sizeOf185
 v55:=Tryz.zeroValue185
 t66:=Tryz.underlying193
 a66:=Tryz.isAgg193
 z66:=Tryz.sizeOf193
 v66:=Tryz.zeroValue193
 t70:=Tryz.underlying197
 a70:=Tryz.isAgg197
 z70:=Tryz.sizeOf197
 v70:=Tryz.zeroValue197
 t76:=Tryz.underlying202
 a76:=Tryz.isAgg202
 z76:=Tryz.sizeOf202
 v76:=Tryz.zeroValue202
 t77:=Tryz.underlying203
 a77:=Tryz.isAgg203
 z77:=Tryz.sizeOf203
 v77:=Tryz.zeroValue203 }
def Tryz.sortTally_ren:Go.Shelf.Ren:=⟨fun | 6=>114 | 15=>124 | 14=>125 | 28=>141 | 29=>142 | 20=>143 | 21=>144 | 22=>145 | 23=>146 | 24=>147 | 25=>148 | 26=>149 | 27=>150 | 46=>159 | 47=>155 | 48=>156 | 49=>160 | 50=>161 | 57=>165 | n=>n,fun | 22=>25 | 24=>106 | 25=>129 | 3=>3 | 39=>167 | 0=>0 | 53=>183 | 55=>185 | 4=>4 | 46=>177 | 45=>176 | 50=>160 | 5=>5 | 9=>9 | 66=>193 | 70=>197 | 76=>202 | 77=>203 | n=>n,fun | n=>n⟩
theorem Tryz.sortTally:Go.Proofs.SlLaysF0.n6 Tryz.prog Tryz.sortTally_ren:={
 mixed:=by kernel_rfl
 f6:=⟨Tryz.f114.name,by decide,Tryz.func114.trans (congrArg some (by kernel_rfl))⟩
 f14:=⟨Tryz.f125.name,by decide,Tryz.func125.trans (congrArg some (by kernel_rfl))⟩
 f15:=Tryz.func124.trans (congrArg some (by kernel_rfl))
 f20:=⟨Tryz.f143.name,by decide,Tryz.func143.trans (congrArg some (by kernel_rfl))⟩
 f21:=⟨Tryz.f144.name,by decide,Tryz.func144.trans (congrArg some (by kernel_rfl))⟩
 f22:=⟨Tryz.f145.name,by decide,Tryz.func145.trans (congrArg some (by kernel_rfl))⟩
 f23:=⟨Tryz.f146.name,by decide,Tryz.func146.trans (congrArg some (by kernel_rfl))⟩
 f24:=⟨Tryz.f147.name,by decide,Tryz.func147.trans (congrArg some (by kernel_rfl))⟩
 f25:=⟨Tryz.f148.name,by decide,Tryz.func148.trans (congrArg some (by kernel_rfl))⟩
 f26:=⟨Tryz.f149.name,by decide,Tryz.func149.trans (congrArg some (by kernel_rfl))⟩
 f27:=⟨Tryz.f150.name,by decide,Tryz.func150.trans (congrArg some (by kernel_rfl))⟩
 f28:=Tryz.func141.trans (congrArg some (by kernel_rfl))
 f29:=Tryz.func142.trans (congrArg some (by kernel_rfl))
 f46:=⟨Tryz.f159.name,by decide,Tryz.func159.trans (congrArg some (by kernel_rfl))⟩
 f47:=Tryz.func155.trans (congrArg some (by kernel_rfl))
 f48:=Tryz.func156.trans (congrArg some (by kernel_rfl))
 f49:=⟨Tryz.f160.name,by decide,Tryz.func160.trans (congrArg some (by kernel_rfl))⟩
 f50:=⟨Tryz.f161.name,by decide,Tryz.func161.trans (congrArg some (by kernel_rfl))⟩
 f57:=⟨Tryz.f165.name,by decide,Tryz.func165.trans (congrArg some (by kernel_rfl))⟩
 t0:=Tryz.underlying0
 a0:=Tryz.isAgg0
 z0:=Tryz.sizeOf0
 v0:=Tryz.zeroValue0
 t3:=Tryz.underlying3
 a3:=Tryz.isAgg3
 z3:=Tryz.sizeOf3
 v3:=Tryz.zeroValue3
 t4:=Tryz.underlying4
 a4:=Tryz.isAgg4
 z4:=Tryz.sizeOf4
 v4:=Tryz.zeroValue4
 t5:=Tryz.underlying5
 a5:=Tryz.isAgg5
 z5:=Tryz.sizeOf5
 v5:=Tryz.zeroValue5
 t9:=Tryz.underlying9
 a9:=Tryz.isAgg9
 z9:=Tryz.sizeOf9
 v9:=Tryz.zeroValue9
 t22:=Tryz.underlying25
 a22:=Tryz.isAgg25
 z22:=Tryz.sizeOf25
 v22:=Tryz.zeroValue25
 t25:=Tryz.underlying129
 a25:=Tryz.isAgg129
 z25:=Tryz.sizeOf129
 v25:=Tryz.zeroValue129
 t39:=Tryz.underlying167
 a39:=Tryz.isAgg167
 z39:=Tryz.sizeOf167
 v39:=Tryz.zeroValue167
 t45:=Tryz.underlying176
 a45:=Tryz.isAgg176
 z45:=Tryz.sizeOf176
 v45:=Tryz.zeroValue176
 t46:=Tryz.underlying177
 a46:=Tryz.isAgg177
 z46:=Tryz.sizeOf177
 v46:=Tryz.zeroValue177
 t50:=Tryz.underlying160
 a50:=Tryz.isAgg160
 z50:=Tryz.sizeOf160
 v50:=Tryz.zeroValue160
 t53:=Tryz.underlying183
 a53:=Tryz.isAgg183
 z53:=Tryz.sizeOf183
 v53:=Tryz.zeroValue183
 t55:=Tryz.underlying185
 a55:=Tryz.isAgg185
 z55:=Tryz.sizeOf185
 v55:=Tryz.zeroValue185
 t66:=Tryz.underlying193
 a66:=Tryz.isAgg193
 z66:=Tryz.sizeOf193
 v66:=Tryz.zeroValue193
 t70:=Tryz.underlying197
 a70:=Tryz.isAgg197
 z70:=Tryz.sizeOf197
 v70:=Tryz.zeroValue197
 t76:=Tryz.underlying202
 a76:=Tryz.isAgg202
 z76:=Tryz.sizeOf202
 v76:=Tryz.zeroValue202
 t77:=Tryz.underlying203
 a77:=Tryz.isAgg203
 z77:=Tryz.sizeOf203
 v77:=Tryz.zeroValue203 }
end Go.Proofs
end
namespace Go.Proofs.YtkjknlnhffmkkacGreat
open Go.RowKit
section
open Go.Shelf Go.Sort
section
variable {α:Type} {R:CR α} {enc:α→List Value} {k:Nat}
def uE(R:CR α)(enc:α→List Value):Prop:=∀ rd cs x,R rd cs x↔cs=enc x
theorem zR(hR:uE R enc){rd:Rd}:∀ {l:List α} {xs:List Value},fQ k R rd xs l→xs=l.flatMap enc
 | [],xs,h=>h
 | x :: l,xs,h=>by
  obtain⟨cs,rest,rfl,h1,h2,h3⟩:=h
  rw [(hR _ _ _).1 h2,zR hR h3];rfl
theorem wG(hR:uE R enc)(hk:∀ x,(enc x).length=k){rd:Rd}:∀ {l:List α},fQ k R rd (l.flatMap enc) l
 | []=>rfl
 | x :: l=>⟨enc x,l.flatMap enc,rfl,hk x,(hR _ _ _).2 rfl,wG hR hk⟩
end
section
variable {α:Type} [Inhabited α] {R:CR α} {enc:α→List Value} {k:Nat}
theorem x5(hk:∀ x,(enc x).length=k)(h0:0<k):∀ (l:List α) (t:Nat),t<l.length * k→(l.flatMap enc)[t]? = some (enc (l[t / k]!))[t % k]!
 | [],t,h=>by simp at h
 | x :: l,t,h=>by
  rw [List.flatMap_cons]
  rcases Nat.lt_or_ge t k with hlt | hge
  ·rw [List.getElem?_append_left (by rw [hk];exact hlt),Nat.div_eq_of_lt hlt,Nat.mod_eq_of_lt hlt]
   show(enc x)[t]? = some (enc x)[t]!
   rw [List.getElem!_eq_getElem?_getD,List.getElem?_eq_getElem (by rw [hk];exact hlt)];rfl
  ·obtain⟨u,rfl⟩:∃ u,t=u+k:=⟨t - k,by omega⟩
   have hu:u<l.length * k:=by
    simp only [List.length_cons,Nat.add_mul,Nat.one_mul] at h;omega
   rw [List.getElem?_append_right (by rw [hk];omega),hk,Nat.add_sub_cancel,x5 hk h0 l u hu,Nat.add_div_right _ h0,Nat.add_mod_right]
   congr 3
theorem zT(hk:∀ x,(enc x).length=k)(h0:0<k)(l:List α):(flatK enc k l.toArray).toList=l.flatMap enc:=by
 have b:(l.flatMap enc).length=l.length * k:=by
  induction l with
  | nil=>simp
  | cons x l ih=>rw [List.flatMap_cons,List.length_append,hk,ih,List.length_cons,Nat.add_mul,Nat.one_mul];omega
 refine List.ext_getElem? fun t => ?_
 rcases Nat.lt_or_ge t (l.length * k) with h | h
 ·rw [x5 hk h0 l t h]
  have a:t<(flatK enc k l.toArray).size:=by unfold flatK;simpa using h
  rw [Array.getElem?_toList,Array.getElem?_eq_getElem a]
  unfold flatK
  simp
 ·have a:(flatK enc k l.toArray).toList.length≤t:=by unfold flatK;simpa using h
  rw [List.getElem?_eq_none a,List.getElem?_eq_none (by omega)]
theorem CL{W w':World}(h:D.Below W.heap.size W w'):∃ q os',w'=grow (W.drewN q) os':=by
 refine⟨w'.drawn - W.drawn,w'.heap.extract W.heap.size w'.heap.size,?_⟩
 cases W with
 | mk heap tape drawn os output =>
 cases w' with
 | mk heap' tape' drawn' os' output' =>
 obtain⟨a,b,c,f,g,d⟩:=h
 dsimp only at a b c f g d
 unfold grow World.drewN
 dsimp only
 have j:drawn+(drawn' - drawn)=drawn':=by omega
 have k:heap'=heap++heap'.extract heap.size heap'.size:=by
  refine Array.ext_getElem? fun i => ?_
  rw [Array.getElem?_append]
  split
  ·rename_i e;exact d i e
  ·rename_i e
   rw [Array.getElem?_extract]
   by_cases l:i<heap'.size
   ·rw [if_pos (by omega)];congr 1;omega
   ·rw [if_neg (by omega),Array.getElem?_eq_none (by omega)]
 rw [j,a,b,c,← k]
theorem xY{P:Program}{ρ:Ren}(L:SlLaysF0.n6 P ρ)(h0:0<k)(aE:∀ w,(isAgg (ρ.t 24)).run P w = .ok true w)(zE:∀ w,(Go.sizeOf (ρ.t 24)).run P w = .ok k w)
  (hR:uE R enc) (hk:∀ x,(enc x).length=k) (h1:∀ x,∀ v∈enc x,v.oneCell'=true) (cf:α→α→Int) (hO:SWO (ltOf cf)) (f:Nat)
  (eg:∀ args w,(callFunc f args).run P w = .ok (.enter f args) w) (hcmp:∀ (W:World) (x y:α),Calls P f #[.agg (enc x).toArray,.agg (enc y).toArray] W fun e w'=>e = .returned (.int .i64 (cf x y))∧D.Below W.heap.size W w')
  (rd:Rd) (W:World) (e:TypeId) (v:Value) (n:Nat) (xs:List Value) (l:List α) (hv:W.ownsRow 0 e k v n xs) (hr:fQ k R rd xs l) (hsmall:l.length<4611686018427387904) :
  Calls P (ρ.f 6) #[v,.func (.func f) #[] #[]] W fun e' w'=>e' = .returned (.tuple #[]) ∧ ∃ l' xs',l'.Perm l∧l'.Pairwise (fun a b => ¬ cf b a<0)∧w'.ownsRow 0 e k v n xs'∧fQ k R rd xs' l'∧jj v.ownBlock.toList W w':=by
 have u:=hr.len
 rcases hv.2 with⟨rfl,rfl⟩ | ⟨g,cap,cur,rfl,_,hg,hc,hm,hs,p⟩
 ·have p:xs=[]:=List.eq_nil_of_length_eq_zero (by rw [hv.1];simp)
  subst p
  have F:l=[]:=by
   cases l with
   | nil=>rfl
   | cons a l=>simp only [List.length_nil,List.length_cons,Nat.add_mul,Nat.one_mul] at u;omega
  subst F
  exact(AnyF.slices_SortFunc_none L none 0 _ W).mono fun e' w' ⟨h,d⟩=>⟨h,[],[],List.Perm.refl _,.nil,by rw [d];exact hv,rfl,by rw [d];exact jj.refl _ _⟩
 ·have G:n=l.length:=by
   have:=hv.1
   rw [u] at this
   exact(Nat.eq_of_mul_eq_mul_right h0 this).symm
  subst G
  have z:g<W.heap.size:=(Array.getElem?_eq_some_iff.1 hg).1
  have H:=zT hk h0 l
  have I:xs=(flatK enc k l.toArray).toList:=by rw [H];exact zR hR hr
  have q:(flatK enc k l.toArray).size=l.length * k:=by unfold flatK;simp
  have J:HoldsK enc k W g 0 l.toArray:=fun j c=>by
   rw [q] at c
   have o:cur[j]? = some (flatK enc k l.toArray)[j]!:=by
    have:cur.toList[j]? = some (flatK enc k l.toArray)[j]!:=by
     have K:(cur.toList.take (l.length * k))[j]? = cur.toList[j]?:=by rw [List.getElem?_take,if_pos c]
     rw [← K,p,I,Array.getElem?_toList,Array.getElem?_eq_getElem (by rw [q];exact c),getElem!_pos _ _ (by rw [q];exact c)]
    rwa [Array.getElem?_toList] at this
   rw [Nat.zero_add]
   refine⟨?_,?_⟩
   ·unfold World.cell?;dsimp only;rw [hg];exact o
   ·unfold World.frozen?;dsimp only;rw [hg];simp
  have a0:l.length≤maxLen:=Nat.le_trans hc hm
  have key:=AnyQ.slices_SortFunc L k aE zE enc hk h1 cf hO f #[] g 0 cap l.toArray W eg (fun m os dk _ x y=>by
   refine(hcmp (sortWorldK enc k W g 0 m dk os) x y).mono fun e' w' ⟨h,r⟩=>⟨h,?_⟩
   exact CL r) J z (by simpa using hsmall)
  have key':Calls P (ρ.f 6) #[.slice (some ⟨g,0,none⟩) l.length cap,.func (.func f) #[] #[]] W _:=key
  refine key'.mono fun e' w' ⟨h,d',m,os,M,N,d⟩ => ?_
  obtain⟨A,_,B⟩:=M
  have C:d'.size=l.length:=by rw [A];simp
  have O:d'.toList.Perm l:=by
   have o:d'.extract 0 l.toArray.size=d':=by rw [show l.toArray.size=d'.size by rw [A]];exact Array.extract_size
   have Q:l.toArray.extract 0 l.toArray.size=l.toArray:=Array.extract_size
   rw [o,Q] at B
   exact B
  have S:=zT hk h0 d'.toList
  have T:(flatK enc k d').size=l.length * k:=by unfold flatK;simp [C]
  have s:w'.heap=(W.heap.modify g (onCells (putCells id 0 (flatK enc k d'))))++os:=by rw [d];rfl
  have U:w'.heap[g]? = some (.cells (putCells id 0 (flatK enc k d') cur) e (0,0)):=by
   rw [s,Array.getElem?_append,if_pos (by simpa using z),Array.getElem?_modify,if_pos rfl,hg];rfl
  have a1:l.length * k≤cur.size:=by rw [hs];exact Nat.mul_le_mul_right k hc
  have V:(putCells id 0 (flatK enc k d') cur).toList.take (l.length * k)=(flatK enc k d').toList:=by
   refine List.ext_getElem? fun t => ?_
   rw [List.getElem?_take]
   split
   ·rename_i X
    rw [Array.getElem?_toList,Array.getElem?_toList]
    unfold putCells
    rw [Array.getElem?_mapIdx,Array.getElem?_eq_getElem (show t<cur.size by omega),Array.getElem?_eq_getElem (show t<(flatK enc k d').size by omega),Option.map_some,if_pos ⟨Nat.zero_le _,by omega⟩]
    rw [Nat.sub_zero,getElem!_pos _ t (by omega)];rfl
   ·rename_i X
    exact(List.getElem?_eq_none (by rw [Array.length_toList];omega)).symm
  refine⟨h,d'.toList,(flatK enc k d').toList,O,?_,⟨by rw [Array.length_toList,T],.inr ⟨g,cap,_,rfl,Nat.zero_le _,U,hc,hm,by unfold putCells;rw [Array.size_mapIdx];exact hs,V⟩⟩,?_,?_⟩
  ·rw [List.pairwise_iff_getElem]
   intro i j E c Y
   rw [Array.length_toList] at E c
   have:=N i j (Nat.zero_le _) Y (by simpa [C] using c)
   unfold ltOf at this
   rw [getElem!_pos d' i E,getElem!_pos d' j c,decide_eq_false_iff_not] at this
   simpa using this
  ·have o:(flatK enc k d').toList=d'.toList.flatMap enc:=S
   rw [o];exact wG hR hk
  ·refine⟨by rw [d];rfl,by rw [d];rfl,by rw [d];rfl,by rw [s];simp,fun b r Z => ?_⟩
   rw [s,Array.getElem?_append,if_pos (by simpa using r),Array.getElem?_modify,if_neg (fun e=>Z (by subst e;simp [Value.ownBlock]))]
end
end
theorem uN:∀ (a:List Int),kE a a=0
 | []=>rfl
 | x :: a=>by rw [tW];exact⟨rfl,uN a⟩
theorem yp:∀ {a b c:List Int},a.length=b.length→b.length=c.length → ¬ kE a b<0 → ¬ kE b c<0 → ¬ kE a c<0:=fun {a b c} h1 h2 k1 k2 k=>by
 have e1:=qD (a:=a) (b:=b)
 have e2:=qD (a:=b) (b:=c)
 rcases Int.lt_or_eq_of_le (show kE b a≤0 by omega) with p | p
 ·rcases Int.lt_or_eq_of_le (show kE c b≤0 by omega) with q | q
  ·have:=sL q p
   have e3:=qD (a:=a) (b:=c);omega
  ·have:=tZ (h2.symm) q;subst this
   have e3:=qD (a:=a) (b:=c);omega
 ·have:=tZ (h1.symm) p;subst this
  exact k2 k
def A6(x:ga):List Value:=[.bool x.set,.int .i64 x.key,.int .i64 x.item,.int .i64 x.author,.int .i64 x.seq]
instance:Inhabited ga:=⟨⟨false,0,0,0,0⟩⟩
theorem Bn:Go.Sort.SWO (ltOf gQ) where
 irrefl x:=by unfold ltOf;rw [decide_eq_false_iff_not,po,uN];omega
 trans x y z h1 h2:=by unfold ltOf at *;rw [decide_eq_true_eq] at *;exact rh h1 h2
 ntrans x y z h1 h2:=by
  unfold ltOf at *;rw [decide_eq_false_iff_not] at *
  simp only [po] at *
  exact yp (a:=nF x) (b:=nF y) (c:=nF z) rfl rfl h1 h2
theorem Dk(Y:List Nat)(rd:Rd)(W:World)(v:Value)(n:Nat)(xs:List Value)(l:List ga)(S0:St Y W rd rd [] [⟨104,5,v,n,xs⟩] W)(hr:fQ 5 gB rd xs l)(hn:l.Nodup)(hs:l.length<4611686018427387904) :
  Calls Tryz.prog 113 #[v,.func (.func 86) #[] #[]] W fun e w'=>e = .returned (.tuple #[]) ∧ ∃ xs',St Y W rd rd [] [⟨104,5,v,n,xs'⟩] w'∧fQ 5 gB rd xs' (oB l):=by
 have f:=S0.own _ (List.mem_singleton.2 rfl)
 have key:=xY (R:=gB) (enc:=A6) (k:=5) Tryz.sortLive (by decide) j6.a j6.s (fun _ _ _=>Iff.rfl) (fun _=>rfl)
  (fun x u c=>by unfold A6 at c;simp only [List.mem_cons,List.not_mem_nil,or_false] at c;rcases c with rfl | rfl | rfl | rfl | rfl <;> rfl) gQ Bn 86 (fun vs w=>CF 86 vs (by kernel_rfl) w)
  (fun W x y=>D.Order_c (fun _ _=>none) W (fun _ _ _ h=>by cases h) _ _ x y ⟨_,rfl,rfl⟩ ⟨_,rfl,rfl⟩) rd W 104 v n xs l f.1 hr hs
 change Calls Tryz.prog 113 _ _ _ at key
 refine key.mono fun e w' ⟨i,_,xs',m,o,p,q,r⟩=>⟨i,xs',?_,?_⟩
 ·have:=S0.mut (j:=0) (q':=⟨104,5,v,n,xs'⟩) rfl r (fun g d=>by simpa using d) p (fun g d => .inl d)
  exact this
 ·rw [← BH hn m (o.imp fun {a b} h=>by have:=qt (a:=a) (b:=b);omega)];exact q
def yL(x:Tally):List Value:=[.int .i64 x.key,.int .i64 x.author,.int .i64 x.sum]
instance:Inhabited Tally:=⟨⟨0,0,0⟩⟩
theorem BM:Go.Sort.SWO (ltOf gY) where
 irrefl x:=by unfold ltOf;rw [decide_eq_false_iff_not,px,uN];omega
 trans x y z h1 h2:=by unfold ltOf at *;rw [decide_eq_true_eq] at *;exact qW h1 h2
 ntrans x y z h1 h2:=by
  unfold ltOf at *;rw [decide_eq_false_iff_not] at *
  simp only [px] at *
  exact yp (a:=pm x) (b:=pm y) (c:=pm z) rfl rfl h1 h2
theorem Ed(Y:List Nat)(rd:Rd)(W:World)(v:Value)(n:Nat)(xs:List Value)(l:List Tally)(S0:St Y W rd rd [] [⟨106,3,v,n,xs⟩] W)(hr:fQ 3 h8 rd xs l)(hn:oX l)(hs:l.length<4611686018427387904) :
  Calls Tryz.prog 114 #[v,.func (.func 87) #[] #[]] W fun e w'=>e = .returned (.tuple #[]) ∧ ∃ xs',St Y W rd rd [] [⟨106,3,v,n,xs'⟩] w'∧fQ 3 h8 rd xs' (ny l):=by
 have f:=S0.own _ (List.mem_singleton.2 rfl)
 have key:=xY (R:=h8) (enc:=yL) (k:=3) Tryz.sortTally (by decide) kX.a kX.s (fun _ _ _=>Iff.rfl) (fun _=>rfl)
  (fun x u c=>by unfold yL at c;simp only [List.mem_cons,List.not_mem_nil,or_false] at c;rcases c with rfl | rfl | rfl <;> rfl) gY BM 87 (fun vs w=>CF 87 vs (by kernel_rfl) w)
  (fun W x y=>D.Tally_c (fun _ _=>none) W (fun _ _ _ h=>by cases h) _ _ x y ⟨_,rfl,rfl⟩ ⟨_,rfl,rfl⟩) rd W 106 v n xs l f.1 hr hs
 change Calls Tryz.prog 114 _ _ _ at key
 refine key.mono fun e w' ⟨i,_,xs',m,o,p,q,r⟩=>⟨i,xs',?_,?_⟩
 ·have:=S0.mut (j:=0) (q':=⟨106,3,v,n,xs'⟩) rfl r (fun g d=>by simpa using d) p (fun g d => .inl d)
  exact this
 ·rw [← Aw hn m (o.imp fun {a b} h=>by have:=qE (a:=a) (b:=b);omega)];exact q
theorem Ax(Y:List Nat)(rd:Rd)(W:World)(Ac Al At:Option Addr)(nc n m cc cl ct:Nat)(xs ys:List Value)(l:List ga)(t:List Tally)(S0:St Y W rd rd [] [⟨104,5,.slice Al n cl,n,xs⟩,⟨106,3,.slice At m ct,m,ys⟩] W)(hr1:fQ 5 gB rd xs l)(hr2:fQ 3 h8 rd ys t)(hn:l.Nodup)(hd:oX t)(hs1:l.length<4611686018427387904)(hs2:t.length<4611686018427387904) :
    Calls Tryz.prog 80 #[(.agg #[sc Ac nc cc,sc Al n cl,sc At m ct])] W (fun e w' => ∃ xs' ys',e = .returned (.agg #[.slice Ac nc cc,.slice Al n cl,.slice At m ct])∧St Y W rd rd [] [⟨104,5,.slice Al n cl,n,xs'⟩,⟨106,3,.slice At m ct,m,ys'⟩] w'∧fQ 5 gB rd xs' (oB l)∧fQ 3 h8 rd ys' (ny t)):=by
 have h:=il;have S:=S0;refine io (args:=[.agg #[sc Ac nc cc,sc Al n cl,sc At m ct]]) 10 Tryz.func80 rfl rfl rfl ?_;refine fJ (gU (ix (u:=.agg #[sc Ac nc cc,sc Al n cl,sc At m ct]) (cs:=#[sc Ac nc cc,sc Al n cl,sc At m ct]) S rfl rfl fun c _ S=>gk (cs:=jX) S jP rfl fun _ _ S=>fL (fM (fJ (gU (ly (pa c 1) S (jr jn rfl rfl) (ly (sc Al n cl) S (gG rfl (fun w S=>jm (i:=0) S rfl rfl k7)) ?_)))))));have S:=S.toEndO (i:=0) rfl;refine g7 (g4 (vs:=[sc Al n cl,.func (.func 86) #[] #[]]) (CF 113 _) rfl rfl) (Dk _ _ _ _ _ _ l (S.giveN 2 1) hr1 hn hs1) ?_;rintro e _ ⟨rfl,_,a,b⟩;have d:=a.sup;have S:=S.compN 2 1 a;replace hr2:=rm hr2 d;refine g9 (fL (fM (fJ (gU (ly (pa c 2) S (jr kQ rfl rfl) (ly (sc At m ct) S (gG rfl (fun w S=>jm (i:=0) S rfl rfl lP)) ?_))))));have S:=S.toEndO (i:=0) rfl;refine g7 (g4 (vs:=[sc At m ct,.func (.func 87) #[] #[]]) (CF 114 _) rfl rfl) (Ed _ _ _ _ _ _ t (S.giveN 2 1) hr2 hd hs2) ?_;rintro e _ ⟨rfl,_,a,f⟩;have g:=a.sup;have S:=S.compN 2 1 a;replace b:=rm b g;refine g9 (fL (fM (fJ (gU (ly (.agg #[sc Ac nc cc,sc Al n cl,sc At m ct]) S (gG rfl (fun w S=>gu (vs:=[sc Ac nc cc,sc Al n cl,sc At m ct]) (i:=0) S rfl ir rfl rfl)) (fT (u:=.agg #[sc Ac nc cc,sc Al n cl,sc At m ct]) (i:=1) (cs':=#[sc Ac nc cc,sc Al n cl,sc At m ct]) S rfl rfl rfl iM rfl rfl rfl fun _ S=>fL (fM (fR ?_))))))));refine g3 (v:=.agg #[sc Ac nc cc,sc Al n cl,sc At m ct]) rfl ⟨_,rfl,gu (i:=1) (vs:=[sc Ac nc cc,sc Al n cl,sc At m ct]) S rfl ir rfl rfl⟩ ?_;exact⟨_,_,rfl,(S.tt 0 2).rw' rfl rfl,b,f⟩
end Go.Proofs.YtkjknlnhffmkkacGreat
