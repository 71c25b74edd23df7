/- What stays in one state, asked of another one. -/
import Derived.Test.YtkjknlnhffmkkacGreatQPl
import Derived.Test.YtkjknlnhffmkkacGreatQCmp
import Derived.Test.YtkjknlnhffmkkacGreatQEqs
import Derived.Test.YtkjknlnhffmkkacGreatQEg
import Derived.Test.YtkjknlnhffmkkacGreatQClock2
import Derived.Test.YtkjknlnhffmkkacGreatQClock3
namespace Go.Proofs.YtkjknlnhffmkkacGreat
open Go.RowKit
set_option linter.unusedVariables false
theorem idx_next {l:List Live} {x z:Live} {k:Nat} (hb:∀ (j:Nat) (y:Live),j < k → l[j]? = some y → decide (x = y) = false) (hz:l[k]? = some z) (h:¬ x = z):∀ (j:Nat) (y:Live),j < k + 1 → l[j]? = some y → decide (x = y) = false:=fun j y hj hy => by
  by_cases e:j = k
  · subst e;rw [hz] at hy;injection hy with hy;subst hy;exact decide_eq_false h
  · exact hb j y (by omega) hy
theorem contains_idx {l:List Live} {x:Live}:l.contains x = decide (0 ≤ idxF (fun y => decide (x = y)) l):=by
  rw [idxF_any,List.contains_eq_any_beq];rfl
set_option maxRecDepth 100000 in
theorem IndexL_c (rd:Rd) (W:World) (hle:Rd.le rd (wrd W)) (v u:Value) (l:List Live) (x:Live) (h:SliceR 5 LiveR rd v l) (h2:AggR LiveR rd u x) :
    Calls Tryz.prog 112 #[v,u] W (fun e w' => e = .returned (.int .i64 (idxF (fun y => decide (x = y)) l)) ∧ Below W.heap.size W w'):=by
 obtain ⟨A1,c2,rfl,m3,m3'⟩:=h.val;obtain ⟨vs4,h2e,h2⟩:=h2;subst h2e;have h2e:vs4 = [.bool x.set,ni x.key,ni x.item,ni x.author,ni x.seq]:=h2;subst h2e;clear h2;have hmx:maxLen = 9223372036854775807:=rfl;have S:St [] W rd rd [] [] W:=St.start hle;refine e_enter (args:=[sc A1 l.length c2,.agg (kL x)]) 19 Tryz.func112 rfl rfl rfl ?_;refine er (l_bx (u:=.agg (kL x)) (cs:=(kL x)) S rfl rfl fun g5 w6 S => ly (ni 0) S Ya (ln (e_seq (er (ly (sc A1 l.length c2) S Ym (ly (ni (l.length:Int)) S (Yl U24) (ly (ni 0) S Ym (ln (e_blk ?_)))))))));refine et [(0,sc A1 l.length c2),(3,pa g5 0),(7,ni (l.length:Int)),(8,ni (0:Int))] (fun junk => ?_);refine e_loop (fun (gh_:Nat) ov w => match gh_ with | k => ∃ rd' junk,ov = [(0,sc A1 l.length c2),(3,pa g5 0),(7,ni (l.length:Int)),(8,ni (k:Int))] ++ junk ∧ St [] W rd rd' [(g5,104,(kL x))] [] w ∧ Rd.le rd rd' ∧ k ≤ l.length ∧ (∀ (j:Nat) (y:Live),j < k → l[j]? = some y → decide (x = y) = false)) (fun gh_ => match gh_ with | k => l.length - k) 0 ⟨_,junk,rfl,(S.rw' rfl rfl),(Rd.le_refl _),(by omega),(fun j y h => absurd h (by omega))⟩ ?_;rintro k ov10 w8 ⟨rd7,junk,rfl,S,L9,hk,hb⟩;replace h:=fm h L9;refine er ?_;by_cases h11:(k:Int) < (l.length:Int)
 ·
  refine ly (.bool true) S (y_ltT rfl rfl h11) (ln (e_seq (e_cT rfl (e_skip (n_seq (e_seq (e_blk (er (ly (ni (k:Int)) S Ym (ly (ni (k:Int)) S Ya (ln (e_seq ?_))))))))))));refine e_q MX (by kernel_rfl) S.drew ?_;refine qy (.agg (kL x)) (ybA 0 T104) (qy (sc A1 l.length c2) Ym (qy (ni (k:Int)) Ym ?_));obtain ⟨z12,hz13⟩:∃ z,(l)[k]? = some z:=nth_of (by first | assumption | omega);obtain ⟨p14,vs15,E16,nn17,r18,Y19⟩:=y_ia U24 SZ104 h hz13;clear nn17;have r18e:vs15 = [.bool z12.set,ni z12.key,ni z12.item,ni z12.author,ni z12.seq]:=r18;subst r18e;clear r18;refine qy p14 (Y19 rfl rfl (by first | rfl | omega)) (qy (.agg (kL z12)) (ypA E16 T104) ?_);by_cases hxz:x = z12
  ·
   refine qy (.bool true) (y_eqa (fun _ _ _ => by kernel_rfl) (fun w => Live_eqT w hxz) rfl rfl) (q_nil fun w20 S => n_seq (e_cT rfl (er (ly (ni (k:Int)) S Ym (ly (ni (k:Int)) S Ya (ln (e_ret ?_)))))));refine ret1 (v:=ni (k:Int)) rfl rfl ?_;exact ⟨rint (idxF_hit hz13 (decide_eq_true hxz) hb).symm,S.below⟩
  refine qy (.bool false) (y_eqa (fun _ _ _ => by kernel_rfl) (fun w => Live_eqF w hxz) rfl rfl) (q_nil fun w21 S => n_seq (e_cF rfl (e_skip (n_blk (nr (ly (ni ((k:Int) + 1)) S (y_add (r:=(k:Int) + 1) rfl rfl (w64 (by omega) (by omega))) (ly (ni ((k:Int) + 1)) S Ym (l_nil ?_))))))));refine n_lp ⟨(k + 1),_,fk,⟨_,_,rfl,(S.tk 1 0 rfl rfl),(Rd.le_trans L9 (Rd.le_refl rd7)),(by omega),(idx_next hb hz13 hxz)⟩,?_⟩
  show _ < _;dsimp only;omega
 refine ly (.bool false) S (y_ltF rfl rfl h11) (ln (e_seq (e_cF rfl (e_exit (x_seq (x_lp (x_hit (n_seq (er (ly (ni (-1)) S Ya (ln (e_ret ?_))))))))))));refine ret1 (v:=ni (-1)) rfl rfl ?_;exact ⟨rint (idxF_none fun j y hj => hb j y (by have:=(List.getElem?_eq_some_iff.1 hj).1;omega) hj).symm,S.below⟩

set_option maxRecDepth 100000 in
theorem ContainsL_c (rd:Rd) (W:World) (hle:Rd.le rd (wrd W)) (v u:Value) (l:List Live) (x:Live) (h:SliceR 5 LiveR rd v l) (h2:AggR LiveR rd u x) :
    Calls Tryz.prog 79 #[v,u] W (fun e w' => e = .returned (.bool (l.contains x)) ∧ Below W.heap.size W w'):=by
 obtain ⟨A1,c2,rfl,m3,m3'⟩:=h.val;obtain ⟨vs4,h2e,h2⟩:=h2;subst h2e;have h2e:vs4 = [.bool x.set,ni x.key,ni x.item,ni x.author,ni x.seq]:=h2;subst h2e;clear h2;have hmx:maxLen = 9223372036854775807:=rfl;have S:St [] W rd rd [] [] W:=St.start hle;refine e_enter (args:=[sc A1 l.length c2,.agg (kL x)]) 9 Tryz.func79 rfl rfl rfl ?_;refine er (l_bx (u:=.agg (kL x)) (cs:=(kL x)) S rfl rfl fun g5 w6 S => ly (.bool false) S Ya (ln (er (ly (sc A1 l.length c2) S Ym (ly (.agg (kL x)) S (ybA 0 T104) ?_)))));refine l_c (en_f (vs:=[sc A1 l.length c2,.agg (kL x)]) (CF 112 _) rfl rfl) (IndexL_c _ _ S.le _ _ l x h (⟨_,rfl,rfl⟩:AggR LiveR rd _ x)) ?_;rintro e w7 ⟨rfl,k⟩;have S:=S.callq k;clear k;refine ckd ?_;by_cases h0:0 ≤ idxF (fun y => decide (x = y)) l
 ·
  refine ly (.bool true) S (y_geT rfl rfl h0) (ly (.bool true) S Ya (ln (e_ret ?_)));refine ret1 (v:=.bool true) rfl rfl ?_;exact ⟨rbool (by rw [contains_idx];exact (decide_eq_true h0).symm),S.below⟩
 refine ly (.bool false) S (y_geF rfl rfl h0) (ly (.bool false) S Ya (ln (e_ret ?_)));refine ret1 (v:=.bool false) rfl rfl ?_;exact ⟨rbool (by rw [contains_idx];exact (decide_eq_false h0).symm),S.below⟩

set_option maxRecDepth 100000 in
theorem Stays_c (rd:Rd) (W:World) (hle:Rd.le rd (wrd W)) (v p s1 s2 s3:Value) (x:Live) (o:State) (h:AggR LiveR rd v x) (hp:PtrC rd p [s1,s2,s3]) (h1:SliceR 1 IntR rd s1 o.clock) (h2:SliceR 5 LiveR rd s2 o.lives) (h3:SliceR 3 TallyR rd s3 o.tallies) :
    Calls Tryz.prog 78 #[v,p] W (fun e w' => e = .returned (.bool (staysL o x)) ∧ Below W.heap.size W w'):=by
 obtain ⟨vs1,he,h⟩:=h;subst he;have he:vs1 = [.bool x.set,ni x.key,ni x.item,ni x.author,ni x.seq]:=h;subst he;clear h;obtain ⟨A2,c3,rfl,m4,m4'⟩:=h1.val;obtain ⟨A5,c6,rfl,m7,m7'⟩:=h2.val;obtain ⟨A8,c9,rfl,m10,m10'⟩:=h3.val;have hmx:maxLen = 9223372036854775807:=rfl;have S:St [] W rd rd [] [] W:=St.start hle;refine e_enter (args:=[.agg (kL x),p]) 23 Tryz.func78 rfl rfl rfl ?_;refine er (l_bx (u:=.agg (kL x)) (cs:=(kL x)) S rfl rfl fun g11 w12 S => ly (.bool false) S Ya (ln (e_seq ?_)));refine e_q MX (by kernel_rfl) S.drew ?_;refine qy p Ym (qy p (PtrC.nc hp rfl) ?_);obtain ⟨p13,Ep13,Yp13⟩:=y_fp (us:=[sc A5 o.lives.length c6,sc A8 o.tallies.length c9]) FA27_1 hp rfl;refine qy p13 (Yp13 rfl) (qy (sc A5 o.lives.length c6) (yp1 Ep13 T24) (qy (.agg (kL x)) (ybA 0 T104) ?_))
 cases b14:(o.lives).contains x
 ·
  refine q_c (v:=.bool false) (en_f (vs:=[sc A5 o.lives.length c6,.agg (kL x)]) (CF 79 _) rfl rfl) (fun w S => (ContainsL_c _ _ S.le _ _ o.lives x h2 (⟨_,rfl,rfl⟩:AggR LiveR rd _ x)).mono (by rintro e w' ⟨rfl,k⟩;exact ⟨rbool (by assumption),(S.callq k)⟩)) ?_;refine qy (.bool false) Ym (qg 11 p Ym (qg 11 p (PtrC.nc hp rfl) ?_));obtain ⟨p15,Ep15,Yp15⟩:=y_fp (us:=[sc A2 o.clock.length c3,sc A5 o.lives.length c6,sc A8 o.tallies.length c9]) FA27_0 hp rfl;refine qg 11 p15 (Yp15 rfl) (qg 11 (sc A2 o.clock.length c3) (yp1 Ep15 T23) (qg 11 (pa g11 3) (Yb FA104_3) (qg 11 (ni x.author) (yb1 0 T3) (qg 11 (pa g11 4) (Yb FA104_4) (qg 11 (ni x.seq) (yb1 0 T3) ?_)))))
  cases b16:hasC o.clock x.author x.seq
  ·
   refine q_cg (d':=11) (v:=.bool false) (en_f (vs:=[sc A2 o.clock.length c3,ni x.author,ni x.seq]) (CF 83 _) rfl rfl) rfl rfl (fun w S => (Has_calls _ _ _ _ _ (fm h1 S.le)).mono (by rintro e w' ⟨rfl,rfl⟩;exact ⟨rbool (by assumption),S⟩)) ?_;refine qg 11 (.bool true) (y_not rfl rfl) (qy (.bool true) Yf (qy (.bool true) Ya (q_nil fun w17 S => n_seq (e_ret ?_))));refine ret1 (v:=.bool true) rfl rfl ?_;exact ⟨rbool (by unfold staysL;simp_all),S.below⟩
  refine q_cg (d':=11) (v:=.bool true) (en_f (vs:=[sc A2 o.clock.length c3,ni x.author,ni x.seq]) (CF 83 _) rfl rfl) rfl rfl (fun w S => (Has_calls _ _ _ _ _ (fm h1 S.le)).mono (by rintro e w' ⟨rfl,rfl⟩;exact ⟨rbool (by assumption),S⟩)) ?_;refine qg 11 (.bool false) (y_not rfl rfl) (qy (.bool false) Yf (qy (.bool false) Ya (q_nil fun w18 S => n_seq (e_ret ?_))));refine ret1 (v:=.bool false) rfl rfl ?_;exact ⟨rbool (by unfold staysL;simp_all),S.below⟩
 refine q_c (v:=.bool true) (en_f (vs:=[sc A5 o.lives.length c6,.agg (kL x)]) (CF 79 _) rfl rfl) (fun w S => (ContainsL_c _ _ S.le _ _ o.lives x h2 (⟨_,rfl,rfl⟩:AggR LiveR rd _ x)).mono (by rintro e w' ⟨rfl,k⟩;exact ⟨rbool (by assumption),(S.callq k)⟩)) ?_;refine qy (.bool true) Ym (qs 11 (qs 11 (qs 11 (qs 11 (qs 11 (qs 11 (qs 11 (qs 11 (qs 11 (qs 11 (qy (.bool true) Yt (qy (.bool true) Ya (q_nil fun w19 S => n_seq (e_ret ?_))))))))))))));refine ret1 (v:=.bool true) rfl rfl ?_;exact ⟨rbool (by unfold staysL;simp_all),S.below⟩
end Go.Proofs.YtkjknlnhffmkkacGreat
