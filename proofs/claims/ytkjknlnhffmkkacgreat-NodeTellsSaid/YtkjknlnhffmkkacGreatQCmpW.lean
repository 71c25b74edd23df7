/- The library's comparisons, and the orders of what stays and of tallies: with the count of draws. -/
import Derived.Test.YtkjknlnhffmkkacGreatQPl
import Derived.Test.YtkjknlnhffmkkacGreatQEngW
import Derived.Test.YtkjknlnhffmkkacGreatQTy
namespace Go.Proofs.YtkjknlnhffmkkacGreat.D
open Go.RowKit
set_option linter.unusedVariables false
set_option maxRecDepth 100000 in
theorem isNaN_c (rd:Rd) (W:World) (hle:Rd.le rd (wrd W)) (a:Int) :
    Calls Tryz.prog 126 #[(.int .i64 a)] W (fun e w' => e = .returned (.bool false) ∧ Below W.heap.size W w'):=by
 have hmx:maxLen = 9223372036854775807:=rfl;have S:St [] W rd rd [] [] W:=St.start hle;refine e_enter (args:=[ni a]) 6 Tryz.func126 rfl rfl rfl ?_;refine e_seq (e_reg (ly (.bool false) S (y_as rfl) (l_nil (n_seq (e_seq (e_reg (ly (ni a) S (y_mv rfl) (ly (ni a) S (y_mv rfl) ?_))))))));have h1:a = a:=rfl;refine ly (.bool false) S (y_neF rfl rfl h1) (ly (.bool false) S (y_as rfl) (l_nil (n_seq (e_ret ?_))));refine ret1 (v:=.bool false) rfl rfl ?_;exact ⟨rfl,S.below⟩

set_option maxRecDepth 100000 in
theorem Compare_c (rd:Rd) (W:World) (hle:Rd.le rd (wrd W)) (a b:Int) :
    Calls Tryz.prog 116 #[(.int .i64 a),(.int .i64 b)] W (fun e w' => e = .returned (.int .i64 (cmpI a b)) ∧ Below W.heap.size W w'):=by
 have hmx:maxLen = 9223372036854775807:=rfl;have S:St [] W rd rd [] [] W:=St.start hle;refine e_enter (args:=[ni a,ni b]) 20 Tryz.func116 rfl rfl rfl ?_;refine e_seq (e_reg (ly (ni 0) S (y_as rfl) (l_nil (n_seq (e_seq (e_reg (ly (ni a) S (y_mv rfl) ?_)))))));refine l_c (en_f (vs:=[ni a]) (CF 126 _) rfl rfl) (isNaN_c _ _ S.le _) ?_;rintro e w1 ⟨rfl,k⟩;have S:=S.callq k;clear k;refine ckd (ly (.bool false) S (y_as rfl) (l_nil (n_seq (e_seq (e_reg (ly (ni b) S (y_mv rfl) ?_))))));refine l_c (en_f (vs:=[ni b]) (CF 126 _) rfl rfl) (isNaN_c _ _ S.le _) ?_;rintro e w2 ⟨rfl,k⟩;have S:=S.callq k;clear k;refine ckd (ly (.bool false) S (y_as rfl) (l_nil (n_seq (e_seq (e_seq (e_reg (ly (.bool false) S (y_mv rfl) (l_nil (n_seq (e_cF rfl (e_skip (n_seq (e_seq (e_seq (e_reg ?_)))))))))))))));refine ly (.bool false) S (y_mv rfl) (l_nil (n_seq (e_cF rfl (e_skip (n_seq (e_seq (e_seq (e_reg (ly (ni a) S (y_mv rfl) (ly (ni b) S (y_mv rfl) ?_))))))))));by_cases h3:a < b
 ·
  refine ly (.bool true) S (y_ltT rfl rfl h3) (l_nil (n_seq (e_cT rfl (e_seq (e_reg (ly (ni (-1)) S (y_as rfl) (l_nil (n_seq (e_ret ?_)))))))));refine ret1 (v:=ni (-1)) rfl rfl ?_;exact ⟨rint (by unfold cmpI;first | (rw [if_pos (by omega)]) | (rw [if_neg (by omega),if_pos (by omega)]) | (rw [if_neg (by omega),if_neg (by omega)])),S.below⟩
 refine ly (.bool false) S (y_ltF rfl rfl h3) (l_nil (n_seq (e_cF rfl (e_skip (n_seq (e_seq (e_seq (e_reg (ly (ni a) S (y_mv rfl) (ly (ni b) S (y_mv rfl) ?_))))))))));by_cases h4:b < a
 ·
  refine ly (.bool true) S (y_gtT rfl rfl h4) (l_nil (n_seq (e_cT rfl (e_seq (e_reg (ly (ni 1) S (y_as rfl) (l_nil (n_seq (e_ret ?_)))))))));refine ret1 (v:=ni 1) rfl rfl ?_;exact ⟨rint (by unfold cmpI;first | (rw [if_pos (by omega)]) | (rw [if_neg (by omega),if_pos (by omega)]) | (rw [if_neg (by omega),if_neg (by omega)])),S.below⟩
 refine ly (.bool false) S (y_gtF rfl rfl h4) (l_nil (n_seq (e_cF rfl (e_skip (n_seq (e_seq (e_reg (ly (ni 0) S (y_as rfl) (l_nil (n_seq (e_ret ?_)))))))))));refine ret1 (v:=ni 0) rfl rfl ?_;exact ⟨rint (by unfold cmpI;first | (rw [if_pos (by omega)]) | (rw [if_neg (by omega),if_pos (by omega)]) | (rw [if_neg (by omega),if_neg (by omega)])),S.below⟩

set_option maxRecDepth 100000 in
theorem Or_c (rd:Rd) (W:World) (hle:Rd.le rd (wrd W)) (v:Value) (l:List Int) (h:IntsR rd v l) :
    Calls Tryz.prog 115 #[v] W (fun e w' => e = .returned (.int .i64 (orI l)) ∧ Below W.heap.size W w'):=by
 obtain ⟨A1,c2,rfl,m3,m3'⟩:=h.val;have hmx:maxLen = 9223372036854775807:=rfl
 unfold maxLen at m3'
 have S:St [] W rd rd [] [] W:=St.start hle;refine e_enter (args:=[sc A1 l.length c2]) 18 Tryz.func115 rfl rfl rfl ?_;refine e_seq (e_reg (ly (ni 0) S (y_as rfl) (l_nil (n_seq (e_seq (e_reg (ly (ni 0) S (y_as rfl) (l_nil (n_seq (e_seq (e_seq (e_reg (ly (sc A1 l.length c2) S (y_mv rfl) (ly (ni (l.length:Int)) S (y_len U22 rfl rfl) (ly (ni 0) S (y_mv rfl) ?_)))))))))))))));refine l_nil (n_seq (e_blk ?_));refine et [(3,ni 0),(6,sc A1 l.length c2),(7,ni (l.length:Int)),(8,ni (0:Int))] (fun junk => ?_);refine e_loop (fun (gh_:Nat) ov w => match gh_ with | k => ∃ rd' junk,ov = [(3,ni 0),(6,sc A1 l.length c2),(7,ni (l.length:Int)),(8,ni (k:Int))] ++ junk ∧ St [] W rd rd' [] [] w ∧ Rd.le rd rd' ∧ k ≤ l.length ∧ orI l = orI (l.drop k)) (fun gh_ => match gh_ with | k => l.length - k) 0 ⟨_,junk,rfl,(S.rw' rfl rfl),(Rd.le_refl _),(by omega),rfl⟩ ?_;rintro k ov7 w5 ⟨rd4,junk,rfl,S,L6,hk,hq⟩;replace h:=fm h L6;refine e_seq (e_reg ?_);by_cases h8:(k:Int) < (l.length:Int)
 ·
  refine ly (.bool true) S (y_ltT rfl rfl h8) (l_nil (n_seq (e_seq (e_cT rfl (e_skip (n_seq (e_seq (e_blk (e_seq (e_reg ?_))))))))));obtain ⟨z9,hz10⟩:∃ z,(l)[k]? = some z:=nth_of (by first | assumption | omega);obtain ⟨p11,vs12,E13,nn14,r15,Y16⟩:=y_ia U22 SZ3 h hz10;clear nn14;have r15:vs12 = [ni z9]:=r15;subst r15;refine ly p11 S (Y16 rfl rfl (by first | rfl | omega)) (ly (ni z9) S (y_ld rfl (fun w S => ld_p1 S.le E13 rfl T3)) (ly (ni z9) S (y_as rfl) (l_nil (n_seq (e_seq (e_reg (ly (ni z9) S (y_mv rfl) (ly (ni 0) S (y_mv rfl) ?_))))))));by_cases hz:z9 = 0
  ·
   refine ly (.bool false) S (y_neF rfl rfl hz) (l_nil (n_seq (e_cF rfl (e_skip (n_blk (n_seq (e_reg (ly (ni ((k:Int) + 1)) S (y_add (r:=(k:Int) + 1) rfl rfl (w64 (by omega) (by omega))) (ly (ni ((k:Int) + 1)) S (y_mv rfl) (l_nil ?_))))))))));refine n_lp ⟨(k + 1),_,fk,⟨_,_,rfl,(S.tk 0 0 rfl rfl),(Rd.le_trans L6 (Rd.le_refl rd4)),(by omega),(by rw [hq,orI_drop hz10,if_pos hz])⟩,?_⟩
   show _ < _;dsimp only;omega
  refine ly (.bool true) S (y_neT rfl rfl hz) (l_nil (n_seq (e_cT rfl (e_seq (e_reg (ly (ni z9) S (y_mv rfl) (ly (ni z9) S (y_as rfl) (l_nil (n_seq (e_ret ?_))))))))));refine ret1 (v:=ni z9) rfl rfl ?_;refine ⟨rint ?_,S.below⟩;rw [hq,orI_drop hz10,if_neg hz]
 refine ly (.bool false) S (y_ltF rfl rfl h8) (l_nil (n_seq (e_seq (e_cF rfl (e_exit (x_seq (x_lp (x_hit (n_seq (e_seq (e_reg (ly (ni 0) S (y_mv rfl) (ly (ni 0) S (y_as rfl) (l_nil (n_seq ?_)))))))))))))));refine e_ret ?_;refine ret1 (v:=ni 0) rfl rfl ?_;refine ⟨rint ?_,S.below⟩;rw [hq,List.drop_eq_nil_of_le (by omega)];rfl

set_option maxRecDepth 100000 in
theorem Order_c (rd:Rd) (W:World) (hle:Rd.le rd (wrd W)) (v u:Value) (a b:Live) (h1:AggR LiveR rd v a) (h2:AggR LiveR rd u b) :
    Calls Tryz.prog 86 #[v,u] W (fun e w' => e = .returned (.int .i64 (ordL a b)) ∧ Below W.heap.size W w'):=by
 obtain ⟨vs1,h1e,h1⟩:=h1;subst h1e;have h1e:vs1 = [.bool a.set,ni a.key,ni a.item,ni a.author,ni a.seq]:=h1;subst h1e;clear h1;obtain ⟨vs2,h2e,h2⟩:=h2;subst h2e;have h2e:vs2 = [.bool b.set,ni b.key,ni b.item,ni b.author,ni b.seq]:=h2;subst h2e;clear h2;have hmx:maxLen = 9223372036854775807:=rfl;have S:St [] W rd rd [] [] W:=St.start hle;refine e_enter (args:=[.agg (kL a),.agg (kL b)]) 45 Tryz.func86 rfl rfl rfl ?_;refine e_seq (e_reg (l_bx (u:=.agg (kL a)) (cs:=(kL a)) S rfl rfl fun g3 w4 S => l_bx (u:=.agg (kL b)) (cs:=(kL b)) S rfl rfl fun g5 w6 S => ly (ni 0) S (y_as rfl) (l_nil (n_seq (e_seq (e_reg (ly (ni 0) S (y_as rfl) (l_nil (n_seq (e_seq (e_blk (e_seq (e_reg ?_)))))))))))));refine ly (pa g5 0) S (y_fb FA104_0 rfl rfl) ?_
 rcases Bool.eq_false_or_eq_true b.set with b7 | b7
 ·
  refine ly (.bool true) S (y_bv (y_ld rfl (fun w S => ld_b1 (i:=1) S rfl rfl T4)) b7) (ly (.bool true) S (y_mv rfl) (lg 9 (pa g3 0) S (y_fb FA104_0 rfl rfl) ?_))
  rcases Bool.eq_false_or_eq_true a.set with b8 | b8
  ·
   refine lg 9 (.bool true) S (y_bv (y_ld rfl (fun w S => ld_b1 (i:=0) S rfl rfl T4)) b8) (lg 9 (.bool false) S (y_not rfl rfl) (ly (.bool false) S (y_pT rfl rfl) (ly (.bool false) S (y_as rfl) (l_nil (n_seq (e_cF rfl (e_seq (e_reg (ly (pa g3 0) S (y_fb FA104_0 rfl rfl) (ly (.bool true) S (y_bv (y_ld rfl (fun w S => ld_b1 (i:=0) S rfl rfl T4)) b8) (ly (.bool true) S (y_mv rfl) (lg 17 (pa g5 0) S (y_fb FA104_0 rfl rfl) (lg 17 (.bool true) S (y_bv (y_ld rfl (fun w S => ld_b1 (i:=1) S rfl rfl T4)) b7) (lg 17 (.bool false) S (y_not rfl rfl) (ly (.bool false) S (y_pT rfl rfl) ?_)))))))))))))));refine ly (.bool false) S (y_as rfl) (l_nil (n_seq (e_cF rfl (e_skip (n_blk (n_seq (e_seq ?_)))))));refine e_a (fun w => St [] W rd rd [(g3,104,(kL a)),(g5,104,(kL b))] [] w) MX rfl ?_;have S:=S.drew;have sup9:=S.sup;have SC:=(S.tk 2 0 rfl rfl);refine tk (ni 0) 0 rfl rfl SC (y_mv rfl) (tk (pa g3 1) 1 rfl rfl SC (y_fb FA104_1 rfl rfl) (tk (ni a.key) 2 rfl rfl SC (y_ld rfl (fun w S => ld_b1 (i:=0) S rfl rfl T3)) (tk (pa g5 1) 3 rfl rfl SC (y_fb FA104_1 rfl rfl) (tk (ni b.key) 4 rfl rfl SC (y_ld rfl (fun w S => ld_b1 (i:=1) S rfl rfl T3)) (tk (pa g3 2) 6 rfl rfl SC (y_fb FA104_2 rfl rfl) (tk (ni a.item) 7 rfl rfl SC (y_ld rfl (fun w S => ld_b1 (i:=0) S rfl rfl T3)) (tk (pa g5 2) 8 rfl rfl SC (y_fb FA104_2 rfl rfl) (tk (ni b.item) 9 rfl rfl SC (y_ld rfl (fun w S => ld_b1 (i:=1) S rfl rfl T3)) (tk (pa g3 3) 11 rfl rfl SC (y_fb FA104_3 rfl rfl) (tk (ni a.author) 12 rfl rfl SC (y_ld rfl (fun w S => ld_b1 (i:=0) S rfl rfl T3)) (tk (pa g5 3) 13 rfl rfl SC (y_fb FA104_3 rfl rfl) (tk (ni b.author) 14 rfl rfl SC (y_ld rfl (fun w S => ld_b1 (i:=1) S rfl rfl T3)) (tk (pa g3 4) 16 rfl rfl SC (y_fb FA104_4 rfl rfl) (tk (ni a.seq) 17 rfl rfl SC (y_ld rfl (fun w S => ld_b1 (i:=0) S rfl rfl T3)) (tk (pa g5 4) 18 rfl rfl SC (y_fb FA104_4 rfl rfl) ?_)))))))))))))));refine tk (ni b.seq) 19 rfl rfl SC (y_ld rfl (fun w S => ld_b1 (i:=1) S rfl rfl T3)) ?_;refine a_all (rs:=[5]) (by kernel_rfl) rfl ?_;refine aa_cons rfl ?_ ?_
   ·
    refine l_c (en_f (vs:=[ni a.key,ni b.key]) (CF 116 _) rfl rfl) (Compare_c _ _ S.le _ _) ?_;rintro e w10 ⟨rfl,k⟩;have S:=S.callq k;clear k;refine ckd (l_nil ?_);have SC:=(S.tk 2 0 rfl rfl);refine n_lp (ak SC ?_);refine a_all (rs:=[10]) (by kernel_rfl) rfl ?_;refine aa_cons rfl ?_ ?_
    ·
     refine l_c (en_f (vs:=[ni a.item,ni b.item]) (CF 116 _) rfl rfl) (Compare_c _ _ S.le _ _) ?_;rintro e w11 ⟨rfl,k⟩;have S:=S.callq k;clear k;refine ckd (l_nil ?_);have SC:=(S.tk 2 0 rfl rfl);refine n_lp (ak SC ?_);refine a_all (rs:=[15]) (by kernel_rfl) rfl ?_;refine aa_cons rfl ?_ ?_
     ·
      refine l_c (en_f (vs:=[ni a.author,ni b.author]) (CF 116 _) rfl rfl) (Compare_c _ _ S.le _ _) ?_;rintro e w12 ⟨rfl,k⟩;have S:=S.callq k;clear k;refine ckd (l_nil ?_);have SC:=(S.tk 2 0 rfl rfl);refine n_lp (ak SC ?_);refine a_all (rs:=[20]) (by kernel_rfl) rfl ?_;refine aa_cons rfl ?_ ?_
      ·
       refine l_c (en_f (vs:=[ni a.seq,ni b.seq]) (CF 116 _) rfl rfl) (Compare_c _ _ S.le _ _) ?_;rintro e w13 ⟨rfl,k⟩;have S:=S.callq k;clear k;refine ckd (l_nil ?_);have SC:=(S.tk 2 0 rfl rfl);refine n_lp (ak SC ?_);refine a_all (rs:=[21]) (by kernel_rfl) rfl ?_;refine aa_cons rfl ?_ ?_
       ·
        refine l_bs (ps:=[(0,ni 0),(1,ni (cmpI a.key b.key)),(2,ni (cmpI a.item b.item)),(3,ni (cmpI a.author b.author)),(4,ni (cmpI a.seq b.seq))]) (cs:=#[ni 0,ni (cmpI a.key b.key),ni (cmpI a.item b.item),ni (cmpI a.author b.author),ni (cmpI a.seq b.seq)]) S U22 SZ3 Z3 rfl rfl rfl (by kernel_rfl) fun g14 w15 S => ?_
        obtain ⟨rd16,S,L17,Fz18⟩:=S.frz' (i:=2) rfl rfl;have F19:=Fz18 (size:=1) (R:=IntR) (xs:=([0,cmpI a.key b.key,cmpI a.item b.item,cmpI a.author b.author,cmpI a.seq b.seq]:List Int)) (n:=5) (c:=5) rfl (Nat.le_refl _) (by simp [maxLen]) (rowInts _ ([0,cmpI a.key b.key,cmpI a.item b.item,cmpI a.author b.author,cmpI a.seq b.seq]:List Int));clear Fz18;refine l_nil ?_;have SC:=((S.tk 2 0 rfl rfl).weak sup9 L17);refine n_lp (ak SC ?_);refine a_all (rs:=[22]) (by kernel_rfl) rfl ?_;refine aa_cons rfl ?_ ?_
        ·
         refine l_c (en_f (vs:=[sb g14 0 5 5]) (CF 115 _) rfl rfl) (Or_c _ _ S.le _ _ F19) ?_;rintro e w20 ⟨rfl,k⟩;have S:=S.callq k;clear k;refine ckd (l_nil ?_);have SC:=((S.tk 2 0 rfl rfl).weak sup9 L17);refine n_lp (ak SC ?_);refine tk (ni (orI ([0,cmpI a.key b.key,cmpI a.item b.item,cmpI a.author b.author,cmpI a.seq b.seq]:List Int))) 23 rfl rfl SC (y_as rfl) ?_;refine a_done (by kernel_rfl) ?_;clear SC;refine n_seq (e_ret ?_);refine ret1 (v:=ni (orI ([0,cmpI a.key b.key,cmpI a.item b.item,cmpI a.author b.author,cmpI a.seq b.seq]:List Int))) rfl rfl ?_;refine ⟨rint ?_,S.below⟩
         unfold ordL;simp [b7,b8]
        exact aa_nil
       exact aa_nil
      exact aa_nil
     exact aa_nil
    exact aa_nil
   exact aa_nil
  refine lg 9 (.bool false) S (y_bv (y_ld rfl (fun w S => ld_b1 (i:=0) S rfl rfl T4)) b8) (lg 9 (.bool true) S (y_not rfl rfl) (ly (.bool true) S (y_pT rfl rfl) (ly (.bool true) S (y_as rfl) (l_nil (n_seq (e_cT rfl (e_reg (ly (ni (-1)) S (y_as rfl) (l_nil (n_blk (n_seq (e_seq ?_))))))))))));refine e_a (fun w => St [] W rd rd [(g3,104,(kL a)),(g5,104,(kL b))] [] w) MX rfl ?_;have S:=S.drew;have sup21:=S.sup;have SC:=(S.tk 2 0 rfl rfl);refine tk (ni (-1)) 0 rfl rfl SC (y_mv rfl) (tk (pa g3 1) 1 rfl rfl SC (y_fb FA104_1 rfl rfl) (tk (ni a.key) 2 rfl rfl SC (y_ld rfl (fun w S => ld_b1 (i:=0) S rfl rfl T3)) (tk (pa g5 1) 3 rfl rfl SC (y_fb FA104_1 rfl rfl) (tk (ni b.key) 4 rfl rfl SC (y_ld rfl (fun w S => ld_b1 (i:=1) S rfl rfl T3)) (tk (pa g3 2) 6 rfl rfl SC (y_fb FA104_2 rfl rfl) (tk (ni a.item) 7 rfl rfl SC (y_ld rfl (fun w S => ld_b1 (i:=0) S rfl rfl T3)) (tk (pa g5 2) 8 rfl rfl SC (y_fb FA104_2 rfl rfl) (tk (ni b.item) 9 rfl rfl SC (y_ld rfl (fun w S => ld_b1 (i:=1) S rfl rfl T3)) (tk (pa g3 3) 11 rfl rfl SC (y_fb FA104_3 rfl rfl) (tk (ni a.author) 12 rfl rfl SC (y_ld rfl (fun w S => ld_b1 (i:=0) S rfl rfl T3)) (tk (pa g5 3) 13 rfl rfl SC (y_fb FA104_3 rfl rfl) (tk (ni b.author) 14 rfl rfl SC (y_ld rfl (fun w S => ld_b1 (i:=1) S rfl rfl T3)) (tk (pa g3 4) 16 rfl rfl SC (y_fb FA104_4 rfl rfl) (tk (ni a.seq) 17 rfl rfl SC (y_ld rfl (fun w S => ld_b1 (i:=0) S rfl rfl T3)) (tk (pa g5 4) 18 rfl rfl SC (y_fb FA104_4 rfl rfl) ?_)))))))))))))));refine tk (ni b.seq) 19 rfl rfl SC (y_ld rfl (fun w S => ld_b1 (i:=1) S rfl rfl T3)) ?_;refine a_all (rs:=[5]) (by kernel_rfl) rfl ?_;refine aa_cons rfl ?_ ?_
  ·
   refine l_c (en_f (vs:=[ni a.key,ni b.key]) (CF 116 _) rfl rfl) (Compare_c _ _ S.le _ _) ?_;rintro e w22 ⟨rfl,k⟩;have S:=S.callq k;clear k;refine ckd (l_nil ?_);have SC:=(S.tk 2 0 rfl rfl);refine n_lp (ak SC ?_);refine a_all (rs:=[10]) (by kernel_rfl) rfl ?_;refine aa_cons rfl ?_ ?_
   ·
    refine l_c (en_f (vs:=[ni a.item,ni b.item]) (CF 116 _) rfl rfl) (Compare_c _ _ S.le _ _) ?_;rintro e w23 ⟨rfl,k⟩;have S:=S.callq k;clear k;refine ckd (l_nil ?_);have SC:=(S.tk 2 0 rfl rfl);refine n_lp (ak SC ?_);refine a_all (rs:=[15]) (by kernel_rfl) rfl ?_;refine aa_cons rfl ?_ ?_
    ·
     refine l_c (en_f (vs:=[ni a.author,ni b.author]) (CF 116 _) rfl rfl) (Compare_c _ _ S.le _ _) ?_;rintro e w24 ⟨rfl,k⟩;have S:=S.callq k;clear k;refine ckd (l_nil ?_);have SC:=(S.tk 2 0 rfl rfl);refine n_lp (ak SC ?_);refine a_all (rs:=[20]) (by kernel_rfl) rfl ?_;refine aa_cons rfl ?_ ?_
     ·
      refine l_c (en_f (vs:=[ni a.seq,ni b.seq]) (CF 116 _) rfl rfl) (Compare_c _ _ S.le _ _) ?_;rintro e w25 ⟨rfl,k⟩;have S:=S.callq k;clear k;refine ckd (l_nil ?_);have SC:=(S.tk 2 0 rfl rfl);refine n_lp (ak SC ?_);refine a_all (rs:=[21]) (by kernel_rfl) rfl ?_;refine aa_cons rfl ?_ ?_
      ·
       refine l_bs (ps:=[(0,ni (-1)),(1,ni (cmpI a.key b.key)),(2,ni (cmpI a.item b.item)),(3,ni (cmpI a.author b.author)),(4,ni (cmpI a.seq b.seq))]) (cs:=#[ni (-1),ni (cmpI a.key b.key),ni (cmpI a.item b.item),ni (cmpI a.author b.author),ni (cmpI a.seq b.seq)]) S U22 SZ3 Z3 rfl rfl rfl (by kernel_rfl) fun g26 w27 S => ?_
       obtain ⟨rd28,S,L29,Fz30⟩:=S.frz' (i:=2) rfl rfl;have F31:=Fz30 (size:=1) (R:=IntR) (xs:=([(-1),cmpI a.key b.key,cmpI a.item b.item,cmpI a.author b.author,cmpI a.seq b.seq]:List Int)) (n:=5) (c:=5) rfl (Nat.le_refl _) (by simp [maxLen]) (rowInts _ ([(-1),cmpI a.key b.key,cmpI a.item b.item,cmpI a.author b.author,cmpI a.seq b.seq]:List Int));clear Fz30;refine l_nil ?_;have SC:=((S.tk 2 0 rfl rfl).weak sup21 L29);refine n_lp (ak SC ?_);refine a_all (rs:=[22]) (by kernel_rfl) rfl ?_;refine aa_cons rfl ?_ ?_
       ·
        refine l_c (en_f (vs:=[sb g26 0 5 5]) (CF 115 _) rfl rfl) (Or_c _ _ S.le _ _ F31) ?_;rintro e w32 ⟨rfl,k⟩;have S:=S.callq k;clear k;refine ckd (l_nil ?_);have SC:=((S.tk 2 0 rfl rfl).weak sup21 L29);refine n_lp (ak SC ?_);refine tk (ni (orI ([(-1),cmpI a.key b.key,cmpI a.item b.item,cmpI a.author b.author,cmpI a.seq b.seq]:List Int))) 23 rfl rfl SC (y_as rfl) ?_;refine a_done (by kernel_rfl) ?_;clear SC;refine n_seq (e_ret ?_);refine ret1 (v:=ni (orI ([(-1),cmpI a.key b.key,cmpI a.item b.item,cmpI a.author b.author,cmpI a.seq b.seq]:List Int))) rfl rfl ?_;refine ⟨rint ?_,S.below⟩
        unfold ordL;simp [b7,b8]
       exact aa_nil
      exact aa_nil
     exact aa_nil
    exact aa_nil
   exact aa_nil
  exact aa_nil
 refine ly (.bool false) S (y_bv (y_ld rfl (fun w S => ld_b1 (i:=1) S rfl rfl T4)) b7) (ly (.bool false) S (y_mv rfl) (ls 9 (ls 9 (ls 9 (ly (.bool false) S (y_pF rfl rfl) (ly (.bool false) S (y_as rfl) (l_nil (n_seq (e_cF rfl (e_seq (e_reg (ly (pa g3 0) S (y_fb FA104_0 rfl rfl) ?_))))))))))))
 rcases Bool.eq_false_or_eq_true a.set with b33 | b33
 ·
  refine ly (.bool true) S (y_bv (y_ld rfl (fun w S => ld_b1 (i:=0) S rfl rfl T4)) b33) (ly (.bool true) S (y_mv rfl) (lg 17 (pa g5 0) S (y_fb FA104_0 rfl rfl) (lg 17 (.bool false) S (y_bv (y_ld rfl (fun w S => ld_b1 (i:=1) S rfl rfl T4)) b7) (lg 17 (.bool true) S (y_not rfl rfl) (ly (.bool true) S (y_pT rfl rfl) (ly (.bool true) S (y_as rfl) (l_nil (n_seq (e_cT rfl (e_reg (ly (ni 1) S (y_as rfl) (l_nil (n_blk (n_seq (e_seq ?_)))))))))))))));refine e_a (fun w => St [] W rd rd [(g3,104,(kL a)),(g5,104,(kL b))] [] w) MX rfl ?_;have S:=S.drew;have sup34:=S.sup;have SC:=(S.tk 2 0 rfl rfl);refine tk (ni 1) 0 rfl rfl SC (y_mv rfl) (tk (pa g3 1) 1 rfl rfl SC (y_fb FA104_1 rfl rfl) (tk (ni a.key) 2 rfl rfl SC (y_ld rfl (fun w S => ld_b1 (i:=0) S rfl rfl T3)) (tk (pa g5 1) 3 rfl rfl SC (y_fb FA104_1 rfl rfl) (tk (ni b.key) 4 rfl rfl SC (y_ld rfl (fun w S => ld_b1 (i:=1) S rfl rfl T3)) (tk (pa g3 2) 6 rfl rfl SC (y_fb FA104_2 rfl rfl) (tk (ni a.item) 7 rfl rfl SC (y_ld rfl (fun w S => ld_b1 (i:=0) S rfl rfl T3)) (tk (pa g5 2) 8 rfl rfl SC (y_fb FA104_2 rfl rfl) (tk (ni b.item) 9 rfl rfl SC (y_ld rfl (fun w S => ld_b1 (i:=1) S rfl rfl T3)) (tk (pa g3 3) 11 rfl rfl SC (y_fb FA104_3 rfl rfl) (tk (ni a.author) 12 rfl rfl SC (y_ld rfl (fun w S => ld_b1 (i:=0) S rfl rfl T3)) (tk (pa g5 3) 13 rfl rfl SC (y_fb FA104_3 rfl rfl) (tk (ni b.author) 14 rfl rfl SC (y_ld rfl (fun w S => ld_b1 (i:=1) S rfl rfl T3)) (tk (pa g3 4) 16 rfl rfl SC (y_fb FA104_4 rfl rfl) (tk (ni a.seq) 17 rfl rfl SC (y_ld rfl (fun w S => ld_b1 (i:=0) S rfl rfl T3)) (tk (pa g5 4) 18 rfl rfl SC (y_fb FA104_4 rfl rfl) ?_)))))))))))))));refine tk (ni b.seq) 19 rfl rfl SC (y_ld rfl (fun w S => ld_b1 (i:=1) S rfl rfl T3)) ?_;refine a_all (rs:=[5]) (by kernel_rfl) rfl ?_;refine aa_cons rfl ?_ ?_
  ·
   refine l_c (en_f (vs:=[ni a.key,ni b.key]) (CF 116 _) rfl rfl) (Compare_c _ _ S.le _ _) ?_;rintro e w35 ⟨rfl,k⟩;have S:=S.callq k;clear k;refine ckd (l_nil ?_);have SC:=(S.tk 2 0 rfl rfl);refine n_lp (ak SC ?_);refine a_all (rs:=[10]) (by kernel_rfl) rfl ?_;refine aa_cons rfl ?_ ?_
   ·
    refine l_c (en_f (vs:=[ni a.item,ni b.item]) (CF 116 _) rfl rfl) (Compare_c _ _ S.le _ _) ?_;rintro e w36 ⟨rfl,k⟩;have S:=S.callq k;clear k;refine ckd (l_nil ?_);have SC:=(S.tk 2 0 rfl rfl);refine n_lp (ak SC ?_);refine a_all (rs:=[15]) (by kernel_rfl) rfl ?_;refine aa_cons rfl ?_ ?_
    ·
     refine l_c (en_f (vs:=[ni a.author,ni b.author]) (CF 116 _) rfl rfl) (Compare_c _ _ S.le _ _) ?_;rintro e w37 ⟨rfl,k⟩;have S:=S.callq k;clear k;refine ckd (l_nil ?_);have SC:=(S.tk 2 0 rfl rfl);refine n_lp (ak SC ?_);refine a_all (rs:=[20]) (by kernel_rfl) rfl ?_;refine aa_cons rfl ?_ ?_
     ·
      refine l_c (en_f (vs:=[ni a.seq,ni b.seq]) (CF 116 _) rfl rfl) (Compare_c _ _ S.le _ _) ?_;rintro e w38 ⟨rfl,k⟩;have S:=S.callq k;clear k;refine ckd (l_nil ?_);have SC:=(S.tk 2 0 rfl rfl);refine n_lp (ak SC ?_);refine a_all (rs:=[21]) (by kernel_rfl) rfl ?_;refine aa_cons rfl ?_ ?_
      ·
       refine l_bs (ps:=[(0,ni 1),(1,ni (cmpI a.key b.key)),(2,ni (cmpI a.item b.item)),(3,ni (cmpI a.author b.author)),(4,ni (cmpI a.seq b.seq))]) (cs:=#[ni 1,ni (cmpI a.key b.key),ni (cmpI a.item b.item),ni (cmpI a.author b.author),ni (cmpI a.seq b.seq)]) S U22 SZ3 Z3 rfl rfl rfl (by kernel_rfl) fun g39 w40 S => ?_
       obtain ⟨rd41,S,L42,Fz43⟩:=S.frz' (i:=2) rfl rfl;have F44:=Fz43 (size:=1) (R:=IntR) (xs:=([1,cmpI a.key b.key,cmpI a.item b.item,cmpI a.author b.author,cmpI a.seq b.seq]:List Int)) (n:=5) (c:=5) rfl (Nat.le_refl _) (by simp [maxLen]) (rowInts _ ([1,cmpI a.key b.key,cmpI a.item b.item,cmpI a.author b.author,cmpI a.seq b.seq]:List Int));clear Fz43;refine l_nil ?_;have SC:=((S.tk 2 0 rfl rfl).weak sup34 L42);refine n_lp (ak SC ?_);refine a_all (rs:=[22]) (by kernel_rfl) rfl ?_;refine aa_cons rfl ?_ ?_
       ·
        refine l_c (en_f (vs:=[sb g39 0 5 5]) (CF 115 _) rfl rfl) (Or_c _ _ S.le _ _ F44) ?_;rintro e w45 ⟨rfl,k⟩;have S:=S.callq k;clear k;refine ckd (l_nil ?_);have SC:=((S.tk 2 0 rfl rfl).weak sup34 L42);refine n_lp (ak SC ?_);refine tk (ni (orI ([1,cmpI a.key b.key,cmpI a.item b.item,cmpI a.author b.author,cmpI a.seq b.seq]:List Int))) 23 rfl rfl SC (y_as rfl) ?_;refine a_done (by kernel_rfl) ?_;clear SC;refine n_seq (e_ret ?_);refine ret1 (v:=ni (orI ([1,cmpI a.key b.key,cmpI a.item b.item,cmpI a.author b.author,cmpI a.seq b.seq]:List Int))) rfl rfl ?_;refine ⟨rint ?_,S.below⟩
        unfold ordL;simp [b7,b33]
       exact aa_nil
      exact aa_nil
     exact aa_nil
    exact aa_nil
   exact aa_nil
  exact aa_nil
 refine ly (.bool false) S (y_bv (y_ld rfl (fun w S => ld_b1 (i:=0) S rfl rfl T4)) b33) (ly (.bool false) S (y_mv rfl) (ls 17 (ls 17 (ls 17 (ly (.bool false) S (y_pF rfl rfl) (ly (.bool false) S (y_as rfl) (l_nil (n_seq (e_cF rfl (e_skip (n_blk (n_seq (e_seq ?_)))))))))))));refine e_a (fun w => St [] W rd rd [(g3,104,(kL a)),(g5,104,(kL b))] [] w) MX rfl ?_;have S:=S.drew;have sup46:=S.sup;have SC:=(S.tk 2 0 rfl rfl);refine tk (ni 0) 0 rfl rfl SC (y_mv rfl) (tk (pa g3 1) 1 rfl rfl SC (y_fb FA104_1 rfl rfl) (tk (ni a.key) 2 rfl rfl SC (y_ld rfl (fun w S => ld_b1 (i:=0) S rfl rfl T3)) (tk (pa g5 1) 3 rfl rfl SC (y_fb FA104_1 rfl rfl) (tk (ni b.key) 4 rfl rfl SC (y_ld rfl (fun w S => ld_b1 (i:=1) S rfl rfl T3)) (tk (pa g3 2) 6 rfl rfl SC (y_fb FA104_2 rfl rfl) (tk (ni a.item) 7 rfl rfl SC (y_ld rfl (fun w S => ld_b1 (i:=0) S rfl rfl T3)) (tk (pa g5 2) 8 rfl rfl SC (y_fb FA104_2 rfl rfl) (tk (ni b.item) 9 rfl rfl SC (y_ld rfl (fun w S => ld_b1 (i:=1) S rfl rfl T3)) (tk (pa g3 3) 11 rfl rfl SC (y_fb FA104_3 rfl rfl) (tk (ni a.author) 12 rfl rfl SC (y_ld rfl (fun w S => ld_b1 (i:=0) S rfl rfl T3)) (tk (pa g5 3) 13 rfl rfl SC (y_fb FA104_3 rfl rfl) (tk (ni b.author) 14 rfl rfl SC (y_ld rfl (fun w S => ld_b1 (i:=1) S rfl rfl T3)) (tk (pa g3 4) 16 rfl rfl SC (y_fb FA104_4 rfl rfl) (tk (ni a.seq) 17 rfl rfl SC (y_ld rfl (fun w S => ld_b1 (i:=0) S rfl rfl T3)) (tk (pa g5 4) 18 rfl rfl SC (y_fb FA104_4 rfl rfl) ?_)))))))))))))));refine tk (ni b.seq) 19 rfl rfl SC (y_ld rfl (fun w S => ld_b1 (i:=1) S rfl rfl T3)) ?_;refine a_all (rs:=[5]) (by kernel_rfl) rfl ?_;refine aa_cons rfl ?_ ?_
 ·
  refine l_c (en_f (vs:=[ni a.key,ni b.key]) (CF 116 _) rfl rfl) (Compare_c _ _ S.le _ _) ?_;rintro e w47 ⟨rfl,k⟩;have S:=S.callq k;clear k;refine ckd (l_nil ?_);have SC:=(S.tk 2 0 rfl rfl);refine n_lp (ak SC ?_);refine a_all (rs:=[10]) (by kernel_rfl) rfl ?_;refine aa_cons rfl ?_ ?_
  ·
   refine l_c (en_f (vs:=[ni a.item,ni b.item]) (CF 116 _) rfl rfl) (Compare_c _ _ S.le _ _) ?_;rintro e w48 ⟨rfl,k⟩;have S:=S.callq k;clear k;refine ckd (l_nil ?_);have SC:=(S.tk 2 0 rfl rfl);refine n_lp (ak SC ?_);refine a_all (rs:=[15]) (by kernel_rfl) rfl ?_;refine aa_cons rfl ?_ ?_
   ·
    refine l_c (en_f (vs:=[ni a.author,ni b.author]) (CF 116 _) rfl rfl) (Compare_c _ _ S.le _ _) ?_;rintro e w49 ⟨rfl,k⟩;have S:=S.callq k;clear k;refine ckd (l_nil ?_);have SC:=(S.tk 2 0 rfl rfl);refine n_lp (ak SC ?_);refine a_all (rs:=[20]) (by kernel_rfl) rfl ?_;refine aa_cons rfl ?_ ?_
    ·
     refine l_c (en_f (vs:=[ni a.seq,ni b.seq]) (CF 116 _) rfl rfl) (Compare_c _ _ S.le _ _) ?_;rintro e w50 ⟨rfl,k⟩;have S:=S.callq k;clear k;refine ckd (l_nil ?_);have SC:=(S.tk 2 0 rfl rfl);refine n_lp (ak SC ?_);refine a_all (rs:=[21]) (by kernel_rfl) rfl ?_;refine aa_cons rfl ?_ ?_
     ·
      refine l_bs (ps:=[(0,ni 0),(1,ni (cmpI a.key b.key)),(2,ni (cmpI a.item b.item)),(3,ni (cmpI a.author b.author)),(4,ni (cmpI a.seq b.seq))]) (cs:=#[ni 0,ni (cmpI a.key b.key),ni (cmpI a.item b.item),ni (cmpI a.author b.author),ni (cmpI a.seq b.seq)]) S U22 SZ3 Z3 rfl rfl rfl (by kernel_rfl) fun g51 w52 S => ?_
      obtain ⟨rd53,S,L54,Fz55⟩:=S.frz' (i:=2) rfl rfl;have F56:=Fz55 (size:=1) (R:=IntR) (xs:=([0,cmpI a.key b.key,cmpI a.item b.item,cmpI a.author b.author,cmpI a.seq b.seq]:List Int)) (n:=5) (c:=5) rfl (Nat.le_refl _) (by simp [maxLen]) (rowInts _ ([0,cmpI a.key b.key,cmpI a.item b.item,cmpI a.author b.author,cmpI a.seq b.seq]:List Int));clear Fz55;refine l_nil ?_;have SC:=((S.tk 2 0 rfl rfl).weak sup46 L54);refine n_lp (ak SC ?_);refine a_all (rs:=[22]) (by kernel_rfl) rfl ?_;refine aa_cons rfl ?_ ?_
      ·
       refine l_c (en_f (vs:=[sb g51 0 5 5]) (CF 115 _) rfl rfl) (Or_c _ _ S.le _ _ F56) ?_;rintro e w57 ⟨rfl,k⟩;have S:=S.callq k;clear k;refine ckd (l_nil ?_);have SC:=((S.tk 2 0 rfl rfl).weak sup46 L54);refine n_lp (ak SC ?_);refine tk (ni (orI ([0,cmpI a.key b.key,cmpI a.item b.item,cmpI a.author b.author,cmpI a.seq b.seq]:List Int))) 23 rfl rfl SC (y_as rfl) ?_;refine a_done (by kernel_rfl) ?_;clear SC;refine n_seq (e_ret ?_);refine ret1 (v:=ni (orI ([0,cmpI a.key b.key,cmpI a.item b.item,cmpI a.author b.author,cmpI a.seq b.seq]:List Int))) rfl rfl ?_;refine ⟨rint ?_,S.below⟩
       unfold ordL;simp [b7,b33]
      exact aa_nil
     exact aa_nil
    exact aa_nil
   exact aa_nil
  exact aa_nil
 exact aa_nil

set_option maxRecDepth 100000 in
theorem Tally_c (rd:Rd) (W:World) (hle:Rd.le rd (wrd W)) (v u:Value) (a b:Tally) (h1:AggR TallyR rd v a) (h2:AggR TallyR rd u b) :
    Calls Tryz.prog 87 #[v,u] W (fun e w' => e = .returned (.int .i64 (ordT a b)) ∧ Below W.heap.size W w'):=by
 obtain ⟨vs1,h1e,h1⟩:=h1;subst h1e;have h1e:vs1 = [ni a.key,ni a.author,ni a.sum]:=h1;subst h1e;clear h1;obtain ⟨vs2,h2e,h2⟩:=h2;subst h2e;have h2e:vs2 = [ni b.key,ni b.author,ni b.sum]:=h2;subst h2e;clear h2;have hmx:maxLen = 9223372036854775807:=rfl;have S:St [] W rd rd [] [] W:=St.start hle;refine e_enter (args:=[.agg #[ni a.key,ni a.author,ni a.sum],.agg #[ni b.key,ni b.author,ni b.sum]]) 17 Tryz.func87 rfl rfl rfl ?_;refine e_seq (e_reg (l_bx (u:=.agg #[ni a.key,ni a.author,ni a.sum]) (cs:=#[ni a.key,ni a.author,ni a.sum]) S rfl rfl fun g3 w4 S => l_bx (u:=.agg #[ni b.key,ni b.author,ni b.sum]) (cs:=#[ni b.key,ni b.author,ni b.sum]) S rfl rfl fun g5 w6 S => ly (ni 0) S (y_as rfl) (l_nil (n_seq (e_seq ?_)))));refine e_a (fun w => St [] W rd rd [(g3,106,#[ni a.key,ni a.author,ni a.sum]),(g5,106,#[ni b.key,ni b.author,ni b.sum])] [] w) MX rfl ?_;have S:=S.drew;have sup7:=S.sup;have SC:=(S.tk 2 0 rfl rfl);refine tk (pa g3 0) 0 rfl rfl SC (y_fb FA106_0 rfl rfl) (tk (ni a.key) 1 rfl rfl SC (y_ld rfl (fun w S => ld_b1 (i:=0) S rfl rfl T3)) (tk (pa g5 0) 2 rfl rfl SC (y_fb FA106_0 rfl rfl) (tk (ni b.key) 3 rfl rfl SC (y_ld rfl (fun w S => ld_b1 (i:=1) S rfl rfl T3)) (tk (pa g3 1) 5 rfl rfl SC (y_fb FA106_1 rfl rfl) (tk (ni a.author) 6 rfl rfl SC (y_ld rfl (fun w S => ld_b1 (i:=0) S rfl rfl T3)) (tk (pa g5 1) 7 rfl rfl SC (y_fb FA106_1 rfl rfl) (tk (ni b.author) 8 rfl rfl SC (y_ld rfl (fun w S => ld_b1 (i:=1) S rfl rfl T3)) ?_)))))));refine a_all (rs:=[4]) (by kernel_rfl) rfl ?_;refine aa_cons rfl ?_ ?_
 ·
  refine l_c (en_f (vs:=[ni a.key,ni b.key]) (CF 116 _) rfl rfl) (Compare_c _ _ S.le _ _) ?_;rintro e w8 ⟨rfl,k⟩;have S:=S.callq k;clear k;refine ckd (l_nil ?_);have SC:=(S.tk 2 0 rfl rfl);refine n_lp (ak SC ?_);refine a_all (rs:=[9]) (by kernel_rfl) rfl ?_;refine aa_cons rfl ?_ ?_
  ·
   refine l_c (en_f (vs:=[ni a.author,ni b.author]) (CF 116 _) rfl rfl) (Compare_c _ _ S.le _ _) ?_;rintro e w9 ⟨rfl,k⟩;have S:=S.callq k;clear k;refine ckd (l_nil ?_);have SC:=(S.tk 2 0 rfl rfl);refine n_lp (ak SC ?_);refine a_all (rs:=[10]) (by kernel_rfl) rfl ?_;refine aa_cons rfl ?_ ?_
   ·
    refine l_bs (ps:=[(0,ni (cmpI a.key b.key)),(1,ni (cmpI a.author b.author))]) (cs:=#[ni (cmpI a.key b.key),ni (cmpI a.author b.author)]) S U22 SZ3 Z3 rfl rfl rfl (by kernel_rfl) fun g10 w11 S => ?_
    obtain ⟨rd12,S,L13,Fz14⟩:=S.frz' (i:=2) rfl rfl;have F15:=Fz14 (size:=1) (R:=IntR) (xs:=([cmpI a.key b.key,cmpI a.author b.author]:List Int)) (n:=2) (c:=2) rfl (Nat.le_refl _) (by simp [maxLen]) (rowInts _ ([cmpI a.key b.key,cmpI a.author b.author]:List Int));clear Fz14;refine l_nil ?_;have SC:=((S.tk 2 0 rfl rfl).weak sup7 L13);refine n_lp (ak SC ?_);refine a_all (rs:=[11]) (by kernel_rfl) rfl ?_;refine aa_cons rfl ?_ ?_
    ·
     refine l_c (en_f (vs:=[sb g10 0 2 2]) (CF 115 _) rfl rfl) (Or_c _ _ S.le _ _ F15) ?_;rintro e w16 ⟨rfl,k⟩;have S:=S.callq k;clear k;refine ckd (l_nil ?_);have SC:=((S.tk 2 0 rfl rfl).weak sup7 L13);refine n_lp (ak SC ?_);refine tk (ni (orI ([cmpI a.key b.key,cmpI a.author b.author]:List Int))) 12 rfl rfl SC (y_as rfl) ?_;refine a_done (by kernel_rfl) ?_;clear SC;refine n_seq (e_ret ?_);refine ret1 (v:=ni (orI ([cmpI a.key b.key,cmpI a.author b.author]:List Int))) rfl rfl ?_;exact ⟨rfl,S.below⟩
    exact aa_nil
   exact aa_nil
  exact aa_nil
 exact aa_nil
end Go.Proofs.YtkjknlnhffmkkacGreat.D
