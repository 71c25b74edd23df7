/- The document's answer on what stays: Ahead, Less, Sets, Ends, has, Put. -/
import Derived.Test.YtkjknlnhffmkkacGreatQPl
import Derived.Test.YtkjknlnhffmkkacGreatQUpdate
import Derived.Test.YtkjknlnhffmkkacGreatQEg
import Derived.Test.YtkjknlnhffmkkacGreatQEqs
import Derived.Test.YtkjknlnhffmkkacGreatQTy
namespace Go.Proofs.YtkjknlnhffmkkacGreat
open Go.RowKit
set_option linter.unusedVariables false
theorem ahead_iff {a b:Live}:aheadL a b = true ↔ ordL a b < 0:=by unfold aheadL;exact decide_eq_true_iff
theorem ahead_set {a b:Live} (h:a.set ≠ b.set):aheadL a b = b.set:=by
  unfold aheadL
  rw [ordL_code]
  cases ha:a.set <;> cases hb:b.set
  · exact absurd (ha.trans hb.symm) h
  · refine decide_eq_true ?_;unfold codeL;rw [ha,hb,lexI_cons];simp
  · refine decide_eq_false fun q => ?_;unfold codeL at q;rw [ha,hb,lexI_cons] at q;simp at q
  · exact absurd (ha.trans hb.symm) h
theorem ahead_lex {a b:Live} (h:a.set = b.set):aheadL a b = decide (a.key < b.key ∨ (a.key = b.key ∧ (a.item < b.item ∨ (a.item = b.item ∧ (a.author < b.author ∨ (a.author = b.author ∧ a.seq < b.seq)))))):=by
  unfold aheadL
  rw [ordL_code]
  unfold codeL
  rw [h]
  refine decide_eq_decide.2 ?_
  rw [lexI_cons,lexI_cons,lexI_cons,lexI_cons,lexI_cons]
  simp [lexI]
theorem ahead_all {a b:Live} (h:a.set = b.set) (he:∀ p ∈ ([⟨a.key,b.key⟩,⟨a.item,b.item⟩,⟨a.author,b.author⟩,⟨a.seq,b.seq⟩]:List Pair),p.key = p.sum):aheadL a b = false:=by
  rw [ahead_lex h]
  have h1:=he ⟨a.key,b.key⟩ (by simp);have h2:=he ⟨a.item,b.item⟩ (by simp);have h3:=he ⟨a.author,b.author⟩ (by simp);have h4:=he ⟨a.seq,b.seq⟩ (by simp)
  simp only at h1 h2 h3 h4
  exact decide_eq_false (by omega)
theorem ahead_ne {a b:Live} {i:Nat} {z:Pair} (h:a.set = b.set) (he:∀ p ∈ ([⟨a.key,b.key⟩,⟨a.item,b.item⟩,⟨a.author,b.author⟩,⟨a.seq,b.seq⟩]:List Pair).take i,p.key = p.sum) (hz:([⟨a.key,b.key⟩,⟨a.item,b.item⟩,⟨a.author,b.author⟩,⟨a.seq,b.seq⟩]:List Pair)[i]? = some z) (hne:¬ z.key = z.sum):aheadL a b = decide (z.key < z.sum):=by
  rw [ahead_lex h]
  refine decide_eq_decide.2 ?_
  match i,hz with
  | 0,hz => simp at hz;subst hz;simp only at hne ⊢;omega
  | 1,hz =>
    simp at hz;subst hz;simp only at hne ⊢
    have h1:=he ⟨a.key,b.key⟩ (by simp);simp only at h1;omega
  | 2,hz =>
    simp at hz;subst hz;simp only at hne ⊢
    have h1:=he ⟨a.key,b.key⟩ (by simp);have h2:=he ⟨a.item,b.item⟩ (by simp);simp only at h1 h2;omega
  | 3,hz =>
    simp at hz;subst hz;simp only at hne ⊢
    have h1:=he ⟨a.key,b.key⟩ (by simp);have h2:=he ⟨a.item,b.item⟩ (by simp);have h3:=he ⟨a.author,b.author⟩ (by simp);simp only at h1 h2 h3;omega
  | i + 4,hz => simp at hz
theorem ends_f1 {u:Upd} {x:Live} (h:u.kind = 5 ∨ u.kind = 3):ends u x = false:=by
  unfold ends;rcases h with h | h <;> simp [h]
theorem ends_f2 {u:Upd} {x:Live} (h:decide (u.kind = 3 ∨ u.kind = 4) ≠ x.set):ends u x = false:=by
  unfold ends endsC;rw [show (x.set == decide (u.kind = 3 ∨ u.kind = 4)) = false from beq_eq_false_iff_ne.2 fun e => h e.symm];simp
theorem ends_f3 {u:Upd} {x:Live} (h:¬ u.key = x.key):ends u x = false:=by
  unfold ends endsC;rw [show (x.key == u.key) = false from beq_eq_false_iff_ne.2 fun e => h e.symm];simp
theorem ends_f4 {u:Upd} {x:Live} (h:(u.seen.length:Int) ≤ x.author ∨ atI u.seen x.author.toNat < x.seq):ends u x = false:=by
  rw [Bool.eq_false_iff];intro q
  unfold ends endsC hasC at q
  simp only [Bool.and_eq_true,decide_eq_true_eq] at q
  omega
theorem ends_t {u:Upd} {x:Live} (h5:¬ u.kind = 5) (h3:¬ u.kind = 3) (hs:decide (u.kind = 3 ∨ u.kind = 4) = x.set) (hk:u.key = x.key) (h0:0 ≤ x.author) (h1:x.author < u.seen.length) (hq:¬ atI u.seen x.author.toNat < x.seq):ends u x = (!x.set || decide (x.item = u.item)):=by
  have e:hasC u.seen x.author x.seq = true:=by unfold hasC;simp [h0,h1];omega
  unfold ends endsC
  rw [hs,e,hk]
  rw [show (x.item == u.item) = decide (x.item = u.item) from by by_cases e:x.item = u.item <;> simp [e]]
  simp [h5,h3]
theorem put_1 {l o:List Live} {x z:Live} {k:Nat} {d:Bool} (hz:l[k]? = some z) (hp:(o,d) = (l.take k).foldl (putStep x) ([],false)) (hd:d = true):(o ++ [z],d) = (l.take (k + 1)).foldl (putStep x) ([],false):=by
  subst hd;rw [take_snoc hz,List.foldl_append,← hp];simp [putStep]
theorem put_2 {l o:List Live} {x z:Live} {k:Nat} {d:Bool} (hz:l[k]? = some z) (hp:(o,d) = (l.take k).foldl (putStep x) ([],false)) (hd:d = false) (ha:aheadL x z = true):(o ++ [x] ++ [z],true) = (l.take (k + 1)).foldl (putStep x) ([],false):=by
  subst hd;rw [take_snoc hz,List.foldl_append,← hp];simp [putStep,ha]
theorem put_3 {l o:List Live} {x z:Live} {k:Nat} {d:Bool} (hz:l[k]? = some z) (hp:(o,d) = (l.take k).foldl (putStep x) ([],false)) (hd:d = false) (ha:aheadL x z = false):(o ++ [z],d) = (l.take (k + 1)).foldl (putStep x) ([],false):=by
  subst hd;rw [take_snoc hz,List.foldl_append,← hp];simp [putStep,ha]
theorem put_aux {x:Live}:∀ {l:List Live} {p:List Live × Bool},(l.foldl (putStep x) p).1.length + (if p.2 = true then 1 else 0) = p.1.length + l.length + (if (l.foldl (putStep x) p).2 = true then 1 else 0)
  | [],p => by simp only [List.foldl_nil,List.length_nil,Nat.add_zero];rfl
  | y :: l,p => by
    rw [List.foldl_cons]
    have:=put_aux (x:=x) (l:=l) (p:=putStep x p y)
    obtain ⟨o,d⟩:=p
    cases d
    · by_cases ha:aheadL x y = true
      · simp [putStep,ha] at this ⊢;omega
      · simp [putStep,ha] at this ⊢;omega
    · simp [putStep] at this ⊢;omega
theorem put_len {l o:List Live} {x:Live} {k:Nat} {d:Bool} (hp:(o,d) = (l.take k).foldl (putStep x) ([],false)):o.length ≤ k + 1:=by
  have:=put_aux (x:=x) (l:=l.take k) (p:=([],false))
  rw [← hp] at this
  have h2:=List.length_take_le k l
  simp at this
  split at this <;> omega
theorem put_e {l o:List Live} {x:Live} {d:Bool} {r:List Live} (hp:(o,d) = l.foldl (putStep x) ([],false)) (h:r = putEnd x (o,d)):putL l x = r:=by
  unfold putL;rw [← hp,h]
theorem putL_len (l:List Live) (x:Live):(putL l x).length = l.length + 1:=by
  have:=put_aux (x:=x) (l:=l) (p:=([],false))
  unfold putL putEnd
  generalize l.foldl (putStep x) ([],false) = q at *
  obtain ⟨o,d⟩:=q
  cases d <;> simp at this ⊢ <;> omega
set_option maxRecDepth 100000 in
theorem RAhead_c (rd:Rd) (W:World) (hle:Rd.le rd (wrd W)) (v v2:Value) (a b:Live) (h:AggR LiveR rd v a) (h2:AggR LiveR rd v2 b) :
    Calls Tryz.prog 90 #[v,v2] W (fun e w' => e = .returned (.bool (aheadL a b)) ∧ Below W.heap.size W w'):=by
 obtain ⟨vs1,he,h⟩:=h;subst he;have he:vs1 = [.bool a.set,ni a.key,ni a.item,ni a.author,ni a.seq]:=h;subst he;clear h;obtain ⟨vs2,h2e,h2⟩:=h2;subst h2e;have h2e:vs2 = [.bool b.set,ni b.key,ni b.item,ni b.author,ni b.seq]:=h2;subst h2e;clear h2;have hmx:maxLen = 9223372036854775807:=rfl;have S:St [] W rd rd [] [] W:=St.start hle;refine e_enter (args:=[.agg (kL a),.agg (kL b)]) 51 Tryz.func90 rfl rfl rfl ?_;refine er (l_bx (u:=.agg (kL a)) (cs:=(kL a)) S rfl rfl fun g3 w4 S => l_bx (u:=.agg (kL b)) (cs:=(kL b)) S rfl rfl fun g5 w6 S => ly (.bool false) S Ya (ln (e_seq (er (ly (pa g3 0) S (Yb FA104_0) ?_)))))
 rcases Bool.eq_false_or_eq_true a.set with ha | ha
 ·
  refine ly (.bool true) S (y_bv (yb1 0 T4) ha) (ly (pa g5 0) S (Yb FA104_0) ?_)
  rcases Bool.eq_false_or_eq_true b.set with hb | hb
  ·
   refine ly (.bool true) S (y_bv (yb1 1 T4) hb) (ly (.bool false) S (y_bn U4 rfl rfl rfl) (ln (e_cF rfl (e_skip (n_seq (e_seq (er (ly (pa g3 1) S (Yb FA104_1) ?_))))))));have hss:a.set = b.set:=by rw [ha,hb]
   skip
   refine ly (ni a.key) S (yb1 0 T3) (ly (pa g5 1) S (Yb FA104_1) (ly (ni b.key) S (yb1 1 T3) (ly (.agg #[ni a.key,ni b.key]) S (y_bd (ps:=[(0,ni a.key),(1,ni b.key)]) rfl (fun _ => by kernel_rfl)) (ly (pa g3 2) S (Yb FA104_2) (ly (ni a.item) S (yb1 0 T3) (ly (pa g5 2) S (Yb FA104_2) (ly (ni b.item) S (yb1 1 T3) (ly (.agg #[ni a.item,ni b.item]) S (y_bd (ps:=[(0,ni a.item),(1,ni b.item)]) rfl (fun _ => by kernel_rfl)) (ly (pa g3 3) S (Yb FA104_3) (ly (ni a.author) S (yb1 0 T3) (ly (pa g5 3) S (Yb FA104_3) (ly (ni b.author) S (yb1 1 T3) (ly (.agg #[ni a.author,ni b.author]) S (y_bd (ps:=[(0,ni a.author),(1,ni b.author)]) rfl (fun _ => by kernel_rfl)) (ly (pa g3 4) S (Yb FA104_4) (ly (ni a.seq) S (yb1 0 T3) ?_)))))))))))))));refine ly (pa g5 4) S (Yb FA104_4) (ly (ni b.seq) S (yb1 1 T3) (ly (.agg #[ni a.seq,ni b.seq]) S (y_bd (ps:=[(0,ni a.seq),(1,ni b.seq)]) rfl (fun _ => by kernel_rfl)) (l_bs (ps:=[(0,.agg #[ni a.key,ni b.key]),(1,.agg #[ni a.item,ni b.item]),(2,.agg #[ni a.author,ni b.author]),(3,.agg #[ni a.seq,ni b.seq])]) (cs:=#[ni a.key,ni b.key,ni a.item,ni b.item,ni a.author,ni b.author,ni a.seq,ni b.seq]) S U157 SZ156 Z156 rfl rfl rfl (by kernel_rfl) fun g7 w8 S => ?_)));obtain ⟨rd9,S,L10,Fz11⟩:=S.frz' (i:=2) rfl rfl;have F12:=Fz11 (size:=2) (R:=PairR) (xs:=([(⟨a.key,b.key⟩:Pair),(⟨a.item,b.item⟩:Pair),(⟨a.author,b.author⟩:Pair),(⟨a.seq,b.seq⟩:Pair)]:List Pair)) (n:=4) (c:=4) rfl (Nat.le_refl _) (by simp [maxLen]) ⟨[ni a.key,ni b.key],_,rfl,rfl,rfl,⟨[ni a.item,ni b.item],_,rfl,rfl,rfl,⟨[ni a.author,ni b.author],_,rfl,rfl,rfl,⟨[ni a.seq,ni b.seq],_,rfl,rfl,rfl,rfl⟩⟩⟩⟩;clear Fz11;refine ly (ni 4) S (Yl U157) (ly (ni 0) S Ym (ln (e_blk ?_)));refine et [(34,sb g7 0 4 4),(35,ni 4),(36,ni (0:Int))] (fun junk => ?_);refine e_loop (fun (gh_:Nat) ov w => match gh_ with | i => ∃ rd' junk,ov = [(34,sb g7 0 4 4),(35,ni 4),(36,ni (i:Int))] ++ junk ∧ St [] W rd rd' [(g3,104,(kL a)),(g5,104,(kL b))] [] w ∧ Rd.le rd9 rd' ∧ i ≤ 4 ∧ (∀ p ∈ ([(⟨a.key,b.key⟩:Pair),(⟨a.item,b.item⟩:Pair),(⟨a.author,b.author⟩:Pair),(⟨a.seq,b.seq⟩:Pair)]:List Pair).take i,p.key = p.sum)) (fun gh_ => match gh_ with | i => 4 - i) 0 ⟨_,junk,rfl,(S.rw' rfl rfl),(Rd.le_refl _),(by omega),(fun p hp => by simp at hp)⟩ ?_;rintro i ov16 w14 ⟨rd13,junk,rfl,S,L15,hi,heq⟩;replace F12:=fm F12 L15;refine er ?_;by_cases h17:(i:Int) < 4
   ·
    refine ly (.bool true) S (y_ltT rfl rfl h17) (ln (e_seq (e_cT rfl (e_skip (n_seq (e_seq (e_blk (er ?_))))))));obtain ⟨z18,hz19⟩:∃ z,(([(⟨a.key,b.key⟩:Pair),(⟨a.item,b.item⟩:Pair),(⟨a.author,b.author⟩:Pair),(⟨a.seq,b.seq⟩:Pair)]:List Pair))[i]? = some z:=nth_of (by simp;omega);obtain ⟨p20,vs21,E22,nn23,r24,Y25⟩:=y_ia U157 SZ156 F12 hz19;clear nn23;have r24e:vs21 = [ni z18.key,ni z18.sum]:=r24;subst r24e;clear r24;refine ly p20 S (Y25 rfl rfl (by first | rfl | omega)) (ly (.agg #[ni z18.key,ni z18.sum]) S (ypA E22 T156) (l_al (cs:=zc156) S Z156 rfl fun g26 w27 S => l_st (u:=.agg #[ni z18.key,ni z18.sum]) (i:=2) (cs':=#[ni z18.key,ni z18.sum]) S rfl rfl rfl SZ156 rfl rfl rfl fun w28 S => ln (er (ly (pa g26 0) S (y_iar (k:=0) U156 SZ3 (by decide) rfl rfl rfl rfl) (ly (ni z18.key) S (yb1 2 T3) (ly (pa g26 1) S (y_iar (k:=1) U156 SZ3 (by decide) rfl rfl rfl rfl) (ly (ni z18.sum) S (yb1 2 T3) ?_)))))));by_cases hne:z18.key = z18.sum
    ·
     refine ly (.bool false) S (y_neF rfl rfl hne) (ln (e_cF rfl (e_skip (n_blk (nr (ly (ni ((i:Int) + 1)) S (y_add (r:=(i:Int) + 1) rfl rfl (w64 (by omega) (by omega))) (ly (ni ((i:Int) + 1)) S Ym (l_nil ?_))))))));refine n_lp ⟨(i + 1),_,fk,⟨_,_,rfl,(S.tk 2 0 rfl rfl),(Rd.le_trans L15 (Rd.le_refl rd13)),(by omega),(by rw [take_snoc hz19];intro p hp;rcases List.mem_append.1 hp with hp | hp;exact heq p hp;rw [List.mem_singleton.1 hp];exact hne)⟩,?_⟩
     show _ < _;dsimp only;omega
    refine ly (.bool true) S (y_neT rfl rfl hne) (ln (e_cT rfl (er (ly (pa g26 0) S (y_iar (k:=0) U156 SZ3 (by decide) rfl rfl rfl rfl) (ly (ni z18.key) S (yb1 2 T3) (ly (pa g26 1) S (y_iar (k:=1) U156 SZ3 (by decide) rfl rfl rfl rfl) (ly (ni z18.sum) S (yb1 2 T3) ?_)))))));by_cases hlt:z18.key < z18.sum
    ·
     refine ly (.bool true) S (y_ltT rfl rfl hlt) (ly (.bool true) S Ya (ln (e_ret ?_)));refine ret1 (v:=.bool true) rfl rfl ?_;rw [ahead_ne hss heq hz19 hne];exact ⟨rbool (decide_eq_true hlt).symm,S.below⟩
    refine ly (.bool false) S (y_ltF rfl rfl hlt) (ly (.bool false) S Ya (ln (e_ret ?_)));refine ret1 (v:=.bool false) rfl rfl ?_;rw [ahead_ne hss heq hz19 hne];exact ⟨rbool (decide_eq_false hlt).symm,S.below⟩
   refine ly (.bool false) S (y_ltF rfl rfl h17) (ln (e_seq (e_cF rfl (e_exit (x_seq (x_lp (x_hit (n_seq (er (ly (.bool false) S Ya (ln (e_ret ?_))))))))))));refine ret1 (v:=.bool false) rfl rfl ?_;rw [ahead_all hss (by rwa [List.take_of_length_le (by simp;omega)] at heq)];exact ⟨rfl,S.below⟩
  refine ly (.bool false) S (y_bv (yb1 1 T4) hb) (ly (.bool true) S (y_bn U4 rfl rfl rfl) (ln (e_cT rfl (er (ly (pa g5 0) S (Yb FA104_0) (ly (.bool false) S (y_bv (yb1 1 T4) hb) (ly (.bool false) S Ya (ln (e_ret ?_)))))))));refine ret1 (v:=.bool false) rfl rfl ?_;rw [ahead_set (a:=a) (b:=b) (by rw [ha,hb];decide),hb];exact ⟨rfl,S.below⟩
 refine ly (.bool false) S (y_bv (yb1 0 T4) ha) (ly (pa g5 0) S (Yb FA104_0) ?_)
 rcases Bool.eq_false_or_eq_true b.set with hb | hb
 ·
  refine ly (.bool true) S (y_bv (yb1 1 T4) hb) (ly (.bool true) S (y_bn U4 rfl rfl rfl) (ln (e_cT rfl (er (ly (pa g5 0) S (Yb FA104_0) (ly (.bool true) S (y_bv (yb1 1 T4) hb) (ly (.bool true) S Ya (ln (e_ret ?_)))))))));refine ret1 (v:=.bool true) rfl rfl ?_;rw [ahead_set (a:=a) (b:=b) (by rw [ha,hb];decide),hb];exact ⟨rfl,S.below⟩
 refine ly (.bool false) S (y_bv (yb1 1 T4) hb) (ly (.bool false) S (y_bn U4 rfl rfl rfl) (ln (e_cF rfl (e_skip (n_seq (e_seq (er (ly (pa g3 1) S (Yb FA104_1) ?_))))))));have hss:a.set = b.set:=by rw [ha,hb]
 skip
 refine ly (ni a.key) S (yb1 0 T3) (ly (pa g5 1) S (Yb FA104_1) (ly (ni b.key) S (yb1 1 T3) (ly (.agg #[ni a.key,ni b.key]) S (y_bd (ps:=[(0,ni a.key),(1,ni b.key)]) rfl (fun _ => by kernel_rfl)) (ly (pa g3 2) S (Yb FA104_2) (ly (ni a.item) S (yb1 0 T3) (ly (pa g5 2) S (Yb FA104_2) (ly (ni b.item) S (yb1 1 T3) (ly (.agg #[ni a.item,ni b.item]) S (y_bd (ps:=[(0,ni a.item),(1,ni b.item)]) rfl (fun _ => by kernel_rfl)) (ly (pa g3 3) S (Yb FA104_3) (ly (ni a.author) S (yb1 0 T3) (ly (pa g5 3) S (Yb FA104_3) (ly (ni b.author) S (yb1 1 T3) (ly (.agg #[ni a.author,ni b.author]) S (y_bd (ps:=[(0,ni a.author),(1,ni b.author)]) rfl (fun _ => by kernel_rfl)) (ly (pa g3 4) S (Yb FA104_4) (ly (ni a.seq) S (yb1 0 T3) ?_)))))))))))))));refine ly (pa g5 4) S (Yb FA104_4) (ly (ni b.seq) S (yb1 1 T3) (ly (.agg #[ni a.seq,ni b.seq]) S (y_bd (ps:=[(0,ni a.seq),(1,ni b.seq)]) rfl (fun _ => by kernel_rfl)) (l_bs (ps:=[(0,.agg #[ni a.key,ni b.key]),(1,.agg #[ni a.item,ni b.item]),(2,.agg #[ni a.author,ni b.author]),(3,.agg #[ni a.seq,ni b.seq])]) (cs:=#[ni a.key,ni b.key,ni a.item,ni b.item,ni a.author,ni b.author,ni a.seq,ni b.seq]) S U157 SZ156 Z156 rfl rfl rfl (by kernel_rfl) fun g29 w30 S => ?_)));obtain ⟨rd31,S,L32,Fz33⟩:=S.frz' (i:=2) rfl rfl;have F34:=Fz33 (size:=2) (R:=PairR) (xs:=([(⟨a.key,b.key⟩:Pair),(⟨a.item,b.item⟩:Pair),(⟨a.author,b.author⟩:Pair),(⟨a.seq,b.seq⟩:Pair)]:List Pair)) (n:=4) (c:=4) rfl (Nat.le_refl _) (by simp [maxLen]) ⟨[ni a.key,ni b.key],_,rfl,rfl,rfl,⟨[ni a.item,ni b.item],_,rfl,rfl,rfl,⟨[ni a.author,ni b.author],_,rfl,rfl,rfl,⟨[ni a.seq,ni b.seq],_,rfl,rfl,rfl,rfl⟩⟩⟩⟩;clear Fz33;refine ly (ni 4) S (Yl U157) (ly (ni 0) S Ym (ln (e_blk ?_)));refine et [(34,sb g29 0 4 4),(35,ni 4),(36,ni (0:Int))] (fun junk => ?_);refine e_loop (fun (gh_:Nat) ov w => match gh_ with | i => ∃ rd' junk,ov = [(34,sb g29 0 4 4),(35,ni 4),(36,ni (i:Int))] ++ junk ∧ St [] W rd rd' [(g3,104,(kL a)),(g5,104,(kL b))] [] w ∧ Rd.le rd31 rd' ∧ i ≤ 4 ∧ (∀ p ∈ ([(⟨a.key,b.key⟩:Pair),(⟨a.item,b.item⟩:Pair),(⟨a.author,b.author⟩:Pair),(⟨a.seq,b.seq⟩:Pair)]:List Pair).take i,p.key = p.sum)) (fun gh_ => match gh_ with | i => 4 - i) 0 ⟨_,junk,rfl,(S.rw' rfl rfl),(Rd.le_refl _),(by omega),(fun p hp => by simp at hp)⟩ ?_;rintro i ov38 w36 ⟨rd35,junk,rfl,S,L37,hi,heq⟩;replace F34:=fm F34 L37;refine er ?_;by_cases h39:(i:Int) < 4
 ·
  refine ly (.bool true) S (y_ltT rfl rfl h39) (ln (e_seq (e_cT rfl (e_skip (n_seq (e_seq (e_blk (er ?_))))))));obtain ⟨z40,hz41⟩:∃ z,(([(⟨a.key,b.key⟩:Pair),(⟨a.item,b.item⟩:Pair),(⟨a.author,b.author⟩:Pair),(⟨a.seq,b.seq⟩:Pair)]:List Pair))[i]? = some z:=nth_of (by simp;omega);obtain ⟨p42,vs43,E44,nn45,r46,Y47⟩:=y_ia U157 SZ156 F34 hz41;clear nn45;have r46e:vs43 = [ni z40.key,ni z40.sum]:=r46;subst r46e;clear r46;refine ly p42 S (Y47 rfl rfl (by first | rfl | omega)) (ly (.agg #[ni z40.key,ni z40.sum]) S (ypA E44 T156) (l_al (cs:=zc156) S Z156 rfl fun g48 w49 S => l_st (u:=.agg #[ni z40.key,ni z40.sum]) (i:=2) (cs':=#[ni z40.key,ni z40.sum]) S rfl rfl rfl SZ156 rfl rfl rfl fun w50 S => ln (er (ly (pa g48 0) S (y_iar (k:=0) U156 SZ3 (by decide) rfl rfl rfl rfl) (ly (ni z40.key) S (yb1 2 T3) (ly (pa g48 1) S (y_iar (k:=1) U156 SZ3 (by decide) rfl rfl rfl rfl) (ly (ni z40.sum) S (yb1 2 T3) ?_)))))));by_cases hne:z40.key = z40.sum
  ·
   refine ly (.bool false) S (y_neF rfl rfl hne) (ln (e_cF rfl (e_skip (n_blk (nr (ly (ni ((i:Int) + 1)) S (y_add (r:=(i:Int) + 1) rfl rfl (w64 (by omega) (by omega))) (ly (ni ((i:Int) + 1)) S Ym (l_nil ?_))))))));refine n_lp ⟨(i + 1),_,fk,⟨_,_,rfl,(S.tk 2 0 rfl rfl),(Rd.le_trans L37 (Rd.le_refl rd35)),(by omega),(by rw [take_snoc hz41];intro p hp;rcases List.mem_append.1 hp with hp | hp;exact heq p hp;rw [List.mem_singleton.1 hp];exact hne)⟩,?_⟩
   show _ < _;dsimp only;omega
  refine ly (.bool true) S (y_neT rfl rfl hne) (ln (e_cT rfl (er (ly (pa g48 0) S (y_iar (k:=0) U156 SZ3 (by decide) rfl rfl rfl rfl) (ly (ni z40.key) S (yb1 2 T3) (ly (pa g48 1) S (y_iar (k:=1) U156 SZ3 (by decide) rfl rfl rfl rfl) (ly (ni z40.sum) S (yb1 2 T3) ?_)))))));by_cases hlt:z40.key < z40.sum
  ·
   refine ly (.bool true) S (y_ltT rfl rfl hlt) (ly (.bool true) S Ya (ln (e_ret ?_)));refine ret1 (v:=.bool true) rfl rfl ?_;rw [ahead_ne hss heq hz41 hne];exact ⟨rbool (decide_eq_true hlt).symm,S.below⟩
  refine ly (.bool false) S (y_ltF rfl rfl hlt) (ly (.bool false) S Ya (ln (e_ret ?_)));refine ret1 (v:=.bool false) rfl rfl ?_;rw [ahead_ne hss heq hz41 hne];exact ⟨rbool (decide_eq_false hlt).symm,S.below⟩
 refine ly (.bool false) S (y_ltF rfl rfl h39) (ln (e_seq (e_cF rfl (e_exit (x_seq (x_lp (x_hit (n_seq (er (ly (.bool false) S Ya (ln (e_ret ?_))))))))))));refine ret1 (v:=.bool false) rfl rfl ?_;rw [ahead_all hss (by rwa [List.take_of_length_le (by simp;omega)] at heq)];exact ⟨rfl,S.below⟩

set_option maxRecDepth 100000 in
theorem RLess_c (rd:Rd) (W:World) (hle:Rd.le rd (wrd W)) (v v2:Value) (a b:Tally) (h:AggR TallyR rd v a) (h2:AggR TallyR rd v2 b) :
    Calls Tryz.prog 92 #[v,v2] W (fun e w' => e = .returned (.bool (decide (ordT a b < 0))) ∧ Below W.heap.size W w'):=by
 obtain ⟨vs1,he,h⟩:=h;subst he;have he:vs1 = [ni a.key,ni a.author,ni a.sum]:=h;subst he;clear h;obtain ⟨vs2,h2e,h2⟩:=h2;subst h2e;have h2e:vs2 = [ni b.key,ni b.author,ni b.sum]:=h2;subst h2e;clear h2;have hmx:maxLen = 9223372036854775807:=rfl;have S:St [] W rd rd [] [] W:=St.start hle;refine e_enter (args:=[.agg #[ni a.key,ni a.author,ni a.sum],.agg #[ni b.key,ni b.author,ni b.sum]]) 24 Tryz.func92 rfl rfl rfl ?_;refine er (l_bx (u:=.agg #[ni a.key,ni a.author,ni a.sum]) (cs:=#[ni a.key,ni a.author,ni a.sum]) S rfl rfl fun g3 w4 S => l_bx (u:=.agg #[ni b.key,ni b.author,ni b.sum]) (cs:=#[ni b.key,ni b.author,ni b.sum]) S rfl rfl fun g5 w6 S => ly (.bool false) S Ya (ln (er (ly (pa g3 0) S (Yb FA106_0) (ly (ni a.key) S (yb1 0 T3) (ly (pa g5 0) S (Yb FA106_0) (ly (ni b.key) S (yb1 1 T3) ?_)))))));by_cases h7:a.key < b.key
 ·
  refine ly (.bool true) S (y_ltT rfl rfl h7) (ly (.bool true) S Ym (ls 10 (ls 10 (ls 10 (ls 10 (ls 10 (ls 10 (l_su (d':=16) rfl rfl (l_su (d':=16) rfl rfl (l_su (d':=16) rfl rfl (l_su (d':=16) rfl rfl (l_su (d':=16) rfl rfl (ls 10 (ly (.bool true) S Yt (ly (.bool true) S Ya ?_)))))))))))))));refine ln (e_ret ?_);refine ret1 (v:=.bool true) rfl rfl ?_;exact ⟨rbool (decide_eq_true (ordT_lt.2 (by omega))).symm,S.below⟩
 refine ly (.bool false) S (y_ltF rfl rfl h7) (ly (.bool false) S Ym (lg 10 (pa g3 0) S (Yb FA106_0) (lg 10 (ni a.key) S (yb1 0 T3) (lg 10 (pa g5 0) S (Yb FA106_0) (lg 10 (ni b.key) S (yb1 1 T3) ?_)))));by_cases h8:a.key = b.key
 ·
  refine lg 10 (.bool true) S (y_eqT rfl rfl h8) (lg 10 (.bool true) S Ym (lg 16 (pa g3 1) S (Yb FA106_1) (lg 16 (ni a.author) S (yb1 0 T3) (lg 16 (pa g5 1) S (Yb FA106_1) (lg 16 (ni b.author) S (yb1 1 T3) ?_)))));by_cases h9:a.author < b.author
  ·
   refine lg 16 (.bool true) S (y_ltT rfl rfl h9) (lg 10 (.bool true) S Yt (ly (.bool true) S Yf (ly (.bool true) S Ya (ln (e_ret ?_)))));refine ret1 (v:=.bool true) rfl rfl ?_;exact ⟨rbool (decide_eq_true (ordT_lt.2 (by omega))).symm,S.below⟩
  refine lg 16 (.bool false) S (y_ltF rfl rfl h9) (lg 10 (.bool false) S Yt (ly (.bool false) S Yf (ly (.bool false) S Ya (ln (e_ret ?_)))));refine ret1 (v:=.bool false) rfl rfl ?_;exact ⟨rbool (decide_eq_false (fun q => by have:=ordT_lt.1 q;omega)).symm,S.below⟩
 refine lg 10 (.bool false) S (y_eqF rfl rfl h8) (lg 10 (.bool false) S Ym (ls 16 (ls 16 (ls 16 (ls 16 (ls 16 (lg 10 (.bool false) S Yf (ly (.bool false) S Yf (ly (.bool false) S Ya (ln (e_ret ?_)))))))))));refine ret1 (v:=.bool false) rfl rfl ?_;exact ⟨rbool (decide_eq_false (fun q => by have:=ordT_lt.1 q;omega)).symm,S.below⟩

set_option maxRecDepth 100000 in
theorem RSets_c (rd:Rd) (W:World) (hle:Rd.le rd (wrd W)) (v:Value) (u:Upd) (h:AggR UpdR rd v u) :
    Calls Tryz.prog 122 #[v] W (fun e w' => e = .returned (.bool (decide (u.kind = 3 ∨ u.kind = 4))) ∧ Below W.heap.size W w'):=by
 obtain ⟨vs1,he,h⟩:=h;subst he;obtain ⟨sv2,he,h3⟩:=h;subst he;obtain ⟨A4,c5,rfl,m6,m6'⟩:=h3.val;have hmx:maxLen = 9223372036854775807:=rfl;have S:St [] W rd rd [] [] W:=St.start hle;refine e_enter (args:=[.agg (kU u A4 c5)]) 11 Tryz.func122 rfl rfl rfl ?_;refine er (l_bx (u:=.agg (kU u A4 c5)) (cs:=(kU u A4 c5)) S rfl rfl fun g7 w8 S => ly (.bool false) S Ya (ln (er (ly (pa g7 2) S (Yb FA42_2) (ly (ni u.kind) S (yb1 0 T3) ?_)))));by_cases h9:u.kind = 3
 ·
  refine ly (.bool true) S (y_eqT rfl rfl h9) (ly (.bool true) S Ym (ls 6 (ls 6 (ls 6 (ly (.bool true) S Yt (ly (.bool true) S Ya (ln (e_ret ?_))))))));refine ret1 (v:=.bool true) rfl rfl ?_;exact ⟨rbool (decide_eq_true (by omega)).symm,S.below⟩
 refine ly (.bool false) S (y_eqF rfl rfl h9) (ly (.bool false) S Ym (lg 6 (pa g7 2) S (Yb FA42_2) (lg 6 (ni u.kind) S (yb1 0 T3) ?_)));by_cases h10:u.kind = 4
 ·
  refine lg 6 (.bool true) S (y_eqT rfl rfl h10) (ly (.bool true) S Yf (ly (.bool true) S Ya (ln (e_ret ?_))));refine ret1 (v:=.bool true) rfl rfl ?_;exact ⟨rbool (decide_eq_true (by omega)).symm,S.below⟩
 refine lg 6 (.bool false) S (y_eqF rfl rfl h10) (ly (.bool false) S Yf (ly (.bool false) S Ya (ln (e_ret ?_))));refine ret1 (v:=.bool false) rfl rfl ?_;exact ⟨rbool (decide_eq_false (by omega)).symm,S.below⟩

set_option maxRecDepth 100000 in
theorem REnds_c (rd:Rd) (W:World) (hle:Rd.le rd (wrd W)) (v v2:Value) (u:Upd) (x:Live) (h:AggR UpdR rd v u) (h2:AggR LiveR rd v2 x) (h0:0 ≤ x.author) :
    Calls Tryz.prog 98 #[v,v2] W (fun e w' => e = .returned (.bool (ends u x)) ∧ Below W.heap.size W w'):=by
 obtain ⟨vs1,he,h⟩:=h;subst he;obtain ⟨sv2,he,h3⟩:=h;subst he;obtain ⟨A4,c5,rfl,m6,m6'⟩:=h3.val;obtain ⟨vs7,h2e,h2⟩:=h2;subst h2e;have h2e:vs7 = [.bool x.set,ni x.key,ni x.item,ni x.author,ni x.seq]:=h2;subst h2e;clear h2;have hmx:maxLen = 9223372036854775807:=rfl;have S:St [] W rd rd [] [] W:=St.start hle;refine e_enter (args:=[.agg (kU u A4 c5),.agg (kL x)]) 56 Tryz.func98 rfl rfl rfl ?_;refine er (l_bx (u:=.agg (kU u A4 c5)) (cs:=(kU u A4 c5)) S rfl rfl fun g8 w9 S => l_bx (u:=.agg (kL x)) (cs:=(kL x)) S rfl rfl fun g10 w11 S => ly (.bool false) S Ya (ln (e_seq (e_seq ?_))));refine e_q MX (by kernel_rfl) S.drew ?_;refine qy (pa g8 2) (Yb FA42_2) (qy (ni u.kind) (yb1 0 T3) ?_);by_cases e5:u.kind = 5
 ·
  refine qy (.bool true) (y_eqT rfl rfl e5) (qy (.bool true) Ym (qs 8 (qs 8 (qs 8 (qy (.bool true) Yt (qy (.bool true) Ym (qs 13 (qs 13 (qs 13 (qs 13 (qs 13 (qy (.bool true) Yt (qy (.bool true) Ym (qs 20 (qs 20 ?_)))))))))))))));refine qs 20 (qs 20 (qs 20 (qy (.bool true) Yt (qy (.bool true) Ym (qs 27 (qs 27 (qs 27 (qs 27 (qs 27 (qs 27 (qy (.bool true) Yt (qy (.bool true) Ym (qs 35 (qs 35 (qs 35 ?_)))))))))))))));refine qs 35 (qs 35 (qs 35 (qs 35 (qs 35 (qs 35 (qy (.bool true) Yt (q_nil fun w12 S => n_seq (e_cT rfl (er (ly (.bool false) S Ya (ln (e_ret ?_))))))))))));refine ret1 (v:=.bool false) rfl rfl ?_;rw [ends_f1 (.inl e5)];exact ⟨rfl,S.below⟩
 refine qy (.bool false) (y_eqF rfl rfl e5) (qy (.bool false) Ym (qg 8 (pa g8 2) (Yb FA42_2) (qg 8 (ni u.kind) (yb1 0 T3) ?_)));by_cases e3:u.kind = 3
 ·
  refine qg 8 (.bool true) (y_eqT rfl rfl e3) (qy (.bool true) Yf (qy (.bool true) Ym (qs 13 (qs 13 (qs 13 (qs 13 (qs 13 (qy (.bool true) Yt (qy (.bool true) Ym (qs 20 (qs 20 (qs 20 (qs 20 (qs 20 (qy (.bool true) Yt ?_)))))))))))))));refine qy (.bool true) Ym (qs 27 (qs 27 (qs 27 (qs 27 (qs 27 (qs 27 (qy (.bool true) Yt (qy (.bool true) Ym (qs 35 (qs 35 (qs 35 (qs 35 (qs 35 (qs 35 (qs 35 ?_)))))))))))))));refine qs 35 (qs 35 (qy (.bool true) Yt (q_nil fun w13 S => n_seq (e_cT rfl (er (ly (.bool false) S Ya (ln (e_ret ?_))))))));refine ret1 (v:=.bool false) rfl rfl ?_;rw [ends_f1 (.inr e3)];exact ⟨rfl,S.below⟩
 refine qg 8 (.bool false) (y_eqF rfl rfl e3) (qy (.bool false) Yf (qy (.bool false) Ym (qg 13 (.agg (kU u A4 c5)) (ybA 0 T42) ?_)))
 cases hSets:decide (u.kind = 3 ∨ u.kind = 4)
 ·
  refine q_cg (d':=13) (v:=.bool false) (en_f (vs:=[.agg (kU u A4 c5)]) (CF 122 _) rfl rfl) rfl rfl (fun w S => (RSets_c _ _ S.le _ u (⟨_,rfl,⟨_,rfl,h3⟩⟩:AggR UpdR rd _ u)).mono (by rintro e w' ⟨rfl,k⟩;exact ⟨rbool (by assumption),(S.callq k)⟩)) ?_;refine qg 13 (pa g10 0) (Yb FA104_0) ?_
  rcases Bool.eq_false_or_eq_true x.set with hset | hset
  ·
   refine qg 13 (.bool true) (y_bv (yb1 1 T4) hset) (qg 13 (.bool true) (y_bn U4 rfl rfl rfl) (qy (.bool true) Yf (qy (.bool true) Ym (qs 20 (qs 20 (qs 20 (qs 20 (qs 20 (qy (.bool true) Yt (qy (.bool true) Ym (qs 27 (qs 27 (qs 27 (qs 27 (qs 27 ?_)))))))))))))));refine qs 27 (qy (.bool true) Yt (qy (.bool true) Ym (qs 35 (qs 35 (qs 35 (qs 35 (qs 35 (qs 35 (qs 35 (qs 35 (qs 35 (qy (.bool true) Yt (q_nil fun w14 S => n_seq (e_cT rfl ?_))))))))))))));refine er (ly (.bool false) S Ya (ln (e_ret ?_)));refine ret1 (v:=.bool false) rfl rfl ?_;rw [ends_f2 (by rw [hSets,hset];decide)];exact ⟨rfl,S.below⟩
  refine qg 13 (.bool false) (y_bv (yb1 1 T4) hset) (qg 13 (.bool false) (y_bn U4 rfl rfl rfl) (qy (.bool false) Yf (qy (.bool false) Ym (qg 20 (pa g8 3) (Yb FA42_3) (qg 20 (ni u.key) (yb1 0 T3) (qg 20 (pa g10 1) (Yb FA104_1) (qg 20 (ni x.key) (yb1 1 T3) ?_)))))));by_cases hk:u.key = x.key
  ·
   refine qg 20 (.bool false) (y_neF rfl rfl hk) (qy (.bool false) Yf (qy (.bool false) Ym (qg 27 (pa g10 3) (Yb FA104_3) (qg 27 (ni x.author) (yb1 1 T3) (qg 27 (pa g8 1) (Yb FA42_1) (qg 27 (sc A4 u.seen.length c5) (yb1 0 T23) (qg 27 (ni (u.seen.length:Int)) (Yl U23) ?_)))))));by_cases hl:(u.seen.length:Int) ≤ x.author
   ·
    refine qg 27 (.bool true) (y_geT rfl rfl hl) (qy (.bool true) Yf (qy (.bool true) Ym (qs 35 (qs 35 (qs 35 (qs 35 (qs 35 (qs 35 (qs 35 (qs 35 (qs 35 (qy (.bool true) Yt (q_nil fun w15 S => n_seq (e_cT rfl ?_))))))))))))));refine er (ly (.bool false) S Ya (ln (e_ret ?_)));refine ret1 (v:=.bool false) rfl rfl ?_;rw [ends_f4 (.inl hl)];exact ⟨rfl,S.below⟩
   refine qg 27 (.bool false) (y_geF rfl rfl hl) (qy (.bool false) Yf (qy (.bool false) Ym (qg 35 (pa g8 1) (Yb FA42_1) (qg 35 (sc A4 u.seen.length c5) (yb1 0 T23) (qg 35 (pa g10 3) (Yb FA104_3) (qg 35 (ni x.author) (yb1 1 T3) ?_))))));obtain ⟨z16,hz17⟩:∃ z,(u.seen)[x.author.toNat]? = some z:=nth_of (by omega);have hat:=atI_nth hz17;obtain ⟨p18,vs19,E20,nn21,r22,Y23⟩:=y_ia U23 SZ3 h3 hz17;clear nn21;have r22:vs19 = [ni z16]:=r22;subst r22;refine qg 35 p18 (Y23 rfl rfl (by first | rfl | omega)) (qg 35 (ni z16) (yp1 E20 T3) (qg 35 (pa g10 4) (Yb FA104_4) (qg 35 (ni x.seq) (yb1 1 T3) ?_)));by_cases h24:z16 < x.seq
   ·
    refine qg 35 (.bool true) (y_ltT rfl rfl h24) (qy (.bool true) Yf (q_nil fun w25 S => n_seq (e_cT rfl (er (ly (.bool false) S Ya (ln (e_ret ?_)))))));refine ret1 (v:=.bool false) rfl rfl ?_;rw [ends_f4 (.inr (by omega))];exact ⟨rfl,S.below⟩
   refine qg 35 (.bool false) (y_ltF rfl rfl h24) (qy (.bool false) Yf (q_nil fun w26 S => n_seq (e_cF rfl (e_skip (n_seq (er (ly (pa g10 0) S (Yb FA104_0) (ly (.bool false) S (y_bv (yb1 1 T4) hset) (ly (.bool true) S (y_not rfl rfl) (ly (.bool true) S Ym (ls 49 (ls 49 (ls 49 ?_)))))))))))));refine ls 49 (ls 49 (ly (.bool true) S Yt (ly (.bool true) S Ya (ln (e_ret ?_)))));refine ret1 (v:=.bool true) rfl rfl ?_;rw [ends_t e5 e3 (hSets.trans hset.symm) hk h0 (by omega) (by omega),hset];exact ⟨rbool rfl,S.below⟩
  refine qg 20 (.bool true) (y_neT rfl rfl hk) (qy (.bool true) Yf (qy (.bool true) Ym (qs 27 (qs 27 (qs 27 (qs 27 (qs 27 (qs 27 (qy (.bool true) Yt (qy (.bool true) Ym (qs 35 (qs 35 (qs 35 (qs 35 (qs 35 ?_)))))))))))))));refine qs 35 (qs 35 (qs 35 (qs 35 (qy (.bool true) Yt (q_nil fun w27 S => n_seq (e_cT rfl (er (ly (.bool false) S Ya (ln (e_ret ?_))))))))));refine ret1 (v:=.bool false) rfl rfl ?_;rw [ends_f3 hk];exact ⟨rfl,S.below⟩
 refine q_cg (d':=13) (v:=.bool true) (en_f (vs:=[.agg (kU u A4 c5)]) (CF 122 _) rfl rfl) rfl rfl (fun w S => (RSets_c _ _ S.le _ u (⟨_,rfl,⟨_,rfl,h3⟩⟩:AggR UpdR rd _ u)).mono (by rintro e w' ⟨rfl,k⟩;exact ⟨rbool (by assumption),(S.callq k)⟩)) ?_;refine qg 13 (pa g10 0) (Yb FA104_0) ?_
 rcases Bool.eq_false_or_eq_true x.set with hset | hset
 ·
  refine qg 13 (.bool true) (y_bv (yb1 1 T4) hset) (qg 13 (.bool false) (y_bn U4 rfl rfl rfl) (qy (.bool false) Yf (qy (.bool false) Ym (qg 20 (pa g8 3) (Yb FA42_3) (qg 20 (ni u.key) (yb1 0 T3) (qg 20 (pa g10 1) (Yb FA104_1) (qg 20 (ni x.key) (yb1 1 T3) ?_)))))));by_cases hk:u.key = x.key
  ·
   refine qg 20 (.bool false) (y_neF rfl rfl hk) (qy (.bool false) Yf (qy (.bool false) Ym (qg 27 (pa g10 3) (Yb FA104_3) (qg 27 (ni x.author) (yb1 1 T3) (qg 27 (pa g8 1) (Yb FA42_1) (qg 27 (sc A4 u.seen.length c5) (yb1 0 T23) (qg 27 (ni (u.seen.length:Int)) (Yl U23) ?_)))))));by_cases hl:(u.seen.length:Int) ≤ x.author
   ·
    refine qg 27 (.bool true) (y_geT rfl rfl hl) (qy (.bool true) Yf (qy (.bool true) Ym (qs 35 (qs 35 (qs 35 (qs 35 (qs 35 (qs 35 (qs 35 (qs 35 (qs 35 (qy (.bool true) Yt (q_nil fun w28 S => n_seq (e_cT rfl ?_))))))))))))));refine er (ly (.bool false) S Ya (ln (e_ret ?_)));refine ret1 (v:=.bool false) rfl rfl ?_;rw [ends_f4 (.inl hl)];exact ⟨rfl,S.below⟩
   refine qg 27 (.bool false) (y_geF rfl rfl hl) (qy (.bool false) Yf (qy (.bool false) Ym (qg 35 (pa g8 1) (Yb FA42_1) (qg 35 (sc A4 u.seen.length c5) (yb1 0 T23) (qg 35 (pa g10 3) (Yb FA104_3) (qg 35 (ni x.author) (yb1 1 T3) ?_))))));obtain ⟨z29,hz30⟩:∃ z,(u.seen)[x.author.toNat]? = some z:=nth_of (by omega);have hat:=atI_nth hz30;obtain ⟨p31,vs32,E33,nn34,r35,Y36⟩:=y_ia U23 SZ3 h3 hz30;clear nn34;have r35:vs32 = [ni z29]:=r35;subst r35;refine qg 35 p31 (Y36 rfl rfl (by first | rfl | omega)) (qg 35 (ni z29) (yp1 E33 T3) (qg 35 (pa g10 4) (Yb FA104_4) (qg 35 (ni x.seq) (yb1 1 T3) ?_)));by_cases h37:z29 < x.seq
   ·
    refine qg 35 (.bool true) (y_ltT rfl rfl h37) (qy (.bool true) Yf (q_nil fun w38 S => n_seq (e_cT rfl (er (ly (.bool false) S Ya (ln (e_ret ?_)))))));refine ret1 (v:=.bool false) rfl rfl ?_;rw [ends_f4 (.inr (by omega))];exact ⟨rfl,S.below⟩
   refine qg 35 (.bool false) (y_ltF rfl rfl h37) (qy (.bool false) Yf (q_nil fun w39 S => n_seq (e_cF rfl (e_skip (n_seq (er (ly (pa g10 0) S (Yb FA104_0) (ly (.bool true) S (y_bv (yb1 1 T4) hset) (ly (.bool false) S (y_not rfl rfl) (ly (.bool false) S Ym (lg 49 (pa g8 4) S (Yb FA42_4) (lg 49 (ni u.item) S (yb1 0 T3) (lg 49 (pa g10 2) S (Yb FA104_2) ?_)))))))))))));refine lg 49 (ni x.item) S (yb1 1 T3) ?_;by_cases hit:u.item = x.item
   ·
    refine lg 49 (.bool true) S (y_eqT rfl rfl hit) (ly (.bool true) S Yf (ly (.bool true) S Ya (ln (e_ret ?_))));refine ret1 (v:=.bool true) rfl rfl ?_;rw [ends_t e5 e3 (hSets.trans hset.symm) hk h0 (by omega) (by omega),hset];exact ⟨rbool (decide_eq_true hit.symm).symm,S.below⟩
   refine lg 49 (.bool false) S (y_eqF rfl rfl hit) (ly (.bool false) S Yf (ly (.bool false) S Ya (ln (e_ret ?_))));refine ret1 (v:=.bool false) rfl rfl ?_;rw [ends_t e5 e3 (hSets.trans hset.symm) hk h0 (by omega) (by omega),hset];exact ⟨rbool (decide_eq_false (fun q => hit q.symm)).symm,S.below⟩
  refine qg 20 (.bool true) (y_neT rfl rfl hk) (qy (.bool true) Yf (qy (.bool true) Ym (qs 27 (qs 27 (qs 27 (qs 27 (qs 27 (qs 27 (qy (.bool true) Yt (qy (.bool true) Ym (qs 35 (qs 35 (qs 35 (qs 35 (qs 35 ?_)))))))))))))));refine qs 35 (qs 35 (qs 35 (qs 35 (qy (.bool true) Yt (q_nil fun w40 S => n_seq (e_cT rfl (er (ly (.bool false) S Ya (ln (e_ret ?_))))))))));refine ret1 (v:=.bool false) rfl rfl ?_;rw [ends_f3 hk];exact ⟨rfl,S.below⟩
 refine qg 13 (.bool false) (y_bv (yb1 1 T4) hset) (qg 13 (.bool true) (y_bn U4 rfl rfl rfl) (qy (.bool true) Yf (qy (.bool true) Ym (qs 20 (qs 20 (qs 20 (qs 20 (qs 20 (qy (.bool true) Yt (qy (.bool true) Ym (qs 27 (qs 27 (qs 27 (qs 27 (qs 27 ?_)))))))))))))));refine qs 27 (qy (.bool true) Yt (qy (.bool true) Ym (qs 35 (qs 35 (qs 35 (qs 35 (qs 35 (qs 35 (qs 35 (qs 35 (qs 35 (qy (.bool true) Yt (q_nil fun w41 S => n_seq (e_cT rfl ?_))))))))))))));refine er (ly (.bool false) S Ya (ln (e_ret ?_)));refine ret1 (v:=.bool false) rfl rfl ?_;rw [ends_f2 (by rw [hSets,hset];decide)];exact ⟨rfl,S.below⟩

set_option maxRecDepth 100000 in
theorem RHas4_c (rd:Rd) (W:World) (hle:Rd.le rd (wrd W)) (v v2:Value) (l:List Live) (x:Live) (h:SliceR 5 LiveR rd v l) (h2:AggR LiveR rd v2 x) :
    Calls Tryz.prog 102 #[v,v2] W (fun e w' => e = .returned (.bool (l.contains x)) ∧ Below W.heap.size W w'):=by
 obtain ⟨A1,c2,rfl,m3,m3'⟩:=h.val;obtain ⟨vs4,h2e,h2⟩:=h2;subst h2e;have h2e:vs4 = [.bool x.set,ni x.key,ni x.item,ni x.author,ni x.seq]:=h2;subst h2e;clear h2;have hmx:maxLen = 9223372036854775807:=rfl;have S:St [] W rd rd [] [] W:=St.start hle;refine e_enter (args:=[sc A1 l.length c2,.agg (kL x)]) 17 Tryz.func102 rfl rfl rfl ?_;refine er (l_bx (u:=.agg (kL x)) (cs:=(kL x)) S rfl rfl fun g5 w6 S => ly (.bool false) S Ya (ln (e_seq (er (ly (sc A1 l.length c2) S Ym (ly (ni (l.length:Int)) S (Yl U24) (ly (ni 0) S Ym (ln (e_blk ?_)))))))));refine et [(3,pa g5 0),(7,sc A1 l.length c2),(8,ni (l.length:Int)),(9,ni (0:Int))] (fun junk => ?_);refine e_loop (fun (gh_:Nat) ov w => match gh_ with | i => ∃ rd' junk,ov = [(3,pa g5 0),(7,sc A1 l.length c2),(8,ni (l.length:Int)),(9,ni (i:Int))] ++ junk ∧ St [] W rd rd' [(g5,104,(kL x))] [] w ∧ Rd.le rd rd' ∧ i ≤ l.length ∧ (∀ y ∈ l.take i,¬ x = y)) (fun gh_ => match gh_ with | i => l.length - i) 0 ⟨_,junk,rfl,(S.rw' rfl rfl),(Rd.le_refl _),(by omega),(fun y hy => by simp at hy)⟩ ?_;rintro i ov10 w8 ⟨rd7,junk,rfl,S,L9,hi,hno⟩;replace h:=fm h L9;refine er ?_;by_cases h11:(i:Int) < (l.length:Int)
 ·
  refine ly (.bool true) S (y_ltT rfl rfl h11) (ln (e_seq (e_cT rfl (e_skip (n_seq (e_seq (e_blk (er ?_))))))));obtain ⟨z12,hz13⟩:∃ z,(l)[i]? = some z:=nth_of (by omega);obtain ⟨p14,vs15,E16,nn17,r18,Y19⟩:=y_ia U24 SZ104 h hz13;clear nn17;have r18e:vs15 = [.bool z12.set,ni z12.key,ni z12.item,ni z12.author,ni z12.seq]:=r18;subst r18e;clear r18;refine ly p14 S (Y19 rfl rfl (by first | rfl | omega)) (ly (.agg (kL z12)) S (ypA E16 T104) (l_al (cs:=zc104) S Z104 rfl fun g20 w21 S => l_st (u:=.agg (kL z12)) (i:=1) (cs':=(kL z12)) S rfl rfl rfl SZ104 rfl rfl rfl fun w22 S => ln (er (ly (.agg (kL x)) S (ybA 0 T104) (ly (.agg (kL z12)) S (ybA 1 T104) ?_)))));by_cases hxy:x = z12
  ·
   refine ly (.bool true) S (y_eqa (fun _ _ _ => by kernel_rfl) (fun w => Live_eqT w hxy) rfl rfl) (ln (e_cT rfl (er (ly (.bool true) S Ya (ln (e_ret ?_))))));refine ret1 (v:=.bool true) rfl rfl ?_;exact ⟨rbool (by rw [hxy];exact (List.contains_iff_mem.2 (List.mem_of_getElem? hz13)).symm),S.below⟩
  refine ly (.bool false) S (y_eqa (fun _ _ _ => by kernel_rfl) (fun w => Live_eqF w hxy) rfl rfl) (ln (e_cF rfl (e_skip (n_blk (nr (ly (ni ((i:Int) + 1)) S (y_add (r:=(i:Int) + 1) rfl rfl (w64 (by omega) (by omega))) (ly (ni ((i:Int) + 1)) S Ym (l_nil ?_))))))));refine n_lp ⟨(i + 1),_,fk,⟨_,_,rfl,(S.tk 1 0 rfl rfl),(Rd.le_trans L9 (Rd.le_refl rd7)),(by omega),(by rw [take_snoc hz13];intro y hy;rcases List.mem_append.1 hy with hy | hy;exact hno y hy;rw [List.mem_singleton.1 hy];exact hxy)⟩,?_⟩
  show _ < _;dsimp only;omega
 refine ly (.bool false) S (y_ltF rfl rfl h11) (ln (e_seq (e_cF rfl (e_exit (x_seq (x_lp (x_hit (n_seq (er (ly (.bool false) S Ya (ln (e_ret ?_))))))))))));refine ret1 (v:=.bool false) rfl rfl ?_;exact ⟨rbool (Bool.eq_false_iff.2 fun q => hno x (by rw [List.take_of_length_le (by omega)];exact List.contains_iff_mem.1 q) rfl).symm,S.below⟩

set_option maxRecDepth 100000 in
theorem RPut_c (rd:Rd) (W:World) (hle:Rd.le rd (wrd W)) (v v2:Value) (l:List Live) (x:Live) (h:SliceR 5 LiveR rd v l) (h2:AggR LiveR rd v2 x) (hb:l.length ≤ 2000000000) :
    Calls Tryz.prog 99 #[v,v2] W (fun e w' => ∃ v',e = .returned v' ∧ SliceR 5 LiveR (ext rd W w') v' (putL l x) ∧ Below W.heap.size W w'):=by
 obtain ⟨A1,c2,rfl,m3,m3'⟩:=h.val;obtain ⟨vs4,h2e,h2⟩:=h2;subst h2e;have h2e:vs4 = [.bool x.set,ni x.key,ni x.item,ni x.author,ni x.seq]:=h2;subst h2e;clear h2;have hmx:maxLen = 9223372036854775807:=rfl;have S:St [] W rd rd [] [] W:=St.start hle;refine e_enter (args:=[sc A1 l.length c2,.agg (kL x)]) 38 Tryz.func99 rfl rfl rfl ?_;refine er (l_bx (u:=.agg (kL x)) (cs:=(kL x)) S rfl rfl fun g5 w6 S => ly sn S Ya (ln (er (ly sn S Ya (ln (er (ly (.bool false) S Ya (ln ?_))))))));refine e_seq (er (ly (sc A1 l.length c2) S Ym (ly (ni (l.length:Int)) S (Yl U24) (ly (ni 0) S Ym (ln (e_blk ?_))))));have S:=S.ownNil 104 5;have O7:RowR 5 LiveR rd [] []:=rfl;refine et [(3,pa g5 0),(4,sn),(9,sc A1 l.length c2),(10,ni (l.length:Int)),(11,ni (0:Int)),(5,sn),(6,.bool false)] (fun junk => ?_);refine e_loop (fun (gh_:Nat × (List Live) × (Option Addr) × Nat × Nat × (List Value) × Bool) ov w => match gh_ with | (k,o,AO,nO,cO,xsO,d) => ∃ rd' junk,ov = [(3,pa g5 0),(4,sn),(9,sc A1 l.length c2),(10,ni (l.length:Int)),(11,ni (k:Int)),(5,sc AO nO cO),(6,.bool d)] ++ junk ∧ St [] W rd rd' [(g5,104,(kL x))] [⟨104,5,sc AO nO cO,nO,xsO⟩] w ∧ Rd.le rd rd' ∧ (RowR 5 LiveR rd' xsO o ∧ nO = o.length) ∧ k ≤ l.length ∧ (o,d) = (l.take k).foldl (putStep x) ([],false)) (fun gh_ => match gh_ with | (k,o,AO,nO,cO,xsO,d) => (l).length - k) (0,[],none,0,0,[],false) ⟨_,junk,rfl,(S.rw' rfl rfl),(Rd.le_refl _),⟨O7,(by first | rfl | assumption | omega | simp)⟩,(by omega),rfl⟩ ?_;rintro ⟨k,o,AO,nO,cO,xsO,d⟩ ov11 w9 ⟨rd8,junk,rfl,S,L10,⟨OO,on12⟩,hk,hp⟩;replace h:=fm h L10;have hbo:o.length ≤ k + 1:=put_len hp;refine er ?_;by_cases h13:(k:Int) < (l.length:Int)
 ·
  refine ly (.bool true) S (y_ltT rfl rfl h13) (ln (e_seq (e_cT rfl (e_skip (n_seq (e_seq (e_blk (er ?_))))))));obtain ⟨z14,hz15⟩:∃ z,(l)[k]? = some z:=nth_of (by omega);obtain ⟨p16,vs17,E18,nn19,r20,Y21⟩:=y_ia U24 SZ104 h hz15;clear nn19;have r20e:vs17 = [.bool z14.set,ni z14.key,ni z14.item,ni z14.author,ni z14.seq]:=r20;subst r20e;clear r20;refine ly p16 S (Y21 rfl rfl (by first | rfl | omega)) (ly (.agg (kL z14)) S (ypA E18 T104) (l_al (cs:=zc104) S Z104 rfl fun g22 w23 S => l_st (u:=.agg (kL z14)) (i:=1) (cs':=(kL z14)) S rfl rfl rfl SZ104 rfl rfl rfl fun w24 S => ln (e_seq (er (ly (.bool d) S Ym ?_)))))
  rcases Bool.eq_false_or_eq_true d with hdn | hdn
  ·
   refine ly (.bool false) S (y_not rfl (by rw [hdn];rfl)) (ly (.bool false) S Ym (ls 17 (ls 17 (ls 17 (ly (.bool false) S Yf (ln (e_cF rfl (e_skip (nr (ly (sc AO nO cO) S Ym (ly (.agg (kL z14)) S (ybA 1 T104) (l_bs (ps:=[(0,.agg (kL z14))]) (cs:=#[.bool z14.set,ni z14.key,ni z14.item,ni z14.author,ni z14.seq]) S U24 SZ104 Z104 rfl rfl rfl (by kernel_rfl) fun g25 w26 S => ?_))))))))))));refine l_ap (e':=0) (i:=0) (i':=2) S K24 rfl rfl rfl rfl rfl rfl rfl (by simp only [maxLen];omega) (by first | omega | (dsimp only;omega)) fun v27 w28 S => ?_
   have OO:=RowR.push (x:=z14) (cs:=(kL z14).toList) OO rfl rfl;obtain ⟨A29,c30,m31e,m31,m31'⟩:∃ A c,v27 = .slice A (nO + 1) c ∧ (nO + 1) ≤ c ∧ c ≤ maxLen:=own_len S (i:=0) rfl;subst m31e;refine ly (sc A29 (nO + 1) c30) S Ya (l_nil (n_blk (nr (ly (ni ((k:Int) + 1)) S (y_add (r:=(k:Int) + 1) rfl rfl (w64 (by omega) (by omega))) (ly (ni ((k:Int) + 1)) S Ym (l_nil ?_))))));refine n_lp ⟨(k + 1,o ++ [z14],A29,nO + 1,c30,(xsO ++ (kL z14).toList),d),_,fk,⟨_,_,rfl,(S.tk 1 1 rfl rfl),(Rd.le_trans L10 (Rd.le_refl rd8)),⟨OO,(by first | omega | (simp;omega))⟩,(by omega),(put_1 hz15 hp hdn)⟩,?_⟩
   show _ < _;dsimp only;omega
  refine ly (.bool true) S (y_not rfl (by rw [hdn];rfl)) (ly (.bool true) S Ym (lg 17 (.agg (kL x)) S (ybA 0 T104) (lg 17 (.agg (kL z14)) S (ybA 1 T104) ?_)));refine l_cg (d':=17) (en_f (vs:=[.agg (kL x),.agg (kL z14)]) (CF 90 _) rfl rfl) rfl rfl (RAhead_c _ _ S.le _ _ x z14 (⟨_,rfl,rfl⟩:AggR LiveR rd8 _ x) (⟨_,rfl,rfl⟩:AggR LiveR rd8 _ z14)) ?_;rintro e w32 ⟨rfl,k⟩;have S:=S.callq k;clear k
  cases hah:aheadL x z14
  ·
   refine ckd (ly (.bool false) S Yt (ln (e_cF rfl (e_skip (nr (ly (sc AO nO cO) S Ym (ly (.agg (kL z14)) S (ybA 1 T104) (l_bs (ps:=[(0,.agg (kL z14))]) (cs:=#[.bool z14.set,ni z14.key,ni z14.item,ni z14.author,ni z14.seq]) S U24 SZ104 Z104 rfl rfl rfl (by kernel_rfl) fun g33 w34 S => ?_))))))));refine l_ap (e':=0) (i:=0) (i':=2) S K24 rfl rfl rfl rfl rfl rfl rfl (by simp only [maxLen];omega) (by first | omega | (dsimp only;omega)) fun v35 w36 S => ?_
   have OO:=RowR.push (x:=z14) (cs:=(kL z14).toList) OO rfl rfl;obtain ⟨A37,c38,m39e,m39,m39'⟩:∃ A c,v35 = .slice A (nO + 1) c ∧ (nO + 1) ≤ c ∧ c ≤ maxLen:=own_len S (i:=0) rfl;subst m39e;refine ly (sc A37 (nO + 1) c38) S Ya (l_nil (n_blk (nr (ly (ni ((k:Int) + 1)) S (y_add (r:=(k:Int) + 1) rfl rfl (w64 (by omega) (by omega))) (ly (ni ((k:Int) + 1)) S Ym (l_nil ?_))))));refine n_lp ⟨(k + 1,o ++ [z14],A37,nO + 1,c38,(xsO ++ (kL z14).toList),d),_,fk,⟨_,_,rfl,(S.tk 1 1 rfl rfl),(Rd.le_trans L10 (Rd.le_refl rd8)),⟨OO,(by first | omega | (simp;omega))⟩,(by omega),(put_3 hz15 hp hdn hah)⟩,?_⟩
   show _ < _;dsimp only;omega
  refine ckd (ly (.bool true) S Yt (ln (e_cT rfl (er (ly (sc AO nO cO) S Ym (ly (.agg (kL x)) S (ybA 0 T104) (l_bs (ps:=[(0,.agg (kL x))]) (cs:=#[.bool x.set,ni x.key,ni x.item,ni x.author,ni x.seq]) S U24 SZ104 Z104 rfl rfl rfl (by kernel_rfl) fun g40 w41 S => ?_)))))));refine l_ap (e':=0) (i:=0) (i':=2) S K24 rfl rfl rfl rfl rfl rfl rfl (by simp only [maxLen];omega) (by first | omega | (dsimp only;omega)) fun v42 w43 S => ?_
  have OO:=RowR.push (x:=x) (cs:=(kL x).toList) OO rfl rfl;obtain ⟨A44,c45,m46e,m46,m46'⟩:∃ A c,v42 = .slice A (nO + 1) c ∧ (nO + 1) ≤ c ∧ c ≤ maxLen:=own_len S (i:=0) rfl;subst m46e;refine ly (sc A44 (nO + 1) c45) S Ya (ln (e_reg (ly (.bool true) S Ya (ln (e_reg (ly (sc A44 (nO + 1) c45) S Ym (ly (.agg (kL z14)) S (ybA 1 T104) (l_bs (ps:=[(0,.agg (kL z14))]) (cs:=#[.bool z14.set,ni z14.key,ni z14.item,ni z14.author,ni z14.seq]) S U24 SZ104 Z104 rfl rfl rfl (by kernel_rfl) fun g47 w48 S => ?_))))))));refine l_ap (e':=0) (i:=0) (i':=3) S K24 rfl rfl rfl rfl rfl rfl rfl (by simp only [maxLen];omega) (by first | omega | (dsimp only;omega)) fun v49 w50 S => ?_
  have OO:=RowR.push (x:=z14) (cs:=(kL z14).toList) OO rfl rfl;obtain ⟨A51,c52,m53e,m53,m53'⟩:∃ A c,v49 = .slice A ((nO + 1) + 1) c ∧ ((nO + 1) + 1) ≤ c ∧ c ≤ maxLen:=own_len S (i:=0) rfl;subst m53e;refine ly (sc A51 ((nO + 1) + 1) c52) S Ya (l_nil (n_blk (nr (ly (ni ((k:Int) + 1)) S (y_add (r:=(k:Int) + 1) rfl rfl (w64 (by omega) (by omega))) (ly (ni ((k:Int) + 1)) S Ym (l_nil ?_))))));refine n_lp ⟨(k + 1,(o ++ [x]) ++ [z14],A51,(nO + 1) + 1,c52,((xsO ++ (kL x).toList) ++ (kL z14).toList),true),_,fk,⟨_,_,rfl,(S.tk 1 1 rfl rfl),(Rd.le_trans L10 (Rd.le_refl rd8)),⟨OO,(by first | omega | (simp;omega))⟩,(by omega),(put_2 hz15 hp hdn hah)⟩,?_⟩
  show _ < _;dsimp only;omega
 refine ly (.bool false) S (y_ltF rfl rfl h13) (ln (e_seq (e_cF rfl (e_exit (x_seq (x_lp (x_hit (n_seq (e_seq (er (ly (.bool d) S Ym ?_)))))))))))
 rcases Bool.eq_false_or_eq_true d with hde | hde
 ·
  refine ly (.bool false) S (y_not rfl (by rw [hde];rfl)) (ln (e_cF rfl (e_skip (n_seq (er (ly (sc AO nO cO) S Ym (ly (sc AO nO cO) S Ya (ln (e_ret ?_)))))))));refine ret1 (v:=sc AO nO cO) rfl rfl ?_;have es:putL l x = o:=put_e (o:=o) (d:=d) (by rwa [List.take_of_length_le (by omega)] at hp) (by rw [hde];rfl);rw [es];exact ⟨_,rfl,(S.rowOut (i:=0) rfl rfl (by first | assumption | (simp;omega)) rfl OO),S.below⟩
 refine ly (.bool true) S (y_not rfl (by rw [hde];rfl)) (ln (e_cT rfl (e_reg (ly (sc AO nO cO) S Ym (ly (.agg (kL x)) S (ybA 0 T104) (l_bs (ps:=[(0,.agg (kL x))]) (cs:=#[.bool x.set,ni x.key,ni x.item,ni x.author,ni x.seq]) S U24 SZ104 Z104 rfl rfl rfl (by kernel_rfl) fun g54 w55 S => ?_))))));refine l_ap (e':=0) (i:=0) (i':=1) S K24 rfl rfl rfl rfl rfl rfl rfl (by simp only [maxLen];omega) (by first | omega | (dsimp only;omega)) fun v56 w57 S => ?_
 have OO:=RowR.push (x:=x) (cs:=(kL x).toList) OO rfl rfl;obtain ⟨A58,c59,m60e,m60,m60'⟩:∃ A c,v56 = .slice A (nO + 1) c ∧ (nO + 1) ≤ c ∧ c ≤ maxLen:=own_len S (i:=0) rfl;subst m60e;refine ly (sc A58 (nO + 1) c59) S Ya (ln (er (ly (sc A58 (nO + 1) c59) S Ym (ly (sc A58 (nO + 1) c59) S Ya (ln (e_ret ?_))))));refine ret1 (v:=sc A58 (nO + 1) c59) rfl rfl ?_;have es:putL l x = o ++ [x]:=put_e (o:=o) (d:=d) (by rwa [List.take_of_length_le (by omega)] at hp) (by rw [hde];rfl);rw [es];exact ⟨_,rfl,(S.rowOut (i:=0) rfl rfl (by first | assumption | (simp;omega)) rfl OO),S.below⟩

set_option maxRecDepth 100000 in
theorem RStays_c (rd:Rd) (W:World) (hle:Rd.le rd (wrd W)) (v v2:Value) (x:Live) (l:List Upd) (h:AggR LiveR rd v x) (h2:SliceR 5 UpdR rd v2 l) (h0:0 ≤ x.author) :
    Calls Tryz.prog 97 #[v,v2] W (fun e w' => e = .returned (.bool (staysR x l)) ∧ Below W.heap.size W w'):=by
 obtain ⟨vs1,he,h⟩:=h;subst he;have he:vs1 = [.bool x.set,ni x.key,ni x.item,ni x.author,ni x.seq]:=h;subst he;clear h;obtain ⟨A2,c3,rfl,m4,m4'⟩:=h2.val;have hmx:maxLen = 9223372036854775807:=rfl;have S:St [] W rd rd [] [] W:=St.start hle;refine e_enter (args:=[.agg (kL x),sc A2 l.length c3]) 17 Tryz.func97 rfl rfl rfl ?_;refine er (l_bx (u:=.agg (kL x)) (cs:=(kL x)) S rfl rfl fun g5 w6 S => ly (.bool false) S Ya (ln (e_seq (er (ly (sc A2 l.length c3) S Ym (ly (ni (l.length:Int)) S (Yl U28) (ly (ni 0) S Ym (ln (e_blk ?_)))))))));refine et [(2,pa g5 0),(7,sc A2 l.length c3),(8,ni (l.length:Int)),(9,ni (0:Int))] (fun junk => ?_);refine e_loop (fun (gh_:Nat) ov w => match gh_ with | i => ∃ rd' junk,ov = [(2,pa g5 0),(7,sc A2 l.length c3),(8,ni (l.length:Int)),(9,ni (i:Int))] ++ junk ∧ St [] W rd rd' [(g5,104,(kL x))] [] w ∧ Rd.le rd rd' ∧ i ≤ l.length ∧ (∀ u ∈ l.take i,ends u x = false)) (fun gh_ => match gh_ with | i => l.length - i) 0 ⟨_,junk,rfl,(S.rw' rfl rfl),(Rd.le_refl _),(by omega),(fun y hy => by simp at hy)⟩ ?_;rintro i ov10 w8 ⟨rd7,junk,rfl,S,L9,hi,hno⟩;replace h2:=fm h2 L9;refine er ?_;by_cases h11:(i:Int) < (l.length:Int)
 ·
  refine ly (.bool true) S (y_ltT rfl rfl h11) (ln (e_seq (e_cT rfl (e_skip (n_seq (e_seq (e_blk (er ?_))))))));obtain ⟨z12,hz13⟩:∃ z,(l)[i]? = some z:=nth_of (by omega);obtain ⟨p14,vs15,E16,nn17,r18,Y19⟩:=y_ia U28 SZ42 h2 hz13;clear nn17;obtain ⟨sv20,r18e,h21⟩:=r18;subst r18e;obtain ⟨A22,c23,rfl,m24,m24'⟩:=h21.val;refine ly p14 S (Y19 rfl rfl (by first | rfl | omega)) (ly (.agg (kU z12 A22 c23)) S (ypA E16 T42) (l_al (cs:=zc42) S Z42 rfl fun g25 w26 S => l_st (u:=.agg (kU z12 A22 c23)) (i:=1) (cs':=(kU z12 A22 c23)) S rfl rfl rfl SZ42 rfl rfl rfl fun w27 S => ln (er (ly (.agg (kU z12 A22 c23)) S (ybA 1 T42) (ly (.agg (kL x)) S (ybA 0 T104) ?_)))));refine l_c (en_f (vs:=[.agg (kU z12 A22 c23),.agg (kL x)]) (CF 98 _) rfl rfl) (REnds_c _ _ S.le _ _ z12 x (⟨_,rfl,⟨_,rfl,h21⟩⟩:AggR UpdR rd7 _ z12) (⟨_,rfl,rfl⟩:AggR LiveR rd7 _ x) h0) ?_;rintro e w28 ⟨rfl,k⟩;have S:=S.callq k;clear k
  cases hen:ends z12 x
  ·
   refine kn (n_seq (e_cF rfl (e_skip (n_blk (nr (ly (ni ((i:Int) + 1)) S (y_add (r:=(i:Int) + 1) rfl rfl (w64 (by omega) (by omega))) (ly (ni ((i:Int) + 1)) S Ym (l_nil ?_))))))));refine n_lp ⟨(i + 1),_,fk,⟨_,_,rfl,(S.tk 1 0 rfl rfl),(Rd.le_trans L9 (Rd.le_refl rd7)),(by omega),(by rw [take_snoc hz13];intro y hy;rcases List.mem_append.1 hy with hy | hy;exact hno y hy;rw [List.mem_singleton.1 hy];exact hen)⟩,?_⟩
   show _ < _;dsimp only;omega
  refine kn (n_seq (e_cT rfl (er (ly (.bool false) S Ya (ln (e_ret ?_))))));refine ret1 (v:=.bool false) rfl rfl ?_;exact ⟨rbool (Bool.eq_false_iff.2 fun q => by have:=staysR_iff.1 q _ (List.mem_of_getElem? hz13);rw [hen] at this;cases this).symm,S.below⟩
 refine ly (.bool false) S (y_ltF rfl rfl h11) (ln (e_seq (e_cF rfl (e_exit (x_seq (x_lp (x_hit (n_seq (er (ly (.bool true) S Ya (ln (e_ret ?_))))))))))));refine ret1 (v:=.bool true) rfl rfl ?_;exact ⟨rbool (staysR_iff.2 (by rwa [List.take_of_length_le (by omega)] at hno)).symm,S.below⟩

set_option maxRecDepth 100000 in
theorem RW1_c (rd:Rd) (W:World) (hle:Rd.le rd (wrd W)) (ee:Int) (p:Value) (i:Int) (h:PtrC rd p [ni i]) :
    Calls Tryz.prog 89 #[(.int .i64 ee),p] W (fun e w' => e = .returned (.agg #[ni ee,ni i]) ∧ Below W.heap.size W w'):=by
 have hmx:maxLen = 9223372036854775807:=rfl;have S:St [] W rd rd [] [] W:=St.start hle;refine e_enter (args:=[ni ee,p]) 7 Tryz.func89 rfl rfl rfl ?_;refine er (l_al (cs:=zc84) S Z84 rfl fun g1 w2 S => ln (er (ly (ni ee) S Ym (ly (ni i) S (yp1 h T3) (ly (.agg #[ni ee,ni i]) S (y_bd (ps:=[(0,ni ee),(1,ni i)]) rfl (fun _ => by kernel_rfl)) (l_st (u:=.agg #[ni ee,ni i]) (i:=0) (cs':=#[ni ee,ni i]) S rfl rfl rfl SZ84 rfl rfl rfl fun w3 S => ln (e_ret ?_)))))));refine ret1 (v:=.agg #[ni ee,ni i]) rfl ⟨_,rfl,ld_bA (i:=0) (vs:=[ni ee,ni i]) S rfl T84 rfl rfl⟩ ?_;exact ⟨rfl,S.below⟩

set_option maxRecDepth 100000 in
theorem RW2_c (rd:Rd) (W:World) (hle:Rd.le rd (wrd W)) (ee:Int) (p:Value) (i:Int) (h:PtrC rd p [ni i]) :
    Calls Tryz.prog 91 #[(.int .i64 ee),p] W (fun e w' => e = .returned (.agg #[ni ee,ni i]) ∧ Below W.heap.size W w'):=by
 have hmx:maxLen = 9223372036854775807:=rfl;have S:St [] W rd rd [] [] W:=St.start hle;refine e_enter (args:=[ni ee,p]) 7 Tryz.func91 rfl rfl rfl ?_;refine er (l_al (cs:=zc84) S Z84 rfl fun g1 w2 S => ln (er (ly (ni ee) S Ym (ly (ni i) S (yp1 h T3) (ly (.agg #[ni ee,ni i]) S (y_bd (ps:=[(0,ni ee),(1,ni i)]) rfl (fun _ => by kernel_rfl)) (l_st (u:=.agg #[ni ee,ni i]) (i:=0) (cs':=#[ni ee,ni i]) S rfl rfl rfl SZ84 rfl rfl rfl fun w3 S => ln (e_ret ?_)))))));refine ret1 (v:=.agg #[ni ee,ni i]) rfl ⟨_,rfl,ld_bA (i:=0) (vs:=[ni ee,ni i]) S rfl T84 rfl rfl⟩ ?_;exact ⟨rfl,S.below⟩
end Go.Proofs.YtkjknlnhffmkkacGreat
