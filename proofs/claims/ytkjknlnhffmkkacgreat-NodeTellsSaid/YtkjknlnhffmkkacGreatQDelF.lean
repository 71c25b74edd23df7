/- slices.IndexFunc and DeleteFunc at lives. -/
import Derived.Test.YtkjknlnhffmkkacGreatQPl
import Derived.Test.YtkjknlnhffmkkacGreatQEg
import Derived.Test.YtkjknlnhffmkkacGreatQTy
namespace Go.Proofs.YtkjknlnhffmkkacGreat
open Go.RowKit
set_option linter.unusedVariables false
theorem idx_step {α:Type} {p:α → Bool} {l:List α} {k:Nat} {z:α} (hb:∀ (j:Nat) y,j < k → l[j]? = some y → p y = false) (hz:l[k]? = some z) (hp:p z = false):∀ (j:Nat) y,j < k + 1 → l[j]? = some y → p y = false:=fun j y hj hy => by
  rcases Nat.lt_or_eq_of_le (Nat.le_of_lt_succ hj) with h | h
  · exact hb j y h hy
  · subst h;rw [hz] at hy;injection hy with e;subst e;exact hp
section
variable {p:Live → Bool} {l:List Live} {rd:Rd} {n cap i j:Nat} {cur cu:Array Value} {zs:List Value} {o':Nat} {z:Live}
theorem rowL_any {rd rd':Rd}:∀ {l:List Live} {xs:List Value},RowR 5 LiveR rd xs l → RowR 5 LiveR rd' xs l
  | [],_,h => h
  | _ :: _,_,⟨cs,rest,e,h1,h2,h3⟩ => ⟨cs,rest,e,h1,h2,rowL_any h3⟩
theorem dfl_none (h:idxF p l = -1):l.filter (fun x => !p x) = l:=by
  rw [List.filter_eq_self]
  intro x hx
  have:=idxF_any p l
  rw [h] at this
  have:=List.any_eq_false.1 this.symm x hx
  simpa using this
theorem dfl_pos (hn:n = l.length) (h:¬ idxF p l = -1):0 ≤ idxF p l ∧ idxF p l < n:=by
  unfold idxF at h ⊢
  cases hf:l.findIdx? p with
  | none => rw [hf] at h;exact absurd rfl h
  | some i =>
    obtain ⟨hl,_⟩:=List.findIdx?_eq_some_iff_getElem.1 hf
    simp;omega
theorem dfl_init (hcs:cur.size = cap * 5) (hr:RowR 5 LiveR rd (cur.toList.take (n * 5)) l) (hn:n = l.length) (h:¬ idxF p l = -1):RowR 5 LiveR rd (cur.toList.take ((idxF p l).toNat * 5)) ((l.take ((idxF p l).toNat + 1)).filter fun x => !p x):=by
  obtain ⟨h0,h1⟩:=dfl_pos hn h
  unfold idxF at h h0 h1 ⊢
  cases hf:l.findIdx? p with
  | none => rw [hf] at h;exact absurd rfl h
  | some i =>
    obtain ⟨hl,hp,hb⟩:=List.findIdx?_eq_some_iff_getElem.1 hf
    simp only [Int.toNat_natCast]
    have e:(l.take (i + 1)).filter (fun x => !p x) = l.take i:=by
      rw [take_snoc (List.getElem?_eq_getElem hl),List.filter_append]
      have e1:[l[i]].filter (fun x => !p x) = []:=by simp [hp]
      rw [e1,List.append_nil,List.filter_eq_self]
      intro x hx
      obtain ⟨j,hj,rfl⟩:=List.getElem_of_mem hx
      rw [List.length_take] at hj
      have:=hb j (by omega)
      rw [List.getElem_take]
      simpa using this
    rw [e]
    have:=hr.take i
    rwa [List.take_take,Nat.min_eq_left (by omega)] at this
theorem dfl_keep (hrow:RowR 5 LiveR rd (cu.toList.take (i * 5)) ((l.take j).filter fun x => !p x)) (hz:l[j]? = some z) (hp:p z = true):RowR 5 LiveR rd (cu.toList.take (i * 5)) ((l.take (j + 1)).filter fun x => !p x):=by
  rw [take_snoc hz,List.filter_append]
  simpa [hp] using hrow
theorem over_take {cs:Array Value} {k:Nat} {vs:List Value} (h:k ≤ cs.size):(over cs k vs).toList.take (k + vs.length) = cs.toList.take k ++ vs:=by
  unfold over
  have hA:(cs.toList.take k).length = k:=by rw [List.length_take,Array.length_toList];omega
  rw [List.take_append_of_le_length (by rw [List.length_append,hA];exact Nat.le_refl _),List.take_of_length_le (by rw [List.length_append,hA];exact Nat.le_refl _)]
theorem dfl_push (hrow:RowR 5 LiveR rd (cu.toList.take (i * 5)) ((l.take j).filter fun x => !p x)) (hcu:cu.size = cap * 5) (hi:i < cap) (hz:l[j]? = some z) (hp:p z = false):RowR 5 LiveR rd ((over cu (i * 5) [.bool z.set,.int .i64 z.key,.int .i64 z.item,.int .i64 z.author,.int .i64 z.seq]).toList.take ((i + 1) * 5)) ((l.take (j + 1)).filter fun x => !p x):=by
  rw [take_snoc hz,List.filter_append]
  have e1:[z].filter (fun x => !p x) = [z]:=by simp [hp]
  rw [e1,show (i + 1) * 5 = i * 5 + [Value.bool z.set,.int .i64 z.key,.int .i64 z.item,.int .i64 z.author,.int .i64 z.seq].length by simp;omega,over_take (by omega)]
  exact hrow.push rfl rfl
theorem dfl_rest {cs:Array Value} {k m:Nat} {vs:List Value} (h:k + vs.length ≤ m):(over cs k vs)[m]? = cs[m]?:=by
  unfold over
  by_cases hk:k ≤ cs.size
  · have hA:(cs.toList.take k).length = k:=by rw [List.length_take,Array.length_toList];omega
    rw [List.getElem?_toArray,List.getElem?_append_right (by rw [List.length_append,hA];exact h),List.length_append,hA,List.getElem?_drop,show k + vs.length + (m - (k + vs.length)) = m by omega]
    simp
  · have h1:cs[m]? = none:=Array.getElem?_eq_none (by omega)
    rw [h1,List.getElem?_toArray,List.getElem?_eq_none]
    simp;omega
theorem dfl_clr (hcu:cu.size = cap * 5) (hcap:n ≤ cap) (hi:i ≤ n) (ho:i < cap → o' = 0 + i * 5):0 < n - i → o' + (n - i) * 5 ≤ cu.size:=fun h => by
  rw [ho (by omega),hcu];omega
theorem dfl_csize (hcu:cu.size = cap * 5) (ho:i < cap → o' = 0 + i * 5) (hz:zs.length = (n - i) * 5) (hcap:n ≤ cap) (hi:i ≤ n):(if n - i = 0 then cu else over cu o' zs).size = cap * 5:=by
  split
  · exact hcu
  · rw [over_size (by rw [hz];exact dfl_clr hcu hcap hi ho (by omega)),hcu]
theorem dfl_len (hrow:RowR 5 LiveR rd (cu.toList.take (i * 5)) ((l.take j).filter fun x => !p x)) (hcu:cu.size = cap * 5) (hj:l.length ≤ j) (hi:i ≤ n) (hcap:n ≤ cap):i = (l.filter fun x => !p x).length:=by
  rw [List.take_of_length_le hj] at hrow
  have:=hrow.len
  rw [List.length_take,Array.length_toList,hcu] at this
  omega
theorem dfl_row (hrow:RowR 5 LiveR rd (cu.toList.take (i * 5)) ((l.take j).filter fun x => !p x)) (hcu:cu.size = cap * 5) (ho:i < cap → o' = 0 + i * 5) (hz:zs.length = (n - i) * 5) (hcap:n ≤ cap) (hi:i ≤ n) (hj:l.length ≤ j):RowR 5 LiveR rd ((if n - i = 0 then cu else over cu o' zs).toList.take (i * 5)) (l.filter fun x => !p x):=by
  rw [List.take_of_length_le hj] at hrow
  split
  · exact hrow
  · rw [ho (by omega),Nat.zero_add]
    have:(over cu (i * 5) zs).toList.take (i * 5) = cu.toList.take (i * 5):=by
      unfold over
      have hA:(cu.toList.take (i * 5)).length = i * 5:=by rw [List.length_take,Array.length_toList,hcu];omega
      rw [List.append_assoc,List.take_append_of_le_length (by omega),List.take_take,Nat.min_self]
    rw [this];exact hrow
end
set_option maxRecDepth 100000 in
theorem IdxFL_c (rd:Rd) (W:World) (hle:Rd.le rd (wrd W)) (X:List Nat) (W0:World) (f:Nat) (caps:List Value) (p:Live → Bool) (hf:∀ vs w,(callFunc f vs).run Tryz.prog w = .ok (.enter f vs) w) (hT:∀ (w:World) (x:Live),Frm X W0 w → Calls Tryz.prog f ([Value.agg #[.bool x.set,.int .i64 x.key,.int .i64 x.item,.int .i64 x.author,.int .i64 x.seq]] ++ caps).toArray w fun e w' => e = .returned (.bool (p x)) ∧ Below w.heap.size w w') (hF:Frm X W0 W) (v:Value) (l:List Live) (h:SliceR 5 LiveR rd v l) :
    Calls Tryz.prog 127 #[v,(.func (.func f) #[] caps.toArray)] W (fun e w' => e = .returned (.int .i64 (idxF p l)) ∧ Below W.heap.size W w'):=by
 obtain ⟨A1,c2,rfl,m3,m3'⟩:=h.val;have hmx:maxLen = 9223372036854775807:=rfl;have S:St [] W rd rd [] [] W:=St.start hle;refine e_enter (args:=[sc A1 l.length c2,.func (.func f) #[] caps.toArray]) 19 Tryz.func127 rfl rfl rfl ?_;refine er (ly (ni 0) S Ya (ln (e_seq (er (ly (sc A1 l.length c2) S Ym (ly (ni (l.length:Int)) S (Yl U24) (ly (ni 0) S Ym (ln (e_blk ?_)))))))));refine et [(0,sc A1 l.length c2),(1,.func (.func f) #[] caps.toArray),(7,ni (l.length:Int)),(8,ni (0:Int))] (fun junk => ?_);refine e_loop (fun (gh_:Nat) ov w => match gh_ with | k => ∃ rd' junk,ov = [(0,sc A1 l.length c2),(1,.func (.func f) #[] caps.toArray),(7,ni (l.length:Int)),(8,ni (k:Int))] ++ junk ∧ St [] W rd rd' [] [] w ∧ Rd.le rd rd' ∧ k ≤ l.length ∧ (∀ (j:Nat) y,j < k → l[j]? = some y → p y = false)) (fun gh_ => match gh_ with | k => l.length - k) 0 ⟨_,junk,rfl,(S.rw' rfl rfl),(Rd.le_refl _),(by omega),(fun j y h => absurd h (Nat.not_lt_zero _))⟩ ?_;rintro k ov7 w5 ⟨rd4,junk,rfl,S,L6,hk,hb⟩;replace h:=fm h L6;refine er ?_;by_cases h8:(k:Int) < (l.length:Int)
 ·
  refine ly (.bool true) S (y_ltT rfl rfl h8) (ln (e_seq (e_cT rfl (e_skip (n_seq (e_seq (e_blk (er (ly (ni (k:Int)) S Ym (ly (ni (k:Int)) S Ya (ln (e_seq ?_))))))))))));refine e_reg (ly (.func (.func f) #[] caps.toArray) S Ym (ly (sc A1 l.length c2) S Ym (ly (ni (k:Int)) S Ym ?_)));obtain ⟨z9,hz10⟩:∃ z,(l)[k]? = some z:=nth_of (by first | assumption | omega);obtain ⟨p11,vs12,E13,nn14,r15,Y16⟩:=y_ia U24 SZ104 h hz10;clear nn14;have r15e:vs12 = [.bool z9.set,ni z9.key,ni z9.item,ni z9.author,ni z9.seq]:=r15;subst r15e;clear r15;refine ly p11 S (Y16 rfl rfl (by first | rfl | omega)) (ly (.agg (kL z9)) S (ypA E13 T104) ?_);have hq17:=hT _ z9 (hF.step S.below);refine l_c (en_v (vs:=[.agg (kL z9)]) (cs:=caps) (hf _) rfl rfl rfl) (hq17) ?_;rintro e w18 ⟨rfl,k⟩;have S:=S.callq k;clear k
  cases hp:p z9
  ·
   refine kn (n_seq (e_cF rfl (e_skip (n_blk (nr (ly (ni ((k:Int) + 1)) S (y_add (r:=(k:Int) + 1) rfl rfl (w64 (by omega) (by omega))) (ly (ni ((k:Int) + 1)) S Ym (l_nil ?_))))))));refine n_lp ⟨(k + 1),_,fk,⟨_,_,rfl,(S.tk 0 0 rfl rfl),(Rd.le_trans L6 (Rd.le_refl rd4)),(by omega),(idx_step hb hz10 hp)⟩,?_⟩
   show _ < _;dsimp only;omega
  refine kn (n_seq (e_cT rfl (er (ly (ni (k:Int)) S Ym (ly (ni (k:Int)) S Ya (ln (e_ret ?_)))))));refine ret1 (v:=ni (k:Int)) rfl rfl ?_;exact ⟨rint (idxF_hit hz10 hp hb).symm,S.below⟩
 refine ly (.bool false) S (y_ltF rfl rfl h8) (ln (e_seq (e_cF rfl (e_exit (x_seq (x_lp (x_hit (n_seq (er (ly (ni (-1)) S Ya (ln (e_ret ?_))))))))))));refine ret1 (v:=ni (-1)) rfl rfl ?_;exact ⟨rint (idxF_none fun j y hy => hb j y (by have:=(List.getElem?_eq_some_iff.1 hy).1;omega) hy).symm,S.below⟩

set_option maxRecDepth 100000 in
theorem DelFL_c (rd:Rd) (W:World) (hle:Rd.le rd (wrd W)) (g n cap:Nat) (cur:Array Value) (l:List Live) (hg:W.heap[g]? = some (.cells cur 104 (0,0))) (hrd:∀ o,rd g o = none) (hcs:cur.size = cap * 5) (hr:RowR 5 LiveR rd (cur.toList.take (n * 5)) l) (hn:n = l.length) (hcap:n ≤ cap) (hm:cap ≤ maxLen) (f:Nat) (caps:List Value) (p:Live → Bool) (hf:∀ vs w,(callFunc f vs).run Tryz.prog w = .ok (.enter f vs) w) (hT:∀ (w:World) (x:Live),Frm [g] W w → Calls Tryz.prog f ([Value.agg #[.bool x.set,.int .i64 x.key,.int .i64 x.item,.int .i64 x.author,.int .i64 x.seq]] ++ caps).toArray w fun e w' => e = .returned (.bool (p x)) ∧ Below w.heap.size w w') :
    Calls Tryz.prog 117 #[(sb g 0 n cap),(.func (.func f) #[] caps.toArray)] W (fun e w' => ∃ cur' m,e = .returned (.slice (some ⟨g,0,none⟩) m cap) ∧ m = (l.filter fun x => !p x).length ∧ w'.heap[g]? = some (.cells cur' 104 (0,0)) ∧ cur'.size = cap * 5 ∧ RowR 5 LiveR rd (cur'.toList.take (m * 5)) (l.filter fun x => !p x) ∧ Frm [g] W w'):=by
 have hmx:maxLen = 9223372036854775807:=rfl;have S:St [g] W rd rd [(g,104,cur)] [] W:=St.startX hle (by intro p hp;simp only [List.mem_cons,List.not_mem_nil,or_false] at hp;rcases hp with rfl <;> first | exact ⟨by simp,hg,hrd⟩) (by simp);refine e_enter (args:=[sb g 0 n cap,.func (.func f) #[] caps.toArray]) 42 Tryz.func117 rfl rfl rfl ?_;refine er (ly sn S Ya (ln (er (ly (sb g 0 n cap) S Ym (ly (.func (.func f) #[] caps.toArray) S Ym ?_)))));refine l_c (en_f (vs:=[sb g 0 n cap,.func (.func f) #[] caps.toArray]) (CF 127 _) rfl rfl) (IdxFL_c (wrd _) _ (Rd.le_refl _) [g] W f caps p hf hT S.fr _ l (S.boxSl (i:=0) rfl hn hcap hm hr)) ?_;rintro e w1 ⟨rfl,k⟩;have S:=S.callq k;clear k;refine ckd (ly (ni (idxF p l)) S Ya (ln (e_seq (er (ly (ni (idxF p l)) S Ym ?_)))));by_cases hI:idxF p l = (-1)
 ·
  refine ly (.bool true) S (y_eqT rfl rfl hI) (ln (e_cT rfl (er (ly (sb g 0 n cap) S Ym (ly (sb g 0 n cap) S Ya (ln (e_ret ?_)))))));refine ret1 (v:=sb g 0 n cap) rfl rfl ?_;exact ⟨_,_,rfl,by rw [dfl_none hI];exact hn,(S.box _ (List.mem_of_getElem? (i:=0) rfl)).2.1,hcs,by rw [dfl_none hI];exact rowL_any hr,S.fr⟩
 refine ly (.bool false) S (y_eqF rfl rfl hI) (ln (e_cF rfl (e_skip (n_seq (e_seq (er ?_))))));obtain ⟨hI0,hI1⟩:=dfl_pos hn hI;refine ly (ni (idxF p l)) S Ym (ly (ni (((idxF p l).toNat + 1:Nat):Int)) S (y_add (r:=(((idxF p l).toNat + 1:Nat):Int)) rfl rfl ((w64 (by omega) (by omega)).trans (by omega))) (ly (ni (((idxF p l).toNat + 1:Nat):Int)) S Ya (ln (e_blk ?_))));refine et [(0,sb g 0 n cap),(1,.func (.func f) #[] caps.toArray),(4,sn),(5,ni (((idxF p l).toNat:Nat):Int)),(6,ni ((((idxF p l).toNat + 1):Nat):Int))] (fun junk => ?_);refine e_loop (fun (gh_:Nat × Nat × (Array Value)) ov w => match gh_ with | (i,j,cu) => ∃ rd' junk,ov = [(0,sb g 0 n cap),(1,.func (.func f) #[] caps.toArray),(4,sn),(5,ni (i:Int)),(6,ni (j:Int))] ++ junk ∧ St [g] W rd rd' [(g,104,cu)] [] w ∧ Rd.le rd rd' ∧ RowR 5 LiveR rd' (cu.toList.take (i * 5)) ((l.take j).filter fun x => !p x) ∧ i < j ∧ j ≤ n ∧ cu.size = cap * 5 ∧ (∀ m,j * 5 ≤ m → cu[m]? = cur[m]?)) (fun gh_ => match gh_ with | (i,j,cu) => n - j) ((idxF p l).toNat,((idxF p l).toNat + 1),cur) ⟨_,junk,rfl,(S.rw' rfl rfl),(Rd.le_refl _),(dfl_init hcs hr hn hI),(by omega),(by omega),hcs,(fun _ _ => rfl)⟩ ?_;rintro ⟨i,j,cu⟩ ov5 w3 ⟨rd2,junk,rfl,S,L4,hrow,hij,hjn,hcu,hrest⟩;replace hr:=rm hr L4;refine e_seq (er (ly (ni (j:Int)) S Ym (ly (sb g 0 n cap) S Ym (ly (ni (n:Int)) S (Yl U24) ?_))));by_cases h6:(j:Int) < (n:Int)
 ·
  refine ly (.bool true) S (y_ltT rfl rfl h6) (ln (e_cT rfl (e_skip (n_seq (e_seq (e_blk (er (ly (sb g 0 n cap) S Ym (ly (ni (j:Int)) S Ym (ly (pa g (j * 5)) S (y_ibs (k:=j) U24 SZ104 (by omega) (Nat.zero_add _) rfl rfl (by first | rfl | omega)) ?_))))))))));obtain ⟨z7,hz8⟩:∃ z,l[j]? = some z:=nth_of (by omega);obtain ⟨vs9,q10l,q10,q10c⟩:=row_get hr hz8;clear q10l;have q10e:vs9 = [.bool z7.set,ni z7.key,ni z7.item,ni z7.author,ni z7.seq]:=q10;subst q10e;clear q10;refine ly (.agg (kL z7)) S (y_ld rfl (fun w S => ld_bs (i:=0) S rfl T104 rfl (fun m u hu => (hrest _ (by omega)).trans (q10c m u hu)))) (l_al (cs:=zc104) S Z104 rfl fun g11 w12 S => l_st (u:=.agg (kL z7)) (i:=1) (cs':=(kL z7)) S rfl rfl rfl SZ104 rfl rfl rfl fun w13 S => ln (er (ly (.func (.func f) #[] caps.toArray) S Ym (ly (.agg (kL z7)) S (ybA 1 T104) ?_))));have hq14:=hT _ z7 S.fr;refine l_c (en_v (vs:=[.agg (kL z7)]) (cs:=caps) (hf _) rfl rfl rfl) (hq14) ?_;rintro e w15 ⟨rfl,k⟩;have S:=S.callq k;clear k
  cases hp:p z7
  ·
   refine ckd (ly (.bool true) S (y_not rfl rfl) (ln (e_cT rfl (er (ly (sb g 0 n cap) S Ym (ly (ni (i:Int)) S Ym (ly (.agg (kL z7)) S (ybA 1 T104) (ly (pa g (i * 5)) S (y_ibs (k:=i) U24 SZ104 (by omega) (Nat.zero_add _) rfl rfl (by first | rfl | omega)) (l_sp (u:=.agg (kL z7)) (i:=0) S rfl rfl rfl SZ104 (by simp only [Value.cells];show _ + 5 ≤ _;omega) rfl fun w16 S => ln (e_reg (ly (ni (i:Int)) S Ym ?_)))))))))));refine ly (ni ((i:Int) + 1)) S (y_add (r:=(i:Int) + 1) rfl rfl (w64 (by omega) (by omega))) (ly (ni ((i:Int) + 1)) S Ya (l_nil (n_blk (nr (ly (ni (j:Int)) S Ym (ly (ni ((j:Int) + 1)) S (y_add (r:=(j:Int) + 1) rfl rfl (w64 (by omega) (by omega))) (ly (ni ((j:Int) + 1)) S Ya (l_nil ?_))))))));refine n_lp ⟨(i + 1,j + 1,over cu (i * 5) [.bool z7.set,ni z7.key,ni z7.item,ni z7.author,ni z7.seq]),_,fk,⟨_,_,rfl,(S.tk 1 0 rfl rfl),(Rd.le_trans L4 (Rd.le_refl rd2)),(dfl_push hrow hcu (by omega) hz8 hp),(by omega),(by omega),(by rw [over_size (by simp;omega)];exact hcu),(fun m hm2 => (dfl_rest (by simp;omega)).trans (hrest m (by omega)))⟩,?_⟩
   show _ < _;dsimp only;omega
  refine ckd (ly (.bool false) S (y_not rfl rfl) (ln (e_cF rfl (e_skip (n_blk (nr (ly (ni (j:Int)) S Ym (ly (ni ((j:Int) + 1)) S (y_add (r:=(j:Int) + 1) rfl rfl (w64 (by omega) (by omega))) (ly (ni ((j:Int) + 1)) S Ya (l_nil ?_))))))))));refine n_lp ⟨(i,j + 1,cu),_,fk,⟨_,_,rfl,(S.tk 1 0 rfl rfl),(Rd.le_trans L4 (Rd.le_refl rd2)),(dfl_keep hrow hz8 hp),(by omega),(by omega),hcu,(fun m hm2 => hrest m (by omega))⟩,?_⟩
  show _ < _;dsimp only;omega
 refine ly (.bool false) S (y_ltF rfl rfl h6) (ln (e_cF rfl (e_exit (x_seq (x_lp (x_hit (n_seq (er (ly (sb g 0 n cap) S Ym (ly (ni (i:Int)) S Ym ?_))))))))));obtain ⟨o17,ho18,Y19⟩:=y_slb (g:=g) (o:=0) (n:=n) (c:=cap) (lo:=i) (hi:=n) U24 SZ104 (by omega) (by omega);refine ly (sb g o17 (n - i) (cap - i)) S (Y19 rfl (.inr ⟨_,_,_,rfl,rfl,(by first | rfl | omega)⟩) (.inl ⟨rfl,rfl⟩)) ?_;refine l_cl (i:=0) S K24 Z104 rfl rfl rfl (dfl_clr hcu hcap (by omega) ho18) fun w22 zs20 hzs21 S => ?_
 refine ln (er (ly (sb g 0 n cap) S Ym (ly (ni (i:Int)) S Ym (ly (sb g 0 i cap) S (y_slb0 (hi:=i) U24 SZ104 (by omega) rfl (.inr ⟨_,_,_,rfl,rfl,(by first | rfl | omega)⟩)) (ly (sb g 0 i cap) S Ya (ln (e_ret ?_)))))));refine ret1 (v:=sb g 0 i cap) rfl rfl ?_;exact ⟨_,_,rfl,dfl_len (n:=n) hrow hcu (by omega) (by omega) hcap,(S.box _ (List.mem_of_getElem? (i:=0) rfl)).2.1,dfl_csize hcu ho18 hzs21 hcap (by omega),rowL_any (dfl_row hrow hcu ho18 hzs21 hcap (by omega) (by omega)),S.fr⟩
end Go.Proofs.YtkjknlnhffmkkacGreat
