/- slices.Delete of one entry of a row of the caller's. -/
import Derived.Test.YtkjknlnhffmkkacGreatQPl
import Derived.Test.YtkjknlnhffmkkacGreatQEg
import Derived.Test.YtkjknlnhffmkkacGreatQTy
namespace Go.Proofs.YtkjknlnhffmkkacGreat
open Go.RowKit
set_option linter.unusedVariables false
section
variable {α:Type} {size:Nat} {R:CR α} {rd:Rd} {n cap i:Nat} {cur:Array Value} {l:List α} {news zs:List Value} {o o':Nat}
theorem del_len (hcs:cur.size = cap * size) (hcap:n ≤ cap) (hi:i < n):((cur.toList.drop ((i + 1) * size)).take ((n - (i + 1)) * size)).length = (n - (i + 1)) * size:=by
  have h1:n * size ≤ cap * size:=Nat.mul_le_mul_right _ hcap
  have h2:(i + 1) * size + (n - (i + 1)) * size = n * size:=by rw [← Nat.add_mul];congr 1;omega
  simp [hcs];omega
theorem del_cell (ho:i + 1 < cap → o = 0 + (i + 1) * size) (he:news = (cur.toList.drop ((i + 1) * size)).take ((n - (i + 1)) * size)) (hcap:n ≤ cap) (hi:i < n):∀ j u,news[j]? = some u → cur[o + j]? = some u:=fun j u hu => by
  subst he
  rw [List.getElem?_take] at hu
  split at hu
  · rename_i hj
    have:0 < n - (i + 1):=by
      rcases Nat.eq_zero_or_pos (n - (i + 1)) with h | h
      · rw [h,Nat.zero_mul] at hj;omega
      · exact h
    rw [ho (by omega),Nat.zero_add]
    rw [List.getElem?_drop] at hu
    simpa using hu
  · cases hu
theorem del_one [GoodR R] (hr:RowR size R rd (cur.toList.take (n * size)) l) (he:news = (cur.toList.drop ((i + 1) * size)).take ((n - (i + 1)) * size)) (hi:i < n):∀ u ∈ news,u.oneCell' = true:=fun u hu => by
  subst he
  have h2:(i + 1) * size + (n - (i + 1)) * size = n * size:=by rw [← Nat.add_mul];congr 1;omega
  refine hr.one_ GoodR.one u ?_
  have e:(cur.toList.drop ((i + 1) * size)).take ((n - (i + 1)) * size) = (cur.toList.take (n * size)).drop ((i + 1) * size):=by
    rw [List.drop_take];congr 1;omega
  rw [e] at hu
  exact List.mem_of_mem_drop hu
theorem del_over (hcs:cur.size = cap * size) (hcap:n ≤ cap) (hi:i < n) (hl:news.length = (n - (i + 1)) * size):(over cur (i * size) news).size = cap * size:=by
  have h1:n * size ≤ cap * size:=Nat.mul_le_mul_right _ hcap
  have h2:i * size + size + (n - (i + 1)) * size = n * size:=by rw [← Nat.succ_mul,← Nat.add_mul];congr 1;omega
  rw [over_size (by omega),hcs]
theorem del_e (hi:i < n):i + (n - (i + 1)) = n - 1:=by omega
theorem del_clr (hcs:cur.size = cap * size) (hcap:n ≤ cap) (hi:i < n) (hl:news.length = (n - (i + 1)) * size) (ho:i + (n - (i + 1)) < cap → o' = 0 + (i + (n - (i + 1))) * size) :
    0 < n - (i + (n - (i + 1))) → o' + (n - (i + (n - (i + 1)))) * size ≤ (over cur (i * size) news).size:=fun _ => by
  rw [del_over hcs hcap hi hl,ho (by omega),del_e hi,Nat.zero_add,← Nat.add_mul]
  exact Nat.mul_le_mul_right _ (by omega)
theorem del_size (hcs:cur.size = cap * size) (hcap:n ≤ cap) (hi:i < n) (hl:news.length = (n - (i + 1)) * size) (ho:i + (n - (i + 1)) < cap → o' = 0 + (i + (n - (i + 1))) * size) (hz:zs.length = (n - (i + (n - (i + 1)))) * size) :
    (if n - (i + (n - (i + 1))) = 0 then over cur (i * size) news else over (over cur (i * size) news) o' zs).size = cap * size:=by
  rw [if_neg (by omega),over_size (by rw [hz];exact del_clr hcs hcap hi hl ho (by omega)),del_over hcs hcap hi hl]
theorem take_over {cs:Array Value} {j k:Nat} {vs:List Value} (h:k ≤ j) (hj:j ≤ cs.size):(over cs j vs).toList.take k = cs.toList.take k:=by
  unfold over
  rw [List.append_assoc,List.take_append,List.take_take,Nat.min_eq_left h]
  simp
  omega
theorem del_row [GoodR R] (hcs:cur.size = cap * size) (hr:RowR size R rd (cur.toList.take (n * size)) l) (hn:n = l.length) (he:news = (cur.toList.drop ((i + 1) * size)).take ((n - (i + 1)) * size)) (hcap:n ≤ cap) (hi:i < n) (hl:news.length = (n - (i + 1)) * size) (ho:i + (n - (i + 1)) < cap → o' = 0 + (i + (n - (i + 1))) * size) (hz:zs.length = (n - (i + (n - (i + 1)))) * size) :
    RowR size R rd ((if n - (i + (n - (i + 1))) = 0 then over cur (i * size) news else over (over cur (i * size) news) o' zs).toList.take ((n - 1) * size)) (l.eraseIdx i):=by
  have h2:(i + 1) * size + (n - (i + 1)) * size = n * size:=by rw [← Nat.add_mul];congr 1;omega
  have h3:i * size + (n - (i + 1)) * size = (n - 1) * size:=by rw [← Nat.add_mul];congr 1;omega
  have h4:n * size ≤ cap * size:=Nat.mul_le_mul_right _ hcap
  have h5:(i + 1) * size = i * size + size:=by rw [Nat.add_mul,Nat.one_mul]
  rw [if_neg (by omega),ho (by omega),del_e hi,Nat.zero_add,take_over (Nat.le_refl _) (by rw [del_over hcs hcap hi hl];exact Nat.mul_le_mul_right _ (by omega))]
  have e:(over cur (i * size) news).toList.take ((n - 1) * size) = (cur.toList.take (n * size)).take (i * size) ++ (cur.toList.take (n * size)).drop ((i + 1) * size):=by
    unfold over
    have e1:(cur.toList.take (n * size)).drop ((i + 1) * size) = news:=by rw [he,List.drop_take];congr 1;omega
    rw [e1,List.take_take,Nat.min_eq_left (by omega)]
    have hA:(cur.toList.take (i * size)).length = i * size:=by rw [List.length_take,Array.length_toList,hcs];omega
    rw [List.take_append_of_le_length (by rw [List.length_append,hA,hl];omega),List.take_of_length_le (by rw [List.length_append,hA,hl];omega)]
  rw [e,List.eraseIdx_eq_take_drop_succ]
  exact (hr.take i).append (hr.drop (i + 1) (by omega))
end
set_option maxRecDepth 100000 in
theorem DelT_c (rd:Rd) (W:World) (hle:Rd.le rd (wrd W)) (g n cap:Nat) (cur:Array Value) (l:List Tally) (hg:W.heap[g]? = some (.cells cur 106 (0,0))) (hrd:∀ o,rd g o = none) (hcs:cur.size = cap * 3) (hr:RowR 3 TallyR rd (cur.toList.take (n * 3)) l) (hn:n = l.length) (hcap:n ≤ cap) (hm:cap ≤ maxLen) (i:Nat) (hi:i < n) :
    Calls Tryz.prog 131 #[(sb g 0 n cap),(.int .i64 (i:Int)),(.int .i64 ((i:Int) + 1))] W (fun e w' => ∃ cur',e = .returned (.slice (some ⟨g,0,none⟩) (n - 1) cap) ∧ w'.heap[g]? = some (.cells cur' 106 (0,0)) ∧ cur'.size = cap * 3 ∧ RowR 3 TallyR rd (cur'.toList.take ((n - 1) * 3)) (l.eraseIdx i) ∧ Frm [g] W w'):=by
 have hmx:maxLen = 9223372036854775807:=rfl;have S:St [g] W rd rd [(g,106,cur)] [] W:=St.startX hle (by intro p hp;simp only [List.mem_cons,List.not_mem_nil,or_false] at hp;rcases hp with rfl <;> first | exact ⟨by simp,hg,hrd⟩) (by simp);refine e_enter (args:=[sb g 0 n cap,ni (i:Int),ni ((i:Int) + 1)]) 33 Tryz.func131 rfl rfl rfl ?_;refine er (ly sn S Ya (ln (er (ly (sb g 0 n cap) S Ym (ly (ni (i:Int)) S Ym (ly (ni ((i:Int) + 1)) S Ym (ly (sb g 0 n cap) S Ym (ly (ni (n:Int)) S (Yl U25) ?_))))))));obtain ⟨u1,Y2⟩:=y_sl3 (A:=some ⟨g,0,none⟩) (n:=n) (c:=cap) (lo:=i) (hi:=(i + 1)) (mx:=n) U25 SZ106 (by omega) (by omega) (by omega);refine ly u1 S (Y2 rfl rfl (by first | rfl | omega) rfl (by first | rfl | omega) rfl (by first | rfl | omega)) (ln (e_seq (er (ly (ni (i:Int)) S Ym (ly (ni ((i:Int) + 1)) S Ym ?_)))));have h3:¬ ((i:Int) = (i:Int) + 1):=by omega
 refine ly (.bool false) S (y_eqF rfl rfl h3) (ln (e_cF rfl (e_skip (n_seq (er (ly (sb g 0 n cap) S Ym (ly (ni (n:Int)) S (Yl U25) (ly (ni (n:Int)) S Ya (ln (e_seq ?_))))))))));refine e_a (fun w => St [g] W rd rd [] [] w) MX rfl ?_;have S:=S.drew;have sup4:=S.sup;have SC:=((S.tk 1 0 rfl rfl).del 0);refine tk (sb g 0 n cap) 0 rfl rfl SC Ym (tk (ni (i:Int)) 1 rfl rfl SC Ym (tk (sb g 0 i cap) 2 rfl rfl SC (y_slb0 (hi:=i) U25 SZ106 (by omega) rfl (.inr ⟨_,_,_,rfl,rfl,(by first | rfl | omega)⟩)) (tk (sb g 0 n cap) 3 rfl rfl SC Ym (tk (ni ((i:Int) + 1)) 4 rfl rfl SC Ym ?_))));obtain ⟨o5,ho6,Y7⟩:=y_slb (g:=g) (o:=0) (n:=n) (c:=cap) (lo:=(i + 1)) (hi:=n) U25 SZ106 (by omega) (by omega);refine tk (sb g o5 (n - (i + 1)) (cap - (i + 1))) 5 rfl rfl SC (Y7 rfl (.inr ⟨_,_,_,rfl,rfl,(by first | rfl | omega)⟩) (.inl ⟨rfl,rfl⟩)) ?_;refine aO 6 rfl (by kernel_rfl) ?_;obtain ⟨news9,news9e⟩:∃ z,z = (cur.toList.drop ((i + 1) * 3)).take ((n - (i + 1)) * 3):=⟨_,rfl⟩;have hnl:news9.length = (n - (i + 1)) * 3:=by subst news9e;exact del_len hcs hcap hi
 refine l_apr (news:=news9) (i:=0) (i':=0) S K25 rfl rfl rfl rfl hnl (fun j u hu => del_cell ho6 news9e hcap hi j u hu) (fun u hu => del_one hr news9e hi u hu) (by omega) (by omega) fun w8 S => ?_
 refine l_nil ?_;have SC:=((S.tk 1 0 rfl rfl).del 0);refine n_lp (ak SC ?_);refine tk (sb g 0 (i + (n - (i + 1))) cap) 7 rfl rfl SC Ya ?_;refine a_done (by kernel_rfl) ?_;clear SC;refine n_seq (er (ly (sb g 0 (i + (n - (i + 1))) cap) S Ym (ly (sb g 0 (i + (n - (i + 1))) cap) S Ym (ly (ni ((i + (n - (i + 1)):Nat):Int)) S (Yl U25) (ly (ni (n:Int)) S Ym ?_)))));obtain ⟨o10,ho11,Y12⟩:=y_slb (g:=g) (o:=0) (n:=i + (n - (i + 1))) (c:=cap) (lo:=(i + (n - (i + 1)))) (hi:=n) U25 SZ106 (by omega) (by omega);refine ly (sb g o10 (n - (i + (n - (i + 1)))) (cap - (i + (n - (i + 1))))) S (Y12 rfl (.inr ⟨_,_,_,rfl,rfl,(by first | rfl | omega)⟩) (.inr ⟨_,_,_,rfl,rfl,(by first | rfl | omega)⟩)) ?_;refine l_cl (i:=0) S K25 Z106 rfl rfl rfl (del_clr hcs hcap hi hnl ho11) fun w15 zs13 hzs14 S => ?_
 refine ln (er (ly (sb g 0 (i + (n - (i + 1))) cap) S Ym (ly (sb g 0 (i + (n - (i + 1))) cap) S Ya (ln (e_ret ?_)))));refine ret1 (v:=sb g 0 (i + (n - (i + 1))) cap) rfl rfl ?_;refine ⟨_,congrArg Ending.returned (by rw [show i + (n - (i + 1)) = n - 1 by omega]),(S.box _ (List.mem_of_getElem? (i:=0) rfl)).2.1,?_,?_,S.fr⟩
 · exact del_size hcs hcap hi hnl ho11 hzs14
 · exact del_row hcs hr hn news9e hcap hi hnl ho11 hzs14
end Go.Proofs.YtkjknlnhffmkkacGreat
