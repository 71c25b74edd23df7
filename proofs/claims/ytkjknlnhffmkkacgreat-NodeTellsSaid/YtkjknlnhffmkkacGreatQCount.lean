/- state.count, over a row of its caller's. -/
import Derived.Test.YtkjknlnhffmkkacGreatQMut
import Derived.Test.YtkjknlnhffmkkacGreatQBSearch
import Derived.Test.YtkjknlnhffmkkacGreatQPl
namespace Go.Proofs.YtkjknlnhffmkkacGreat
open Go.RowKit
set_option linter.unusedVariables false
theorem rowT_any {rd rd':Rd}:∀ {l:List Tally} {xs:List Value},RowR 3 TallyR rd xs l → RowR 3 TallyR rd' xs l
  | [],_,h => h
  | _ :: _,_,⟨cs,rest,e,h1,h2,h3⟩ => ⟨cs,rest,e,h1,h2,rowT_any h3⟩
theorem row_ins {rd:Rd} {cur:Array Value} {l:List Tally} {t:Tally} {n i:Nat} (hr:RowR 3 TallyR rd (cur.toList.take (n * 3)) l) (hi:i ≤ l.length) (hn:n = l.length) :
    RowR 3 TallyR rd (cur.toList.take (i * 3) ++ (#[Value.int .i64 t.key,.int .i64 t.author,.int .i64 t.sum]).toList ++ (cur.toList.drop (i * 3)).take ((n - i) * 3)) (l.take i ++ [t] ++ l.drop i):=by
  have h:=RowR.ins (x:=t) (cs:=[.int .i64 t.key,.int .i64 t.author,.int .i64 t.sum]) hr hi rfl rfl
  have e1:(cur.toList.take (n * 3)).take (i * 3) = cur.toList.take (i * 3):=by rw [List.take_take,Nat.min_eq_left (by omega)]
  have e2:(cur.toList.take (n * 3)).drop (i * 3) = (cur.toList.drop (i * 3)).take ((n - i) * 3):=by rw [List.drop_take];congr 1;omega
  rw [e1,e2] at h;exact h
theorem row_set {rd:Rd} {cur:Array Value} {l:List Tally} {z:Tally} {n i cap:Nat} {s:Int} (hr:RowR 3 TallyR rd (cur.toList.take (n * 3)) l) (hcs:cur.size = cap * 3) (hcap:n ≤ cap) (hn:n = l.length) (hz:l[i]? = some z) (zc:∀ (m:Nat) u,[Value.int .i64 z.key,.int .i64 z.author,.int .i64 z.sum][m]? = some u → cur[i * 3 + m]? = some u) :
    RowR 3 TallyR rd ((over cur (i * 3 + 2) [.int .i64 s]).toList.take (n * 3)) (l.set i { z with sum:=s }):=by
  obtain ⟨hil,hze⟩:=List.getElem?_eq_some_iff.1 hz
  have hA:cur.toList.length = cur.size:=rfl
  have c0:cur.toList[i * 3]? = some (.int .i64 z.key):=by rw [Array.getElem?_toList];exact zc 0 _ rfl
  have c1:cur.toList[i * 3 + 1]? = some (.int .i64 z.author):=by rw [Array.getElem?_toList];exact zc 1 _ rfl
  have e1:cur.toList.take (i * 3 + 2) = cur.toList.take (i * 3) ++ [Value.int .i64 z.key,.int .i64 z.author]:=by
    rw [List.take_add_one,List.take_add_one,c0,c1];simp
  have e2:(over cur (i * 3 + 2) [.int .i64 s]).toList.take (n * 3) = (cur.toList.take (n * 3)).take (i * 3) ++ [Value.int .i64 z.key,.int .i64 z.author,.int .i64 s] ++ (cur.toList.take (n * 3)).drop ((i + 1) * 3):=by
    rw [over_list,e1,List.take_take,Nat.min_eq_left (by omega),List.drop_take]
    have hp:(cur.toList.take (i * 3) ++ [Value.int .i64 z.key,.int .i64 z.author] ++ [Value.int .i64 s]).length = i * 3 + 3:=by simp;omega
    rw [List.take_append,hp,List.take_of_length_le (by rw [hp];omega)]
    simp only [List.append_assoc,List.cons_append,List.nil_append,List.length_cons,List.length_nil]
    rw [show (i + 1) * 3 = i * 3 + 3 by omega]
  rw [e2,List.set_eq_take_append_cons_drop,if_pos hil]
  have h:=((hr.take i).push (x:=({ z with sum:=s }:Tally)) (cs:=[.int .i64 z.key,.int .i64 z.author,.int .i64 s]) rfl (show TallyR rd _ _ from rfl)).append (hr.drop (i + 1) (by omega))
  simpa using h
theorem cnt_fin {W w:World} {r0 rd rd':Rd} {bx:List BxE} {T n g:Nat} {v:Value} {xs:List Value} {l L:List Tally} {t:Tally} (S:St [g] W r0 rd' bx [⟨T,3,v,n,xs⟩] w) (hr:RowR 3 TallyR rd xs L) (hL:L = countL l t) (hn:n = L.length) :
    ∃ v' xs',Ending.returned v = .returned v' ∧ w.ownsRow 0 T 3 v' (countL l t).length xs' ∧ RowR 3 TallyR rd xs' (countL l t) ∧ (∀ g',v'.ownBlock = some g' → g' = g ∨ W.heap.size ≤ g') ∧ Frm [g] W w:=by
  subst hL hn
  refine ⟨v,xs,rfl,(S.own _ (List.mem_singleton.2 rfl)).1,hr,fun g' e => ?_,S.fr⟩
  rcases ((S.own _ (List.mem_singleton.2 rfl)).2 g' e).1 with h | h
  · exact .inr h
  · exact .inl (List.mem_singleton.1 h)
theorem cnt_fin0 {W w:World} {r0 rd rd':Rd} {bx:List BxE} {T n:Nat} {v:Value} {xs:List Value} {L:List Tally} {t:Tally} (S:St [] W r0 rd' bx [⟨T,3,v,n,xs⟩] w) (hr:RowR 3 TallyR rd xs L) (hL:L = countL [] t) (hn:n = L.length) :
    ∃ v' xs',Ending.returned v = .returned v' ∧ w.ownsRow 0 T 3 v' (countL [] t).length xs' ∧ RowR 3 TallyR rd xs' (countL [] t) ∧ (∀ g',v'.ownBlock = some g' → False ∨ W.heap.size ≤ g') ∧ Frm [] W w:=by
  subst hL hn
  refine ⟨v,xs,rfl,(S.own _ (List.mem_singleton.2 rfl)).1,hr,fun g' e => ?_,S.fr⟩
  rcases ((S.own _ (List.mem_singleton.2 rfl)).2 g' e).1 with h | h
  · exact .inr h
  · cases h
set_option maxRecDepth 100000 in
theorem Count_b (rd:Rd) (W:World) (hle:Rd.le rd (wrd W)) (g n cap:Nat) (cur:Array Value) (l:List Tally) (u:Value) (t:Tally) (hg:W.heap[g]? = some (.cells cur 106 (0,0))) (hrd:∀ o,rd g o = none) (hcs:cur.size = cap * 3) (hr:RowR 3 TallyR rd (cur.toList.take (n * 3)) l) (hn:n = l.length) (hcap:n ≤ cap) (hm:cap ≤ maxLen) (h2:AggR TallyR rd u t) (hby:(n + 1) * 24 ≤ 140737488355328) (hmono:∀ (a b:Nat) y z,a ≤ b → l[a]? = some y → l[b]? = some z → ordT z t < 0 → ordT y t < 0) (hs:∀ z ∈ l,-4611686018427387904 ≤ z.sum ∧ z.sum ≤ 4611686018427387903) (ht:-4611686018427387904 ≤ t.sum ∧ t.sum ≤ 4611686018427387903) :
    Calls Tryz.prog 121 #[(sb g 0 n cap),u] W (fun e w' => ∃ v' xs',e = .returned v' ∧ w'.ownsRow 0 106 3 v' (countL l t).length xs' ∧ RowR 3 TallyR rd xs' (countL l t) ∧ (∀ g',v'.ownBlock = some g' → g' = g ∨ W.heap.size ≤ g') ∧ Frm [g] W w'):=by
 obtain ⟨vs1,h2e,h2⟩:=h2;subst h2e;have h2e:vs1 = [ni t.key,ni t.author,ni t.sum]:=h2;subst h2e;clear h2;have hmx:maxLen = 9223372036854775807:=rfl;have S:St [g] W rd rd [(g,106,cur)] [] W:=St.startX hle (by intro p hp;simp only [List.mem_cons,List.not_mem_nil,or_false] at hp;rcases hp with rfl <;> first | exact ⟨by simp,hg,hrd⟩) (by simp);refine e_enter (args:=[sb g 0 n cap,.agg #[ni t.key,ni t.author,ni t.sum]]) 54 Tryz.func121 rfl rfl rfl ?_;refine er (l_bx (u:=.agg #[ni t.key,ni t.author,ni t.sum]) (cs:=#[ni t.key,ni t.author,ni t.sum]) S rfl rfl fun g2 w3 S => ly sn S Ya (ln (er (ly (sb g 0 n cap) S Ym (ly (.agg #[ni t.key,ni t.author,ni t.sum]) S (ybA 1 T106) ?_)))));refine l_c (en_f (vs:=[sb g 0 n cap,.agg #[ni t.key,ni t.author,ni t.sum],.func (.func 87) #[] #[]]) (CF 130 _) rfl rfl) (BsT_c (wrd _) _ (Rd.le_refl _) _ _ l t (S.boxSl (i:=0) rfl hn hcap hm (rowT_any hr)) (am (⟨_,rfl,rfl⟩:AggR TallyR rd _ t) S.le) (by omega) hmono) ?_;rintro e w4 ⟨i,b5,rfl,hi,ha,hb,hft,hff,k⟩;have S:=S.callq k;clear k
 cases b5
 ·
  refine ckd (ly (.tuple #[ni (i:Int),.bool false]) S Ym (ly (ni (i:Int)) S Ye (ly (.bool false) S Ye (ly (ni (i:Int)) S Ya (ly (.bool false) S Ya (ln (e_seq (e_blk (e_seq ?_)))))))));refine e_q MX (by kernel_rfl) S.drew ?_;refine qy (.bool false) Ym (qy (.bool false) Ym (qs 15 (qs 15 (qs 15 (qs 15 (qs 15 (qs 15 (qs 15 (qs 15 (qs 15 (qy (.bool false) Yf (qy (.bool false) Ya (q_nil fun w6 S => n_seq (e_cF rfl ?_))))))))))))));refine er (ly (.bool false) S Ym (ly (.bool false) S Ya (ln (e_cF rfl (er (ly (pa g2 2) S (Yb FA106_2) (ly (ni t.sum) S (yb1 1 T3) ?_)))))));by_cases h0:t.sum = 0
  ·
   refine ly (.bool true) S (y_eqT rfl rfl h0) (ly (.bool true) S Ya (ln (e_cT rfl (er (ly (sb g 0 n cap) S Ym (ly (sb g 0 n cap) S Ya (ln (e_ret ?_))))))));refine ret1 (v:=sb g 0 n cap) rfl rfl ?_;have S:=S.boxOwn2 (i:=0) rfl 3 n cap _ hcs hcap rfl hm;exact cnt_fin S hr (count_same hi ha hb (hff rfl) h0) hn
  refine ly (.bool false) S (y_eqF rfl rfl h0) (ly (.bool false) S Ya (ln (e_cF rfl (e_skip (n_blk (n_seq (er (ly (sb g 0 n cap) S Ym (ly (ni (i:Int)) S Ym (ly (.agg #[ni t.key,ni t.author,ni t.sum]) S (ybA 1 T106) (l_bs (ps:=[(0,.agg #[ni t.key,ni t.author,ni t.sum])]) (cs:=#[ni t.key,ni t.author,ni t.sum]) S U25 SZ106 Z106 rfl rfl rfl (by kernel_rfl) fun g7 w8 S => ?_)))))))))));have hne:g ≠ g7:=(box_ne S (i:=0) (j:=2) rfl rfl (by decide)).symm;refine l_c (en_f (vs:=[sb g 0 n cap,ni (i:Int),sb g7 0 1 1]) (CF 132 _) rfl rfl) (InsT_b _ g g7 n cap i cur #[ni t.key,ni t.author,ni t.sum] (S.box _ (List.mem_of_getElem? (i:=0) rfl)).2.1 (S.box _ (List.mem_of_getElem? (i:=2) rfl)).2.1 hne hcs rfl (hr.one_ GoodR.one) rfl hcap hm (by omega) (by omega) hby) ?_;rintro e w9 ⟨v',rfl,hO,hB,hF⟩;have S:=S.boxMut (i:=0) (j:=2) (q':=⟨106,3,v',n + 1,_⟩) rfl rfl (by decide) hF hO hB;clear hF hB;refine ckd (ly v' S Ya (ln (e_ret ?_)));refine ret1 (v:=v') rfl rfl ?_;exact cnt_fin S (row_ins hr hi hn) (count_ins hi ha hb (hff rfl) h0) (by simp;omega)
 refine ckd (ly (.tuple #[ni (i:Int),.bool true]) S Ym (ly (ni (i:Int)) S Ye (ly (.bool true) S Ye (ly (ni (i:Int)) S Ya (ly (.bool true) S Ya (ln (e_seq (e_blk (e_seq ?_)))))))));refine e_q MX (by kernel_rfl) S.drew ?_;refine qy (.bool true) Ym (qy (.bool true) Ym (qg 15 (sb g 0 n cap) Ym (qg 15 (ni (i:Int)) Ym ?_)));obtain ⟨z,hz,hz0⟩:=hft rfl;have hin:=(List.getElem?_eq_some_iff.1 hz).1;obtain ⟨zs,zl,zr,zc⟩:=row_get hr hz;cases zr;have hzs:=hs z (List.mem_of_getElem? hz);refine qg 15 (pa g (i * 3)) (y_ibs (k:=i) U25 SZ106 (by omega) (Nat.zero_add _) rfl rfl (by first | rfl | omega)) (qg 15 (pa g (i * 3 + 2)) (Yb FA106_2) (qg 15 (ni z.sum) (y_ld rfl (fun w S => ld_bs1 (i:=0) S rfl T3 (zc 2 _ rfl))) (qg 15 (pa g2 2) (Yb FA106_2) (qg 15 (ni t.sum) (yb1 1 T3) (qg 15 (ni (z.sum + t.sum)) (y_add (r:=z.sum + t.sum) rfl rfl (w64 (by omega) (by omega))) ?_)))));by_cases h1:z.sum + t.sum = 0
 ·
  refine qg 15 (.bool true) (y_eqT rfl rfl h1) (qy (.bool true) Yt (qy (.bool true) Ya (q_nil fun w10 S => n_seq (e_cT rfl (er (ly (sb g 0 n cap) S Ym (ly (ni (i:Int)) S Ym (ly (ni (i:Int)) S Ym (ly (ni ((i:Int) + 1)) S (y_add (r:=(i:Int) + 1) rfl rfl (w64 (by omega) (by omega))) ?_)))))))));refine l_c (en_f (vs:=[sb g 0 n cap,ni (i:Int),ni ((i:Int) + 1)]) (CF 131 _) rfl rfl) (DelT_c rd _ S.le g n cap cur l (S.box _ (List.mem_of_getElem? (i:=0) rfl)).2.1 (S.box _ (List.mem_of_getElem? (i:=0) rfl)).2.2 hcs (rowT_any hr) hn hcap hm i (by omega)) ?_;rintro e w11 ⟨cur',rfl,hg',hcs',hr',hF⟩;have S:=S.boxCall (i:=0) rfl hF hg';clear hF hg';refine ckd (ly (sb g 0 (n - 1) cap) S Ya (ln (e_ret ?_)));refine ret1 (v:=sb g 0 (n - 1) cap) rfl rfl ?_;have S:=S.boxOwn2 (i:=0) rfl 3 (n - 1) cap _ hcs' (by omega) rfl hm;exact cnt_fin S hr' (count_del hi ha hb hz hz0 h1) (by rw [List.length_eraseIdx];split <;> omega)
 refine qg 15 (.bool false) (y_eqF rfl rfl h1) (qy (.bool false) Yt (qy (.bool false) Ya (q_nil fun w12 S => n_seq (e_cF rfl (er (ly (.bool true) S Ym (ly (.bool true) S Ya (ln (e_cT rfl (e_seq ?_))))))))));refine e_a (fun w => St [g] W rd rd [(g2,106,#[ni t.key,ni t.author,ni t.sum])] [] w) MX rfl ?_;have S:=S.drew;have sup13:=S.sup;have SC:=((S.tk 2 0 rfl rfl).del 0);refine tk (sb g 0 n cap) 0 rfl rfl SC Ym (tk (ni (i:Int)) 1 rfl rfl SC Ym (tk (pa g (i * 3)) 2 rfl rfl SC (y_ibs (k:=i) U25 SZ106 (by omega) (Nat.zero_add _) rfl rfl (by first | rfl | omega)) (tk (pa g (i * 3 + 2)) 3 rfl rfl SC (Yb FA106_2) (tk (pa g2 2) 5 rfl rfl SC (Yb FA106_2) (tk (ni t.sum) 6 rfl rfl SC (yb1 0 T3) ?_)))));refine aO 4 rfl (by kernel_rfl) ?_;refine ly (ni z.sum) S (y_ld rfl (fun w S => ld_bs1 (i:=0) S rfl T3 (zc 2 _ rfl))) (l_nil ?_);have SC:=((S.tk 2 0 rfl rfl).del 0);refine n_lp (ak SC ?_);refine tk (ni (z.sum + t.sum)) 7 rfl rfl SC (y_add (r:=z.sum + t.sum) rfl rfl (w64 (by omega) (by omega))) (tk (pa g (i * 3)) 8 rfl rfl SC (y_ibs (k:=i) U25 SZ106 (by omega) (Nat.zero_add _) rfl rfl (by first | rfl | omega)) (tk (pa g (i * 3 + 2)) 9 rfl rfl SC (Yb FA106_2) ?_));refine aO 10 rfl (by kernel_rfl) ?_;refine l_sp (u:=ni (z.sum + t.sum)) (i:=0) S rfl rfl rfl SZ3 (by show i * 3 + 2 + 1 ≤ _;omega) rfl fun w14 S => l_nil ?_
 have SC:=((S.tk 2 0 rfl rfl).del 0);refine n_lp (ak SC ?_);refine a_done (by kernel_rfl) ?_;clear SC;refine n_seq (er (ly (sb g 0 n cap) S Ym (ly (sb g 0 n cap) S Ya (ln (e_ret ?_)))));refine ret1 (v:=sb g 0 n cap) rfl rfl ?_;have S:=S.boxOwn2 (i:=0) rfl 3 n cap _ (by rw [over_size (by show _ + 1 ≤ _;omega)];exact hcs) hcap rfl hm;exact cnt_fin S (row_set hr hcs hcap hn hz zc) (count_set hi ha hb hz hz0 h1) (by rw [List.length_set];exact hn)

set_option maxRecDepth 100000 in
theorem Count_n (rd:Rd) (W:World) (hle:Rd.le rd (wrd W)) (u:Value) (t:Tally) (h2:AggR TallyR rd u t) :
    Calls Tryz.prog 121 #[(sn),u] W (fun e w' => ∃ v' xs',e = .returned v' ∧ w'.ownsRow 0 106 3 v' (countL [] t).length xs' ∧ RowR 3 TallyR rd xs' (countL [] t) ∧ (∀ g',v'.ownBlock = some g' → False ∨ W.heap.size ≤ g') ∧ Frm [] W w'):=by
 obtain ⟨vs1,h2e,h2⟩:=h2;subst h2e;have h2e:vs1 = [ni t.key,ni t.author,ni t.sum]:=h2;subst h2e;clear h2;have hmx:maxLen = 9223372036854775807:=rfl;have S:St [] W rd rd [] [] W:=St.start hle;refine e_enter (args:=[sn,.agg #[ni t.key,ni t.author,ni t.sum]]) 54 Tryz.func121 rfl rfl rfl ?_;refine er (l_bx (u:=.agg #[ni t.key,ni t.author,ni t.sum]) (cs:=#[ni t.key,ni t.author,ni t.sum]) S rfl rfl fun g2 w3 S => ly sn S Ya (ln (er (ly sn S Ym (ly (.agg #[ni t.key,ni t.author,ni t.sum]) S (ybA 0 T106) ?_)))));refine l_c (en_f (vs:=[sn,.agg #[ni t.key,ni t.author,ni t.sum],.func (.func 87) #[] #[]]) (CF 130 _) rfl rfl) (BsT_c (wrd _) _ (Rd.le_refl _) _ _ ([]:List Tally) t (SliceR.nil_ _) (am (⟨_,rfl,rfl⟩:AggR TallyR rd _ t) S.le) (by simp) (fun a b y z _ h => by (cases h))) ?_;rintro e w4 ⟨i,b5,rfl,hi,ha,hb,hft,hff,k⟩;have S:=S.callq k;clear k;obtain rfl:i = 0:=by simpa using hi
 cases b5
 ·
  refine ckd (ly (.tuple #[ni 0,.bool false]) S Ym (ly (ni 0) S Ye (ly (.bool false) S Ye (ly (ni 0) S Ya (ly (.bool false) S Ya (ln (e_seq (e_blk (e_seq ?_)))))))));refine e_q MX (by kernel_rfl) S.drew ?_;refine qy (.bool false) Ym (qy (.bool false) Ym (qs 15 (qs 15 (qs 15 (qs 15 (qs 15 (qs 15 (qs 15 (qs 15 (qs 15 (qy (.bool false) Yf (qy (.bool false) Ya (q_nil fun w6 S => n_seq (e_cF rfl ?_))))))))))))));refine er (ly (.bool false) S Ym (ly (.bool false) S Ya (ln (e_cF rfl (er (ly (pa g2 2) S (Yb FA106_2) (ly (ni t.sum) S (yb1 0 T3) ?_)))))));by_cases h0:t.sum = 0
  ·
   refine ly (.bool true) S (y_eqT rfl rfl h0) (ly (.bool true) S Ya (ln (e_cT rfl (er (ly sn S Ym (ly sn S Ya (ln (e_ret ?_))))))));refine ret1 (v:=sn) rfl rfl ?_;exact ⟨_,[],rfl,by (unfold countL;simpa [h0] using World.ownsRow_nil _ 0 106 3),by (unfold countL;simp [h0];rfl),fun g' k => by (cases k),S.fr⟩
  refine ly (.bool false) S (y_eqF rfl rfl h0) (ly (.bool false) S Ya (ln (e_cF rfl (e_skip (n_blk (n_seq (er (ly sn S Ym (ly (ni 0) S Ym (ly (.agg #[ni t.key,ni t.author,ni t.sum]) S (ybA 0 T106) (l_bs (ps:=[(0,.agg #[ni t.key,ni t.author,ni t.sum])]) (cs:=#[ni t.key,ni t.author,ni t.sum]) S U25 SZ106 Z106 rfl rfl rfl (by kernel_rfl) fun g7 w8 S => ?_)))))))))));refine l_c (en_f (vs:=[sn,ni 0,sb g7 0 1 1]) (CF 132 _) rfl rfl) (InsT_n _ g7 #[ni t.key,ni t.author,ni t.sum] (S.box _ (List.mem_of_getElem? (i:=1) rfl)).2.1 rfl rfl) ?_;rintro e w9 ⟨v',rfl,hO,hB,hF⟩;have S:=S.box1Mut (i:=1) (q':=⟨106,3,v',0 + 1,_⟩) rfl hF hO hB;clear hF hB;refine ckd (ly v' S Ya (ln (e_ret ?_)));refine ret1 (v:=v') rfl rfl ?_;exact cnt_fin0 S (L:=[t]) ⟨_,[],rfl,rfl,rfl,rfl⟩ (by unfold countL insO;simp [h0]) rfl
 exfalso;obtain ⟨z,hz,_⟩:=hft rfl;simp at hz

theorem Count_o (rd:Rd) (W:World) (hle:Rd.le rd (wrd W)) (v:Value) (n:Nat) (xs:List Value) (l:List Tally) (u:Value) (t:Tally) (hv:W.ownsRow 0 106 3 v n xs) (hrd:∀ g,v.ownBlock = some g → ∀ o,rd g o = none) (hr:RowR 3 TallyR rd xs l) (hn:n = l.length) (h2:AggR TallyR rd u t) (hby:(n + 1) * 24 ≤ 140737488355328) (hmono:∀ (a b:Nat) y z,a ≤ b → l[a]? = some y → l[b]? = some z → ordT z t < 0 → ordT y t < 0) (hs:∀ z ∈ l,-4611686018427387904 ≤ z.sum ∧ z.sum ≤ 4611686018427387903) (ht:-4611686018427387904 ≤ t.sum ∧ t.sum ≤ 4611686018427387903) :
    Calls Tryz.prog 121 #[v,u] W fun e w' => ∃ v' xs',e = .returned v' ∧ w'.ownsRow 0 106 3 v' (countL l t).length xs' ∧ RowR 3 TallyR rd xs' (countL l t) ∧ (∀ g',v'.ownBlock = some g' → v.ownBlock = some g' ∨ W.heap.size ≤ g') ∧ Frm v.ownBlock.toList W w':=by
  rcases hv.2 with ⟨rfl,rfl⟩ | ⟨g,cap,cur,rfl,_,hg,hc,hm,hsz,rfl⟩
  · have hl:l = []:=List.eq_nil_of_length_eq_zero hn.symm
    subst hl
    exact (Count_n rd W hle u t h2).mono fun e w' ⟨v',xs',h1,h3,h4,h5,h6⟩ => ⟨v',xs',h1,h3,h4,fun g' k => (h5 g' k).elim (fun h => h.elim) .inr,h6⟩
  · exact (Count_b rd W hle g n cap cur l u t hg (hrd g rfl) hsz hr hn hc hm h2 hby hmono hs ht).mono fun e w' ⟨v',xs',h1,h3,h4,h5,h6⟩ => ⟨v',xs',h1,h3,h4,fun g' k => (h5 g' k).imp (fun h => by rw [h];rfl) id,h6⟩
end Go.Proofs.YtkjknlnhffmkkacGreat
