/- log.Clock computes clockL. -/
import Derived.Test.YtkjknlnhffmkkacGreatQUpdate3
import Derived.Test.YtkjknlnhffmkkacGreatQPl
namespace Go.Proofs.YtkjknlnhffmkkacGreat
open Go.RowKit
set_option linter.unusedVariables false

def ClockAns (W:World) (x:List Int × Int × Int) (e:Ending) (w':World):Prop:=∃ r,e = .returned (.tuple #[r,.agg #[.int .i64 x.2.1,.int .i64 x.2.2]]) ∧ IntsR (newer w' W.heap.size) r x.1 ∧ Below W.heap.size W w'

theorem ans_of {W:World} {x:List Int × Int × Int} {c:List Int} {e i:Int} (hx:x = (c,e,i)) {r:Value} {w':World} (h:IntsR (newer w' W.heap.size) r c) (hb:Below W.heap.size W w') :
    ClockAns W x (.returned (.tuple #[r,.agg #[.int .i64 e,.int .i64 i]])) w':=by
  subst hx;exact ⟨_,rfl,h,hb⟩

set_option maxHeartbeats 4000000 in
theorem Clock_calls (v1 v2:Value) (base:List Int) (l:List Upd) (n:Int) (W:World) (h1:IntsR (wrd W) v1 base) (h2:UpdsR (wrd W) v2 l) :
    Calls Tryz.prog 49 #[v1,v2,.int .i64 n] W (ClockAns W (clockL base l n)):=by
  obtain ⟨A1,c1,rfl,m1,m2⟩:=h1.val
  obtain ⟨A2,c2,rfl,m3,m4⟩:=h2.val
  have h1:=SliceR.top h1
  have h2:=SliceR.top h2
  unfold maxLen at m2 m4
  have hB:=Blk.new_ W 84 #[.int .i64 0,.int .i64 0]
  have hb:=below_alloc1 W (.cells #[.int .i64 0,.int .i64 0] 84)
  have hs:(W.alloc (.cells #[.int .i64 0,.int .i64 0] 84)).heap.size = W.heap.size + 1:=by simp
  by_cases hw:wrongC base n = 0
  rotate_left
  · rw [show clockL base l n = ([],wrongC base n,0) by unfold clockL;rw [if_pos hw]]
    obtain ⟨w1,w2⟩:=ne_b hw
    clear hw
    go_enter Tryz.func49,Tryz.ntmps49
    go_wp2_with fail
    generalize W.alloc (.cells #[.int .i64 0,.int .i64 0] 84) = W1 at *
    clear hs
    obtain ⟨x0,x1,y0,y1⟩:=hB.c2
    refine (Wrong_calls _ _ _ _ (SliceR.of_top h1 hb)).mono ?_
    rintro e w' ⟨rfl,rfl⟩
    go_wp2
    refine bodyPost_ret (v:=.tuple #[.slice none 0 0,.agg #[.int .i64 (wrongC base n),.int .i64 0]]) (by simp [results,Tryz.results49,go_sem,x0,x1]) rfl ⟨_,rfl,SliceR.nil_ _,(Below.setCell (Below.setCell hb (by show _ ≤ W.heap.size;omega) _) (by show _ ≤ W.heap.size;omega) _)⟩
  have hw':=eq_b hw
  by_cases hl:300 < l.length
  · rw [show clockL base l n = ([],5,0) by unfold clockL;rw [if_neg (by simp [hw]),if_pos hl]]
    obtain ⟨w1,w2⟩:=hw'
    clear hw
    go_enter Tryz.func49,Tryz.ntmps49
    go_wp2_with fail
    generalize W.alloc (.cells #[.int .i64 0,.int .i64 0] 84) = W1 at *
    clear hs
    obtain ⟨x0,x1,y0,y1⟩:=hB.c2
    refine (Wrong_calls _ _ _ _ (SliceR.of_top h1 hb)).mono ?_
    rintro e w' ⟨rfl,rfl⟩
    go_wp2
    refine bodyPost_ret (v:=.tuple #[.slice none 0 0,.agg #[.int .i64 5,.int .i64 0]]) (by simp [results,Tryz.results49,go_sem,x0,x1]) rfl ⟨_,rfl,SliceR.nil_ _,(Below.setCell (Below.setCell hb (by show _ ≤ W.heap.size;omega) _) (by show _ ≤ W.heap.size;omega) _)⟩
  have hbl:=(wrongC_ok hw)
  have hlen:base.length ≤ 6:=by omega
  clear hbl
  rw [show clockL base l n = logC n base l 0 by unfold clockL;rw [if_neg (by simp [hw]),if_neg hl]]
  obtain ⟨e1,e2⟩:=hw'
  have e3:decide ((300:Int) < (l.length:Int)) = false:=decide_eq_false (by omega)
  clear hw
  go_enter Tryz.func49,Tryz.ntmps49
  go_wp2_with fail
  generalize W.alloc (.cells #[.int .i64 0,.int .i64 0] 84) = W1 at *
  refine (Wrong_calls _ _ _ _ (SliceR.of_top h1 hb)).mono ?_
  rintro e w' ⟨rfl,rfl⟩
  go_wp2_with fail
  refine (CloneC_calls _ _ _ _ h1 (upto_le hb) (by omega)).mono ?_
  rintro e w2 ⟨r,rfl,ho,k⟩
  rw [hs] at ho k
  have hr:=ho.ints_newer
  clear ho e1 e2 e3
  go_wp2
  go_loopw [9,28] (fun cv i wr => ∃ (k:Nat) (c:List Int),k ≤ l.length ∧ i = .int .i64 k ∧ IntsR (newer wr (W.heap.size + 1)) cv c ∧ Hid (c.length = base.length) ∧ Hid (logC n base l 0 = logC n c (l.drop k) k) ∧ Below (W.heap.size + 1) W1 wr) (fun _ i _ => l.length - (intOf i).toNat)
  case atStart => exact ⟨0,base,Nat.zero_le _,rfl,hr,hid rfl,hid rfl,k⟩
  case round =>
    clear hr k
    obtain ⟨k,c,hk,rfl,hc,hcl,hlog,hb1⟩:=hrel
    have h0:Below W.heap.size W wr:=hb.trans (hb1.mono (by omega))
    have hB:=hB.upB hb1 (by omega)
    have hc:=IntsR.mono hc (newer_le _ _)
    obtain ⟨Ac,cc,rfl,mc1,mc2⟩:=hc.val
    by_cases hlt:k < l.length
    rotate_left
    · have hfin:=hid (hlog.out.trans (logC_end (by omega)))
      clear hlog
      obtain ⟨x0,x1,y0,y1⟩:=hB.c2
      have e1:decide ((k:Int) < (l.length:Int)) = false:=decide_eq_false (by omega)
      go_wp2
      refine bodyPost_ret (v:=.tuple #[.slice Ac c.length cc,.agg #[.int .i64 0,.int .i64 0]]) (by simp [results,Tryz.results49,go_sem,x0,x1]) rfl (ans_of hfin.out ?_ (Below.setCell (Below.setCell (by assumption) (by show _ ≤ W.heap.size;omega) _) (by show _ ≤ W.heap.size;omega) _))
      refine IntsR.mono ‹IntsR (newer wr _) _ _› (Rd.le_trans ?_ (newer_weak (B:=W.heap.size + 1) (by omega)))
      refine Rd.le_trans ?_ (newer_set (by show W.heap.size < W.heap.size + 1;omega) _)
      exact newer_set (by show W.heap.size < W.heap.size + 1;omega) _
    obtain ⟨b,o,sv,rfl,hsv,hx⟩:=upds_at h2 hlt
    obtain ⟨q0,q1,q2,q3,q4⟩:=hx wr (upto_le h0)
    clear hx
    have hsv:=SliceR.of_top hsv h0
    obtain ⟨As,cs,rfl,ms1,ms2⟩:=hsv.val
    go_wp2_with fail
    have hB5:=Blk.new_ wr 42 #[.int .i64 l[k].author,.slice As l[k].seen.length cs,.int .i64 l[k].kind,.int .i64 l[k].key,.int .i64 l[k].item]
    have kx:=below_alloc1 wr (.cells #[.int .i64 l[k].author,.slice As l[k].seen.length cs,.int .i64 l[k].kind,.int .i64 l[k].key,.int .i64 l[k].item] 42)
    have hB:=hB.up kx
    have h0:=below_next h0 kx
    have hc:=SliceR.up hc kx
    have hsv:=SliceR.up hsv kx
    generalize wr.alloc (.cells #[.int .i64 l[k].author,.slice As l[k].seen.length cs,.int .i64 l[k].kind,.int .i64 l[k].key,.int .i64 l[k].item] 42) = w3 at *
    clear q0 q1 q2 q3 q4
    by_cases eU:wrongU l[k] n = 0
    rotate_left
    · have hq:=hid (show stepE c l[k] n = wrongU l[k] n by unfold stepE;rw [if_pos eU])
      have hq0:=hid eU
      obtain ⟨g1,g2⟩:=ne_b eU
      clear eU
      refine (UWrong_calls _ _ _ _ (upd_agg (u:=l[k]) (by assumption))).mono ?_
      rintro e w4 ⟨rfl,kk⟩
      (repeat (first | replace kk:=below_of_alloc kk | replace kk:=below_of_drewN kk));(repeat (rename SliceR _ _ (wrd _) _ _ => hz;replace hz:=SliceR.up hz kk;revert hz));(repeat (rename AggR _ (wrd _) _ _ => hz;replace hz:=AggR.up hz kk;revert hz));(repeat (rename Blk _ _ _ _ => hz;replace hz:=Blk.up hz kk;revert hz));(repeat (rename OwnR _ _ _ _ _ (newb _ _ _) _ _ => hz;replace hz:=OwnR.up hz kk;revert hz));intros;have h0:=below_next h0 kk;have kx:=below_next kx kk;clear kk
      have hB2:=‹Blk _ W.heap.size _ _›;obtain ⟨x0,x1,y0,y1⟩:=hB2.c2;have hB5:=‹Blk _ wr.heap.size _ _›;obtain ⟨z0,z1,z2,z3,z4,_,_,_,_,_⟩:=hB5.c5
      go_wp2
      refine bodyPost_ret (v:=.tuple #[.slice none 0 0,.agg #[.int .i64 (wrongU l[k] n),.int .i64 k]]) (by simp [results,Tryz.results49,go_sem,x0,x1]) rfl (ans_of (hlog.out.trans (logC_bad hlt hq.out hq0.out)) (SliceR.nil_ _) (Below.setCell (Below.setCell (by assumption) (by show _ ≤ W.heap.size;omega) _) (by show _ ≤ W.heap.size;omega) _))
    have hR:=wrongU_iff.1 eU
    have hl6:=hR.len
    have hcl6:c.length ≤ 6:=by have:=hcl.out;omega
    have hse6:l[k].seen.length ≤ 6:=by omega
    have hA:=hid (show (0:Int) ≤ l[k].author from hR.a0)
    obtain ⟨g1,g2⟩:=eq_b eU
    have eU':=hid eU
    clear eU hR hl6
    cases hH:hasU c l[k]
    rotate_left
    · have hq:=hid (show stepE c l[k] n = 7 by unfold stepE;rw [if_neg (by simp [eU'.out]),if_pos hH])
      refine (UWrong_calls _ _ _ _ (upd_agg (u:=l[k]) (by assumption))).mono ?_
      rintro e w4 ⟨rfl,kk⟩
      (repeat (first | replace kk:=below_of_alloc kk | replace kk:=below_of_drewN kk));(repeat (rename SliceR _ _ (wrd _) _ _ => hz;replace hz:=SliceR.up hz kk;revert hz));(repeat (rename AggR _ (wrd _) _ _ => hz;replace hz:=AggR.up hz kk;revert hz));(repeat (rename Blk _ _ _ _ => hz;replace hz:=Blk.up hz kk;revert hz));(repeat (rename OwnR _ _ _ _ _ (newb _ _ _) _ _ => hz;replace hz:=OwnR.up hz kk;revert hz));intros;have h0:=below_next h0 kk;have kx:=below_next kx kk;clear kk
      have hB2:=‹Blk _ W.heap.size _ _›;obtain ⟨x0,x1,y0,y1⟩:=hB2.c2;have hB5:=‹Blk _ wr.heap.size _ _›;obtain ⟨z0,z1,z2,z3,z4,_,_,_,_,_⟩:=hB5.c5
      go_wp2_with fail
      refine (has_calls _ _ _ _ _ (by assumption) (upd_ptr (u:=l[k]) hB5 (by assumption))).mono ?_
      rintro e w5 ⟨rfl,kk⟩
      (repeat (first | replace kk:=below_of_alloc kk | replace kk:=below_of_drewN kk));(repeat (rename SliceR _ _ (wrd _) _ _ => hz;replace hz:=SliceR.up hz kk;revert hz));(repeat (rename AggR _ (wrd _) _ _ => hz;replace hz:=AggR.up hz kk;revert hz));(repeat (rename Blk _ _ _ _ => hz;replace hz:=Blk.up hz kk;revert hz));(repeat (rename OwnR _ _ _ _ _ (newb _ _ _) _ _ => hz;replace hz:=OwnR.up hz kk;revert hz));intros;have h0:=below_next h0 kk;have kx:=below_next kx kk;clear kk
      have hB2:=‹Blk _ W.heap.size _ _›;obtain ⟨x0,x1,y0,y1⟩:=hB2.c2;have hB5:=‹Blk _ wr.heap.size _ _›;obtain ⟨z0,z1,z2,z3,z4,_,_,_,_,_⟩:=hB5.c5
      go_wp2
      refine bodyPost_ret (v:=.tuple #[.slice none 0 0,.agg #[.int .i64 (7),.int .i64 k]]) (by simp [results,Tryz.results49,go_sem,x0,x1]) rfl (ans_of (hlog.out.trans (logC_bad hlt hq.out (by decide))) (SliceR.nil_ _) (Below.setCell (Below.setCell (by assumption) (by show _ ≤ W.heap.size;omega) _) (by show _ ≤ W.heap.size;omega) _))
    cases hS:seesC c l[k].seen
    · have hq:=hid (show stepE c l[k] n = 8 by unfold stepE;rw [if_neg (by simp [eU'.out]),if_neg (by simp [hH]),if_pos hS])
      refine (UWrong_calls _ _ _ _ (upd_agg (u:=l[k]) (by assumption))).mono ?_
      rintro e w4 ⟨rfl,kk⟩
      (repeat (first | replace kk:=below_of_alloc kk | replace kk:=below_of_drewN kk));(repeat (rename SliceR _ _ (wrd _) _ _ => hz;replace hz:=SliceR.up hz kk;revert hz));(repeat (rename AggR _ (wrd _) _ _ => hz;replace hz:=AggR.up hz kk;revert hz));(repeat (rename Blk _ _ _ _ => hz;replace hz:=Blk.up hz kk;revert hz));(repeat (rename OwnR _ _ _ _ _ (newb _ _ _) _ _ => hz;replace hz:=OwnR.up hz kk;revert hz));intros;have h0:=below_next h0 kk;have kx:=below_next kx kk;clear kk
      have hB2:=‹Blk _ W.heap.size _ _›;obtain ⟨x0,x1,y0,y1⟩:=hB2.c2;have hB5:=‹Blk _ wr.heap.size _ _›;obtain ⟨z0,z1,z2,z3,z4,_,_,_,_,_⟩:=hB5.c5
      go_wp2_with fail
      refine (has_calls _ _ _ _ _ (by assumption) (upd_ptr (u:=l[k]) hB5 (by assumption))).mono ?_
      rintro e w5 ⟨rfl,kk⟩
      (repeat (first | replace kk:=below_of_alloc kk | replace kk:=below_of_drewN kk));(repeat (rename SliceR _ _ (wrd _) _ _ => hz;replace hz:=SliceR.up hz kk;revert hz));(repeat (rename AggR _ (wrd _) _ _ => hz;replace hz:=AggR.up hz kk;revert hz));(repeat (rename Blk _ _ _ _ => hz;replace hz:=Blk.up hz kk;revert hz));(repeat (rename OwnR _ _ _ _ _ (newb _ _ _) _ _ => hz;replace hz:=OwnR.up hz kk;revert hz));intros;have h0:=below_next h0 kk;have kx:=below_next kx kk;clear kk
      have hB2:=‹Blk _ W.heap.size _ _›;obtain ⟨x0,x1,y0,y1⟩:=hB2.c2;have hB5:=‹Blk _ wr.heap.size _ _›;obtain ⟨z0,z1,z2,z3,z4,_,_,_,_,_⟩:=hB5.c5
      go_wp2_with fail
      refine (Sees_calls _ _ _ _ _ (by assumption) (by assumption) (by omega)).mono ?_
      rintro e w6 ⟨rfl,kk⟩
      (repeat (first | replace kk:=below_of_alloc kk | replace kk:=below_of_drewN kk));(repeat (rename SliceR _ _ (wrd _) _ _ => hz;replace hz:=SliceR.up hz kk;revert hz));(repeat (rename AggR _ (wrd _) _ _ => hz;replace hz:=AggR.up hz kk;revert hz));(repeat (rename Blk _ _ _ _ => hz;replace hz:=Blk.up hz kk;revert hz));(repeat (rename OwnR _ _ _ _ _ (newb _ _ _) _ _ => hz;replace hz:=OwnR.up hz kk;revert hz));intros;have h0:=below_next h0 kk;have kx:=below_next kx kk;clear kk
      have hB2:=‹Blk _ W.heap.size _ _›;obtain ⟨x0,x1,y0,y1⟩:=hB2.c2;have hB5:=‹Blk _ wr.heap.size _ _›;obtain ⟨z0,z1,z2,z3,z4,_,_,_,_,_⟩:=hB5.c5
      go_wp2
      refine bodyPost_ret (v:=.tuple #[.slice none 0 0,.agg #[.int .i64 (8),.int .i64 k]]) (by simp [results,Tryz.results49,go_sem,x0,x1]) rfl (ans_of (hlog.out.trans (logC_bad hlt hq.out (by decide))) (SliceR.nil_ _) (Below.setCell (Below.setCell (by assumption) (by show _ ≤ W.heap.size;omega) _) (by show _ ≤ W.heap.size;omega) _))
    · have hq:=hid (show stepE c l[k] n = 0 by unfold stepE;rw [if_neg (by simp [eU'.out]),if_neg (by simp [hH]),if_neg (by simp [hS])])
      refine (UWrong_calls _ _ _ _ (upd_agg (u:=l[k]) (by assumption))).mono ?_
      rintro e w4 ⟨rfl,kk⟩
      (repeat (first | replace kk:=below_of_alloc kk | replace kk:=below_of_drewN kk));(repeat (rename SliceR _ _ (wrd _) _ _ => hz;replace hz:=SliceR.up hz kk;revert hz));(repeat (rename AggR _ (wrd _) _ _ => hz;replace hz:=AggR.up hz kk;revert hz));(repeat (rename Blk _ _ _ _ => hz;replace hz:=Blk.up hz kk;revert hz));(repeat (rename OwnR _ _ _ _ _ (newb _ _ _) _ _ => hz;replace hz:=OwnR.up hz kk;revert hz));intros;have h0:=below_next h0 kk;have kx:=below_next kx kk;clear kk
      have hB2:=‹Blk _ W.heap.size _ _›;obtain ⟨x0,x1,y0,y1⟩:=hB2.c2;have hB5:=‹Blk _ wr.heap.size _ _›;obtain ⟨z0,z1,z2,z3,z4,_,_,_,_,_⟩:=hB5.c5
      go_wp2_with fail
      refine (has_calls _ _ _ _ _ (by assumption) (upd_ptr (u:=l[k]) hB5 (by assumption))).mono ?_
      rintro e w5 ⟨rfl,kk⟩
      (repeat (first | replace kk:=below_of_alloc kk | replace kk:=below_of_drewN kk));(repeat (rename SliceR _ _ (wrd _) _ _ => hz;replace hz:=SliceR.up hz kk;revert hz));(repeat (rename AggR _ (wrd _) _ _ => hz;replace hz:=AggR.up hz kk;revert hz));(repeat (rename Blk _ _ _ _ => hz;replace hz:=Blk.up hz kk;revert hz));(repeat (rename OwnR _ _ _ _ _ (newb _ _ _) _ _ => hz;replace hz:=OwnR.up hz kk;revert hz));intros;have h0:=below_next h0 kk;have kx:=below_next kx kk;clear kk
      have hB2:=‹Blk _ W.heap.size _ _›;obtain ⟨x0,x1,y0,y1⟩:=hB2.c2;have hB5:=‹Blk _ wr.heap.size _ _›;obtain ⟨z0,z1,z2,z3,z4,_,_,_,_,_⟩:=hB5.c5
      go_wp2_with fail
      refine (Sees_calls _ _ _ _ _ (by assumption) (by assumption) (by omega)).mono ?_
      rintro e w6 ⟨rfl,kk⟩
      (repeat (first | replace kk:=below_of_alloc kk | replace kk:=below_of_drewN kk));(repeat (rename SliceR _ _ (wrd _) _ _ => hz;replace hz:=SliceR.up hz kk;revert hz));(repeat (rename AggR _ (wrd _) _ _ => hz;replace hz:=AggR.up hz kk;revert hz));(repeat (rename Blk _ _ _ _ => hz;replace hz:=Blk.up hz kk;revert hz));(repeat (rename OwnR _ _ _ _ _ (newb _ _ _) _ _ => hz;replace hz:=OwnR.up hz kk;revert hz));intros;have h0:=below_next h0 kk;have kx:=below_next kx kk;clear kk
      have hB2:=‹Blk _ W.heap.size _ _›;obtain ⟨x0,x1,y0,y1⟩:=hB2.c2;have hB5:=‹Blk _ wr.heap.size _ _›;obtain ⟨z0,z1,z2,z3,z4,_,_,_,_,_⟩:=hB5.c5
      go_wp2_with fail
      refine (Tick_calls _ _ _ _ _ (by assumption) (Rd.le_refl _) (by omega)).mono ?_
      rintro e w7 ⟨r7,rfl,ho,kk⟩
      have hb7:=kx.size
      have kx:=below_next kx kk
      have ho:=IntsR.mono ho.ints_newer (newer_weak (B':=W.heap.size + 1) (by have:=hb1.size;omega))
      go_wp2
      go_roundw
      case rel => exact ⟨k + 1,_,by omega,by go_num,ho,hid (by rw [tickC_len];exact hcl.out),hid (hlog.out.trans (logC_good hlt hq.out)),hb1.trans (kx.mono (by have:=hb1.size;omega))⟩
      case measure => simp [intOf];omega
end Go.Proofs.YtkjknlnhffmkkacGreat
