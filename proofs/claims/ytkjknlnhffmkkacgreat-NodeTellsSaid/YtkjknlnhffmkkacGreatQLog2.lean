/- log.Lacks computes lacksU; what it answers is new. -/
import Derived.Test.YtkjknlnhffmkkacGreatQLog
namespace Go.Proofs.YtkjknlnhffmkkacGreat
open Go.RowKit
set_option linter.unusedVariables false

theorem ok_upds:ElemOk Tryz.prog 28 42 5 56:=ok_elem Tryz.underlying28 (z:=.agg #[.int .i64 0,.slice none 0 0,.int .i64 0,.int .i64 0,.int .i64 0]) (by kernel_rfl) rfl (by decide)

set_option maxHeartbeats 1000000 in
theorem Lacks_calls (v1 v2:Value) (l:List Upd) (c:List Int) (W:World) (h1:UpdsR (wrd W) v1 l) (h2:IntsR (wrd W) v2 c) (hbig:l.length * 56 ≤ 140737488355328) (hseen:∀ u ∈ l,u.seen.length * 8 ≤ 140737488355328) :
    Calls Tryz.prog 43 #[v1,v2] W fun e w' => ∃ r,e = .returned r ∧ OwnR 5 UpdR W.heap.size 42 w' (newb w' W.heap.size r.ownBlock) r (lacksU l c) ∧ Below W.heap.size W w':=by
  obtain ⟨A1,c1,rfl,m1,m2⟩:=h1.val
  obtain ⟨A2,c2,rfl,m3,m4⟩:=h2.val
  have h1:=SliceR.top h1
  have h2:=SliceR.top h2
  unfold maxLen at m2 m4
  have hseen:=hid hseen
  go_enter Tryz.func43,Tryz.ntmps43
  go_wp2
  go_loopw [5,10] (fun v i wr => ∃ k:Nat,k ≤ l.length ∧ i = .int .i64 k ∧ OwnR 5 UpdR W.heap.size 42 wr (newb wr W.heap.size v.ownBlock) v (lacksU (l.take k) c) ∧ Below W.heap.size W wr) (fun _ i _ => l.length - (intOf i).toNat)
  case atStart => exact ⟨0,Nat.zero_le _,rfl,by simpa [lacksU] using OwnR.nil_,Below.refl _ _⟩
  case round =>
    obtain ⟨k,hk,rfl,hown,h0⟩:=hrel
    by_cases hlt:k < l.length
    rotate_left
    · have hz:=hid (show lacksU (l.take k) c = lacksU l c by rw [List.take_of_length_le (by omega)])
      rw [hz.out] at hown
      clear hz
      have e1:decide ((k:Int) < (l.length:Int)) = false:=decide_eq_false (by omega)
      go_wp2
      go_ret
      exact ⟨_,rfl,hown,h0⟩
    obtain ⟨b,o,sv,rfl,hsv,hx⟩:=upds_at h1 hlt
    obtain ⟨q0,q1,q2,q3,q4⟩:=hx _ (upto_le h0)
    clear hx
    have hsv:=SliceR.of_top hsv h0
    have hc:=SliceR.of_top h2 h0
    obtain ⟨As,cs,rfl,ms1,ms2⟩:=hsv.val
    have hll:=hid (Nat.le_trans (lacksU_len (l.take k) c) (show (l.take k).length ≤ k by simp;omega))
    rename World => wr
    go_wp2_with fail
    have hB5:=Blk.new_ wr 42 #[.int .i64 l[k].author,.slice As l[k].seen.length cs,.int .i64 l[k].kind,.int .i64 l[k].key,.int .i64 l[k].item]
    have kk:=below_alloc1 wr (.cells #[.int .i64 l[k].author,.slice As l[k].seen.length cs,.int .i64 l[k].kind,.int .i64 l[k].key,.int .i64 l[k].item] 42)
    (repeat (first | replace kk:=below_of_alloc kk | replace kk:=below_of_drewN kk));(repeat (rename SliceR _ _ (wrd _) _ _ => hz;replace hz:=SliceR.up hz kk;revert hz));(repeat (rename AggR _ (wrd _) _ _ => hz;replace hz:=AggR.up hz kk;revert hz));(repeat (rename Blk _ _ _ _ => hz;replace hz:=Blk.up hz kk;revert hz));(repeat (rename OwnR _ _ _ _ _ (newb _ _ _) _ _ => hz;replace hz:=OwnR.up hz kk;revert hz));intros;have h0:=below_next h0 kk;clear kk
    generalize wr.alloc (.cells #[.int .i64 l[k].author,.slice As l[k].seen.length cs,.int .i64 l[k].kind,.int .i64 l[k].key,.int .i64 l[k].item] 42) = w3 at *
    clear q0 q1 q2 q3 q4
    cases hH:hasU c l[k]
    rotate_left
    · refine (has_calls _ _ _ _ _ (by assumption) (upd_ptr (u:=l[k]) (by assumption) (by assumption))).mono ?_
      rintro e w4 ⟨rfl,kk⟩
      (repeat (first | replace kk:=below_of_alloc kk | replace kk:=below_of_drewN kk));(repeat (rename SliceR _ _ (wrd _) _ _ => hz;replace hz:=SliceR.up hz kk;revert hz));(repeat (rename AggR _ (wrd _) _ _ => hz;replace hz:=AggR.up hz kk;revert hz));(repeat (rename Blk _ _ _ _ => hz;replace hz:=Blk.up hz kk;revert hz));(repeat (rename OwnR _ _ _ _ _ (newb _ _ _) _ _ => hz;replace hz:=OwnR.up hz kk;revert hz));intros;have h0:=below_next h0 kk;clear kk
      have hown:=‹OwnR _ _ _ _ _ (newb w4 _ _) _ _›
      rw [← lacksU_has hlt hH] at hown
      go_wp2
      go_roundw
      case rel => exact ⟨k + 1,by omega,by go_num,hown,h0⟩
      case measure => simp [intOf];omega
    · refine (has_calls _ _ _ _ _ (by assumption) (upd_ptr (u:=l[k]) (by assumption) (by assumption))).mono ?_
      rintro e w4 ⟨rfl,kk⟩
      (repeat (first | replace kk:=below_of_alloc kk | replace kk:=below_of_drewN kk));(repeat (rename SliceR _ _ (wrd _) _ _ => hz;replace hz:=SliceR.up hz kk;revert hz));(repeat (rename AggR _ (wrd _) _ _ => hz;replace hz:=AggR.up hz kk;revert hz));(repeat (rename Blk _ _ _ _ => hz;replace hz:=Blk.up hz kk;revert hz));(repeat (rename OwnR _ _ _ _ _ (newb _ _ _) _ _ => hz;replace hz:=OwnR.up hz kk;revert hz));intros;have h0:=below_next h0 kk;clear kk
      have hB5:=‹Blk _ wr.heap.size _ _›;obtain ⟨z0,z1,z2,z3,z4,_,_,_,_,_⟩:=hB5.c5
      go_wp2_with fail
      have hlt4:=(‹OwnR _ _ _ _ w4 (newb w4 _ _) _ _›).lt
      have hz4:=h0.size
      refine (Own_calls _ l[k] _ _ (upd_agg (by assumption)) (Rd.le_refl _) (hseen.out _ (List.getElem_mem hlt))).mono ?_
      rintro e w5 ⟨r5,rfl,ho5,kk⟩
      (repeat (first | replace kk:=below_of_alloc kk | replace kk:=below_of_drewN kk));(repeat (rename SliceR _ _ (wrd _) _ _ => hz;replace hz:=SliceR.up hz kk;revert hz));(repeat (rename AggR _ (wrd _) _ _ => hz;replace hz:=AggR.up hz kk;revert hz));(repeat (rename Blk _ _ _ _ => hz;replace hz:=Blk.up hz kk;revert hz));(repeat (rename OwnR _ _ _ _ _ (newb _ _ _) _ _ => hz;replace hz:=OwnR.up hz kk;revert hz));intros;have h0:=below_next h0 kk;clear kk
      have hown:=‹OwnR _ _ _ _ w5 (newb w5 _ _) _ _›
      obtain ⟨cs5,rfl,sv5,rfl,hs5⟩:=ho5
      have hs5:=IntsR.mono hs5 (newer_newb (g:=u5.ownBlock) hz4 hlt4)
      obtain ⟨A5,c5,rfl,_,_⟩:=hs5.val
      have hk':=below_alloc1 w5 (.cells #[.int .i64 l[k].author,.slice A5 l[k].seen.length c5,.int .i64 l[k].kind,.int .i64 l[k].key,.int .i64 l[k].item] 42)
      have hown:=OwnR.up hown hk'
      have hs5:=IntsR.mono hs5 (newb_below hk')
      have h0:=below_next h0 hk'
      clear z0 z1 z2 z3 z4
      go_wp2_with (at_builtin;refine wpList_push _ rfl (.tmp 17) (.tmp 20) _ rfl W.heap.size 42 56 ok_upds _ _ _ rfl hown w5.heap.size 1 [.int .i64 l[k].author,.slice A5 l[k].seen.length c5,.int .i64 l[k].kind,.int .i64 l[k].key,.int .i64 l[k].item] l[k] rfl rfl (alloc_cells _ _ _ _) (GoodR.one (R:=UpdR) _ _ l[k] ⟨_,rfl,hs5⟩) ⟨_,rfl,hs5⟩ (by have:=hll.out;simp only [maxLen];omega) h0.size ?_;intro v6 w6 ho6 hb6 hg6 hv6)
      have ho6:=OwnR.next ho6 hg6 hv6
      rw [← lacksU_not hlt hH] at ho6
      go_roundw
      case rel => exact ⟨k + 1,by omega,by go_num,ho6,h0.trans hb6⟩
      case measure => simp [intOf];omega
end Go.Proofs.YtkjknlnhffmkkacGreat
