/- Package clock and the reference's clocks, further: Clone, Index, Contains, Has, Tick, Sees, Join, Meet; the reference's Wrong, Join, Meet, Sees, Same. -/
import Derived.Test.YtkjknlnhffmkkacGreatQClock
import Derived.Deep.QuietTactic
import Derived.BigQuiet
import Derived.WalkSpells
namespace Go.Proofs.YtkjknlnhffmkkacGreat
open Go.RowKit
set_option linter.unusedVariables false

theorem CloneC_calls (v:Value) (l:List Int) (rd:Rd) (w:World) (h:IntsR rd v l) (hle:Rd.le rd (wrd w)) (hbig:l.length * 8 ≤ 140737488355328) :
    Calls Tryz.prog 45 #[v] w fun e w' => ∃ r,e = .returned r ∧ OwnR 1 IntR w.heap.size 3 w' rd r l ∧ Below w.heap.size w w':=by
  obtain ⟨A,c,rfl,h1,h2⟩:=h.val
  unfold maxLen at h2
  have H:=hid h;clear h
  have HL:=hid hle;clear hle
  rcases A with _ | ad
  · have hl:l = []:=by
      rcases l with _ | ⟨x,l⟩
      · rfl
      · obtain ⟨b,o,e,_⟩:=H.out.at_ (k:=0) (by simp);cases e
    subst hl
    have hnil:=Lib.run_eql_slice_nil (P:=Tryz.prog) w 23 3 none 0 c 0 0 Tryz.underlying23
    go_enter Tryz.func45,Tryz.ntmps45
    go_wp2
    go_ret
    exact ⟨_,rfl,OwnR.nil_,Below.refl _ _⟩
  · have hnil:=Lib.run_eql_slice_nil (P:=Tryz.prog) w 23 3 (some ad) l.length c 0 0 Tryz.underlying23
    go_enter Tryz.func45,Tryz.ntmps45
    go_wp2_with (at_builtin;refine wpList_cat _ rfl (.tmp 5) (.tmp 6) _ rfl w.heap.size 3 8 ok_clock rd (Rd.le_trans HL.out (le_alloc _ _)) one_int _ _ [] l rfl rfl (own_empty w rd (Nat.le_refl _)) H.out (by simp only [maxLen,List.length_nil];omega) (by simp) ?_;intro v2 w2 ho2 hb2 _ _)
    go_ret
    exact ⟨_,rfl,by simpa using ho2,((Below.refl _ _).alloc (Nat.le_refl _) _).trans hb2⟩

theorem IndexC_calls (v:Value) (l:List Int) (x:Int) (w:World) (h:IntsR (wrd w) v l) :
    Calls Tryz.prog 104 #[v,.int .i64 x] w fun e w' => e = .returned (.int .i64 (idxF (fun y => y == x) l)) ∧ w = w':=by
  obtain ⟨A,c,rfl,h1,h2⟩:=h.val
  unfold maxLen at h2
  have H:=hid h;clear h
  go_enter Tryz.func104,Tryz.ntmps104
  go_wp2
  go_loop [8] (fun i => ∃ k:Nat,k ≤ l.length ∧ i = .int .i64 k ∧ Hid (∀ (j:Nat) y,j < k → l[j]? = some y → (y == x) = false)) (fun i => l.length - (intOf i).toNat)
  case atStart => exact ⟨0,Nat.zero_le _,rfl,hid (fun j y h => absurd h (by omega))⟩
  case round =>
    obtain ⟨k,hk,rfl,hb⟩:=hrel
    by_cases hlt:k < l.length
    · obtain ⟨b,o,rfl,hc⟩:=H.out.at_ hlt
      simp only [wrd] at hc
      cases hpk:x == l[k]
      · go_wp2
        go_round
        case rel => exact ⟨k + 1,by omega,by go_num,hid (fun j y hj hy => by
          by_cases e:j = k
          · subst e;have e2:=(List.getElem?_eq_some_iff.1 hy).2;rw [← e2];simp at hpk ⊢;exact fun e => hpk e.symm
          · exact hb.out j y (by omega) hy)⟩
        case measure => simp [intOf];omega
      · go_wp2
        go_ret
        exact ⟨ret_i (idxF_hit (x:=l[k]) (by simp [hlt]) (by simp at hpk ⊢;exact hpk.symm) hb.out).symm,rfl⟩
    · go_wp2
      go_ret
      refine ⟨ret_i (idxF_none fun j y hy => hb.out j y ?_ hy).symm,rfl⟩
      have:=(List.getElem?_eq_some_iff.1 hy).1
      omega

theorem ContainsC_calls (v:Value) (l:List Int) (x:Int) (w:World) (h:IntsR (wrd w) v l) :
    Calls Tryz.prog 68 #[v,.int .i64 x] w fun e w' => e = .returned (.bool (l.any (fun y => y == x))) ∧ w = w':=by
  rw [← idxF_any]
  obtain ⟨b1,b2⟩:=idxF_bd (fun y => y == x) l
  have HI:=IndexC_calls v l x w h
  generalize idxF (fun y => y == x) l = q at *
  have H:=hid HI;clear HI h
  go_enter Tryz.func68,Tryz.ntmps68
  go_wp2_with (refine H.out.mono ?_;rintro e w' ⟨rfl,rfl⟩)
  go_ret
  exact ⟨rfl,rfl⟩

theorem Has_calls (v:Value) (l:List Int) (a s:Int) (w:World) (h:IntsR (wrd w) v l) :
    Calls Tryz.prog 83 #[v,.int .i64 a,.int .i64 s] w fun e w' => e = .returned (.bool (hasC l a s)) ∧ w = w':=by
  obtain ⟨A,c,rfl,h1,h2⟩:=h.val
  unfold maxLen at h2
  by_cases h0:0 ≤ a
  · obtain ⟨k,rfl⟩:=Int.eq_ofNat_of_zero_le h0
    by_cases hk:k < l.length
    · obtain ⟨b,o,rfl,hc⟩:=h.at_ hk
      simp only [wrd] at hc
      have e:hasC l k s = decide (s ≤ l[k]):=by unfold hasC;rw [Int.toNat_natCast,atI_lt hk];simp [hk]
      rw [e];clear e h
      go_enter Tryz.func83,Tryz.ntmps83
      go_wp2
      go_ret
      exact ⟨rfl,rfl⟩
    · have e:hasC l k s = false:=by unfold hasC;simp;omega
      rw [e];clear e h
      go_enter Tryz.func83,Tryz.ntmps83
      go_wp2
      go_ret
      exact ⟨rfl,rfl⟩
  · have e:hasC l a s = false:=by unfold hasC;simp;omega
    rw [e];clear e h
    go_enter Tryz.func83,Tryz.ntmps83
    go_wp2
    go_ret
    exact ⟨rfl,rfl⟩

theorem Tick_calls (v:Value) (l:List Int) (a:Int) (rd:Rd) (w:World) (h:IntsR rd v l) (hle:Rd.le rd (wrd w)) (hbig:l.length * 8 ≤ 140737488355328) :
    Calls Tryz.prog 88 #[v,.int .i64 a] w fun e w' => ∃ r,e = .returned r ∧ OwnR 1 IntR w.heap.size 3 w' rd r (tickC l a) ∧ Below w.heap.size w w':=by
  have HC:=hid (CloneC_calls v l rd w h hle hbig)
  clear h hle
  by_cases h0:0 ≤ a
  · obtain ⟨k,rfl⟩:=Int.eq_ofNat_of_zero_le h0
    by_cases hk:k < l.length
    · have e:tickC l k = l.set k (wrap64 (l[k] + 1)):=by unfold tickC;rw [if_pos (by omega),Int.toNat_natCast,atI_lt hk]
      rw [e];clear e
      go_enter Tryz.func88,Tryz.ntmps88
      go_wp2_with fail
      refine HC.out.mono ?_
      rintro e w1 ⟨r,rfl,ho,hb⟩
      obtain ⟨g,cap,rfl,hbg,hgs,hc1,hc2,hf,cs,hcs,hR,hc⟩:=ho.blk hk
      unfold maxLen at hc2
      cases hR
      have hf:=hf k
      have hc:=hc 0 _ rfl
      rw [Nat.mul_one,Nat.add_zero] at hc
      go_wp2
      go_ret
      refine ⟨_,rfl,?_,hb.setCell hbg _⟩
      have:=ho.set_ (k:=k) (j:=0) (u:=.int .i64 (wrap64 (l[k] + 1))) (x:=l[k]) (y:=wrap64 (l[k] + 1)) (by omega) (by simp [hk]) (by rintro cs _ rfl;rfl)
      simpa using this
    · have e:tickC l k = l:=by unfold tickC;rw [if_neg (by omega)]
      rw [e];clear e
      go_enter Tryz.func88,Tryz.ntmps88
      go_wp2_with fail
      refine HC.out.mono ?_
      rintro e w1 ⟨r,rfl,ho,hb⟩
      obtain ⟨A,c,rfl,hc1,hc2⟩:=ho.val
      unfold maxLen at hc2
      go_wp2
      go_ret
      exact ⟨_,rfl,ho,hb⟩
  · have e:tickC l a = l:=by unfold tickC;rw [if_neg (by omega)]
    rw [e];clear e
    go_enter Tryz.func88,Tryz.ntmps88
    go_wp2_with fail
    refine HC.out.mono ?_
    rintro e w1 ⟨r,rfl,ho,hb⟩
    obtain ⟨A,c,rfl,hc1,hc2⟩:=ho.val
    unfold maxLen at hc2
    go_wp2
    go_ret
    exact ⟨_,rfl,ho,hb⟩

theorem seesC_any (a b:List Int):(!(zipC ltI a b).any (fun y => y == 1)) = seesC a b:=by
  unfold seesC zipC
  rw [List.any_map,List.not_any_eq_all_not]
  congr 2
  funext i
  simp only [Function.comp,ltI]
  by_cases h:atI a i < atI b i
  · simp [h]
  · simp [h];omega

theorem Sees_calls (v u:Value) (a b:List Int) (w:World) (h:IntsR (wrd w) v a) (h':IntsR (wrd w) u b) (hbig:max a.length b.length * 8 ≤ 140737488355328) :
    Calls Tryz.prog 29 #[v,u] w fun e w' => e = .returned (.bool (seesC a b)) ∧ Below w.heap.size w w':=by
  have HC:=hid (each_calls v u a b _ _ w h h' less_tells hbig)
  have HS:=hid (seesC_any a b)
  clear h h'
  go_enter Tryz.func29,Tryz.ntmps29
  go_wp2_with fail
  refine HC.out.mono ?_
  rintro e w1 ⟨r,rfl,ho,hb⟩
  have hr:=ho.slice mono_int (fun _ _ _ h => by cases h)
  go_wp2_with (refine (ContainsC_calls _ _ _ _ hr).mono ?_;rintro e w' ⟨rfl,rfl⟩)
  go_ret
  exact ⟨ret_b HS.out,hb⟩
theorem Join_calls (v u:Value) (a b:List Int) (w:World) (h:IntsR (wrd w) v a) (h':IntsR (wrd w) u b) (hbig:max a.length b.length * 8 ≤ 140737488355328) :
    Calls Tryz.prog 31 #[v,u] w fun e w' => ∃ r,e = .returned r ∧ OwnR 1 IntR w.heap.size 3 w' rdN r (joinC a b) ∧ Below w.heap.size w w':=by
  have HC:=hid (each_calls v u a b _ _ w h h' max_tells hbig)
  clear h h'
  go_enter Tryz.func31,Tryz.ntmps31
  go_wp2_with fail
  refine HC.out.mono ?_
  rintro e w1 ⟨r,rfl,ho,hb⟩
  go_wp2
  go_ret
  exact ⟨_,rfl,ho,hb⟩
theorem Meet_calls (v u:Value) (a b:List Int) (w:World) (h:IntsR (wrd w) v a) (h':IntsR (wrd w) u b) (hbig:max a.length b.length * 8 ≤ 140737488355328) :
    Calls Tryz.prog 64 #[v,u] w fun e w' => ∃ r,e = .returned r ∧ OwnR 1 IntR w.heap.size 3 w' rdN r (meetC a b) ∧ Below w.heap.size w w':=by
  have HC:=hid (each_calls v u a b _ _ w h h' min_tells hbig)
  clear h h'
  go_enter Tryz.func64,Tryz.ntmps64
  go_wp2_with fail
  refine HC.out.mono ?_
  rintro e w1 ⟨r,rfl,ho,hb⟩
  go_wp2
  go_ret
  exact ⟨_,rfl,ho,hb⟩
end Go.Proofs.YtkjknlnhffmkkacGreat
