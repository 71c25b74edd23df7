/- log.Heads computes headsU. -/
import Derived.Test.YtkjknlnhffmkkaaQLog2
namespace Go.Proofs.Ytkjknlnhffmkkaa
open Go.RowKit
set_option linter.unusedVariables false

/-- a function value of one captured thing that tells of an update -/
def TellsU (f : Nat) (q : Value) (p : Upd → Bool) (w0 : World) : Prop := (∀ (x : Value) (w : World), (callFunc f #[x, q]).run Try.prog w = .ok (.enter f #[x, q]) w) ∧
  ∀ (v : Value) (u : Upd) (w : World), Below w0.heap.size w0 w → AggR UpdR (wrd w) v u → Calls Try.prog f #[v, q] w fun e w' => e = .returned (.bool (p u)) ∧ Below w.heap.size w w'

set_option maxHeartbeats 1000000 in
theorem idxFuncU_calls (v q : Value) (l : List Upd) (f : Nat) (p : Upd → Bool) (W : World) (h : UpdsR (wrd W) v l) (hp : TellsU f q p W) :
    Calls Try.prog 69 #[v, .func (.func f) #[] #[q]] W fun e w' => e = .returned (.int .i64 (idxF p l)) ∧ Below W.heap.size W w' := by
  obtain ⟨A, c, rfl, h1, h2⟩ := h.val
  unfold maxLen at h2
  have h := SliceR.top h
  obtain ⟨eg, hp⟩ := hp
  have HP := hid hp; clear hp
  go_enter Try.func69, Try.ntmps69
  go_wp2
  go_loopw [8] (fun i wr => ∃ k : Nat, k ≤ l.length ∧ i = .int .i64 k ∧ Hid (∀ (j : Nat) y, j < k → l[j]? = some y → p y = false) ∧ Below W.heap.size W wr) (fun i _ => l.length - (intOf i).toNat)
  case atStart => exact ⟨0, Nat.zero_le _, rfl, hid (fun j y h => absurd h (by omega)), Below.refl _ _⟩
  case round =>
    obtain ⟨k, hk, rfl, hb, h0⟩ := hrel
    by_cases hlt : k < l.length
    rotate_left
    · have e1 : decide ((k : Int) < (l.length : Int)) = false := decide_eq_false (by omega)
      go_wp2
      go_ret
      refine ⟨ret_i (idxF_none fun j y hy => hb.out j y ?_ hy).symm, h0⟩
      have := (List.getElem?_eq_some_iff.1 hy).1
      omega
    obtain ⟨b, o, sv, rfl, hsv, hx⟩ := upds_at h hlt
    obtain ⟨q0, q1, q2, q3, q4⟩ := hx _ (upto_le h0)
    clear hx
    have hsv := SliceR.of_top hsv h0
    obtain ⟨As, cs, rfl, ms1, ms2⟩ := hsv.val
    rename World => wr
    cases hpk : p l[k]
    · go_wp2_with (refine (HP.out _ l[k] wr h0 (upd_agg hsv)).mono ?_; rintro e w' ⟨rfl, kk⟩)
      go_roundw
      case rel => exact ⟨k + 1, by omega, by go_num, hid (fun j y hj hy => by
          by_cases e : j = k
          · subst e; have e2 := (List.getElem?_eq_some_iff.1 hy).2; rw [← e2]; exact hpk
          · exact hb.out j y (by omega) hy), below_next h0 kk⟩
      case measure => simp [intOf]; omega
    · go_wp2_with (refine (HP.out _ l[k] wr h0 (upd_agg hsv)).mono ?_; rintro e w' ⟨rfl, kk⟩)
      go_ret
      exact ⟨ret_i (idxF_hit (x := l[k]) (by simp [hlt]) hpk hb.out).symm, below_next h0 kk⟩

theorem cntFuncU_calls (v q : Value) (l : List Upd) (f : Nat) (p : Upd → Bool) (W : World) (h : UpdsR (wrd W) v l) (hp : TellsU f q p W) :
    Calls Try.prog 62 #[v, .func (.func f) #[] #[q]] W fun e w' => e = .returned (.bool (l.any p)) ∧ Below W.heap.size W w' := by
  rw [← idxF_any]
  obtain ⟨b1, b2⟩ := idxF_bd p l
  have HI := idxFuncU_calls v q l f p W h hp
  generalize idxF p l = x at *
  have H := hid HI; clear HI h
  go_enter Try.func62, Try.ntmps62
  go_wp2_with (refine H.out.mono ?_; rintro e w' ⟨rfl, k⟩)
  go_ret
  exact ⟨rfl, k⟩

theorem heads1_tells {g : Nat} {t : TypeId} {sv : Value} {u : Upd} {w0 : World} (hb : Blk w0 g t #[.int .i64 u.author, sv, .int .i64 u.kind, .int .i64 u.key, .int .i64 u.item]) (hs : IntsR (wrd w0) sv u.seen) :
    TellsU 63 (.pointer (some ⟨g, 0, none⟩)) (fun v => hasU v.seen u) w0 := by
  refine ⟨fun _ _ => by kernel_rfl, fun v x w k h => ?_⟩
  obtain ⟨cs, rfl, sx, rfl, hx⟩ := h
  have k2 := k.trans ((below_alloc1 w (.cells #[.int .i64 x.author, sx, .int .i64 x.kind, .int .i64 x.key, .int .i64 x.item] 32)).mono k.size)
  go_enter Try.func63, Try.ntmps63
  go_wp2_with fail
  refine (has_calls _ _ _ _ _ (SliceR.up hx (below_alloc1 _ _)) (upd_ptr (u := u) (hb.up k2) (SliceR.up hs k2))).mono ?_
  rintro e w' ⟨rfl, kk⟩
  go_wp2
  go_ret
  exact ⟨rfl, below_of_alloc kk⟩

set_option maxHeartbeats 4000000 in
theorem Heads_calls (v : Value) (l : List Upd) (W : World) (h : UpdsR (wrd W) v l) (hbig : l.length * 56 ≤ 140737488355328) :
    Calls Try.prog 42 #[v] W fun e w' => ∃ r, e = .returned r ∧ OwnR 1 IntR W.heap.size 3 w' rdN r (headsU l) ∧ Below W.heap.size W w' := by
  obtain ⟨A1, c1, rfl, m1, m2⟩ := h.val
  have h1 := SliceR.top h
  clear h
  unfold maxLen at m2
  go_enter Try.func42, Try.ntmps42
  go_wp2
  go_loopw [3, 9] (fun v i wr => ∃ k : Nat, k ≤ l.length ∧ i = .int .i64 k ∧ OwnR 1 IntR W.heap.size 3 wr rdN v (headsTo l k) ∧ Below W.heap.size W wr) (fun _ i _ => l.length - (intOf i).toNat)
  case atStart => exact ⟨0, Nat.zero_le _, rfl, OwnR.nil_, Below.refl _ _⟩
  case round =>
    obtain ⟨k, hk, rfl, hown, h0⟩ := hrel
    by_cases hlt : k < l.length
    rotate_left
    · have e1 : decide ((k : Int) < (l.length : Int)) = false := decide_eq_false (by omega)
      have hz := hid (show k = l.length by omega)
      go_wp2
      go_ret
      exact ⟨_, rfl, by unfold headsU; rw [← hz.out]; exact hown, h0⟩
    obtain ⟨b, o, sv, rfl, hsv, hx⟩ := upds_at h1 hlt
    obtain ⟨q0, q1, q2, q3, q4⟩ := hx _ (upto_le h0)
    clear hx
    have hsv := SliceR.of_top hsv h0
    obtain ⟨As, cs, rfl, ms1, ms2⟩ := hsv.val
    unfold maxLen at ms2
    rename World => wr
    have hll := hid (headsTo_len l k)
    by_cases a0 : l[k].author < 0
    · have hN := hid (headsTo_no hlt (show headAt l k l[k] = false by unfold headAt; simp; omega))
      go_wp2
      go_roundw
      case rel => exact ⟨k + 1, by omega, by go_num, by rw [hN.out]; exact hown.alloc _, h0.alloc h0.size _⟩
      case measure => simp [intOf]; omega
    by_cases a1 : (l[k].seen.length : Int) ≤ l[k].author
    · have hN := hid (headsTo_no hlt (show headAt l k l[k] = false by unfold headAt; simp; omega))
      go_wp2
      go_roundw
      case rel => exact ⟨k + 1, by omega, by go_num, by rw [hN.out]; exact hown.alloc _, h0.alloc h0.size _⟩
      case measure => simp [intOf]; omega
    have hB5 := Blk.new_ wr 32 #[.int .i64 l[k].author, .slice As l[k].seen.length cs, .int .i64 l[k].kind, .int .i64 l[k].key, .int .i64 l[k].item]
    have kk := below_alloc1 wr (.cells #[.int .i64 l[k].author, .slice As l[k].seen.length cs, .int .i64 l[k].kind, .int .i64 l[k].key, .int .i64 l[k].item] 32)
    have hown := hown.below kk
    have h0' := below_next h0 kk
    have hsv' := SliceR.up hsv kk
    have hcut := SliceR.of_top (SliceR.cut h1 (k := k + 1) hlt) h0'
    by_cases hcap : c1 = k + 1
    · subst hcap
      have hnil : l.length - (k + 1) = 0 := by omega
      have hnil2 := hid (show l.drop (k + 1) = [] from List.drop_eq_nil_of_le (by omega))
      go_wp2_with fail
      refine (cntFuncU_calls _ _ (l.drop (k + 1)) _ _ _ (by rw [hnil2.out]; exact SliceR.empty_ _ _ _ (by simp [maxLen])) (heads1_tells (u := l[k]) hB5 hsv')).mono ?_
      rintro e w4 ⟨rfl, kk4⟩
      have h0 := below_next h0' kk4
      have hown := hown.below kk4
      cases hany : (l.drop (k + 1)).any (fun v => hasU v.seen l[k])
      · have hN := hid (headsTo_yes hlt (show headAt l k l[k] = true by unfold headAt; rw [hany]; simp; omega))
        go_wp2_with (at_builtin; refine wpList_push _ rfl (.tmp 33) (.tmp 35) _ rfl W.heap.size 3 8 ok_ints rdN _ _ rfl (hown.alloc _) _ 1 [.int .i64 k] k rfl rfl (alloc_cells _ _ _ _) (fun u hu => by rw [List.mem_singleton.1 hu]; rfl) rfl (by have := hll.out; simp only [maxLen]; omega) (by have := h0.size; simp; omega) ?_; intro v2 w2 ho2 hb2 _ _)
        go_roundw
        case rel => exact ⟨k + 1, by omega, by go_num, by rw [hN.out]; exact ho2, (h0.alloc h0.size _).trans hb2⟩
        case measure => simp [intOf]; omega
      · have hN := hid (headsTo_no hlt (show headAt l k l[k] = false by unfold headAt; rw [hany]; simp))
        go_wp2
        go_roundw
        case rel => exact ⟨k + 1, by omega, by go_num, by rw [hN.out]; exact hown, h0⟩
        case measure => simp [intOf]; omega
    · go_wp2_with fail
      refine (cntFuncU_calls _ _ (l.drop (k + 1)) _ _ _ hcut (heads1_tells (u := l[k]) hB5 hsv')).mono ?_
      rintro e w4 ⟨rfl, kk4⟩
      have h0 := below_next h0' kk4
      have hown := hown.below kk4
      cases hany : (l.drop (k + 1)).any (fun v => hasU v.seen l[k])
      · have hN := hid (headsTo_yes hlt (show headAt l k l[k] = true by unfold headAt; rw [hany]; simp; omega))
        go_wp2_with (at_builtin; refine wpList_push _ rfl (.tmp 33) (.tmp 35) _ rfl W.heap.size 3 8 ok_ints rdN _ _ rfl (hown.alloc _) _ 1 [.int .i64 k] k rfl rfl (alloc_cells _ _ _ _) (fun u hu => by rw [List.mem_singleton.1 hu]; rfl) rfl (by have := hll.out; simp only [maxLen]; omega) (by have := h0.size; simp; omega) ?_; intro v2 w2 ho2 hb2 _ _)
        go_roundw
        case rel => exact ⟨k + 1, by omega, by go_num, by rw [hN.out]; exact ho2, (h0.alloc h0.size _).trans hb2⟩
        case measure => simp [intOf]; omega
      · have hN := hid (headsTo_no hlt (show headAt l k l[k] = false by unfold headAt; rw [hany]; simp))
        go_wp2
        go_roundw
        case rel => exact ⟨k + 1, by omega, by go_num, by rw [hN.out]; exact hown, h0⟩
        case measure => simp [intOf]; omega
end Go.Proofs.Ytkjknlnhffmkkaa
