/- StatePut: what was seen is replaced. For every input; no condition. -/
import Derived.Test.YtkjknlnhffmkkabAlive4
import Derived.Test.YtkjknlnhffmkkabView
import Derived.Test.YtkjknlnhffmkkabPutP
import Derived.Test.YtkjknlnhffmkkabClose4
namespace Go.Proofs.Ytkjknlnhffmkkab
open Go.ChangeShapes Go.WideShapes Go.ChangeAt Go.RowKit
set_option linter.unusedVariables false
def inL (l : List Int) (x : Int) : Bool := decide (x ∈ l)
theorem not_next2 {α : Type} {p : α → Prop} {l : List α} {k : Nat} {z : α} (h : ∀ y ∈ l.take k, ¬ p y) (hz : l[k]? = some z) (hne : ¬ p z) : ∀ y ∈ l.take (k + 1), ¬ p y := by
  rw [take_snoc hz]
  intro y hy
  rcases List.mem_append.1 hy with hy | hy
  · exact h y hy
  · rw [List.mem_singleton.1 hy]; exact hne
theorem ofC_no {l : List Cell} {key : Int} (h : ∀ y ∈ l, ¬ y.key = key) : ofC l key = [] := by
  unfold ofC; rw [List.find?_eq_none.2 (fun a ha => by simpa using h a ha)]
theorem numP_no {l : List Pair} {key : Int} (h : ∀ y ∈ l, ¬ y.key = key) : numP l key = 0 := by
  unfold numP; rw [List.find?_eq_none.2 (fun a ha => by simpa using h a ha)]
theorem find_at {α : Type} {p : α → Bool} {l : List α} {k : Nat} {z : α} (h : ∀ y ∈ l.take k, p y = false) (hz : l[k]? = some z) (hp : p z = true) : l.find? p = some z := by
  rw [split_at hz, List.find?_append, List.find?_eq_none.2 (fun a ha => by simp [h a ha])]; simp [hp]
theorem ofC_hit {l : List Cell} {key : Int} {k : Nat} {z : Cell} (h : ∀ y ∈ l.take k, ¬ y.key = key) (hz : l[k]? = some z) (hk : z.key = key) : ofC l key = z.items := by
  unfold ofC; rw [find_at (fun y hy => by simpa using h y hy) hz (by simpa using hk)]
theorem numP_hit {l : List Pair} {key : Int} {k : Nat} {z : Pair} (h : ∀ y ∈ l.take k, ¬ y.key = key) (hz : l[k]? = some z) (hk : z.key = key) : numP l key = z.sum := by
  unfold numP; rw [find_at (fun y hy => by simpa using h y hy) hz (by simpa using hk)]
theorem inL_no {l : List Int} {x : Int} (h : ∀ y ∈ l, ¬ y = x) : inL l x = false := decide_eq_false fun k => h x k rfl
theorem inL_hit {l : List Int} {x z : Int} {k : Nat} (hz : l[k]? = some z) (h : z = x) : inL l x = true := decide_eq_true (h ▸ List.mem_of_getElem? hz)
set_option maxRecDepth 100000 in
theorem Of1_c (rd : Rd) (W : World) (hle : Rd.le rd (wrd W)) (v : Value) (l : List Cell) (key : Int) (p : Value) (h : SliceR 2 CellR rd v l) (hp : PtrC rd p [.int .i64 key]) :
    Calls Try.prog 26 #[v, p] W (fun e w' => ∃ v', e = .returned v' ∧ SliceR 1 IntR (ext rd W w') v' (ofC l key) ∧ Below W.heap.size W w') := by
 obtain ⟨A1, c2, rfl, m3, m3'⟩ := h.val
 have hmx : maxLen = 9223372036854775807 := rfl
 have S : St [] W rd rd [] [] W := St.start hle
 refine e_enter (args := [.slice A1 l.length c2, p]) 19 Try.func26 rfl rfl rfl ?_
 refine e_seq ?_
 refine e_reg ?_
 refine l_y (v := .slice none 0 0) S (y_as rfl) ?_
 refine l_nil ?_
 refine n_seq ?_
 refine e_seq ?_
 refine e_seq ?_
 refine e_reg ?_
 refine l_y (v := .slice A1 l.length c2) S (y_mv rfl) ?_
 refine l_y (v := .int .i64 (l.length : Int)) S (y_len U41 rfl rfl) ?_
 refine l_y (v := .int .i64 0) S (y_mv rfl) ?_
 refine l_nil ?_
 refine n_seq ?_
 refine e_blk ?_
 refine e_trim [(1, p), (6, .slice A1 l.length c2), (7, .int .i64 (l.length : Int)), (8, .int .i64 (0 : Int))] ⟨⟨rfl, rfl⟩, ⟨rfl, rfl⟩, ⟨rfl, rfl⟩, ⟨ival (by first | rfl | omega), rfl⟩, trivial⟩ (fun junk => ?_)
 refine e_loop (fun (gh_ : Nat) ov w => match gh_ with | k => ∃ rd' junk, ov = [(1, p), (6, .slice A1 l.length c2), (7, .int .i64 (l.length : Int)), (8, .int .i64 (k : Int))] ++ junk ∧ St [] W rd rd' [] [] w ∧ Rd.le rd rd' ∧ k ≤ l.length ∧ (∀ y ∈ l.take k, ¬ y.key = key)) (fun gh_ => match gh_ with | k => l.length - k) 0 ⟨_, junk, rfl, (S.rw' rfl rfl), (Rd.le_refl _), (by omega), (by simp)⟩ ?_
 rintro k ov7 w5 ⟨rd4, junk, rfl, S, L6, hk, hno⟩
 replace h := fm h L6
 replace hp := PtrC.mono hp L6
 refine e_seq ?_
 refine e_reg ?_
 by_cases h8 : (k : Int) < (l.length : Int)
 · -- h8 yes
  refine l_y (v := .bool true) S (y_ltT rfl rfl h8) ?_
  refine l_nil ?_
  refine n_seq ?_
  refine e_seq ?_
  refine e_cT rfl ?_
  refine e_skip ?_
  refine n_seq ?_
  refine e_seq ?_
  refine e_blk ?_
  refine e_seq ?_
  refine e_reg ?_
  obtain ⟨z9, hz10⟩ : ∃ z, (l)[k]? = some z := nth_of (by first | assumption | omega)
  obtain ⟨p11, vs12, E13, nn14, r15, Y16⟩ := y_ia U41 SZ55 h hz10
  clear nn14
  obtain ⟨sv17, r15e, h18⟩ := r15; subst r15e
  obtain ⟨A19, c20, rfl, m21, m21'⟩ := h18.val
  refine l_y (v := p11) S (Y16 rfl rfl (by first | rfl | omega)) ?_
  refine l_y (v := .agg #[.int .i64 z9.key, .slice A19 z9.items.length c20]) S (y_ld rfl (fun w S => ld_pA (us := [.int .i64 z9.key, .slice A19 z9.items.length c20]) S.le E13 T55 rfl rfl)) ?_
  refine l_al (cs := #[.int .i64 0, .slice none 0 0]) S Z55 rfl fun g22 w23 S => ?_
  refine l_st (u := .agg #[.int .i64 z9.key, .slice A19 z9.items.length c20]) (i := 0) (cs' := #[.int .i64 z9.key, .slice A19 z9.items.length c20]) S rfl rfl rfl SZ55 rfl rfl rfl fun w24 S => ?_
  refine l_nil ?_
  refine n_seq ?_
  refine e_seq ?_
  refine e_reg ?_
  refine l_y (v := .pointer (some ⟨g22, 0, none⟩)) S (y_fb FA55_0 rfl rfl) ?_
  refine l_y (v := .int .i64 z9.key) S (y_ld rfl (fun w S => ld_b1 (i := 0) S rfl rfl T3)) ?_
  refine l_y (v := .int .i64 key) S (y_ld rfl (fun w S => ld_p1 S.le hp rfl T3)) ?_
  by_cases hne : z9.key = key
  · -- hne yes
   refine l_y (v := .bool true) S (y_eqT rfl rfl hne) ?_
   refine l_nil ?_
   refine n_seq ?_
   refine e_cT rfl ?_
   refine e_seq ?_
   refine e_reg ?_
   refine l_y (v := .pointer (some ⟨g22, 1, none⟩)) S (y_fb FA55_1 rfl rfl) ?_
   refine l_y (v := .slice A19 z9.items.length c20) S (y_ld rfl (fun w S => ld_b1 (i := 0) S rfl rfl T22)) ?_
   refine l_y (v := .slice A19 z9.items.length c20) S (y_as rfl) ?_
   refine l_nil ?_
   refine n_seq ?_
   refine e_ret ?_
   refine ret1 (v := .slice A19 z9.items.length c20) rfl rfl ?_
   rw [ofC_hit hno hz10 hne]; exact ⟨_, rfl, (fm h18 S.out), S.below⟩
  · -- hne no
   refine l_y (v := .bool false) S (y_eqF rfl rfl hne) ?_
   refine l_nil ?_
   refine n_seq ?_
   refine e_cF rfl ?_
   refine e_skip ?_
   refine n_blk ?_
   refine n_seq ?_
   refine e_reg ?_
   refine l_y (v := .int .i64 ((k : Int) + 1)) S (y_add (r := (k : Int) + 1) rfl rfl (w64 (by omega) (by omega))) ?_
   refine l_y (v := .int .i64 ((k : Int) + 1)) S (y_mv rfl) ?_
   refine l_nil ?_
   refine n_lp ⟨(k + 1), _, fr_keep (m := [(1, p), (6, .slice A1 l.length c2), (7, .int .i64 (l.length : Int)), (8, .int .i64 ((k + 1 : Nat) : Int))]) ⟨⟨rfl, rfl⟩, ⟨rfl, rfl⟩, ⟨rfl, rfl⟩, ⟨ival (by first | rfl | omega), rfl⟩, trivial⟩, ⟨_, _, rfl, (S.tk 0 0 rfl rfl), (Rd.le_trans L6 (Rd.le_refl rd4)), (by omega), (not_next2 hno hz10 hne)⟩, ?_⟩
   show _ < _; dsimp only; omega
 · -- h8 no
  refine l_y (v := .bool false) S (y_ltF rfl rfl h8) ?_
  refine l_nil ?_
  refine n_seq ?_
  refine e_seq ?_
  refine e_cF rfl ?_
  refine e_exit ?_
  refine x_seq ?_
  refine x_lp ?_
  refine x_hit ?_
  refine n_seq ?_
  refine e_seq ?_
  refine e_reg ?_
  refine l_y (v := .slice none 0 0) S (y_as rfl) ?_
  refine l_nil ?_
  refine n_seq ?_
  refine e_ret ?_
  refine ret1 (v := .slice none 0 0) rfl rfl ?_
  rw [ofC_no (by rwa [List.take_of_length_le (by omega)] at hno)]; exact ⟨_, rfl, SliceR.nil_ _, S.below⟩

set_option maxRecDepth 100000 in
theorem Num1_c (rd : Rd) (W : World) (hle : Rd.le rd (wrd W)) (v : Value) (d : View) (key : Int) (p : Value) (h : AggR ViewR rd v d) (hp : PtrC rd p [.int .i64 key]) :
    Calls Try.prog 27 #[v, p] W (fun e w' => e = .returned (.int .i64 (numP d.counters key)) ∧ Below W.heap.size W w') := by
 obtain ⟨vs1, he, h⟩ := h; subst he
 obtain ⟨sv2, sv4, sv6, he, h3, h5, h7⟩ := h; subst he
 obtain ⟨A8, c9, rfl, m10, m10'⟩ := h3.val
 obtain ⟨A11, c12, rfl, m13, m13'⟩ := h5.val
 obtain ⟨A14, c15, rfl, m16, m16'⟩ := h7.val
 have hmx : maxLen = 9223372036854775807 := rfl
 have S : St [] W rd rd [] [] W := St.start hle
 refine e_enter (args := [.agg #[.slice A8 d.regs.length c9, .slice A11 d.sets.length c12, .slice A14 d.counters.length c15], p]) 20 Try.func27 rfl rfl rfl ?_
 refine e_seq ?_
 refine e_reg ?_
 refine l_bx (u := .agg #[.slice A8 d.regs.length c9, .slice A11 d.sets.length c12, .slice A14 d.counters.length c15]) (cs := #[.slice A8 d.regs.length c9, .slice A11 d.sets.length c12, .slice A14 d.counters.length c15]) S rfl rfl fun g17 w18 S => ?_
 refine l_y (v := .int .i64 0) S (y_as rfl) ?_
 refine l_nil ?_
 refine n_seq ?_
 refine e_seq ?_
 refine e_seq ?_
 refine e_reg ?_
 refine l_y (v := .pointer (some ⟨g17, 2, none⟩)) S (y_fb FA44_2 rfl rfl) ?_
 refine l_y (v := .slice A14 d.counters.length c15) S (y_ld rfl (fun w S => ld_b1 (i := 0) S rfl rfl T42)) ?_
 refine l_y (v := .int .i64 (d.counters.length : Int)) S (y_len U42 rfl rfl) ?_
 refine l_y (v := .int .i64 0) S (y_mv rfl) ?_
 refine l_nil ?_
 refine n_seq ?_
 refine e_blk ?_
 refine e_trim [(1, p), (7, .slice A14 d.counters.length c15), (8, .int .i64 (d.counters.length : Int)), (9, .int .i64 (0 : Int))] ⟨⟨rfl, rfl⟩, ⟨rfl, rfl⟩, ⟨rfl, rfl⟩, ⟨ival (by first | rfl | omega), rfl⟩, trivial⟩ (fun junk => ?_)
 refine e_loop (fun (gh_ : Nat) ov w => match gh_ with | k => ∃ rd' junk, ov = [(1, p), (7, .slice A14 d.counters.length c15), (8, .int .i64 (d.counters.length : Int)), (9, .int .i64 (k : Int))] ++ junk ∧ St [] W rd rd' [(g17, 44, #[.slice A8 d.regs.length c9, .slice A11 d.sets.length c12, .slice A14 d.counters.length c15])] [] w ∧ Rd.le rd rd' ∧ k ≤ d.counters.length ∧ (∀ y ∈ d.counters.take k, ¬ y.key = key)) (fun gh_ => match gh_ with | k => d.counters.length - k) 0 ⟨_, junk, rfl, (S.rw' rfl rfl), (Rd.le_refl _), (by omega), (by simp)⟩ ?_
 rintro k ov22 w20 ⟨rd19, junk, rfl, S, L21, hk, hno⟩
 replace h3 := fm h3 L21
 replace h5 := fm h5 L21
 replace h7 := fm h7 L21
 replace hp := PtrC.mono hp L21
 refine e_seq ?_
 refine e_reg ?_
 by_cases h23 : (k : Int) < (d.counters.length : Int)
 · -- h23 yes
  refine l_y (v := .bool true) S (y_ltT rfl rfl h23) ?_
  refine l_nil ?_
  refine n_seq ?_
  refine e_seq ?_
  refine e_cT rfl ?_
  refine e_skip ?_
  refine n_seq ?_
  refine e_seq ?_
  refine e_blk ?_
  refine e_seq ?_
  refine e_reg ?_
  obtain ⟨z24, hz25⟩ : ∃ z, (d.counters)[k]? = some z := nth_of (by first | assumption | omega)
  obtain ⟨p26, vs27, E28, nn29, r30, Y31⟩ := y_ia U42 SZ57 h7 hz25
  clear nn29
  have r30e : vs27 = [.int .i64 z24.key, .int .i64 z24.sum] := r30; subst r30e; clear r30
  refine l_y (v := p26) S (Y31 rfl rfl (by first | rfl | omega)) ?_
  refine l_y (v := .agg #[.int .i64 z24.key, .int .i64 z24.sum]) S (y_ld rfl (fun w S => ld_pA (us := [.int .i64 z24.key, .int .i64 z24.sum]) S.le E28 T57 rfl rfl)) ?_
  refine l_al (cs := #[.int .i64 0, .int .i64 0]) S Z57 rfl fun g32 w33 S => ?_
  refine l_st (u := .agg #[.int .i64 z24.key, .int .i64 z24.sum]) (i := 1) (cs' := #[.int .i64 z24.key, .int .i64 z24.sum]) S rfl rfl rfl SZ57 rfl rfl rfl fun w34 S => ?_
  refine l_nil ?_
  refine n_seq ?_
  refine e_seq ?_
  refine e_reg ?_
  refine l_y (v := .pointer (some ⟨g32, 0, none⟩)) S (y_iar (k := 0) U57 SZ3 (by decide) rfl rfl rfl rfl) ?_
  refine l_y (v := .int .i64 z24.key) S (y_ld rfl (fun w S => ld_b1 (i := 1) S rfl rfl T3)) ?_
  refine l_y (v := .int .i64 key) S (y_ld rfl (fun w S => ld_p1 S.le hp rfl T3)) ?_
  by_cases hne : z24.key = key
  · -- hne yes
   refine l_y (v := .bool true) S (y_eqT rfl rfl hne) ?_
   refine l_nil ?_
   refine n_seq ?_
   refine e_cT rfl ?_
   refine e_seq ?_
   refine e_reg ?_
   refine l_y (v := .pointer (some ⟨g32, 1, none⟩)) S (y_iar (k := 1) U57 SZ3 (by decide) rfl rfl rfl rfl) ?_
   refine l_y (v := .int .i64 z24.sum) S (y_ld rfl (fun w S => ld_b1 (i := 1) S rfl rfl T3)) ?_
   refine l_y (v := .int .i64 z24.sum) S (y_as rfl) ?_
   refine l_nil ?_
   refine n_seq ?_
   refine e_ret ?_
   refine ret1 (v := .int .i64 z24.sum) rfl rfl ?_
   rw [numP_hit hno hz25 hne]; exact ⟨rfl, S.below⟩
  · -- hne no
   refine l_y (v := .bool false) S (y_eqF rfl rfl hne) ?_
   refine l_nil ?_
   refine n_seq ?_
   refine e_cF rfl ?_
   refine e_skip ?_
   refine n_blk ?_
   refine n_seq ?_
   refine e_reg ?_
   refine l_y (v := .int .i64 ((k : Int) + 1)) S (y_add (r := (k : Int) + 1) rfl rfl (w64 (by omega) (by omega))) ?_
   refine l_y (v := .int .i64 ((k : Int) + 1)) S (y_mv rfl) ?_
   refine l_nil ?_
   refine n_lp ⟨(k + 1), _, fr_keep (m := [(1, p), (7, .slice A14 d.counters.length c15), (8, .int .i64 (d.counters.length : Int)), (9, .int .i64 ((k + 1 : Nat) : Int))]) ⟨⟨rfl, rfl⟩, ⟨rfl, rfl⟩, ⟨rfl, rfl⟩, ⟨ival (by first | rfl | omega), rfl⟩, trivial⟩, ⟨_, _, rfl, (S.tk 1 0 rfl rfl), (Rd.le_trans L21 (Rd.le_refl rd19)), (by omega), (not_next2 hno hz25 hne)⟩, ?_⟩
   show _ < _; dsimp only; omega
 · -- h23 no
  refine l_y (v := .bool false) S (y_ltF rfl rfl h23) ?_
  refine l_nil ?_
  refine n_seq ?_
  refine e_seq ?_
  refine e_cF rfl ?_
  refine e_exit ?_
  refine x_seq ?_
  refine x_lp ?_
  refine x_hit ?_
  refine n_seq ?_
  refine e_seq ?_
  refine e_reg ?_
  refine l_y (v := .int .i64 0) S (y_as rfl) ?_
  refine l_nil ?_
  refine n_seq ?_
  refine e_ret ?_
  refine ret1 (v := .int .i64 0) rfl rfl ?_
  rw [numP_no (by rwa [List.take_of_length_le (by omega)] at hno)]; exact ⟨rfl, S.below⟩

set_option maxRecDepth 100000 in
theorem In1_c (rd : Rd) (W : World) (hle : Rd.le rd (wrd W)) (v : Value) (l : List Int) (key : Int) (p : Value) (h : SliceR 1 IntR rd v l) (hp : PtrC rd p [.int .i64 key]) :
    Calls Try.prog 28 #[v, p] W (fun e w' => e = .returned (.bool (inL l key)) ∧ Below W.heap.size W w') := by
 obtain ⟨A1, c2, rfl, m3, m3'⟩ := h.val
 have hmx : maxLen = 9223372036854775807 := rfl
 have S : St [] W rd rd [] [] W := St.start hle
 refine e_enter (args := [.slice A1 l.length c2, p]) 16 Try.func28 rfl rfl rfl ?_
 refine e_seq ?_
 refine e_reg ?_
 refine l_y (v := .bool false) S (y_as rfl) ?_
 refine l_nil ?_
 refine n_seq ?_
 refine e_seq ?_
 refine e_seq ?_
 refine e_reg ?_
 refine l_y (v := .slice A1 l.length c2) S (y_mv rfl) ?_
 refine l_y (v := .int .i64 (l.length : Int)) S (y_len U22 rfl rfl) ?_
 refine l_y (v := .int .i64 0) S (y_mv rfl) ?_
 refine l_nil ?_
 refine n_seq ?_
 refine e_blk ?_
 refine e_trim [(1, p), (6, .slice A1 l.length c2), (7, .int .i64 (l.length : Int)), (8, .int .i64 (0 : Int))] ⟨⟨rfl, rfl⟩, ⟨rfl, rfl⟩, ⟨rfl, rfl⟩, ⟨ival (by first | rfl | omega), rfl⟩, trivial⟩ (fun junk => ?_)
 refine e_loop (fun (gh_ : Nat) ov w => match gh_ with | k => ∃ rd' junk, ov = [(1, p), (6, .slice A1 l.length c2), (7, .int .i64 (l.length : Int)), (8, .int .i64 (k : Int))] ++ junk ∧ St [] W rd rd' [] [] w ∧ Rd.le rd rd' ∧ k ≤ l.length ∧ (∀ y ∈ l.take k, ¬ y = key)) (fun gh_ => match gh_ with | k => l.length - k) 0 ⟨_, junk, rfl, (S.rw' rfl rfl), (Rd.le_refl _), (by omega), (by simp)⟩ ?_
 rintro k ov7 w5 ⟨rd4, junk, rfl, S, L6, hk, hno⟩
 replace h := fm h L6
 replace hp := PtrC.mono hp L6
 refine e_seq ?_
 refine e_reg ?_
 by_cases h8 : (k : Int) < (l.length : Int)
 · -- h8 yes
  refine l_y (v := .bool true) S (y_ltT rfl rfl h8) ?_
  refine l_nil ?_
  refine n_seq ?_
  refine e_seq ?_
  refine e_cT rfl ?_
  refine e_skip ?_
  refine n_seq ?_
  refine e_seq ?_
  refine e_blk ?_
  refine e_seq ?_
  refine e_reg ?_
  obtain ⟨z9, hz10⟩ : ∃ z, (l)[k]? = some z := nth_of (by first | assumption | omega)
  obtain ⟨p11, vs12, E13, nn14, r15, Y16⟩ := y_ia U22 SZ3 h hz10
  clear nn14
  have r15 : vs12 = [.int .i64 z9] := r15; subst r15
  refine l_y (v := p11) S (Y16 rfl rfl (by first | rfl | omega)) ?_
  refine l_y (v := .int .i64 z9) S (y_ld rfl (fun w S => ld_p1 S.le E13 rfl T3)) ?_
  refine l_y (v := .int .i64 z9) S (y_as rfl) ?_
  refine l_nil ?_
  refine n_seq ?_
  refine e_seq ?_
  refine e_reg ?_
  refine l_y (v := .int .i64 z9) S (y_mv rfl) ?_
  refine l_y (v := .int .i64 key) S (y_ld rfl (fun w S => ld_p1 S.le hp rfl T3)) ?_
  by_cases hne : z9 = key
  · -- hne yes
   refine l_y (v := .bool true) S (y_eqT rfl rfl hne) ?_
   refine l_nil ?_
   refine n_seq ?_
   refine e_cT rfl ?_
   refine e_seq ?_
   refine e_reg ?_
   refine l_y (v := .bool true) S (y_as rfl) ?_
   refine l_nil ?_
   refine n_seq ?_
   refine e_ret ?_
   refine ret1 (v := .bool true) rfl rfl ?_
   exact ⟨rbool (inL_hit hz10 hne).symm, S.below⟩
  · -- hne no
   refine l_y (v := .bool false) S (y_eqF rfl rfl hne) ?_
   refine l_nil ?_
   refine n_seq ?_
   refine e_cF rfl ?_
   refine e_skip ?_
   refine n_blk ?_
   refine n_seq ?_
   refine e_reg ?_
   refine l_y (v := .int .i64 ((k : Int) + 1)) S (y_add (r := (k : Int) + 1) rfl rfl (w64 (by omega) (by omega))) ?_
   refine l_y (v := .int .i64 ((k : Int) + 1)) S (y_mv rfl) ?_
   refine l_nil ?_
   refine n_lp ⟨(k + 1), _, fr_keep (m := [(1, p), (6, .slice A1 l.length c2), (7, .int .i64 (l.length : Int)), (8, .int .i64 ((k + 1 : Nat) : Int))]) ⟨⟨rfl, rfl⟩, ⟨rfl, rfl⟩, ⟨rfl, rfl⟩, ⟨ival (by first | rfl | omega), rfl⟩, trivial⟩, ⟨_, _, rfl, (S.tk 0 0 rfl rfl), (Rd.le_trans L6 (Rd.le_refl rd4)), (by omega), (not_next2 hno hz10 hne)⟩, ?_⟩
   show _ < _; dsimp only; omega
 · -- h8 no
  refine l_y (v := .bool false) S (y_ltF rfl rfl h8) ?_
  refine l_nil ?_
  refine n_seq ?_
  refine e_seq ?_
  refine e_cF rfl ?_
  refine e_exit ?_
  refine x_seq ?_
  refine x_lp ?_
  refine x_hit ?_
  refine n_seq ?_
  refine e_seq ?_
  refine e_reg ?_
  refine l_y (v := .bool false) S (y_as rfl) ?_
  refine l_nil ?_
  refine n_seq ?_
  refine e_ret ?_
  refine ret1 (v := .bool false) rfl rfl ?_
  exact ⟨rbool (inL_no (by rwa [List.take_of_length_le (by omega)] at hno)).symm, S.below⟩
set_option maxRecDepth 100000 in
set_option maxHeartbeats 8000000 in
theorem StatePut_calls (W : World) (v1 : Value) (s : State) (qa : AggR StateR (wrd W) v1 s) (b1 : StateBd s) (author : Int) (w2 : (Lit.int .i64 author).wf = true) (kind : Int) (w3 : (Lit.int .i64 kind).wf = true) (key : Int) (w4 : (Lit.int .i64 key).wf = true) (item : Int) (w5 : (Lit.int .i64 item).wf = true) :
    Calls Try.prog 6 #[v1, (.int .i64 author), (.int .i64 kind), (.int .i64 key), (.int .i64 item)] W (fun e w' => e = .returned (.bool true) ∧ Below W.heap.size W w') := by
 obtain ⟨vs1, qae, qa⟩ := qa; subst qae
 obtain ⟨sv2, sv4, sv6, qae, h3, h5, h7⟩ := qa; subst qae
 obtain ⟨A8, c9, rfl, m10, m10'⟩ := h3.val
 obtain ⟨A11, c12, rfl, m13, m13'⟩ := h5.val
 obtain ⟨A14, c15, rfl, m16, m16'⟩ := h7.val
 have hmx : maxLen = 9223372036854775807 := rfl
 have S : St [] W (wrd W) (wrd W) [] [] W := St.start (Rd.le_refl _)
 refine e_enter (args := [.agg #[.slice A8 s.clock.length c9, .slice A11 s.lives.length c12, .slice A14 s.tallies.length c15], .int .i64 author, .int .i64 kind, .int .i64 key, .int .i64 item]) 129 Try.func6 rfl rfl rfl ?_
 refine e_seq ?_
 refine e_reg ?_
 refine l_bx (u := .agg #[.slice A8 s.clock.length c9, .slice A11 s.lives.length c12, .slice A14 s.tallies.length c15]) (cs := #[.slice A8 s.clock.length c9, .slice A11 s.lives.length c12, .slice A14 s.tallies.length c15]) S rfl rfl fun g17 w18 S => ?_
 refine l_bx (u := .int .i64 key) (cs := #[.int .i64 key]) S rfl rfl fun g19 w20 S => ?_
 refine l_bx (u := .int .i64 item) (cs := #[.int .i64 item]) S rfl rfl fun g21 w22 S => ?_
 refine l_y (v := .bool false) S (y_as rfl) ?_
 refine l_nil ?_
 refine n_seq ?_
 refine e_seq ?_
 refine e_seq ?_
 refine e_reg ?_
 refine l_c (en_f (vs := []) (CF 13 _) rfl rfl) (alive4_c _ _ S.le) ?_
 rintro e w23 ⟨rfl, k⟩
 have S := S.callq k; clear k
 refine ckd ?_
 refine l_y (v := .bool false) S (y_not rfl rfl) ?_
 refine l_nil ?_
 refine n_seq ?_
 refine e_cF rfl ?_
 refine e_skip ?_
 refine n_seq ?_
 refine e_seq ?_
 refine e_reg ?_
 refine l_y (v := .int .i64 author) S (y_mv rfl) ?_
 refine l_y (v := .pointer (some ⟨g17, 0, none⟩)) S (y_fb FA27_0 rfl rfl) ?_
 refine l_y (v := .slice A8 s.clock.length c9) S (y_ld rfl (fun w S => ld_b1 (i := 0) S rfl rfl T23)) ?_
 refine l_y (v := .int .i64 kind) S (y_mv rfl) ?_
 refine l_y (v := .int .i64 key) S (y_ld rfl (fun w S => ld_b1 (i := 1) S rfl rfl T3)) ?_
 refine l_y (v := .int .i64 item) S (y_ld rfl (fun w S => ld_b1 (i := 2) S rfl rfl T3)) ?_
 refine l_y (v := .agg #[.int .i64 author, .slice A8 s.clock.length c9, .int .i64 kind, .int .i64 key, .int .i64 item]) S (y_bd (ps := [(0, .int .i64 author), (1, .slice A8 s.clock.length c9), (2, .int .i64 kind), (3, .int .i64 key), (4, .int .i64 item)]) rfl (fun _ => by kernel_rfl)) ?_
 refine l_al (cs := #[.int .i64 0, .slice none 0 0, .int .i64 0, .int .i64 0, .int .i64 0]) S Z29 rfl fun g24 w25 S => ?_
 refine l_st (u := .agg #[.int .i64 author, .slice A8 s.clock.length c9, .int .i64 kind, .int .i64 key, .int .i64 item]) (i := 3) (cs' := #[.int .i64 author, .slice A8 s.clock.length c9, .int .i64 kind, .int .i64 key, .int .i64 item]) S rfl rfl rfl SZ29 rfl rfl rfl fun w26 S => ?_
 refine l_nil ?_
 refine n_seq ?_
 refine e_seq ?_
 refine e_reg ?_
 refine l_y (v := .agg #[.slice A8 s.clock.length c9, .slice A11 s.lives.length c12, .slice A14 s.tallies.length c15]) S (y_ld rfl (fun w S => ld_bA (vs := [.slice A8 s.clock.length c9, .slice A11 s.lives.length c12, .slice A14 s.tallies.length c15]) (i := 0) S rfl T27 rfl rfl)) ?_
 refine l_y (v := .agg #[.int .i64 author, .slice A8 s.clock.length c9, .int .i64 kind, .int .i64 key, .int .i64 item]) S (y_ld rfl (fun w S => ld_bA (vs := [.int .i64 author, .slice A8 s.clock.length c9, .int .i64 kind, .int .i64 key, .int .i64 item]) (i := 3) S rfl T29 rfl rfl)) ?_
 refine l_c (en_f (vs := [.agg #[.slice A8 s.clock.length c9, .slice A11 s.lives.length c12, .slice A14 s.tallies.length c15], .agg #[.int .i64 author, .slice A8 s.clock.length c9, .int .i64 kind, .int .i64 key, .int .i64 item]]) (CF 23 _) rfl rfl) (SApply_c _ _ S.le _ _ s (⟨author, s.clock, kind, key, item⟩ : Upd) (⟨_, rfl, ⟨_, _, _, rfl, h3, h5, h7⟩⟩ : AggR StateR (wrd W) _ s) (⟨_, rfl, ⟨_, rfl, h3⟩⟩ : AggR UpdR (wrd W) _ (⟨author, s.clock, kind, key, item⟩ : Upd))) ?_
 rintro e w27 ⟨v32, rfl, h33, k⟩
 obtain ⟨rd28, S, L29, N30, X31⟩ := S.call' k; clear k
 replace h3 := fm h3 L29
 replace h5 := fm h5 L29
 replace h7 := fm h7 L29
 replace h33 := am h33 X31
 obtain ⟨cs34, h33v, h33⟩ := h33; subst h33v
 obtain ⟨sv35, sv37, sv39, h33e, h36, h38, h40⟩ := h33; subst h33e
 obtain ⟨A41, c42, rfl, m43, m43'⟩ := h36.val
 obtain ⟨A44, c45, rfl, m46, m46'⟩ := h38.val
 obtain ⟨A47, c48, rfl, m49, m49'⟩ := h40.val
 refine ckd ?_
 refine l_y (v := .tuple #[.agg #[.slice A41 (((ApplyS s (⟨author, s.clock, kind, key, item⟩ : Upd)).1.clock).length) c42, .slice A44 (((ApplyS s (⟨author, s.clock, kind, key, item⟩ : Upd)).1.lives).length) c45, .slice A47 (((ApplyS s (⟨author, s.clock, kind, key, item⟩ : Upd)).1.tallies).length) c48], .int .i64 ((ApplyS s (⟨author, s.clock, kind, key, item⟩ : Upd)).2)]) S (y_mv rfl) ?_
 refine l_y (v := .agg #[.slice A41 (((ApplyS s (⟨author, s.clock, kind, key, item⟩ : Upd)).1.clock).length) c42, .slice A44 (((ApplyS s (⟨author, s.clock, kind, key, item⟩ : Upd)).1.lives).length) c45, .slice A47 (((ApplyS s (⟨author, s.clock, kind, key, item⟩ : Upd)).1.tallies).length) c48]) S (y_ex rfl rfl) ?_
 refine l_y (v := .int .i64 ((ApplyS s (⟨author, s.clock, kind, key, item⟩ : Upd)).2)) S (y_ex rfl rfl) ?_
 refine l_al (cs := #[.slice none 0 0, .slice none 0 0, .slice none 0 0]) S Z27 rfl fun g50 w51 S => ?_
 refine l_st (u := .agg #[.slice A41 (((ApplyS s (⟨author, s.clock, kind, key, item⟩ : Upd)).1.clock).length) c42, .slice A44 (((ApplyS s (⟨author, s.clock, kind, key, item⟩ : Upd)).1.lives).length) c45, .slice A47 (((ApplyS s (⟨author, s.clock, kind, key, item⟩ : Upd)).1.tallies).length) c48]) (i := 4) (cs' := #[.slice A41 (((ApplyS s (⟨author, s.clock, kind, key, item⟩ : Upd)).1.clock).length) c42, .slice A44 (((ApplyS s (⟨author, s.clock, kind, key, item⟩ : Upd)).1.lives).length) c45, .slice A47 (((ApplyS s (⟨author, s.clock, kind, key, item⟩ : Upd)).1.tallies).length) c48]) S rfl rfl rfl SZ27 rfl rfl rfl fun w52 S => ?_
 refine l_y (v := .int .i64 ((ApplyS s (⟨author, s.clock, kind, key, item⟩ : Upd)).2)) S (y_as rfl) ?_
 refine l_nil ?_
 refine n_seq ?_
 refine e_seq ?_
 refine e_seq ?_
 refine e_reg ?_
 refine l_y (v := .int .i64 ((ApplyS s (⟨author, s.clock, kind, key, item⟩ : Upd)).2)) S (y_mv rfl) ?_
 by_cases hA : (ApplyS s (⟨author, s.clock, kind, key, item⟩ : Upd)).2 = 0
 · -- hA yes
  refine l_y (v := .bool false) S (y_neF rfl rfl hA) ?_
  refine l_nil ?_
  refine n_seq ?_
  refine e_trim [(2, .int .i64 kind), (5, .pointer (some ⟨g17, 0, none⟩)), (8, .pointer (some ⟨g19, 0, none⟩)), (9, .pointer (some ⟨g21, 0, none⟩)), (10, .bool false), (12, .pointer (some ⟨g50, 0, none⟩)), (37, .bool false)] ⟨⟨rfl, rfl⟩, ⟨rfl, rfl⟩, ⟨rfl, rfl⟩, ⟨rfl, rfl⟩, ⟨rfl, rfl⟩, ⟨rfl, rfl⟩, ⟨rfl, rfl⟩, trivial⟩ (fun junk => ?_)
  refine e_cF rfl ?_
  refine e_skip ?_
  refine n_seq ?_
  refine e_seq ?_
  refine e_reg ?_
  have hq := put_p hA; have hbd := hq.bd; have hbi := hq.bi
  refine l_y (v := .agg #[.slice A8 s.clock.length c9, .slice A11 s.lives.length c12, .slice A14 s.tallies.length c15]) S (y_ld rfl (fun w S => ld_bA (vs := [.slice A8 s.clock.length c9, .slice A11 s.lives.length c12, .slice A14 s.tallies.length c15]) (i := 0) S rfl T27 rfl rfl)) ?_
  refine l_c (en_f (vs := [.agg #[.slice A8 s.clock.length c9, .slice A11 s.lives.length c12, .slice A14 s.tallies.length c15]]) (CF 20 _) rfl rfl) (SRead_c _ _ S.le _ s (⟨_, rfl, ⟨_, _, _, rfl, h3, h5, h7⟩⟩ : AggR StateR rd28 _ s)) ?_
  rintro e w53 ⟨v58, rfl, h59, k⟩
  obtain ⟨rd54, S, L55, N56, X57⟩ := S.call' k; clear k
  replace h3 := fm h3 L55
  replace h5 := fm h5 L55
  replace h7 := fm h7 L55
  replace h36 := fm h36 L55
  replace h38 := fm h38 L55
  replace h40 := fm h40 L55
  replace h59 := am h59 X57
  obtain ⟨cs60, h59v, h59⟩ := h59; subst h59v
  obtain ⟨sv61, sv63, sv65, h59e, h62, h64, h66⟩ := h59; subst h59e
  obtain ⟨A67, c68, rfl, m69, m69'⟩ := h62.val
  obtain ⟨A70, c71, rfl, m72, m72'⟩ := h64.val
  obtain ⟨A73, c74, rfl, m75, m75'⟩ := h66.val
  refine ckd ?_
  refine l_y (v := .tuple #[.agg #[.slice A67 (((ReadS s).1.regs).length) c68, .slice A70 (((ReadS s).1.sets).length) c71, .slice A73 (((ReadS s).1.counters).length) c74], .agg #[.int .i64 ((ReadS s).2.1), .int .i64 ((ReadS s).2.2)]]) S (y_mv rfl) ?_
  refine l_y (v := .agg #[.slice A67 (((ReadS s).1.regs).length) c68, .slice A70 (((ReadS s).1.sets).length) c71, .slice A73 (((ReadS s).1.counters).length) c74]) S (y_ex rfl rfl) ?_
  refine l_y (v := .agg #[.int .i64 ((ReadS s).2.1), .int .i64 ((ReadS s).2.2)]) S (y_ex rfl rfl) ?_
  refine l_al (cs := #[.slice none 0 0, .slice none 0 0, .slice none 0 0]) S Z44 rfl fun g76 w77 S => ?_
  refine l_al (cs := #[.int .i64 0, .int .i64 0]) S Z33 rfl fun g78 w79 S => ?_
  refine l_st (u := .agg #[.slice A67 (((ReadS s).1.regs).length) c68, .slice A70 (((ReadS s).1.sets).length) c71, .slice A73 (((ReadS s).1.counters).length) c74]) (i := 5) (cs' := #[.slice A67 (((ReadS s).1.regs).length) c68, .slice A70 (((ReadS s).1.sets).length) c71, .slice A73 (((ReadS s).1.counters).length) c74]) S rfl rfl rfl SZ44 rfl rfl rfl fun w80 S => ?_
  refine l_st (u := .agg #[.int .i64 ((ReadS s).2.1), .int .i64 ((ReadS s).2.2)]) (i := 6) (cs' := #[.int .i64 ((ReadS s).2.1), .int .i64 ((ReadS s).2.2)]) S rfl rfl rfl SZ33 rfl rfl rfl fun w81 S => ?_
  refine l_nil ?_
  refine n_seq ?_
  refine e_seq ?_
  refine e_reg ?_
  refine l_y (v := .agg #[.slice A41 (((ApplyS s (⟨author, s.clock, kind, key, item⟩ : Upd)).1.clock).length) c42, .slice A44 (((ApplyS s (⟨author, s.clock, kind, key, item⟩ : Upd)).1.lives).length) c45, .slice A47 (((ApplyS s (⟨author, s.clock, kind, key, item⟩ : Upd)).1.tallies).length) c48]) S (y_ld rfl (fun w S => ld_bA (vs := [.slice A41 (((ApplyS s (⟨author, s.clock, kind, key, item⟩ : Upd)).1.clock).length) c42, .slice A44 (((ApplyS s (⟨author, s.clock, kind, key, item⟩ : Upd)).1.lives).length) c45, .slice A47 (((ApplyS s (⟨author, s.clock, kind, key, item⟩ : Upd)).1.tallies).length) c48]) (i := 4) S rfl T27 rfl rfl)) ?_
  refine l_c (en_f (vs := [.agg #[.slice A41 (((ApplyS s (⟨author, s.clock, kind, key, item⟩ : Upd)).1.clock).length) c42, .slice A44 (((ApplyS s (⟨author, s.clock, kind, key, item⟩ : Upd)).1.lives).length) c45, .slice A47 (((ApplyS s (⟨author, s.clock, kind, key, item⟩ : Upd)).1.tallies).length) c48]]) (CF 20 _) rfl rfl) (SRead_c _ _ S.le _ ((ApplyS s (⟨author, s.clock, kind, key, item⟩ : Upd)).1) (⟨_, rfl, ⟨_, _, _, rfl, h36, h38, h40⟩⟩ : AggR StateR rd54 _ ((ApplyS s (⟨author, s.clock, kind, key, item⟩ : Upd)).1))) ?_
  rintro e w82 ⟨v87, rfl, h88, k⟩
  obtain ⟨rd83, S, L84, N85, X86⟩ := S.call' k; clear k
  replace h3 := fm h3 L84
  replace h5 := fm h5 L84
  replace h7 := fm h7 L84
  replace h36 := fm h36 L84
  replace h38 := fm h38 L84
  replace h40 := fm h40 L84
  replace h62 := fm h62 L84
  replace h64 := fm h64 L84
  replace h66 := fm h66 L84
  replace h88 := am h88 X86
  obtain ⟨cs89, h88v, h88⟩ := h88; subst h88v
  obtain ⟨sv90, sv92, sv94, h88e, h91, h93, h95⟩ := h88; subst h88e
  obtain ⟨A96, c97, rfl, m98, m98'⟩ := h91.val
  obtain ⟨A99, c100, rfl, m101, m101'⟩ := h93.val
  obtain ⟨A102, c103, rfl, m104, m104'⟩ := h95.val
  refine ckd ?_
  refine l_y (v := .tuple #[.agg #[.slice A96 (((ReadS ((ApplyS s (⟨author, s.clock, kind, key, item⟩ : Upd)).1)).1.regs).length) c97, .slice A99 (((ReadS ((ApplyS s (⟨author, s.clock, kind, key, item⟩ : Upd)).1)).1.sets).length) c100, .slice A102 (((ReadS ((ApplyS s (⟨author, s.clock, kind, key, item⟩ : Upd)).1)).1.counters).length) c103], .agg #[.int .i64 ((ReadS ((ApplyS s (⟨author, s.clock, kind, key, item⟩ : Upd)).1)).2.1), .int .i64 ((ReadS ((ApplyS s (⟨author, s.clock, kind, key, item⟩ : Upd)).1)).2.2)]]) S (y_mv rfl) ?_
  refine l_y (v := .agg #[.slice A96 (((ReadS ((ApplyS s (⟨author, s.clock, kind, key, item⟩ : Upd)).1)).1.regs).length) c97, .slice A99 (((ReadS ((ApplyS s (⟨author, s.clock, kind, key, item⟩ : Upd)).1)).1.sets).length) c100, .slice A102 (((ReadS ((ApplyS s (⟨author, s.clock, kind, key, item⟩ : Upd)).1)).1.counters).length) c103]) S (y_ex rfl rfl) ?_
  refine l_y (v := .agg #[.int .i64 ((ReadS ((ApplyS s (⟨author, s.clock, kind, key, item⟩ : Upd)).1)).2.1), .int .i64 ((ReadS ((ApplyS s (⟨author, s.clock, kind, key, item⟩ : Upd)).1)).2.2)]) S (y_ex rfl rfl) ?_
  refine l_al (cs := #[.slice none 0 0, .slice none 0 0, .slice none 0 0]) S Z44 rfl fun g105 w106 S => ?_
  refine l_al (cs := #[.int .i64 0, .int .i64 0]) S Z33 rfl fun g107 w108 S => ?_
  refine l_st (u := .agg #[.slice A96 (((ReadS ((ApplyS s (⟨author, s.clock, kind, key, item⟩ : Upd)).1)).1.regs).length) c97, .slice A99 (((ReadS ((ApplyS s (⟨author, s.clock, kind, key, item⟩ : Upd)).1)).1.sets).length) c100, .slice A102 (((ReadS ((ApplyS s (⟨author, s.clock, kind, key, item⟩ : Upd)).1)).1.counters).length) c103]) (i := 7) (cs' := #[.slice A96 (((ReadS ((ApplyS s (⟨author, s.clock, kind, key, item⟩ : Upd)).1)).1.regs).length) c97, .slice A99 (((ReadS ((ApplyS s (⟨author, s.clock, kind, key, item⟩ : Upd)).1)).1.sets).length) c100, .slice A102 (((ReadS ((ApplyS s (⟨author, s.clock, kind, key, item⟩ : Upd)).1)).1.counters).length) c103]) S rfl rfl rfl SZ44 rfl rfl rfl fun w109 S => ?_
  refine l_st (u := .agg #[.int .i64 ((ReadS ((ApplyS s (⟨author, s.clock, kind, key, item⟩ : Upd)).1)).2.1), .int .i64 ((ReadS ((ApplyS s (⟨author, s.clock, kind, key, item⟩ : Upd)).1)).2.2)]) (i := 8) (cs' := #[.int .i64 ((ReadS ((ApplyS s (⟨author, s.clock, kind, key, item⟩ : Upd)).1)).2.1), .int .i64 ((ReadS ((ApplyS s (⟨author, s.clock, kind, key, item⟩ : Upd)).1)).2.2)]) S rfl rfl rfl SZ33 rfl rfl rfl fun w110 S => ?_
  refine l_nil ?_
  refine n_seq ?_
  refine e_seq ?_
  refine e_seq ?_
  refine e_reg ?_
  refine l_y (v := .pointer (some ⟨g78, 0, none⟩)) S (y_fb FA33_0 rfl rfl) ?_
  refine l_y (v := .int .i64 ((ReadS s).2.1)) S (y_ld rfl (fun w S => ld_b1 (i := 6) S rfl rfl T31)) ?_
  have h111 : (ReadS s).2.1 = 0 := by rw [hq.r1]
  refine l_y (v := .bool false) S (y_neF rfl rfl h111) ?_
  refine l_y (v := .bool false) S (y_mv rfl) ?_
  refine l_g (d' := 51) (v := .pointer (some ⟨g107, 0, none⟩)) S (y_fb FA33_0 rfl rfl) rfl rfl ?_
  refine l_g (d' := 51) (v := .int .i64 ((ReadS ((ApplyS s (⟨author, s.clock, kind, key, item⟩ : Upd)).1)).2.1)) S (y_ld rfl (fun w S => ld_b1 (i := 8) S rfl rfl T31)) rfl rfl ?_
  have h112 : (ReadS ((ApplyS s (⟨author, s.clock, kind, key, item⟩ : Upd)).1)).2.1 = 0 := by rw [hq.r2]
  refine l_g (d' := 51) (v := .bool false) S (y_neF rfl rfl h112) rfl rfl ?_
  refine l_y (v := .bool false) S (y_pF rfl rfl) ?_
  obtain ⟨rd113, S, L114, FP115⟩ := S.frzp (i := 1) rfl rfl
  replace h3 := fm h3 L114
  replace h5 := fm h5 L114
  replace h7 := fm h7 L114
  replace h36 := fm h36 L114
  replace h38 := fm h38 L114
  replace h40 := fm h40 L114
  replace h62 := fm h62 L114
  replace h64 := fm h64 L114
  replace h66 := fm h66 L114
  replace h91 := fm h91 L114
  replace h93 := fm h93 L114
  replace h95 := fm h95 L114
  obtain ⟨rd116, S, L117, FP118⟩ := S.frzp (i := 1) rfl rfl
  replace h3 := fm h3 L117
  replace h5 := fm h5 L117
  replace h7 := fm h7 L117
  replace h36 := fm h36 L117
  replace h38 := fm h38 L117
  replace h40 := fm h40 L117
  replace h62 := fm h62 L117
  replace h64 := fm h64 L117
  replace h66 := fm h66 L117
  replace h91 := fm h91 L117
  replace h93 := fm h93 L117
  replace h95 := fm h95 L117
  replace FP115 := PtrC.mono FP115 L117
  refine l_nil ?_
  refine n_seq ?_
  refine e_cF rfl ?_
  refine e_skip ?_
  refine n_seq ?_
  refine e_seq ?_
  refine e_reg ?_
  refine l_y (v := .func (.func 26) #[] #[.pointer (some ⟨g19, 0, none⟩)]) S (y_mf rfl rfl) ?_
  refine l_y (v := .func (.func 26) #[] #[.pointer (some ⟨g19, 0, none⟩)]) S (y_as rfl) ?_
  refine l_nil ?_
  refine n_seq ?_
  refine e_trim [(2, .int .i64 kind), (8, .pointer (some ⟨g19, 0, none⟩)), (9, .pointer (some ⟨g21, 0, none⟩)), (10, .bool false), (14, .pointer (some ⟨g76, 0, none⟩)), (16, .pointer (some ⟨g105, 0, none⟩)), (18, .func (.func 26) #[] #[.pointer (some ⟨g19, 0, none⟩)])] ⟨⟨rfl, rfl⟩, ⟨rfl, rfl⟩, ⟨rfl, rfl⟩, ⟨rfl, rfl⟩, ⟨rfl, rfl⟩, ⟨rfl, rfl⟩, ⟨rfl, rfl⟩, trivial⟩ (fun junk => ?_)
  refine e_seq ?_
  refine e_reg ?_
  refine l_y (v := .func (.func 27) #[] #[.pointer (some ⟨g19, 0, none⟩)]) S (y_mf rfl rfl) ?_
  refine l_y (v := .func (.func 27) #[] #[.pointer (some ⟨g19, 0, none⟩)]) S (y_as rfl) ?_
  refine l_nil ?_
  refine n_seq ?_
  refine e_seq ?_
  refine e_reg ?_
  refine l_y (v := .func (.func 28) #[] #[.pointer (some ⟨g21, 0, none⟩)]) S (y_mf rfl rfl) ?_
  refine l_y (v := .func (.func 28) #[] #[.pointer (some ⟨g21, 0, none⟩)]) S (y_as rfl) ?_
  refine l_nil ?_
  refine n_seq ?_
  refine e_seq ?_
  refine e_seq ?_
  refine e_reg ?_
  refine l_y (v := .int .i64 kind) S (y_mv rfl) ?_
  refine l_nil ?_
  refine n_seq ?_
  refine e_blk ?_
  refine e_seq ?_
  refine e_reg ?_
  by_cases hk1 : kind = 1
  · -- hk1 yes
   refine l_y (v := .bool true) S (y_eqT rfl rfl hk1) ?_
   refine l_y (v := .bool true) S (y_as rfl) ?_
   refine l_nil ?_
   refine n_seq ?_
   refine e_cT rfl ?_
   refine e_seq ?_
   refine e_a (fun w => St [] W (wrd W) rd116 [(g17, 27, #[.slice A8 s.clock.length c9, .slice A11 s.lives.length c12, .slice A14 s.tallies.length c15]), (g24, 29, #[.int .i64 author, .slice A8 s.clock.length c9, .int .i64 kind, .int .i64 key, .int .i64 item]), (g50, 27, #[.slice A41 (((ApplyS s (⟨author, s.clock, kind, key, item⟩ : Upd)).1.clock).length) c42, .slice A44 (((ApplyS s (⟨author, s.clock, kind, key, item⟩ : Upd)).1.lives).length) c45, .slice A47 (((ApplyS s (⟨author, s.clock, kind, key, item⟩ : Upd)).1.tallies).length) c48]), (g76, 44, #[.slice A67 (((ReadS s).1.regs).length) c68, .slice A70 (((ReadS s).1.sets).length) c71, .slice A73 (((ReadS s).1.counters).length) c74]), (g78, 33, #[.int .i64 ((ReadS s).2.1), .int .i64 ((ReadS s).2.2)]), (g105, 44, #[.slice A96 (((ReadS ((ApplyS s (⟨author, s.clock, kind, key, item⟩ : Upd)).1)).1.regs).length) c97, .slice A99 (((ReadS ((ApplyS s (⟨author, s.clock, kind, key, item⟩ : Upd)).1)).1.sets).length) c100, .slice A102 (((ReadS ((ApplyS s (⟨author, s.clock, kind, key, item⟩ : Upd)).1)).1.counters).length) c103]), (g107, 33, #[.int .i64 ((ReadS ((ApplyS s (⟨author, s.clock, kind, key, item⟩ : Upd)).1)).2.1), .int .i64 ((ReadS ((ApplyS s (⟨author, s.clock, kind, key, item⟩ : Upd)).1)).2.2)])] [] w) MX rfl ?_
   have S := S.drew; have sup119 := S.sup
   have SC : St [] W (wrd W) rd116 [(g17, 27, #[.slice A8 s.clock.length c9, .slice A11 s.lives.length c12, .slice A14 s.tallies.length c15]), (g24, 29, #[.int .i64 author, .slice A8 s.clock.length c9, .int .i64 kind, .int .i64 key, .int .i64 item]), (g50, 27, #[.slice A41 (((ApplyS s (⟨author, s.clock, kind, key, item⟩ : Upd)).1.clock).length) c42, .slice A44 (((ApplyS s (⟨author, s.clock, kind, key, item⟩ : Upd)).1.lives).length) c45, .slice A47 (((ApplyS s (⟨author, s.clock, kind, key, item⟩ : Upd)).1.tallies).length) c48]), (g76, 44, #[.slice A67 (((ReadS s).1.regs).length) c68, .slice A70 (((ReadS s).1.sets).length) c71, .slice A73 (((ReadS s).1.counters).length) c74]), (g78, 33, #[.int .i64 ((ReadS s).2.1), .int .i64 ((ReadS s).2.2)]), (g105, 44, #[.slice A96 (((ReadS ((ApplyS s (⟨author, s.clock, kind, key, item⟩ : Upd)).1)).1.regs).length) c97, .slice A99 (((ReadS ((ApplyS s (⟨author, s.clock, kind, key, item⟩ : Upd)).1)).1.sets).length) c100, .slice A102 (((ReadS ((ApplyS s (⟨author, s.clock, kind, key, item⟩ : Upd)).1)).1.counters).length) c103]), (g107, 33, #[.int .i64 ((ReadS ((ApplyS s (⟨author, s.clock, kind, key, item⟩ : Upd)).1)).2.1), .int .i64 ((ReadS ((ApplyS s (⟨author, s.clock, kind, key, item⟩ : Upd)).1)).2.2)])] [] _ := (S.tk 7 0 rfl rfl).rw' rfl rfl
   refine a_take (v := .func (.func 26) #[] #[.pointer (some ⟨g19, 0, none⟩)]) 0 rfl rfl (by kernel_rfl) (by kernel_rfl) (by kernel_rfl) SC rfl (y_mv rfl) ?_
   refine a_take (v := .pointer (some ⟨g105, 0, none⟩)) 1 rfl rfl (by kernel_rfl) (by kernel_rfl) (by kernel_rfl) SC rfl (y_fb FA44_0 rfl rfl) ?_
   refine a_take (v := .slice A96 (((ReadS ((ApplyS s (⟨author, s.clock, kind, key, item⟩ : Upd)).1)).1.regs).length) c97) 2 rfl rfl (by kernel_rfl) (by kernel_rfl) (by kernel_rfl) SC rfl (y_ld rfl (fun w S => ld_b1 (i := 5) S rfl rfl T41)) ?_
   refine a_take (v := .int .i64 item) 4 rfl rfl (by kernel_rfl) (by kernel_rfl) (by kernel_rfl) SC rfl (y_ld rfl (fun w S => ld_p1 S.le FP118 rfl T3)) ?_
   refine a_all (rs := [3, 5]) (by kernel_rfl) rfl ?_
   refine aa_cons rfl ?_ ?_
   · -- operation 3
    refine l_c (en_v (us := [.slice A96 (((ReadS ((ApplyS s (⟨author, s.clock, kind, key, item⟩ : Upd)).1)).1.regs).length) c97, .pointer (some ⟨g19, 0, none⟩)]) (CF 26 _) rfl rfl rfl) (Of1_c _ _ S.le _ ((ReadS ((ApplyS s (⟨author, s.clock, kind, key, item⟩ : Upd)).1)).1.regs) key _ h91 FP115) ?_
    rintro e w120 ⟨v125, rfl, h126, k⟩
    obtain ⟨rd121, S, L122, N123, X124⟩ := S.call' k; clear k
    replace h3 := fm h3 L122
    replace h5 := fm h5 L122
    replace h7 := fm h7 L122
    replace h36 := fm h36 L122
    replace h38 := fm h38 L122
    replace h40 := fm h40 L122
    replace h62 := fm h62 L122
    replace h64 := fm h64 L122
    replace h66 := fm h66 L122
    replace h91 := fm h91 L122
    replace h93 := fm h93 L122
    replace h95 := fm h95 L122
    replace FP115 := PtrC.mono FP115 L122
    replace FP118 := PtrC.mono FP118 L122
    replace h126 := fm h126 X124
    obtain ⟨A127, c128, rfl, m129, m129'⟩ := h126.val
    refine ckd ?_
    refine l_nil ?_
    have SC : St [] W (wrd W) rd116 [(g17, 27, #[.slice A8 s.clock.length c9, .slice A11 s.lives.length c12, .slice A14 s.tallies.length c15]), (g24, 29, #[.int .i64 author, .slice A8 s.clock.length c9, .int .i64 kind, .int .i64 key, .int .i64 item]), (g50, 27, #[.slice A41 (((ApplyS s (⟨author, s.clock, kind, key, item⟩ : Upd)).1.clock).length) c42, .slice A44 (((ApplyS s (⟨author, s.clock, kind, key, item⟩ : Upd)).1.lives).length) c45, .slice A47 (((ApplyS s (⟨author, s.clock, kind, key, item⟩ : Upd)).1.tallies).length) c48]), (g76, 44, #[.slice A67 (((ReadS s).1.regs).length) c68, .slice A70 (((ReadS s).1.sets).length) c71, .slice A73 (((ReadS s).1.counters).length) c74]), (g78, 33, #[.int .i64 ((ReadS s).2.1), .int .i64 ((ReadS s).2.2)]), (g105, 44, #[.slice A96 (((ReadS ((ApplyS s (⟨author, s.clock, kind, key, item⟩ : Upd)).1)).1.regs).length) c97, .slice A99 (((ReadS ((ApplyS s (⟨author, s.clock, kind, key, item⟩ : Upd)).1)).1.sets).length) c100, .slice A102 (((ReadS ((ApplyS s (⟨author, s.clock, kind, key, item⟩ : Upd)).1)).1.counters).length) c103]), (g107, 33, #[.int .i64 ((ReadS ((ApplyS s (⟨author, s.clock, kind, key, item⟩ : Upd)).1)).2.1), .int .i64 ((ReadS ((ApplyS s (⟨author, s.clock, kind, key, item⟩ : Upd)).1)).2.2)])] [] _ := ((S.tk 7 0 rfl rfl).weak sup119 L122).rw' rfl rfl
    refine n_lp (ak SC ?_)
    refine a_all (rs := [5]) (by kernel_rfl) rfl ?_
    refine aa_cons rfl ?_ ?_
    · -- operation 5
     refine l_bs (ps := [(0, .int .i64 item)]) (cs := #[.int .i64 item]) S U22 SZ3 Z3 rfl rfl rfl (by kernel_rfl) fun g130 w131 S => ?_
     obtain ⟨rd132, S, L133, Fz134⟩ := S.frz' (i := 7) rfl rfl
     replace h3 := fm h3 L133
     replace h5 := fm h5 L133
     replace h7 := fm h7 L133
     replace h36 := fm h36 L133
     replace h38 := fm h38 L133
     replace h40 := fm h40 L133
     replace h62 := fm h62 L133
     replace h64 := fm h64 L133
     replace h66 := fm h66 L133
     replace h91 := fm h91 L133
     replace h93 := fm h93 L133
     replace h95 := fm h95 L133
     replace FP115 := PtrC.mono FP115 L133
     replace FP118 := PtrC.mono FP118 L133
     replace h126 := fm h126 L133
     have F135 := Fz134 (size := 1) (R := IntR) (xs := ([item] : List Int)) (n := 1) (c := 1) rfl (Nat.le_refl _) (by simp [maxLen]) (rowInts _ ([item] : List Int)); clear Fz134
     refine l_nil ?_
     have SC : St [] W (wrd W) rd116 [(g17, 27, #[.slice A8 s.clock.length c9, .slice A11 s.lives.length c12, .slice A14 s.tallies.length c15]), (g24, 29, #[.int .i64 author, .slice A8 s.clock.length c9, .int .i64 kind, .int .i64 key, .int .i64 item]), (g50, 27, #[.slice A41 (((ApplyS s (⟨author, s.clock, kind, key, item⟩ : Upd)).1.clock).length) c42, .slice A44 (((ApplyS s (⟨author, s.clock, kind, key, item⟩ : Upd)).1.lives).length) c45, .slice A47 (((ApplyS s (⟨author, s.clock, kind, key, item⟩ : Upd)).1.tallies).length) c48]), (g76, 44, #[.slice A67 (((ReadS s).1.regs).length) c68, .slice A70 (((ReadS s).1.sets).length) c71, .slice A73 (((ReadS s).1.counters).length) c74]), (g78, 33, #[.int .i64 ((ReadS s).2.1), .int .i64 ((ReadS s).2.2)]), (g105, 44, #[.slice A96 (((ReadS ((ApplyS s (⟨author, s.clock, kind, key, item⟩ : Upd)).1)).1.regs).length) c97, .slice A99 (((ReadS ((ApplyS s (⟨author, s.clock, kind, key, item⟩ : Upd)).1)).1.sets).length) c100, .slice A102 (((ReadS ((ApplyS s (⟨author, s.clock, kind, key, item⟩ : Upd)).1)).1.counters).length) c103]), (g107, 33, #[.int .i64 ((ReadS ((ApplyS s (⟨author, s.clock, kind, key, item⟩ : Upd)).1)).2.1), .int .i64 ((ReadS ((ApplyS s (⟨author, s.clock, kind, key, item⟩ : Upd)).1)).2.2)])] [] _ := ((S.tk 7 0 rfl rfl).weak sup119 (Rd.le_trans L122 L133)).rw' rfl rfl
     refine n_lp (ak SC ?_)
     refine a_all (rs := [6]) (by kernel_rfl) rfl ?_
     refine aa_cons rfl ?_ ?_
     · -- operation 6
      refine l_c (en_f (vs := [.slice A127 ((ofC ((ReadS ((ApplyS s (⟨author, s.clock, kind, key, item⟩ : Upd)).1)).1.regs) key).length) c128, .slice (some ⟨g130, 0, none⟩) 1 1]) (CF 24 _) rfl rfl) (Same_calls _ _ _ _ _ (fm h126 S.le) (fm F135 S.le)) ?_
      rintro e w136 ⟨rfl, k⟩
      have S := S.callq k; clear k
      have b137 : sameL (ofC ((ReadS ((ApplyS s (⟨author, s.clock, kind, key, item⟩ : Upd)).1)).1.regs) key) ([item] : List Int) = true := by rw [hq.r2, (hq.put hk1).1]; simp [sameL]
      rw [b137]
      refine ckd ?_
      refine l_nil ?_
      have SC : St [] W (wrd W) rd116 [(g17, 27, #[.slice A8 s.clock.length c9, .slice A11 s.lives.length c12, .slice A14 s.tallies.length c15]), (g24, 29, #[.int .i64 author, .slice A8 s.clock.length c9, .int .i64 kind, .int .i64 key, .int .i64 item]), (g50, 27, #[.slice A41 (((ApplyS s (⟨author, s.clock, kind, key, item⟩ : Upd)).1.clock).length) c42, .slice A44 (((ApplyS s (⟨author, s.clock, kind, key, item⟩ : Upd)).1.lives).length) c45, .slice A47 (((ApplyS s (⟨author, s.clock, kind, key, item⟩ : Upd)).1.tallies).length) c48]), (g76, 44, #[.slice A67 (((ReadS s).1.regs).length) c68, .slice A70 (((ReadS s).1.sets).length) c71, .slice A73 (((ReadS s).1.counters).length) c74]), (g78, 33, #[.int .i64 ((ReadS s).2.1), .int .i64 ((ReadS s).2.2)]), (g105, 44, #[.slice A96 (((ReadS ((ApplyS s (⟨author, s.clock, kind, key, item⟩ : Upd)).1)).1.regs).length) c97, .slice A99 (((ReadS ((ApplyS s (⟨author, s.clock, kind, key, item⟩ : Upd)).1)).1.sets).length) c100, .slice A102 (((ReadS ((ApplyS s (⟨author, s.clock, kind, key, item⟩ : Upd)).1)).1.counters).length) c103]), (g107, 33, #[.int .i64 ((ReadS ((ApplyS s (⟨author, s.clock, kind, key, item⟩ : Upd)).1)).2.1), .int .i64 ((ReadS ((ApplyS s (⟨author, s.clock, kind, key, item⟩ : Upd)).1)).2.2)])] [] _ := ((S.tk 7 0 rfl rfl).weak sup119 (Rd.le_trans L122 L133)).rw' rfl rfl
      refine n_lp (ak SC ?_)
      refine a_take (v := .bool true) 7 rfl rfl (by kernel_rfl) (by kernel_rfl) (by kernel_rfl) SC rfl (y_mv rfl) ?_
      refine a_takeg (d' := 69) (v := .pointer (some ⟨g76, 1, none⟩)) 8 rfl rfl (by kernel_rfl) (by kernel_rfl) (by kernel_rfl) SC rfl rfl rfl (y_fb FA44_1 rfl rfl) ?_
      refine a_takeg (d' := 69) (v := .slice A70 (((ReadS s).1.sets).length) c71) 9 rfl rfl (by kernel_rfl) (by kernel_rfl) (by kernel_rfl) SC rfl rfl rfl (y_ld rfl (fun w S => ld_b1 (i := 3) S rfl rfl T41)) ?_
      refine a_takeg (d' := 69) (v := .pointer (some ⟨g76, 2, none⟩)) 10 rfl rfl (by kernel_rfl) (by kernel_rfl) (by kernel_rfl) SC rfl rfl rfl (y_fb FA44_2 rfl rfl) ?_
      refine a_takeg (d' := 69) (v := .slice A73 (((ReadS s).1.counters).length) c74) 11 rfl rfl (by kernel_rfl) (by kernel_rfl) (by kernel_rfl) SC rfl rfl rfl (y_ld rfl (fun w S => ld_b1 (i := 3) S rfl rfl T42)) ?_
      refine a_takeg (d' := 69) (v := .agg #[.slice none 0 0, .slice A70 (((ReadS s).1.sets).length) c71, .slice A73 (((ReadS s).1.counters).length) c74]) 12 rfl rfl (by kernel_rfl) (by kernel_rfl) (by kernel_rfl) SC rfl rfl rfl (y_bd (ps := [(1, .slice A70 (((ReadS s).1.sets).length) c71), (2, .slice A73 (((ReadS s).1.counters).length) c74)]) rfl (fun _ => by kernel_rfl)) ?_
      refine a_takeg (d' := 69) (v := .pointer (some ⟨g105, 1, none⟩)) 13 rfl rfl (by kernel_rfl) (by kernel_rfl) (by kernel_rfl) SC rfl rfl rfl (y_fb FA44_1 rfl rfl) ?_
      refine a_takeg (d' := 69) (v := .slice A99 (((ReadS ((ApplyS s (⟨author, s.clock, kind, key, item⟩ : Upd)).1)).1.sets).length) c100) 14 rfl rfl (by kernel_rfl) (by kernel_rfl) (by kernel_rfl) SC rfl rfl rfl (y_ld rfl (fun w S => ld_b1 (i := 5) S rfl rfl T41)) ?_
      refine a_takeg (d' := 69) (v := .pointer (some ⟨g105, 2, none⟩)) 15 rfl rfl (by kernel_rfl) (by kernel_rfl) (by kernel_rfl) SC rfl rfl rfl (y_fb FA44_2 rfl rfl) ?_
      refine a_takeg (d' := 69) (v := .slice A102 (((ReadS ((ApplyS s (⟨author, s.clock, kind, key, item⟩ : Upd)).1)).1.counters).length) c103) 16 rfl rfl (by kernel_rfl) (by kernel_rfl) (by kernel_rfl) SC rfl rfl rfl (y_ld rfl (fun w S => ld_b1 (i := 5) S rfl rfl T42)) ?_
      refine a_takeg (d' := 69) (v := .agg #[.slice none 0 0, .slice A99 (((ReadS ((ApplyS s (⟨author, s.clock, kind, key, item⟩ : Upd)).1)).1.sets).length) c100, .slice A102 (((ReadS ((ApplyS s (⟨author, s.clock, kind, key, item⟩ : Upd)).1)).1.counters).length) c103]) 17 rfl rfl (by kernel_rfl) (by kernel_rfl) (by kernel_rfl) SC rfl rfl rfl (y_bd (ps := [(1, .slice A99 (((ReadS ((ApplyS s (⟨author, s.clock, kind, key, item⟩ : Upd)).1)).1.sets).length) c100), (2, .slice A102 (((ReadS ((ApplyS s (⟨author, s.clock, kind, key, item⟩ : Upd)).1)).1.counters).length) c103)]) rfl (fun _ => by kernel_rfl)) ?_
      refine a_all (rs := [18]) (by kernel_rfl) rfl ?_
      refine aa_cons rfl ?_ ?_
      · -- operation 18
       refine l_cg (d' := 69) (en_f (vs := [.agg #[.slice none 0 0, .slice A70 (((ReadS s).1.sets).length) c71, .slice A73 (((ReadS s).1.counters).length) c74], .agg #[.slice none 0 0, .slice A99 (((ReadS ((ApplyS s (⟨author, s.clock, kind, key, item⟩ : Upd)).1)).1.sets).length) c100, .slice A102 (((ReadS ((ApplyS s (⟨author, s.clock, kind, key, item⟩ : Upd)).1)).1.counters).length) c103]]) (CF 22 _) rfl rfl) rfl rfl (SameView_c _ _ S.le _ _ (⟨[], (ReadS s).1.sets, (ReadS s).1.counters⟩ : View) (⟨[], (ReadS ((ApplyS s (⟨author, s.clock, kind, key, item⟩ : Upd)).1)).1.sets, (ReadS ((ApplyS s (⟨author, s.clock, kind, key, item⟩ : Upd)).1)).1.counters⟩ : View) (⟨_, rfl, ⟨_, _, _, rfl, (SliceR.nil_ _), h64, h66⟩⟩ : AggR ViewR rd132 _ (⟨[], (ReadS s).1.sets, (ReadS s).1.counters⟩ : View)) (⟨_, rfl, ⟨_, _, _, rfl, (SliceR.nil_ _), h93, h95⟩⟩ : AggR ViewR rd132 _ (⟨[], (ReadS ((ApplyS s (⟨author, s.clock, kind, key, item⟩ : Upd)).1)).1.sets, (ReadS ((ApplyS s (⟨author, s.clock, kind, key, item⟩ : Upd)).1)).1.counters⟩ : View))) ?_
       rintro e w138 ⟨rfl, k⟩
       have S := S.callq k; clear k
       have b139 : sameV (⟨[], (ReadS s).1.sets, (ReadS s).1.counters⟩ : View) (⟨[], (ReadS ((ApplyS s (⟨author, s.clock, kind, key, item⟩ : Upd)).1)).1.sets, (ReadS ((ApplyS s (⟨author, s.clock, kind, key, item⟩ : Upd)).1)).1.counters⟩ : View) = true := by rw [hq.r1, hq.r2]; simp [sameV, (hq.put hk1).2.1, (hq.put hk1).2.2]
       rw [b139]
       refine ckd ?_
       refine l_nil ?_
       have SC : St [] W (wrd W) rd116 [(g17, 27, #[.slice A8 s.clock.length c9, .slice A11 s.lives.length c12, .slice A14 s.tallies.length c15]), (g24, 29, #[.int .i64 author, .slice A8 s.clock.length c9, .int .i64 kind, .int .i64 key, .int .i64 item]), (g50, 27, #[.slice A41 (((ApplyS s (⟨author, s.clock, kind, key, item⟩ : Upd)).1.clock).length) c42, .slice A44 (((ApplyS s (⟨author, s.clock, kind, key, item⟩ : Upd)).1.lives).length) c45, .slice A47 (((ApplyS s (⟨author, s.clock, kind, key, item⟩ : Upd)).1.tallies).length) c48]), (g76, 44, #[.slice A67 (((ReadS s).1.regs).length) c68, .slice A70 (((ReadS s).1.sets).length) c71, .slice A73 (((ReadS s).1.counters).length) c74]), (g78, 33, #[.int .i64 ((ReadS s).2.1), .int .i64 ((ReadS s).2.2)]), (g105, 44, #[.slice A96 (((ReadS ((ApplyS s (⟨author, s.clock, kind, key, item⟩ : Upd)).1)).1.regs).length) c97, .slice A99 (((ReadS ((ApplyS s (⟨author, s.clock, kind, key, item⟩ : Upd)).1)).1.sets).length) c100, .slice A102 (((ReadS ((ApplyS s (⟨author, s.clock, kind, key, item⟩ : Upd)).1)).1.counters).length) c103]), (g107, 33, #[.int .i64 ((ReadS ((ApplyS s (⟨author, s.clock, kind, key, item⟩ : Upd)).1)).2.1), .int .i64 ((ReadS ((ApplyS s (⟨author, s.clock, kind, key, item⟩ : Upd)).1)).2.2)])] [] _ := ((S.tk 7 0 rfl rfl).weak sup119 (Rd.le_trans L122 L133)).rw' rfl rfl
       refine n_lp (ak SC ?_)
       refine a_take (v := .bool true) 19 rfl rfl (by kernel_rfl) (by kernel_rfl) (by kernel_rfl) SC rfl (y_pT rfl rfl) ?_
       refine a_take (v := .bool true) 20 rfl rfl (by kernel_rfl) (by kernel_rfl) (by kernel_rfl) SC rfl (y_as rfl) ?_
       refine a_done (by kernel_rfl) ?_
       clear SC
       refine n_seq ?_
       refine e_trim [(9, .pointer (some ⟨g21, 0, none⟩)), (10, .bool true), (14, .pointer (some ⟨g76, 0, none⟩)), (16, .pointer (some ⟨g105, 0, none⟩)), (19, .func (.func 27) #[] #[.pointer (some ⟨g19, 0, none⟩)])] ⟨⟨rfl, rfl⟩, ⟨rfl, rfl⟩, ⟨rfl, rfl⟩, ⟨rfl, rfl⟩, ⟨rfl, rfl⟩, trivial⟩ (fun junk => ?_)
       refine e_ret ?_
       refine ret1 (v := .bool true) rfl rfl ?_
       exact ⟨rfl, S.below⟩
      exact aa_nil
     exact aa_nil
    exact aa_nil
   refine aa_cons rfl ?_ ?_
   · -- operation 5
    refine l_bs (ps := [(0, .int .i64 item)]) (cs := #[.int .i64 item]) S U22 SZ3 Z3 rfl rfl rfl (by kernel_rfl) fun g140 w141 S => ?_
    obtain ⟨rd142, S, L143, Fz144⟩ := S.frz' (i := 7) rfl rfl
    replace h3 := fm h3 L143
    replace h5 := fm h5 L143
    replace h7 := fm h7 L143
    replace h36 := fm h36 L143
    replace h38 := fm h38 L143
    replace h40 := fm h40 L143
    replace h62 := fm h62 L143
    replace h64 := fm h64 L143
    replace h66 := fm h66 L143
    replace h91 := fm h91 L143
    replace h93 := fm h93 L143
    replace h95 := fm h95 L143
    replace FP115 := PtrC.mono FP115 L143
    replace FP118 := PtrC.mono FP118 L143
    have F145 := Fz144 (size := 1) (R := IntR) (xs := ([item] : List Int)) (n := 1) (c := 1) rfl (Nat.le_refl _) (by simp [maxLen]) (rowInts _ ([item] : List Int)); clear Fz144
    refine l_nil ?_
    have SC : St [] W (wrd W) rd116 [(g17, 27, #[.slice A8 s.clock.length c9, .slice A11 s.lives.length c12, .slice A14 s.tallies.length c15]), (g24, 29, #[.int .i64 author, .slice A8 s.clock.length c9, .int .i64 kind, .int .i64 key, .int .i64 item]), (g50, 27, #[.slice A41 (((ApplyS s (⟨author, s.clock, kind, key, item⟩ : Upd)).1.clock).length) c42, .slice A44 (((ApplyS s (⟨author, s.clock, kind, key, item⟩ : Upd)).1.lives).length) c45, .slice A47 (((ApplyS s (⟨author, s.clock, kind, key, item⟩ : Upd)).1.tallies).length) c48]), (g76, 44, #[.slice A67 (((ReadS s).1.regs).length) c68, .slice A70 (((ReadS s).1.sets).length) c71, .slice A73 (((ReadS s).1.counters).length) c74]), (g78, 33, #[.int .i64 ((ReadS s).2.1), .int .i64 ((ReadS s).2.2)]), (g105, 44, #[.slice A96 (((ReadS ((ApplyS s (⟨author, s.clock, kind, key, item⟩ : Upd)).1)).1.regs).length) c97, .slice A99 (((ReadS ((ApplyS s (⟨author, s.clock, kind, key, item⟩ : Upd)).1)).1.sets).length) c100, .slice A102 (((ReadS ((ApplyS s (⟨author, s.clock, kind, key, item⟩ : Upd)).1)).1.counters).length) c103]), (g107, 33, #[.int .i64 ((ReadS ((ApplyS s (⟨author, s.clock, kind, key, item⟩ : Upd)).1)).2.1), .int .i64 ((ReadS ((ApplyS s (⟨author, s.clock, kind, key, item⟩ : Upd)).1)).2.2)])] [] _ := ((S.tk 7 0 rfl rfl).weak sup119 L143).rw' rfl rfl
    refine n_lp (ak SC ?_)
    refine a_all (rs := [3]) (by kernel_rfl) rfl ?_
    refine aa_cons rfl ?_ ?_
    · -- operation 3
     refine l_c (en_v (us := [.slice A96 (((ReadS ((ApplyS s (⟨author, s.clock, kind, key, item⟩ : Upd)).1)).1.regs).length) c97, .pointer (some ⟨g19, 0, none⟩)]) (CF 26 _) rfl rfl rfl) (Of1_c _ _ S.le _ ((ReadS ((ApplyS s (⟨author, s.clock, kind, key, item⟩ : Upd)).1)).1.regs) key _ h91 FP115) ?_
     rintro e w146 ⟨v151, rfl, h152, k⟩
     obtain ⟨rd147, S, L148, N149, X150⟩ := S.call' k; clear k
     replace h3 := fm h3 L148
     replace h5 := fm h5 L148
     replace h7 := fm h7 L148
     replace h36 := fm h36 L148
     replace h38 := fm h38 L148
     replace h40 := fm h40 L148
     replace h62 := fm h62 L148
     replace h64 := fm h64 L148
     replace h66 := fm h66 L148
     replace h91 := fm h91 L148
     replace h93 := fm h93 L148
     replace h95 := fm h95 L148
     replace FP115 := PtrC.mono FP115 L148
     replace FP118 := PtrC.mono FP118 L148
     replace F145 := fm F145 L148
     replace h152 := fm h152 X150
     obtain ⟨A153, c154, rfl, m155, m155'⟩ := h152.val
     refine ckd ?_
     refine l_nil ?_
     have SC : St [] W (wrd W) rd116 [(g17, 27, #[.slice A8 s.clock.length c9, .slice A11 s.lives.length c12, .slice A14 s.tallies.length c15]), (g24, 29, #[.int .i64 author, .slice A8 s.clock.length c9, .int .i64 kind, .int .i64 key, .int .i64 item]), (g50, 27, #[.slice A41 (((ApplyS s (⟨author, s.clock, kind, key, item⟩ : Upd)).1.clock).length) c42, .slice A44 (((ApplyS s (⟨author, s.clock, kind, key, item⟩ : Upd)).1.lives).length) c45, .slice A47 (((ApplyS s (⟨author, s.clock, kind, key, item⟩ : Upd)).1.tallies).length) c48]), (g76, 44, #[.slice A67 (((ReadS s).1.regs).length) c68, .slice A70 (((ReadS s).1.sets).length) c71, .slice A73 (((ReadS s).1.counters).length) c74]), (g78, 33, #[.int .i64 ((ReadS s).2.1), .int .i64 ((ReadS s).2.2)]), (g105, 44, #[.slice A96 (((ReadS ((ApplyS s (⟨author, s.clock, kind, key, item⟩ : Upd)).1)).1.regs).length) c97, .slice A99 (((ReadS ((ApplyS s (⟨author, s.clock, kind, key, item⟩ : Upd)).1)).1.sets).length) c100, .slice A102 (((ReadS ((ApplyS s (⟨author, s.clock, kind, key, item⟩ : Upd)).1)).1.counters).length) c103]), (g107, 33, #[.int .i64 ((ReadS ((ApplyS s (⟨author, s.clock, kind, key, item⟩ : Upd)).1)).2.1), .int .i64 ((ReadS ((ApplyS s (⟨author, s.clock, kind, key, item⟩ : Upd)).1)).2.2)])] [] _ := ((S.tk 7 0 rfl rfl).weak sup119 (Rd.le_trans L143 L148)).rw' rfl rfl
     refine n_lp (ak SC ?_)
     refine a_all (rs := [6]) (by kernel_rfl) rfl ?_
     refine aa_cons rfl ?_ ?_
     · -- operation 6
      refine l_c (en_f (vs := [.slice A153 ((ofC ((ReadS ((ApplyS s (⟨author, s.clock, kind, key, item⟩ : Upd)).1)).1.regs) key).length) c154, .slice (some ⟨g140, 0, none⟩) 1 1]) (CF 24 _) rfl rfl) (Same_calls _ _ _ _ _ (fm h152 S.le) (fm F145 S.le)) ?_
      rintro e w156 ⟨rfl, k⟩
      have S := S.callq k; clear k
      have b157 : sameL (ofC ((ReadS ((ApplyS s (⟨author, s.clock, kind, key, item⟩ : Upd)).1)).1.regs) key) ([item] : List Int) = true := by rw [hq.r2, (hq.put hk1).1]; simp [sameL]
      rw [b157]
      refine ckd ?_
      refine l_nil ?_
      have SC : St [] W (wrd W) rd116 [(g17, 27, #[.slice A8 s.clock.length c9, .slice A11 s.lives.length c12, .slice A14 s.tallies.length c15]), (g24, 29, #[.int .i64 author, .slice A8 s.clock.length c9, .int .i64 kind, .int .i64 key, .int .i64 item]), (g50, 27, #[.slice A41 (((ApplyS s (⟨author, s.clock, kind, key, item⟩ : Upd)).1.clock).length) c42, .slice A44 (((ApplyS s (⟨author, s.clock, kind, key, item⟩ : Upd)).1.lives).length) c45, .slice A47 (((ApplyS s (⟨author, s.clock, kind, key, item⟩ : Upd)).1.tallies).length) c48]), (g76, 44, #[.slice A67 (((ReadS s).1.regs).length) c68, .slice A70 (((ReadS s).1.sets).length) c71, .slice A73 (((ReadS s).1.counters).length) c74]), (g78, 33, #[.int .i64 ((ReadS s).2.1), .int .i64 ((ReadS s).2.2)]), (g105, 44, #[.slice A96 (((ReadS ((ApplyS s (⟨author, s.clock, kind, key, item⟩ : Upd)).1)).1.regs).length) c97, .slice A99 (((ReadS ((ApplyS s (⟨author, s.clock, kind, key, item⟩ : Upd)).1)).1.sets).length) c100, .slice A102 (((ReadS ((ApplyS s (⟨author, s.clock, kind, key, item⟩ : Upd)).1)).1.counters).length) c103]), (g107, 33, #[.int .i64 ((ReadS ((ApplyS s (⟨author, s.clock, kind, key, item⟩ : Upd)).1)).2.1), .int .i64 ((ReadS ((ApplyS s (⟨author, s.clock, kind, key, item⟩ : Upd)).1)).2.2)])] [] _ := ((S.tk 7 0 rfl rfl).weak sup119 (Rd.le_trans L143 L148)).rw' rfl rfl
      refine n_lp (ak SC ?_)
      refine a_take (v := .bool true) 7 rfl rfl (by kernel_rfl) (by kernel_rfl) (by kernel_rfl) SC rfl (y_mv rfl) ?_
      refine a_takeg (d' := 69) (v := .pointer (some ⟨g76, 1, none⟩)) 8 rfl rfl (by kernel_rfl) (by kernel_rfl) (by kernel_rfl) SC rfl rfl rfl (y_fb FA44_1 rfl rfl) ?_
      refine a_takeg (d' := 69) (v := .slice A70 (((ReadS s).1.sets).length) c71) 9 rfl rfl (by kernel_rfl) (by kernel_rfl) (by kernel_rfl) SC rfl rfl rfl (y_ld rfl (fun w S => ld_b1 (i := 3) S rfl rfl T41)) ?_
      refine a_takeg (d' := 69) (v := .pointer (some ⟨g76, 2, none⟩)) 10 rfl rfl (by kernel_rfl) (by kernel_rfl) (by kernel_rfl) SC rfl rfl rfl (y_fb FA44_2 rfl rfl) ?_
      refine a_takeg (d' := 69) (v := .slice A73 (((ReadS s).1.counters).length) c74) 11 rfl rfl (by kernel_rfl) (by kernel_rfl) (by kernel_rfl) SC rfl rfl rfl (y_ld rfl (fun w S => ld_b1 (i := 3) S rfl rfl T42)) ?_
      refine a_takeg (d' := 69) (v := .agg #[.slice none 0 0, .slice A70 (((ReadS s).1.sets).length) c71, .slice A73 (((ReadS s).1.counters).length) c74]) 12 rfl rfl (by kernel_rfl) (by kernel_rfl) (by kernel_rfl) SC rfl rfl rfl (y_bd (ps := [(1, .slice A70 (((ReadS s).1.sets).length) c71), (2, .slice A73 (((ReadS s).1.counters).length) c74)]) rfl (fun _ => by kernel_rfl)) ?_
      refine a_takeg (d' := 69) (v := .pointer (some ⟨g105, 1, none⟩)) 13 rfl rfl (by kernel_rfl) (by kernel_rfl) (by kernel_rfl) SC rfl rfl rfl (y_fb FA44_1 rfl rfl) ?_
      refine a_takeg (d' := 69) (v := .slice A99 (((ReadS ((ApplyS s (⟨author, s.clock, kind, key, item⟩ : Upd)).1)).1.sets).length) c100) 14 rfl rfl (by kernel_rfl) (by kernel_rfl) (by kernel_rfl) SC rfl rfl rfl (y_ld rfl (fun w S => ld_b1 (i := 5) S rfl rfl T41)) ?_
      refine a_takeg (d' := 69) (v := .pointer (some ⟨g105, 2, none⟩)) 15 rfl rfl (by kernel_rfl) (by kernel_rfl) (by kernel_rfl) SC rfl rfl rfl (y_fb FA44_2 rfl rfl) ?_
      refine a_takeg (d' := 69) (v := .slice A102 (((ReadS ((ApplyS s (⟨author, s.clock, kind, key, item⟩ : Upd)).1)).1.counters).length) c103) 16 rfl rfl (by kernel_rfl) (by kernel_rfl) (by kernel_rfl) SC rfl rfl rfl (y_ld rfl (fun w S => ld_b1 (i := 5) S rfl rfl T42)) ?_
      refine a_takeg (d' := 69) (v := .agg #[.slice none 0 0, .slice A99 (((ReadS ((ApplyS s (⟨author, s.clock, kind, key, item⟩ : Upd)).1)).1.sets).length) c100, .slice A102 (((ReadS ((ApplyS s (⟨author, s.clock, kind, key, item⟩ : Upd)).1)).1.counters).length) c103]) 17 rfl rfl (by kernel_rfl) (by kernel_rfl) (by kernel_rfl) SC rfl rfl rfl (y_bd (ps := [(1, .slice A99 (((ReadS ((ApplyS s (⟨author, s.clock, kind, key, item⟩ : Upd)).1)).1.sets).length) c100), (2, .slice A102 (((ReadS ((ApplyS s (⟨author, s.clock, kind, key, item⟩ : Upd)).1)).1.counters).length) c103)]) rfl (fun _ => by kernel_rfl)) ?_
      refine a_all (rs := [18]) (by kernel_rfl) rfl ?_
      refine aa_cons rfl ?_ ?_
      · -- operation 18
       refine l_cg (d' := 69) (en_f (vs := [.agg #[.slice none 0 0, .slice A70 (((ReadS s).1.sets).length) c71, .slice A73 (((ReadS s).1.counters).length) c74], .agg #[.slice none 0 0, .slice A99 (((ReadS ((ApplyS s (⟨author, s.clock, kind, key, item⟩ : Upd)).1)).1.sets).length) c100, .slice A102 (((ReadS ((ApplyS s (⟨author, s.clock, kind, key, item⟩ : Upd)).1)).1.counters).length) c103]]) (CF 22 _) rfl rfl) rfl rfl (SameView_c _ _ S.le _ _ (⟨[], (ReadS s).1.sets, (ReadS s).1.counters⟩ : View) (⟨[], (ReadS ((ApplyS s (⟨author, s.clock, kind, key, item⟩ : Upd)).1)).1.sets, (ReadS ((ApplyS s (⟨author, s.clock, kind, key, item⟩ : Upd)).1)).1.counters⟩ : View) (⟨_, rfl, ⟨_, _, _, rfl, (SliceR.nil_ _), h64, h66⟩⟩ : AggR ViewR rd147 _ (⟨[], (ReadS s).1.sets, (ReadS s).1.counters⟩ : View)) (⟨_, rfl, ⟨_, _, _, rfl, (SliceR.nil_ _), h93, h95⟩⟩ : AggR ViewR rd147 _ (⟨[], (ReadS ((ApplyS s (⟨author, s.clock, kind, key, item⟩ : Upd)).1)).1.sets, (ReadS ((ApplyS s (⟨author, s.clock, kind, key, item⟩ : Upd)).1)).1.counters⟩ : View))) ?_
       rintro e w158 ⟨rfl, k⟩
       have S := S.callq k; clear k
       have b159 : sameV (⟨[], (ReadS s).1.sets, (ReadS s).1.counters⟩ : View) (⟨[], (ReadS ((ApplyS s (⟨author, s.clock, kind, key, item⟩ : Upd)).1)).1.sets, (ReadS ((ApplyS s (⟨author, s.clock, kind, key, item⟩ : Upd)).1)).1.counters⟩ : View) = true := by rw [hq.r1, hq.r2]; simp [sameV, (hq.put hk1).2.1, (hq.put hk1).2.2]
       rw [b159]
       refine ckd ?_
       refine l_nil ?_
       have SC : St [] W (wrd W) rd116 [(g17, 27, #[.slice A8 s.clock.length c9, .slice A11 s.lives.length c12, .slice A14 s.tallies.length c15]), (g24, 29, #[.int .i64 author, .slice A8 s.clock.length c9, .int .i64 kind, .int .i64 key, .int .i64 item]), (g50, 27, #[.slice A41 (((ApplyS s (⟨author, s.clock, kind, key, item⟩ : Upd)).1.clock).length) c42, .slice A44 (((ApplyS s (⟨author, s.clock, kind, key, item⟩ : Upd)).1.lives).length) c45, .slice A47 (((ApplyS s (⟨author, s.clock, kind, key, item⟩ : Upd)).1.tallies).length) c48]), (g76, 44, #[.slice A67 (((ReadS s).1.regs).length) c68, .slice A70 (((ReadS s).1.sets).length) c71, .slice A73 (((ReadS s).1.counters).length) c74]), (g78, 33, #[.int .i64 ((ReadS s).2.1), .int .i64 ((ReadS s).2.2)]), (g105, 44, #[.slice A96 (((ReadS ((ApplyS s (⟨author, s.clock, kind, key, item⟩ : Upd)).1)).1.regs).length) c97, .slice A99 (((ReadS ((ApplyS s (⟨author, s.clock, kind, key, item⟩ : Upd)).1)).1.sets).length) c100, .slice A102 (((ReadS ((ApplyS s (⟨author, s.clock, kind, key, item⟩ : Upd)).1)).1.counters).length) c103]), (g107, 33, #[.int .i64 ((ReadS ((ApplyS s (⟨author, s.clock, kind, key, item⟩ : Upd)).1)).2.1), .int .i64 ((ReadS ((ApplyS s (⟨author, s.clock, kind, key, item⟩ : Upd)).1)).2.2)])] [] _ := ((S.tk 7 0 rfl rfl).weak sup119 (Rd.le_trans L143 L148)).rw' rfl rfl
       refine n_lp (ak SC ?_)
       refine a_take (v := .bool true) 19 rfl rfl (by kernel_rfl) (by kernel_rfl) (by kernel_rfl) SC rfl (y_pT rfl rfl) ?_
       refine a_take (v := .bool true) 20 rfl rfl (by kernel_rfl) (by kernel_rfl) (by kernel_rfl) SC rfl (y_as rfl) ?_
       refine a_done (by kernel_rfl) ?_
       clear SC
       refine n_seq ?_
       refine e_trim [(9, .pointer (some ⟨g21, 0, none⟩)), (10, .bool true), (14, .pointer (some ⟨g76, 0, none⟩)), (16, .pointer (some ⟨g105, 0, none⟩)), (19, .func (.func 27) #[] #[.pointer (some ⟨g19, 0, none⟩)])] ⟨⟨rfl, rfl⟩, ⟨rfl, rfl⟩, ⟨rfl, rfl⟩, ⟨rfl, rfl⟩, ⟨rfl, rfl⟩, trivial⟩ (fun junk => ?_)
       refine e_ret ?_
       refine ret1 (v := .bool true) rfl rfl ?_
       exact ⟨rfl, S.below⟩
      exact aa_nil
     exact aa_nil
    exact aa_nil
   exact aa_nil
  · -- hk1 no
   refine l_y (v := .bool false) S (y_eqF rfl rfl hk1) ?_
   refine l_y (v := .bool false) S (y_as rfl) ?_
   refine l_nil ?_
   refine n_seq ?_
   refine e_cF rfl ?_
   refine e_seq ?_
   refine e_reg ?_
   by_cases hk2 : kind = 2
   · -- hk2 yes
    refine l_y (v := .bool true) S (y_eqT rfl rfl hk2) ?_
    refine l_y (v := .bool true) S (y_as rfl) ?_
    refine l_nil ?_
    refine n_seq ?_
    refine e_cT rfl ?_
    refine e_seq ?_
    refine e_reg ?_
    refine l_y (v := .func (.func 26) #[] #[.pointer (some ⟨g19, 0, none⟩)]) S (y_mv rfl) ?_
    refine l_y (v := .pointer (some ⟨g105, 0, none⟩)) S (y_fb FA44_0 rfl rfl) ?_
    refine l_y (v := .slice A96 (((ReadS ((ApplyS s (⟨author, s.clock, kind, key, item⟩ : Upd)).1)).1.regs).length) c97) S (y_ld rfl (fun w S => ld_b1 (i := 5) S rfl rfl T41)) ?_
    refine l_c (en_v (us := [.slice A96 (((ReadS ((ApplyS s (⟨author, s.clock, kind, key, item⟩ : Upd)).1)).1.regs).length) c97, .pointer (some ⟨g19, 0, none⟩)]) (CF 26 _) rfl rfl rfl) (Of1_c _ _ S.le _ ((ReadS ((ApplyS s (⟨author, s.clock, kind, key, item⟩ : Upd)).1)).1.regs) key _ h91 FP115) ?_
    rintro e w160 ⟨v165, rfl, h166, k⟩
    obtain ⟨rd161, S, L162, N163, X164⟩ := S.call' k; clear k
    replace h3 := fm h3 L162
    replace h5 := fm h5 L162
    replace h7 := fm h7 L162
    replace h36 := fm h36 L162
    replace h38 := fm h38 L162
    replace h40 := fm h40 L162
    replace h62 := fm h62 L162
    replace h64 := fm h64 L162
    replace h66 := fm h66 L162
    replace h91 := fm h91 L162
    replace h93 := fm h93 L162
    replace h95 := fm h95 L162
    replace FP115 := PtrC.mono FP115 L162
    replace FP118 := PtrC.mono FP118 L162
    replace h166 := fm h166 X164
    obtain ⟨A167, c168, rfl, m169, m169'⟩ := h166.val
    refine ckd ?_
    refine l_y (v := .int .i64 ((ofC ((ReadS ((ApplyS s (⟨author, s.clock, kind, key, item⟩ : Upd)).1)).1.regs) key).length : Int)) S (y_len U22 rfl rfl) ?_
    have h170 : ((ofC ((ReadS ((ApplyS s (⟨author, s.clock, kind, key, item⟩ : Upd)).1)).1.regs) key).length : Int) = 0 := by rw [hq.r2, hq.clear hk2]; rfl
    refine l_y (v := .bool true) S (y_eqT rfl rfl h170) ?_
    refine l_y (v := .bool true) S (y_as rfl) ?_
    refine l_nil ?_
    refine n_seq ?_
    refine e_ret ?_
    refine ret1 (v := .bool true) rfl rfl ?_
    exact ⟨rfl, S.below⟩
   · -- hk2 no
    refine l_y (v := .bool false) S (y_eqF rfl rfl hk2) ?_
    refine l_y (v := .bool false) S (y_as rfl) ?_
    refine l_nil ?_
    refine n_seq ?_
    refine e_cF rfl ?_
    refine e_seq ?_
    refine e_reg ?_
    by_cases hk3 : kind = 3
    · -- hk3 yes
     refine l_y (v := .bool true) S (y_eqT rfl rfl hk3) ?_
     refine l_y (v := .bool true) S (y_as rfl) ?_
     refine l_nil ?_
     refine n_seq ?_
     refine e_cT rfl ?_
     refine e_seq ?_
     refine e_reg ?_
     refine l_y (v := .func (.func 28) #[] #[.pointer (some ⟨g21, 0, none⟩)]) S (y_mv rfl) ?_
     refine l_y (v := .func (.func 26) #[] #[.pointer (some ⟨g19, 0, none⟩)]) S (y_mv rfl) ?_
     refine l_y (v := .pointer (some ⟨g105, 1, none⟩)) S (y_fb FA44_1 rfl rfl) ?_
     refine l_y (v := .slice A99 (((ReadS ((ApplyS s (⟨author, s.clock, kind, key, item⟩ : Upd)).1)).1.sets).length) c100) S (y_ld rfl (fun w S => ld_b1 (i := 5) S rfl rfl T41)) ?_
     refine l_c (en_v (us := [.slice A99 (((ReadS ((ApplyS s (⟨author, s.clock, kind, key, item⟩ : Upd)).1)).1.sets).length) c100, .pointer (some ⟨g19, 0, none⟩)]) (CF 26 _) rfl rfl rfl) (Of1_c _ _ S.le _ ((ReadS ((ApplyS s (⟨author, s.clock, kind, key, item⟩ : Upd)).1)).1.sets) key _ h93 FP115) ?_
     rintro e w171 ⟨v176, rfl, h177, k⟩
     obtain ⟨rd172, S, L173, N174, X175⟩ := S.call' k; clear k
     replace h3 := fm h3 L173
     replace h5 := fm h5 L173
     replace h7 := fm h7 L173
     replace h36 := fm h36 L173
     replace h38 := fm h38 L173
     replace h40 := fm h40 L173
     replace h62 := fm h62 L173
     replace h64 := fm h64 L173
     replace h66 := fm h66 L173
     replace h91 := fm h91 L173
     replace h93 := fm h93 L173
     replace h95 := fm h95 L173
     replace FP115 := PtrC.mono FP115 L173
     replace FP118 := PtrC.mono FP118 L173
     replace h177 := fm h177 X175
     obtain ⟨A178, c179, rfl, m180, m180'⟩ := h177.val
     refine ckd ?_
     refine l_c (en_v (us := [.slice A178 ((ofC ((ReadS ((ApplyS s (⟨author, s.clock, kind, key, item⟩ : Upd)).1)).1.sets) key).length) c179, .pointer (some ⟨g21, 0, none⟩)]) (CF 28 _) rfl rfl rfl) (In1_c _ _ S.le _ (ofC ((ReadS ((ApplyS s (⟨author, s.clock, kind, key, item⟩ : Upd)).1)).1.sets) key) item _ h177 FP118) ?_
     rintro e w181 ⟨rfl, k⟩
     have S := S.callq k; clear k
     have b182 : inL (ofC ((ReadS ((ApplyS s (⟨author, s.clock, kind, key, item⟩ : Upd)).1)).1.sets) key) item = true := by rw [hq.r2]; exact decide_eq_true (hq.add hk3)
     rw [b182]
     refine ckd ?_
     refine l_y (v := .bool true) S (y_as rfl) ?_
     refine l_nil ?_
     refine n_seq ?_
     refine e_ret ?_
     refine ret1 (v := .bool true) rfl rfl ?_
     exact ⟨rfl, S.below⟩
    · -- hk3 no
     refine l_y (v := .bool false) S (y_eqF rfl rfl hk3) ?_
     refine l_y (v := .bool false) S (y_as rfl) ?_
     refine l_nil ?_
     refine n_seq ?_
     refine e_cF rfl ?_
     refine e_seq ?_
     refine e_reg ?_
     by_cases hk4 : kind = 4
     · -- hk4 yes
      refine l_y (v := .bool true) S (y_eqT rfl rfl hk4) ?_
      refine l_y (v := .bool true) S (y_as rfl) ?_
      refine l_nil ?_
      refine n_seq ?_
      refine e_cT rfl ?_
      refine e_seq ?_
      refine e_reg ?_
      refine l_y (v := .func (.func 28) #[] #[.pointer (some ⟨g21, 0, none⟩)]) S (y_mv rfl) ?_
      refine l_y (v := .func (.func 26) #[] #[.pointer (some ⟨g19, 0, none⟩)]) S (y_mv rfl) ?_
      refine l_y (v := .pointer (some ⟨g105, 1, none⟩)) S (y_fb FA44_1 rfl rfl) ?_
      refine l_y (v := .slice A99 (((ReadS ((ApplyS s (⟨author, s.clock, kind, key, item⟩ : Upd)).1)).1.sets).length) c100) S (y_ld rfl (fun w S => ld_b1 (i := 5) S rfl rfl T41)) ?_
      refine l_c (en_v (us := [.slice A99 (((ReadS ((ApplyS s (⟨author, s.clock, kind, key, item⟩ : Upd)).1)).1.sets).length) c100, .pointer (some ⟨g19, 0, none⟩)]) (CF 26 _) rfl rfl rfl) (Of1_c _ _ S.le _ ((ReadS ((ApplyS s (⟨author, s.clock, kind, key, item⟩ : Upd)).1)).1.sets) key _ h93 FP115) ?_
      rintro e w183 ⟨v188, rfl, h189, k⟩
      obtain ⟨rd184, S, L185, N186, X187⟩ := S.call' k; clear k
      replace h3 := fm h3 L185
      replace h5 := fm h5 L185
      replace h7 := fm h7 L185
      replace h36 := fm h36 L185
      replace h38 := fm h38 L185
      replace h40 := fm h40 L185
      replace h62 := fm h62 L185
      replace h64 := fm h64 L185
      replace h66 := fm h66 L185
      replace h91 := fm h91 L185
      replace h93 := fm h93 L185
      replace h95 := fm h95 L185
      replace FP115 := PtrC.mono FP115 L185
      replace FP118 := PtrC.mono FP118 L185
      replace h189 := fm h189 X187
      obtain ⟨A190, c191, rfl, m192, m192'⟩ := h189.val
      refine ckd ?_
      refine l_c (en_v (us := [.slice A190 ((ofC ((ReadS ((ApplyS s (⟨author, s.clock, kind, key, item⟩ : Upd)).1)).1.sets) key).length) c191, .pointer (some ⟨g21, 0, none⟩)]) (CF 28 _) rfl rfl rfl) (In1_c _ _ S.le _ (ofC ((ReadS ((ApplyS s (⟨author, s.clock, kind, key, item⟩ : Upd)).1)).1.sets) key) item _ h189 FP118) ?_
      rintro e w193 ⟨rfl, k⟩
      have S := S.callq k; clear k
      have b194 : inL (ofC ((ReadS ((ApplyS s (⟨author, s.clock, kind, key, item⟩ : Upd)).1)).1.sets) key) item = false := by rw [hq.r2]; exact decide_eq_false (hq.rem hk4)
      rw [b194]
      refine ckd ?_
      refine l_y (v := .bool true) S (y_not rfl rfl) ?_
      refine l_y (v := .bool true) S (y_as rfl) ?_
      refine l_nil ?_
      refine n_seq ?_
      refine e_ret ?_
      refine ret1 (v := .bool true) rfl rfl ?_
      exact ⟨rfl, S.below⟩
     · -- hk4 no
      refine l_y (v := .bool false) S (y_eqF rfl rfl hk4) ?_
      refine l_y (v := .bool false) S (y_as rfl) ?_
      refine l_nil ?_
      refine n_seq ?_
      refine e_cF rfl ?_
      refine e_skip ?_
      refine n_blk ?_
      refine n_seq ?_
      refine e_seq ?_
      refine e_a (fun w => St [] W (wrd W) rd116 [(g17, 27, #[.slice A8 s.clock.length c9, .slice A11 s.lives.length c12, .slice A14 s.tallies.length c15]), (g24, 29, #[.int .i64 author, .slice A8 s.clock.length c9, .int .i64 kind, .int .i64 key, .int .i64 item]), (g50, 27, #[.slice A41 (((ApplyS s (⟨author, s.clock, kind, key, item⟩ : Upd)).1.clock).length) c42, .slice A44 (((ApplyS s (⟨author, s.clock, kind, key, item⟩ : Upd)).1.lives).length) c45, .slice A47 (((ApplyS s (⟨author, s.clock, kind, key, item⟩ : Upd)).1.tallies).length) c48]), (g76, 44, #[.slice A67 (((ReadS s).1.regs).length) c68, .slice A70 (((ReadS s).1.sets).length) c71, .slice A73 (((ReadS s).1.counters).length) c74]), (g78, 33, #[.int .i64 ((ReadS s).2.1), .int .i64 ((ReadS s).2.2)]), (g105, 44, #[.slice A96 (((ReadS ((ApplyS s (⟨author, s.clock, kind, key, item⟩ : Upd)).1)).1.regs).length) c97, .slice A99 (((ReadS ((ApplyS s (⟨author, s.clock, kind, key, item⟩ : Upd)).1)).1.sets).length) c100, .slice A102 (((ReadS ((ApplyS s (⟨author, s.clock, kind, key, item⟩ : Upd)).1)).1.counters).length) c103]), (g107, 33, #[.int .i64 ((ReadS ((ApplyS s (⟨author, s.clock, kind, key, item⟩ : Upd)).1)).2.1), .int .i64 ((ReadS ((ApplyS s (⟨author, s.clock, kind, key, item⟩ : Upd)).1)).2.2)])] [] w) MX rfl ?_
      have S := S.drew; have sup195 := S.sup
      have SC : St [] W (wrd W) rd116 [(g17, 27, #[.slice A8 s.clock.length c9, .slice A11 s.lives.length c12, .slice A14 s.tallies.length c15]), (g24, 29, #[.int .i64 author, .slice A8 s.clock.length c9, .int .i64 kind, .int .i64 key, .int .i64 item]), (g50, 27, #[.slice A41 (((ApplyS s (⟨author, s.clock, kind, key, item⟩ : Upd)).1.clock).length) c42, .slice A44 (((ApplyS s (⟨author, s.clock, kind, key, item⟩ : Upd)).1.lives).length) c45, .slice A47 (((ApplyS s (⟨author, s.clock, kind, key, item⟩ : Upd)).1.tallies).length) c48]), (g76, 44, #[.slice A67 (((ReadS s).1.regs).length) c68, .slice A70 (((ReadS s).1.sets).length) c71, .slice A73 (((ReadS s).1.counters).length) c74]), (g78, 33, #[.int .i64 ((ReadS s).2.1), .int .i64 ((ReadS s).2.2)]), (g105, 44, #[.slice A96 (((ReadS ((ApplyS s (⟨author, s.clock, kind, key, item⟩ : Upd)).1)).1.regs).length) c97, .slice A99 (((ReadS ((ApplyS s (⟨author, s.clock, kind, key, item⟩ : Upd)).1)).1.sets).length) c100, .slice A102 (((ReadS ((ApplyS s (⟨author, s.clock, kind, key, item⟩ : Upd)).1)).1.counters).length) c103]), (g107, 33, #[.int .i64 ((ReadS ((ApplyS s (⟨author, s.clock, kind, key, item⟩ : Upd)).1)).2.1), .int .i64 ((ReadS ((ApplyS s (⟨author, s.clock, kind, key, item⟩ : Upd)).1)).2.2)])] [] _ := (S.tk 7 0 rfl rfl).rw' rfl rfl
      refine a_take (v := .func (.func 27) #[] #[.pointer (some ⟨g19, 0, none⟩)]) 0 rfl rfl (by kernel_rfl) (by kernel_rfl) (by kernel_rfl) SC rfl (y_mv rfl) ?_
      refine a_take (v := .agg #[.slice A96 (((ReadS ((ApplyS s (⟨author, s.clock, kind, key, item⟩ : Upd)).1)).1.regs).length) c97, .slice A99 (((ReadS ((ApplyS s (⟨author, s.clock, kind, key, item⟩ : Upd)).1)).1.sets).length) c100, .slice A102 (((ReadS ((ApplyS s (⟨author, s.clock, kind, key, item⟩ : Upd)).1)).1.counters).length) c103]) 1 rfl rfl (by kernel_rfl) (by kernel_rfl) (by kernel_rfl) SC rfl (y_ld rfl (fun w S => ld_bA (vs := [.slice A96 (((ReadS ((ApplyS s (⟨author, s.clock, kind, key, item⟩ : Upd)).1)).1.regs).length) c97, .slice A99 (((ReadS ((ApplyS s (⟨author, s.clock, kind, key, item⟩ : Upd)).1)).1.sets).length) c100, .slice A102 (((ReadS ((ApplyS s (⟨author, s.clock, kind, key, item⟩ : Upd)).1)).1.counters).length) c103]) (i := 5) S rfl T44 rfl rfl)) ?_
      refine a_take (v := .func (.func 27) #[] #[.pointer (some ⟨g19, 0, none⟩)]) 3 rfl rfl (by kernel_rfl) (by kernel_rfl) (by kernel_rfl) SC rfl (y_mv rfl) ?_
      refine a_take (v := .agg #[.slice A67 (((ReadS s).1.regs).length) c68, .slice A70 (((ReadS s).1.sets).length) c71, .slice A73 (((ReadS s).1.counters).length) c74]) 4 rfl rfl (by kernel_rfl) (by kernel_rfl) (by kernel_rfl) SC rfl (y_ld rfl (fun w S => ld_bA (vs := [.slice A67 (((ReadS s).1.regs).length) c68, .slice A70 (((ReadS s).1.sets).length) c71, .slice A73 (((ReadS s).1.counters).length) c74]) (i := 3) S rfl T44 rfl rfl)) ?_
      refine a_take (v := .int .i64 item) 6 rfl rfl (by kernel_rfl) (by kernel_rfl) (by kernel_rfl) SC rfl (y_ld rfl (fun w S => ld_p1 S.le FP118 rfl T3)) ?_
      refine a_all (rs := [2]) (by kernel_rfl) rfl ?_
      refine aa_cons rfl ?_ ?_
      · -- operation 2
       refine l_c (en_v (us := [.agg #[.slice A96 (((ReadS ((ApplyS s (⟨author, s.clock, kind, key, item⟩ : Upd)).1)).1.regs).length) c97, .slice A99 (((ReadS ((ApplyS s (⟨author, s.clock, kind, key, item⟩ : Upd)).1)).1.sets).length) c100, .slice A102 (((ReadS ((ApplyS s (⟨author, s.clock, kind, key, item⟩ : Upd)).1)).1.counters).length) c103], .pointer (some ⟨g19, 0, none⟩)]) (CF 27 _) rfl rfl rfl) (Num1_c _ _ S.le _ ((ReadS ((ApplyS s (⟨author, s.clock, kind, key, item⟩ : Upd)).1)).1) key _ (⟨_, rfl, ⟨_, _, _, rfl, h91, h93, h95⟩⟩ : AggR ViewR rd116 _ ((ReadS ((ApplyS s (⟨author, s.clock, kind, key, item⟩ : Upd)).1)).1)) FP115) ?_
       rintro e w196 ⟨rfl, k⟩
       have S := S.callq k; clear k
       refine ckd ?_
       refine l_nil ?_
       have SC : St [] W (wrd W) rd116 [(g17, 27, #[.slice A8 s.clock.length c9, .slice A11 s.lives.length c12, .slice A14 s.tallies.length c15]), (g24, 29, #[.int .i64 author, .slice A8 s.clock.length c9, .int .i64 kind, .int .i64 key, .int .i64 item]), (g50, 27, #[.slice A41 (((ApplyS s (⟨author, s.clock, kind, key, item⟩ : Upd)).1.clock).length) c42, .slice A44 (((ApplyS s (⟨author, s.clock, kind, key, item⟩ : Upd)).1.lives).length) c45, .slice A47 (((ApplyS s (⟨author, s.clock, kind, key, item⟩ : Upd)).1.tallies).length) c48]), (g76, 44, #[.slice A67 (((ReadS s).1.regs).length) c68, .slice A70 (((ReadS s).1.sets).length) c71, .slice A73 (((ReadS s).1.counters).length) c74]), (g78, 33, #[.int .i64 ((ReadS s).2.1), .int .i64 ((ReadS s).2.2)]), (g105, 44, #[.slice A96 (((ReadS ((ApplyS s (⟨author, s.clock, kind, key, item⟩ : Upd)).1)).1.regs).length) c97, .slice A99 (((ReadS ((ApplyS s (⟨author, s.clock, kind, key, item⟩ : Upd)).1)).1.sets).length) c100, .slice A102 (((ReadS ((ApplyS s (⟨author, s.clock, kind, key, item⟩ : Upd)).1)).1.counters).length) c103]), (g107, 33, #[.int .i64 ((ReadS ((ApplyS s (⟨author, s.clock, kind, key, item⟩ : Upd)).1)).2.1), .int .i64 ((ReadS ((ApplyS s (⟨author, s.clock, kind, key, item⟩ : Upd)).1)).2.2)])] [] _ := (S.tk 7 0 rfl rfl).rw' rfl rfl
       refine n_lp (ak SC ?_)
       refine a_all (rs := [5]) (by kernel_rfl) rfl ?_
       refine aa_cons rfl ?_ ?_
       · -- operation 5
        refine l_c (en_v (us := [.agg #[.slice A67 (((ReadS s).1.regs).length) c68, .slice A70 (((ReadS s).1.sets).length) c71, .slice A73 (((ReadS s).1.counters).length) c74], .pointer (some ⟨g19, 0, none⟩)]) (CF 27 _) rfl rfl rfl) (Num1_c _ _ S.le _ ((ReadS s).1) key _ (⟨_, rfl, ⟨_, _, _, rfl, h62, h64, h66⟩⟩ : AggR ViewR rd116 _ ((ReadS s).1)) FP115) ?_
        rintro e w197 ⟨rfl, k⟩
        have S := S.callq k; clear k
        refine ckd ?_
        refine l_nil ?_
        have SC : St [] W (wrd W) rd116 [(g17, 27, #[.slice A8 s.clock.length c9, .slice A11 s.lives.length c12, .slice A14 s.tallies.length c15]), (g24, 29, #[.int .i64 author, .slice A8 s.clock.length c9, .int .i64 kind, .int .i64 key, .int .i64 item]), (g50, 27, #[.slice A41 (((ApplyS s (⟨author, s.clock, kind, key, item⟩ : Upd)).1.clock).length) c42, .slice A44 (((ApplyS s (⟨author, s.clock, kind, key, item⟩ : Upd)).1.lives).length) c45, .slice A47 (((ApplyS s (⟨author, s.clock, kind, key, item⟩ : Upd)).1.tallies).length) c48]), (g76, 44, #[.slice A67 (((ReadS s).1.regs).length) c68, .slice A70 (((ReadS s).1.sets).length) c71, .slice A73 (((ReadS s).1.counters).length) c74]), (g78, 33, #[.int .i64 ((ReadS s).2.1), .int .i64 ((ReadS s).2.2)]), (g105, 44, #[.slice A96 (((ReadS ((ApplyS s (⟨author, s.clock, kind, key, item⟩ : Upd)).1)).1.regs).length) c97, .slice A99 (((ReadS ((ApplyS s (⟨author, s.clock, kind, key, item⟩ : Upd)).1)).1.sets).length) c100, .slice A102 (((ReadS ((ApplyS s (⟨author, s.clock, kind, key, item⟩ : Upd)).1)).1.counters).length) c103]), (g107, 33, #[.int .i64 ((ReadS ((ApplyS s (⟨author, s.clock, kind, key, item⟩ : Upd)).1)).2.1), .int .i64 ((ReadS ((ApplyS s (⟨author, s.clock, kind, key, item⟩ : Upd)).1)).2.2)])] [] _ := (S.tk 7 0 rfl rfl).rw' rfl rfl
        refine n_lp (ak SC ?_)
        refine a_take (v := .int .i64 (numP ((ReadS s).1).counters key + item)) 7 rfl rfl (by kernel_rfl) (by kernel_rfl) (by kernel_rfl) SC rfl (y_add (r := numP ((ReadS s).1).counters key + item) rfl rfl (by rw [hq.r1]; exact w64 (by dsimp only; omega) (by dsimp only; omega))) ?_
        have h198 : numP ((ReadS ((ApplyS s (⟨author, s.clock, kind, key, item⟩ : Upd)).1)).1).counters key = numP ((ReadS s).1).counters key + item := by rw [hq.r1, hq.r2]; exact (hq.cnt hk1 hk2 hk3 hk4).1
        refine a_take (v := .bool true) 8 rfl rfl (by kernel_rfl) (by kernel_rfl) (by kernel_rfl) SC rfl (y_eqT rfl rfl h198) ?_
        refine a_take (v := .bool true) 9 rfl rfl (by kernel_rfl) (by kernel_rfl) (by kernel_rfl) SC rfl (y_mv rfl) ?_
        refine a_takeg (d' := 116) (v := .pointer (some ⟨g76, 0, none⟩)) 10 rfl rfl (by kernel_rfl) (by kernel_rfl) (by kernel_rfl) SC rfl rfl rfl (y_fb FA44_0 rfl rfl) ?_
        refine a_takeg (d' := 116) (v := .slice A67 (((ReadS s).1.regs).length) c68) 11 rfl rfl (by kernel_rfl) (by kernel_rfl) (by kernel_rfl) SC rfl rfl rfl (y_ld rfl (fun w S => ld_b1 (i := 3) S rfl rfl T41)) ?_
        refine a_takeg (d' := 116) (v := .pointer (some ⟨g76, 1, none⟩)) 12 rfl rfl (by kernel_rfl) (by kernel_rfl) (by kernel_rfl) SC rfl rfl rfl (y_fb FA44_1 rfl rfl) ?_
        refine a_takeg (d' := 116) (v := .slice A70 (((ReadS s).1.sets).length) c71) 13 rfl rfl (by kernel_rfl) (by kernel_rfl) (by kernel_rfl) SC rfl rfl rfl (y_ld rfl (fun w S => ld_b1 (i := 3) S rfl rfl T41)) ?_
        refine a_takeg (d' := 116) (v := .agg #[.slice A67 (((ReadS s).1.regs).length) c68, .slice A70 (((ReadS s).1.sets).length) c71, .slice none 0 0]) 14 rfl rfl (by kernel_rfl) (by kernel_rfl) (by kernel_rfl) SC rfl rfl rfl (y_bd (ps := [(0, .slice A67 (((ReadS s).1.regs).length) c68), (1, .slice A70 (((ReadS s).1.sets).length) c71)]) rfl (fun _ => by kernel_rfl)) ?_
        refine a_takeg (d' := 116) (v := .pointer (some ⟨g105, 0, none⟩)) 15 rfl rfl (by kernel_rfl) (by kernel_rfl) (by kernel_rfl) SC rfl rfl rfl (y_fb FA44_0 rfl rfl) ?_
        refine a_takeg (d' := 116) (v := .slice A96 (((ReadS ((ApplyS s (⟨author, s.clock, kind, key, item⟩ : Upd)).1)).1.regs).length) c97) 16 rfl rfl (by kernel_rfl) (by kernel_rfl) (by kernel_rfl) SC rfl rfl rfl (y_ld rfl (fun w S => ld_b1 (i := 5) S rfl rfl T41)) ?_
        refine a_takeg (d' := 116) (v := .pointer (some ⟨g105, 1, none⟩)) 17 rfl rfl (by kernel_rfl) (by kernel_rfl) (by kernel_rfl) SC rfl rfl rfl (y_fb FA44_1 rfl rfl) ?_
        refine a_takeg (d' := 116) (v := .slice A99 (((ReadS ((ApplyS s (⟨author, s.clock, kind, key, item⟩ : Upd)).1)).1.sets).length) c100) 18 rfl rfl (by kernel_rfl) (by kernel_rfl) (by kernel_rfl) SC rfl rfl rfl (y_ld rfl (fun w S => ld_b1 (i := 5) S rfl rfl T41)) ?_
        refine a_takeg (d' := 116) (v := .agg #[.slice A96 (((ReadS ((ApplyS s (⟨author, s.clock, kind, key, item⟩ : Upd)).1)).1.regs).length) c97, .slice A99 (((ReadS ((ApplyS s (⟨author, s.clock, kind, key, item⟩ : Upd)).1)).1.sets).length) c100, .slice none 0 0]) 19 rfl rfl (by kernel_rfl) (by kernel_rfl) (by kernel_rfl) SC rfl rfl rfl (y_bd (ps := [(0, .slice A96 (((ReadS ((ApplyS s (⟨author, s.clock, kind, key, item⟩ : Upd)).1)).1.regs).length) c97), (1, .slice A99 (((ReadS ((ApplyS s (⟨author, s.clock, kind, key, item⟩ : Upd)).1)).1.sets).length) c100)]) rfl (fun _ => by kernel_rfl)) ?_
        refine a_all (rs := [20]) (by kernel_rfl) rfl ?_
        refine aa_cons rfl ?_ ?_
        · -- operation 20
         refine l_cg (d' := 116) (en_f (vs := [.agg #[.slice A67 (((ReadS s).1.regs).length) c68, .slice A70 (((ReadS s).1.sets).length) c71, .slice none 0 0], .agg #[.slice A96 (((ReadS ((ApplyS s (⟨author, s.clock, kind, key, item⟩ : Upd)).1)).1.regs).length) c97, .slice A99 (((ReadS ((ApplyS s (⟨author, s.clock, kind, key, item⟩ : Upd)).1)).1.sets).length) c100, .slice none 0 0]]) (CF 22 _) rfl rfl) rfl rfl (SameView_c _ _ S.le _ _ (⟨(ReadS s).1.regs, (ReadS s).1.sets, []⟩ : View) (⟨(ReadS ((ApplyS s (⟨author, s.clock, kind, key, item⟩ : Upd)).1)).1.regs, (ReadS ((ApplyS s (⟨author, s.clock, kind, key, item⟩ : Upd)).1)).1.sets, []⟩ : View) (⟨_, rfl, ⟨_, _, _, rfl, h62, h64, (SliceR.nil_ _)⟩⟩ : AggR ViewR rd116 _ (⟨(ReadS s).1.regs, (ReadS s).1.sets, []⟩ : View)) (⟨_, rfl, ⟨_, _, _, rfl, h91, h93, (SliceR.nil_ _)⟩⟩ : AggR ViewR rd116 _ (⟨(ReadS ((ApplyS s (⟨author, s.clock, kind, key, item⟩ : Upd)).1)).1.regs, (ReadS ((ApplyS s (⟨author, s.clock, kind, key, item⟩ : Upd)).1)).1.sets, []⟩ : View))) ?_
         rintro e w199 ⟨rfl, k⟩
         have S := S.callq k; clear k
         have b200 : sameV (⟨(ReadS s).1.regs, (ReadS s).1.sets, []⟩ : View) (⟨(ReadS ((ApplyS s (⟨author, s.clock, kind, key, item⟩ : Upd)).1)).1.regs, (ReadS ((ApplyS s (⟨author, s.clock, kind, key, item⟩ : Upd)).1)).1.sets, []⟩ : View) = true := by rw [hq.r1, hq.r2]; simp [sameV, (hq.cnt hk1 hk2 hk3 hk4).2.1, (hq.cnt hk1 hk2 hk3 hk4).2.2]
         rw [b200]
         refine ckd ?_
         refine l_nil ?_
         have SC : St [] W (wrd W) rd116 [(g17, 27, #[.slice A8 s.clock.length c9, .slice A11 s.lives.length c12, .slice A14 s.tallies.length c15]), (g24, 29, #[.int .i64 author, .slice A8 s.clock.length c9, .int .i64 kind, .int .i64 key, .int .i64 item]), (g50, 27, #[.slice A41 (((ApplyS s (⟨author, s.clock, kind, key, item⟩ : Upd)).1.clock).length) c42, .slice A44 (((ApplyS s (⟨author, s.clock, kind, key, item⟩ : Upd)).1.lives).length) c45, .slice A47 (((ApplyS s (⟨author, s.clock, kind, key, item⟩ : Upd)).1.tallies).length) c48]), (g76, 44, #[.slice A67 (((ReadS s).1.regs).length) c68, .slice A70 (((ReadS s).1.sets).length) c71, .slice A73 (((ReadS s).1.counters).length) c74]), (g78, 33, #[.int .i64 ((ReadS s).2.1), .int .i64 ((ReadS s).2.2)]), (g105, 44, #[.slice A96 (((ReadS ((ApplyS s (⟨author, s.clock, kind, key, item⟩ : Upd)).1)).1.regs).length) c97, .slice A99 (((ReadS ((ApplyS s (⟨author, s.clock, kind, key, item⟩ : Upd)).1)).1.sets).length) c100, .slice A102 (((ReadS ((ApplyS s (⟨author, s.clock, kind, key, item⟩ : Upd)).1)).1.counters).length) c103]), (g107, 33, #[.int .i64 ((ReadS ((ApplyS s (⟨author, s.clock, kind, key, item⟩ : Upd)).1)).2.1), .int .i64 ((ReadS ((ApplyS s (⟨author, s.clock, kind, key, item⟩ : Upd)).1)).2.2)])] [] _ := (S.tk 7 0 rfl rfl).rw' rfl rfl
         refine n_lp (ak SC ?_)
         refine a_take (v := .bool true) 21 rfl rfl (by kernel_rfl) (by kernel_rfl) (by kernel_rfl) SC rfl (y_pT rfl rfl) ?_
         refine a_take (v := .bool true) 22 rfl rfl (by kernel_rfl) (by kernel_rfl) (by kernel_rfl) SC rfl (y_as rfl) ?_
         refine a_done (by kernel_rfl) ?_
         clear SC
         refine n_seq ?_
         refine e_trim [(10, .bool true)] ⟨⟨rfl, rfl⟩, trivial⟩ (fun junk => ?_)
         refine e_ret ?_
         refine ret1 (v := .bool true) rfl rfl ?_
         exact ⟨rfl, S.below⟩
        exact aa_nil
       exact aa_nil
      exact aa_nil
 · -- hA no
  refine l_y (v := .bool true) S (y_neT rfl rfl hA) ?_
  refine l_nil ?_
  refine n_seq ?_
  refine e_trim [(2, .int .i64 kind), (5, .pointer (some ⟨g17, 0, none⟩)), (8, .pointer (some ⟨g19, 0, none⟩)), (9, .pointer (some ⟨g21, 0, none⟩)), (10, .bool false), (12, .pointer (some ⟨g50, 0, none⟩)), (37, .bool true)] ⟨⟨rfl, rfl⟩, ⟨rfl, rfl⟩, ⟨rfl, rfl⟩, ⟨rfl, rfl⟩, ⟨rfl, rfl⟩, ⟨rfl, rfl⟩, ⟨rfl, rfl⟩, trivial⟩ (fun junk => ?_)
  refine e_cT rfl ?_
  refine e_seq ?_
  refine e_reg ?_
  refine l_y (v := .bool true) S (y_as rfl) ?_
  refine l_nil ?_
  refine n_seq ?_
  refine e_ret ?_
  refine ret1 (v := .bool true) rfl rfl ?_
  exact ⟨rfl, S.below⟩
set_option maxRecDepth 100000 in
theorem StatePut_lifted (os : Os) (started : os.Started) (H : Type) (enc : TypeId × Value → H) :
    ReturnsInHanded {} Try.checked os 6 .any (Rows.statePutSpec.pre6 enc Try.prog Try.f6 Rows.statePutRow.domain false) (Rows.statePutSpec.post enc Try.prog Try.f6 false true false false) := by
  refine returnsInHanded_of_change_sized (C := Try.checked) own_ started (by kernel_rfl) Try.func6
    (ChangeSpec.witness6 (enc := enc) (C := Try.checked) false ⟨#[], #[.agg #[.slice none 0 0, .slice none 0 0, .slice none 0 0], .int .i64 0, .int .i64 0, .int .i64 0, .int .i64 0], []⟩ 8 (by kernel_rfl) (by kernel_rfl) (by kernel_rfl) (by kernel_rfl)) ?_
  intro W base args ds gs before hval0 hW _ hsz0 _
  have hval : ∀ (j : Nat) t v, Try.f6.params[j]? = some t → args[j]? = some v → Value.okWide Try.prog W .any base t v := hval0
  have hsz : (DataW.weightsEach Try.prog (Try.f6.params.toList ++ Rows.statePutSpec.plain.varTypes Try.prog) (ds ++ gs)).all (· ≤ reachBytes) = true := hsz0
  have hW' := hW
  obtain ⟨p, q, hA0, hV, rfl, _, _⟩ := hW
  obtain ⟨rfl, rfl⟩ := trodVars_none hV
  have hA : DataW.TrodAll enc Try.prog W 0 (fun _ => true) true Try.f6.params.toList args.toList ds p := hA0
  rw [Try.params6] at hA hval hsz
  obtain ⟨v1, vs1, d1, ds1, p1, q1, e1, rfl, rfl, t1, r1⟩ := trodAll_cons hA
  obtain ⟨v2, vs2, d2, ds2, p2, q2, rfl, rfl, rfl, t2, r2⟩ := trodAll_cons r1
  obtain ⟨v3, vs3, d3, ds3, p3, q3, rfl, rfl, rfl, t3, r3⟩ := trodAll_cons r2
  obtain ⟨v4, vs4, d4, ds4, p4, q4, rfl, rfl, rfl, t4, r4⟩ := trodAll_cons r3
  obtain ⟨v5, vs5, d5, ds5, p5, q5, rfl, rfl, rfl, t5, r5⟩ := trodAll_cons r4
  obtain ⟨rfl, rfl, rfl⟩ := trodAll_nil r5
  obtain rfl : args = #[v1, v2, v3, v4, v5] := by cases args; simp_all
  obtain ⟨z1, hsz⟩ := weights_each hsz
  obtain ⟨z2, hsz⟩ := weights_each hsz
  obtain ⟨z3, hsz⟩ := weights_each hsz
  obtain ⟨z4, hsz⟩ := weights_each hsz
  obtain ⟨z5, hsz⟩ := weights_each hsz
  obtain ⟨a1, ha1, hb1⟩ := arg_agg Try.underlying27 op_state (hval 0 _ v1 rfl rfl) t1 z1
  obtain ⟨n2, rfl, rfl, rfl, hw2⟩ := open_int Try.underlying3 (hval 1 _ v2 rfl rfl) t2
  obtain ⟨n3, rfl, rfl, rfl, hw3⟩ := open_int Try.underlying3 (hval 2 _ v3 rfl rfl) t3
  obtain ⟨n4, rfl, rfl, rfl, hw4⟩ := open_int Try.underlying3 (hval 3 _ v4 rfl rfl) t4
  obtain ⟨n5, rfl, rfl, rfl, hw5⟩ := open_int Try.underlying3 (hval 4 _ v5 rfl rfl) t5
  refine (StatePut_calls W v1 a1 ha1 hb1 n2 hw2 n3 hw3 n4 hw4 n5 hw5).mono fun e W' ⟨he, hbl⟩ => ?_
  subst he
  exact ⟨_, rfl, close_law laidOut (by kernel_rfl) rfl (fun gs h => by subst h; rfl) rfl (tb := 4) Try.underlying4 hW' hbl⟩

theorem StatePut_holds : Rows.StatePutSaid :=
  OpenClaim.holds_of_wide 6 Try.f6 rfl rfl rfl rfl rfl rfl rfl ⟨rfl, rfl, rfl, rfl, rfl⟩ rfl rfl rfl rfl rfl (by kernel_rfl) Try.func6 (by kernel_rfl)
    (of_decide_eq_true (by kernel_rfl)) (by unfold Func.isWrapper; first | (rw [if_pos (by decide +kernel)]; kernel_rfl) | (rw [if_neg (by decide +kernel)]; exact ⟨rfl, rfl⟩))
    (fun os started H enc _ => StatePut_lifted os started H enc)
#print axioms StatePut_holds
end Go.Proofs.Ytkjknlnhffmkkab
