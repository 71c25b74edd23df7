/- log.Sorted. -/
import Derived.Test.YtkjknlnhffmkkabQPl
import Derived.Test.YtkjknlnhffmkkabQDelete
import Derived.Test.YtkjknlnhffmkkabQEg
import Derived.Test.YtkjknlnhffmkkabQTick
import Derived.Test.YtkjknlnhffmkkabQLog
import Derived.Test.YtkjknlnhffmkkabQClone
import Derived.Test.YtkjknlnhffmkkabQUpdate
import Derived.Test.YtkjknlnhffmkkabQUpdate2
namespace Go.Proofs.Ytkjknlnhffmkkab
open Go.RowKit
set_option linter.unusedVariables false
theorem St.swapO {X : List Nat} {W w : World} {r0 rd : Rd} {bx : List BxE} {p q : OwE} (S : St X W r0 rd bx [p, q] w) : St X W r0 rd bx [q, p] w := by
  refine ⟨S.fr, S.sub, S.sup, S.le, S.box, fun r hr => S.own r (by simp only [List.mem_cons, List.not_mem_nil, or_false] at hr ⊢; exact hr.symm), S.d1, ?_, fun r hr s hs => S.d3 r hr s (by simp only [List.mem_cons, List.not_mem_nil, or_false] at hs ⊢; exact hs.symm)⟩
  have h := S.d2
  rw [List.pairwise_cons] at h ⊢
  refine ⟨fun r hr => ?_, List.pairwise_singleton _ _⟩
  obtain rfl := List.mem_singleton.1 hr
  have h := h.1 q (by simp)
  rcases h with h | h
  · cases hq : q.v.ownBlock with
    | none => exact .inl rfl
    | some k => exact .inr (by rw [h]; simp)
  · exact .inr fun e => h e.symm
theorem DelU_o (rd : Rd) (W : World) (hle : Rd.le rd (wrd W)) (v : Value) (n i : Nat) (xs : List Value) (l : List Upd) (hv : W.ownsRow 0 29 5 v n xs) (hrd : ∀ g, v.ownBlock = some g → ∀ o, rd g o = none) (hr : RowR 5 UpdR rd xs l) (hn : n = l.length) (hi : i < n) :
    Calls Try.prog 60 #[v, (.int .i64 (i : Int)), (.int .i64 ((i : Int) + 1))] W fun e w' => ∃ v' xs', e = .returned v' ∧ w'.ownsRow 0 29 5 v' (n - 1) xs' ∧ RowR 5 UpdR rd xs' (l.eraseIdx i) ∧ (∀ g', v'.ownBlock = some g' → v.ownBlock = some g' ∨ W.heap.size ≤ g') ∧ Frm v.ownBlock.toList W w' := by
  rcases hv.2 with ⟨rfl, rfl⟩ | ⟨g, cap, cur, rfl, _, hg, hc, hm, hs, rfl⟩
  · omega
  · refine (DelU_c rd W hle g n cap cur l hg (hrd g rfl) hs hr hn hc hm i hi).mono fun e w' ⟨cur', h1, h2, h3, h4, h5⟩ => ⟨_, _, h1, ⟨?_, .inr ⟨g, cap, cur', rfl, Nat.zero_le _, h2, by omega, hm, h3, rfl⟩⟩, h4, fun g' k => .inl k, h5⟩
    have hA : cur'.toList.length = cur'.size := rfl
    rw [List.length_take]; omega
theorem UOwn_m (rd : Rd) (W : World) (hle : Rd.le rd (wrd W)) (v : Value) (u : Upd) (h : AggR UpdR rd v u) (hb : u.seen.length * 8 ≤ 140737488355328) : Calls Try.prog 59 #[v] W fun e w' => ∃ v', e = .returned v' ∧ AggR UpdR (ext rd W w') v' u ∧ Below W.heap.size W w' :=
  (Own_calls v u rd W h hle hb).mono fun e w' ⟨r, h1, h2, k⟩ => ⟨r, h1, am h2 newer_ext, k⟩
set_option maxRecDepth 100000 in
set_option maxHeartbeats 8000000 in
theorem LSorted_c (rd : Rd) (W : World) (hle : Rd.le rd (wrd W)) (v v2 : Value) (base : List Int) (l : List Upd) (n : Int) (h : SliceR 1 IntR rd v base) (h2 : SliceR 5 UpdR rd v2 l) :
    Calls Try.prog 30 #[v, v2, (.int .i64 n)] W (fun e w' => ∃ v', e = .returned (.tuple #[v', .agg #[.int .i64 (SortL base l n).2.1, .int .i64 (SortL base l n).2.2]]) ∧ SliceR 5 UpdR (ext rd W w') v' (SortL base l n).1 ∧ Below W.heap.size W w') := by
 obtain ⟨A1, c2, rfl, m3, m3'⟩ := h.val
 obtain ⟨A4, c5, rfl, m6, m6'⟩ := h2.val
 have hmx : maxLen = 9223372036854775807 := rfl
 have S : St [] W rd rd [] [] W := St.start hle
 refine e_enter (args := [.slice A1 base.length c2, .slice A4 l.length c5, .int .i64 n]) 94 Try.func30 rfl rfl rfl ?_
 refine e_seq ?_
 refine e_reg ?_
 refine l_y (v := .slice none 0 0) S (y_as rfl) ?_
 refine l_al (cs := #[.int .i64 0, .int .i64 0]) S Z33 rfl fun g7 w8 S => ?_
 refine l_nil ?_
 refine n_seq ?_
 refine e_seq ?_
 refine e_seq ?_
 refine e_reg ?_
 refine l_y (v := .slice A1 base.length c2) S (y_mv rfl) ?_
 refine l_y (v := .slice A4 l.length c5) S (y_mv rfl) ?_
 refine l_y (v := .int .i64 n) S (y_mv rfl) ?_
 refine l_c (en_f (vs := [.slice A1 base.length c2, .slice A4 l.length c5, .int .i64 n]) (CF 35 _) rfl rfl) (Clock_calls _ _ _ _ _ _ (fm h S.le) (fm h2 S.le)) ?_
 rintro e w11 ⟨r9, rfl, h10, k⟩
 obtain ⟨rd12, S, L13, N14, X15⟩ := S.call' k; clear k
 replace h := fm h L13
 replace h2 := fm h2 L13
 have h10 := fm h10 N14
 obtain ⟨A16, c17, rfl, m18, m18'⟩ := h10.val
 refine ckd ?_
 refine l_y (v := .tuple #[.slice A16 (((clockL base l n).1).length) c17, .agg #[.int .i64 ((clockL base l n).2.1), .int .i64 ((clockL base l n).2.2)]]) S (y_mv rfl) ?_
 refine l_y (v := .slice A16 (((clockL base l n).1).length) c17) S (y_ex rfl rfl) ?_
 refine l_y (v := .agg #[.int .i64 ((clockL base l n).2.1), .int .i64 ((clockL base l n).2.2)]) S (y_ex rfl rfl) ?_
 refine l_al (cs := #[.int .i64 0, .int .i64 0]) S Z33 rfl fun g19 w20 S => ?_
 refine l_y (v := .slice A16 (((clockL base l n).1).length) c17) S (y_as rfl) ?_
 refine l_st (u := .agg #[.int .i64 ((clockL base l n).2.1), .int .i64 ((clockL base l n).2.2)]) (i := 1) (cs' := #[.int .i64 ((clockL base l n).2.1), .int .i64 ((clockL base l n).2.2)]) S rfl rfl rfl SZ33 rfl rfl rfl fun w21 S => ?_
 refine l_nil ?_
 refine n_seq ?_
 refine e_seq ?_
 refine e_reg ?_
 refine l_y (v := .pointer (some ⟨g19, 0, none⟩)) S (y_fb FA33_0 rfl rfl) ?_
 refine l_y (v := .int .i64 ((clockL base l n).2.1)) S (y_ld rfl (fun w S => ld_b1 (i := 1) S rfl rfl T31)) ?_
 by_cases hC : (clockL base l n).2.1 = 0
 · -- hC yes
  refine l_y (v := .bool false) S (y_neF rfl rfl hC) ?_
  refine l_nil ?_
  refine n_seq ?_
  refine e_cF rfl ?_
  refine e_skip ?_
  refine n_seq ?_
  refine e_seq ?_
  refine e_reg ?_
  obtain ⟨hw, hl3, hf⟩ := sort_pre hC; have hb6 := wrongC_ok hw
  refine l_y (v := .slice A1 base.length c2) S (y_mv rfl) ?_
  refine l_c (en_f (vs := [.slice A1 base.length c2]) (CF 55 _) rfl rfl) (CloneC_o _ _ S.le _ _ h (by omega)) ?_
  rintro e w22 ⟨v23, xs24, rfl, hO, O25, k⟩
  have S := S.ownAddL k hO; clear k hO
  obtain ⟨A26, c27, m28e, m28, m28'⟩ : ∃ A c, v23 = .slice A base.length c ∧ base.length ≤ c ∧ c ≤ maxLen := own_len S (i := 0) rfl; subst m28e
  refine ckd ?_
  obtain ⟨rd29, S, L30, F31⟩ := S.frzo' (i := 0) rfl rfl
  replace h := fm h L30
  replace h2 := fm h2 L30
  replace h10 := fm h10 L30
  replace O25 := rm O25 L30
  have F32 : SliceR 1 IntR rd29 (.slice A26 base.length c27) base := F31 rfl O25; clear F31
  refine l_y (v := .slice A26 base.length c27) S (y_as rfl) ?_
  refine l_nil ?_
  refine n_seq ?_
  refine e_seq ?_
  refine e_reg ?_
  refine l_y (v := .slice none 0 0) S (y_as rfl) ?_
  refine l_nil ?_
  refine n_seq ?_
  refine e_seq ?_
  refine e_reg ?_
  refine l_y (v := .slice A4 l.length c5) S (y_mv rfl) ?_
  refine l_c (en_f (vs := [.slice A4 l.length c5]) (CF 56 _) rfl rfl) (CloneU_o _ _ S.le _ _ h2 (by omega)) ?_
  rintro e w33 ⟨v34, xs35, rfl, hO, O36, k⟩
  have S := S.ownAddL k hO; clear k hO
  obtain ⟨A37, c38, m39e, m39, m39'⟩ : ∃ A c, v34 = .slice A l.length c ∧ l.length ≤ c ∧ c ≤ maxLen := own_len S (i := 0) rfl; subst m39e
  refine ckd ?_
  refine l_y (v := .slice A37 l.length c38) S (y_as rfl) ?_
  refine l_nil ?_
  refine n_seq ?_
  refine e_seq ?_
  refine e_blk ?_
  have S := S.ownNil 29 5
  have O40 : RowR 5 UpdR rd29 [] [] := rfl
  refine e_trim [(6, .slice none 0 0), (7, .pointer (some ⟨g7, 0, none⟩)), (10, .slice A26 base.length c27), (11, .slice none 0 0), (12, .slice A37 l.length c38)] ⟨⟨rfl, rfl⟩, ⟨rfl, rfl⟩, ⟨rfl, rfl⟩, ⟨rfl, rfl⟩, ⟨rfl, rfl⟩, trivial⟩ (fun junk => ?_)
  refine e_loop (fun (gh_ : (List Int) × (Option Addr) × Nat × (List Upd) × (Option Addr) × Nat × (List Value) × (List Upd) × (Option Addr) × Nat × Nat × (List Value)) ov w => match gh_ with | (c, Ac, cc, r, AR, cR, xsR, o, AO, nO, cO, xsO) => ∃ rd' junk, ov = [(6, .slice none 0 0), (7, .pointer (some ⟨g7, 0, none⟩)), (10, .slice Ac c.length cc), (11, .slice AO nO cO), (12, .slice AR r.length cR)] ++ junk ∧ St [] W rd rd' [(g7, 33, #[.int .i64 0, .int .i64 0]), (g19, 33, #[.int .i64 ((clockL base l n).2.1), .int .i64 ((clockL base l n).2.2)])] [⟨29, 5, .slice AR r.length cR, r.length, xsR⟩, ⟨29, 5, .slice AO nO cO, nO, xsO⟩] w ∧ Rd.le rd29 rd' ∧ (RowR 5 UpdR rd' xsR r ∧ r.length = r.length) ∧ (RowR 5 UpdR rd' xsO o ∧ nO = o.length) ∧ SliceR 1 IntR rd' (.slice Ac c.length cc) c ∧ SortI n base l c r o) (fun gh_ => match gh_ with | (c, Ac, cc, r, AR, cR, xsR, o, AO, nO, cO, xsO) => r.length) (base, A26, c27, l, A37, c38, xs35, ([] : List Upd), none, 0, 0, []) ⟨_, junk, rfl, (S.rw' rfl rfl), (Rd.le_refl _), ⟨O36, rfl⟩, ⟨O40, rfl⟩, F32, ⟨hw, ⟨l, List.Perm.refl _, hf⟩, rfl, by simp⟩⟩ ?_
  rintro ⟨c, Ac, cc, r, AR, cR, xsR, o, AO, nO, cO, xsO⟩ ov44 w42 ⟨rd41, junk, rfl, S, L43, ⟨OR, on45⟩, ⟨OO, on46⟩, fc, hI⟩
  refine e_seq ?_
  refine e_seq ?_
  refine e_reg ?_
  refine l_y (v := .slice AR r.length cR) S (y_mv rfl) ?_
  refine l_y (v := .int .i64 (r.length : Int)) S (y_len U36 rfl rfl) ?_
  by_cases h47 : 0 < (r.length : Int)
  · -- h47 yes
   refine l_y (v := .bool true) S (y_gtT rfl rfl h47) ?_
   refine l_nil ?_
   refine n_seq ?_
   refine e_cT rfl ?_
   refine e_skip ?_
   refine n_seq ?_
   refine e_blk ?_
   refine e_seq ?_
   refine e_reg ?_
   refine l_y (v := .int .i64 (-1)) S (y_as rfl) ?_
   refine l_nil ?_
   refine n_seq ?_
   refine e_seq ?_
   refine e_seq ?_
   refine e_reg ?_
   have hcl := (wrongC_ok hI.w); have hnl := hI.n; have hr0 : 0 < r.length := by omega
   obtain ⟨gR, rfl⟩ := own_atA S (i := 0) rfl rfl (show r.length ≠ 0 by omega)
   refine l_y (v := .slice (some ⟨gR, 0, none⟩) r.length cR) S (y_mv rfl) ?_
   refine l_y (v := .int .i64 (r.length : Int)) S (y_len U36 rfl rfl) ?_
   refine l_y (v := .int .i64 0) S (y_mv rfl) ?_
   refine l_nil ?_
   refine n_seq ?_
   refine e_blk ?_
   refine e_trim [(6, .slice none 0 0), (7, .pointer (some ⟨g7, 0, none⟩)), (10, .slice Ac c.length cc), (11, .slice AO nO cO), (12, .slice (some ⟨gR, 0, none⟩) r.length cR), (31, .slice (some ⟨gR, 0, none⟩) r.length cR), (32, .int .i64 (r.length : Int)), (33, .bool true), (34, .slice (some ⟨gR, 0, none⟩) r.length cR), (35, .int .i64 (r.length : Int)), (36, .int .i64 (0 : Int)), (13, .int .i64 (-1))] ⟨⟨rfl, rfl⟩, ⟨rfl, rfl⟩, ⟨rfl, rfl⟩, ⟨rfl, rfl⟩, ⟨rfl, rfl⟩, ⟨rfl, rfl⟩, ⟨rfl, rfl⟩, ⟨rfl, rfl⟩, ⟨rfl, rfl⟩, ⟨rfl, rfl⟩, ⟨ival (by first | rfl | omega), rfl⟩, ⟨rfl, rfl⟩, trivial⟩ (fun junk => ?_)
   refine e_loop (fun (gh_ : Nat × Int) ov w => match gh_ with | (k, bI) => ∃ rd' junk, ov = [(6, .slice none 0 0), (7, .pointer (some ⟨g7, 0, none⟩)), (10, .slice Ac c.length cc), (11, .slice AO nO cO), (12, .slice (some ⟨gR, 0, none⟩) r.length cR), (31, .slice (some ⟨gR, 0, none⟩) r.length cR), (32, .int .i64 (r.length : Int)), (33, .bool true), (34, .slice (some ⟨gR, 0, none⟩) r.length cR), (35, .int .i64 (r.length : Int)), (36, .int .i64 (k : Int)), (13, .int .i64 bI)] ++ junk ∧ St [] W rd rd' [(g7, 33, #[.int .i64 0, .int .i64 0]), (g19, 33, #[.int .i64 ((clockL base l n).2.1), .int .i64 ((clockL base l n).2.2)])] [⟨29, 5, .slice (some ⟨gR, 0, none⟩) r.length cR, r.length, xsR⟩, ⟨29, 5, .slice AO nO cO, nO, xsO⟩] w ∧ Rd.le rd41 rd' ∧ k ≤ r.length ∧ bI = bestI c r k ∧ -1 ≤ bI ∧ bI < k) (fun gh_ => match gh_ with | (k, bI) => r.length - k) (0, (-1)) ⟨_, junk, rfl, (S.rw' rfl rfl), (Rd.le_refl _), (by omega), bestI_zero, (by omega), (by omega)⟩ ?_
   rintro ⟨k, bI⟩ ov51 w49 ⟨rd48, junk, rfl, S, L50, hk, hb, hbm, hbl⟩
   replace fc := fm fc L50
   replace OR := rm OR L50
   replace OO := rm OO L50
   refine e_seq ?_
   refine e_reg ?_
   by_cases h52 : (k : Int) < (r.length : Int)
   · -- h52 yes
    refine l_y (v := .bool true) S (y_ltT rfl rfl h52) ?_
    refine l_nil ?_
    refine n_seq ?_
    refine e_seq ?_
    refine e_cT rfl ?_
    refine e_skip ?_
    refine n_seq ?_
    refine e_seq ?_
    refine e_blk ?_
    refine e_seq ?_
    refine e_reg ?_
    refine l_y (v := .int .i64 (k : Int)) S (y_mv rfl) ?_
    refine l_y (v := .pointer (some ⟨gR, k * 5, none⟩)) S (y_ibs (k := k) U36 SZ29 (by omega) (Nat.zero_add _) rfl rfl (by first | rfl | omega)) ?_
    obtain ⟨z53, hz54⟩ : ∃ z, (r)[k]? = some z := nth_of (by omega)
    obtain ⟨vs55, hl56, hr57, ha58⟩ := RowR.get k OR hz54; clear hl56
    obtain ⟨sv59, hr57e, h60⟩ := hr57; subst hr57e
    obtain ⟨A61, c62, rfl, m63, m63'⟩ := h60.val
    have hru := hI.right hz54; have ha0 := hru.a0; have ha1 := hru.a1; have hlen := hru.len
    refine l_y (v := .agg #[.int .i64 z53.author, .slice A61 z53.seen.length c62, .int .i64 z53.kind, .int .i64 z53.key, .int .i64 z53.item]) S (y_ld rfl (fun w S => ld_oA (vs := [.int .i64 z53.author, .slice A61 z53.seen.length c62, .int .i64 z53.kind, .int .i64 z53.key, .int .i64 z53.item]) (i := 0) S rfl rfl T29 rfl ha58)) ?_
    refine l_al (cs := #[.int .i64 0, .slice none 0 0, .int .i64 0, .int .i64 0, .int .i64 0]) S Z29 rfl fun g64 w65 S => ?_
    refine l_y (v := .int .i64 (k : Int)) S (y_as rfl) ?_
    refine l_st (u := .agg #[.int .i64 z53.author, .slice A61 z53.seen.length c62, .int .i64 z53.kind, .int .i64 z53.key, .int .i64 z53.item]) (i := 2) (cs' := #[.int .i64 z53.author, .slice A61 z53.seen.length c62, .int .i64 z53.kind, .int .i64 z53.key, .int .i64 z53.item]) S rfl rfl rfl SZ29 rfl rfl rfl fun w66 S => ?_
    refine l_nil ?_
    refine n_seq ?_
    refine e_seq ?_
    refine e_q MX (by kernel_rfl) S.drew ?_
    -- draws
    refine q_y (v := .slice Ac c.length cc) (y_mv rfl) ?_
    refine q_y (v := .pointer (some ⟨g64, 1, none⟩)) (y_fb FA29_1 rfl rfl) ?_
    refine q_y (v := .slice A61 z53.seen.length c62) (y_ld rfl (fun w S => ld_b1 (i := 2) S rfl rfl T23)) ?_
    cases hse : seesC c z53.seen
    · -- hse False
     refine q_c (v := .bool false) (en_f (vs := [.slice Ac c.length cc, .slice A61 z53.seen.length c62]) (CF 57 _) rfl rfl) (fun w S => (Sees_calls _ _ _ _ _ (fm fc S.le) (fm h60 S.le) (by omega)).mono (by rintro e w' ⟨rfl, k⟩; exact ⟨rbool (by assumption), (S.callq k)⟩)) ?_
     refine q_y (v := .bool false) (y_mv rfl) ?_
     refine q_s (d' := 45) rfl rfl ?_
     refine q_s (d' := 45) rfl rfl ?_
     refine q_s (d' := 45) rfl rfl ?_
     refine q_s (d' := 45) rfl rfl ?_
     refine q_s (d' := 45) rfl rfl ?_
     refine q_s (d' := 45) rfl rfl ?_
     refine q_s (d' := 45) rfl rfl ?_
     refine q_s (d' := 45) rfl rfl ?_
     refine q_s (d' := 45) rfl rfl ?_
     refine q_y (v := .bool false) (y_pF rfl rfl) ?_
     refine q_y (v := .bool false) (y_mv rfl) ?_
     refine q_s (d' := 56) rfl rfl ?_
     refine q_s (d' := 56) rfl rfl ?_
     refine q_s (d' := 56) rfl rfl ?_
     refine q_su (d' := 59) rfl rfl ?_
     refine q_su (d' := 59) rfl rfl ?_
     refine q_su (d' := 59) rfl rfl ?_
     refine q_su (d' := 59) rfl rfl ?_
     refine q_su (d' := 59) rfl rfl ?_
     refine q_su (d' := 59) rfl rfl ?_
     refine q_su (d' := 59) rfl rfl ?_
     refine q_su (d' := 59) rfl rfl ?_
     refine q_s (d' := 56) rfl rfl ?_
     refine q_y (v := .bool false) (y_pF rfl rfl) ?_
     refine q_nil fun w67 S => ?_
     refine n_seq ?_
     refine e_trim [(6, .slice none 0 0), (7, .pointer (some ⟨g7, 0, none⟩)), (10, .slice Ac c.length cc), (11, .slice AO nO cO), (12, .slice (some ⟨gR, 0, none⟩) r.length cR), (31, .slice (some ⟨gR, 0, none⟩) r.length cR), (32, .int .i64 (r.length : Int)), (33, .bool true), (34, .slice (some ⟨gR, 0, none⟩) r.length cR), (35, .int .i64 (r.length : Int)), (36, .int .i64 (k : Int)), (13, .int .i64 bI), (37, .bool true), (38, .int .i64 (k : Int)), (39, .pointer (some ⟨gR, k * 5, none⟩)), (40, .agg #[.int .i64 z53.author, .slice A61 z53.seen.length c62, .int .i64 z53.kind, .int .i64 z53.key, .int .i64 z53.item]), (15, .pointer (some ⟨g64, 0, none⟩)), (14, .int .i64 (k : Int)), (41, .slice Ac c.length cc), (42, .pointer (some ⟨g64, 1, none⟩)), (43, .slice A61 z53.seen.length c62), (44, .bool false), (45, .bool false), (46, undef), (47, undef), (48, undef), (49, undef), (50, undef), (51, undef), (52, undef), (53, undef), (54, undef), (55, .bool false), (56, .bool false), (57, undef), (58, undef), (59, undef), (60, undef), (61, undef), (62, undef), (63, undef), (64, undef), (65, undef), (66, undef), (67, undef), (68, undef), (69, .bool false)] ⟨⟨rfl, rfl⟩, ⟨rfl, rfl⟩, ⟨rfl, rfl⟩, ⟨rfl, rfl⟩, ⟨rfl, rfl⟩, ⟨rfl, rfl⟩, ⟨rfl, rfl⟩, ⟨rfl, rfl⟩, ⟨rfl, rfl⟩, ⟨rfl, rfl⟩, ⟨rfl, rfl⟩, ⟨rfl, rfl⟩, ⟨rfl, rfl⟩, ⟨rfl, rfl⟩, ⟨rfl, rfl⟩, ⟨rfl, rfl⟩, ⟨rfl, rfl⟩, ⟨rfl, rfl⟩, ⟨rfl, rfl⟩, ⟨rfl, rfl⟩, ⟨rfl, rfl⟩, ⟨rfl, rfl⟩, ⟨rfl, rfl⟩, ⟨rfl, rfl⟩, ⟨rfl, rfl⟩, ⟨rfl, rfl⟩, ⟨rfl, rfl⟩, ⟨rfl, rfl⟩, ⟨rfl, rfl⟩, ⟨rfl, rfl⟩, ⟨rfl, rfl⟩, ⟨rfl, rfl⟩, ⟨rfl, rfl⟩, ⟨rfl, rfl⟩, ⟨rfl, rfl⟩, ⟨rfl, rfl⟩, ⟨rfl, rfl⟩, ⟨rfl, rfl⟩, ⟨rfl, rfl⟩, ⟨rfl, rfl⟩, ⟨rfl, rfl⟩, ⟨rfl, rfl⟩, ⟨rfl, rfl⟩, ⟨rfl, rfl⟩, ⟨rfl, rfl⟩, ⟨rfl, rfl⟩, ⟨rfl, rfl⟩, trivial⟩ (fun junk => ?_)
     refine e_cF rfl ?_
     refine e_skip ?_
     refine n_blk ?_
     refine n_seq ?_
     refine e_reg ?_
     refine l_y (v := .int .i64 ((k : Int) + 1)) S (y_add (r := (k : Int) + 1) rfl rfl (w64 (by omega) (by omega))) ?_
     refine l_y (v := .int .i64 ((k : Int) + 1)) S (y_mv rfl) ?_
     refine l_nil ?_
     refine n_lp ⟨(k + 1, bI), _, fr_keep (m := [(6, .slice none 0 0), (7, .pointer (some ⟨g7, 0, none⟩)), (10, .slice Ac c.length cc), (11, .slice AO nO cO), (12, .slice (some ⟨gR, 0, none⟩) r.length cR), (31, .slice (some ⟨gR, 0, none⟩) r.length cR), (32, .int .i64 (r.length : Int)), (33, .bool true), (34, .slice (some ⟨gR, 0, none⟩) r.length cR), (35, .int .i64 (r.length : Int)), (36, .int .i64 ((k + 1 : Nat) : Int)), (13, .int .i64 bI)]) ⟨⟨rfl, rfl⟩, ⟨rfl, rfl⟩, ⟨rfl, rfl⟩, ⟨rfl, rfl⟩, ⟨rfl, rfl⟩, ⟨rfl, rfl⟩, ⟨rfl, rfl⟩, ⟨rfl, rfl⟩, ⟨rfl, rfl⟩, ⟨rfl, rfl⟩, ⟨ival (by first | rfl | omega), rfl⟩, ⟨rfl, rfl⟩, trivial⟩, ⟨_, _, rfl, (S.tk 2 2 rfl rfl), (Rd.le_trans L50 (Rd.le_refl rd48)), (by omega), (bestI_no1 hz54 (ready_F1 hse) hb), (by omega), (by omega)⟩, ?_⟩
     show _ < _; dsimp only; omega
    · -- hse True
     refine q_c (v := .bool true) (en_f (vs := [.slice Ac c.length cc, .slice A61 z53.seen.length c62]) (CF 57 _) rfl rfl) (fun w S => (Sees_calls _ _ _ _ _ (fm fc S.le) (fm h60 S.le) (by omega)).mono (by rintro e w' ⟨rfl, k⟩; exact ⟨rbool (by assumption), (S.callq k)⟩)) ?_
     refine q_y (v := .bool true) (y_mv rfl) ?_
     refine q_g (d' := 45) (v := .agg #[.int .i64 z53.author, .slice A61 z53.seen.length c62, .int .i64 z53.kind, .int .i64 z53.key, .int .i64 z53.item]) (y_ld rfl (fun w S => ld_bA (vs := [.int .i64 z53.author, .slice A61 z53.seen.length c62, .int .i64 z53.kind, .int .i64 z53.key, .int .i64 z53.item]) (i := 2) S rfl T29 rfl rfl)) rfl rfl ?_
     refine q_cg (d' := 45) (v := .int .i64 (seqU z53)) (en_f (vs := [.agg #[.int .i64 z53.author, .slice A61 z53.seen.length c62, .int .i64 z53.kind, .int .i64 z53.key, .int .i64 z53.item]]) (CF 58 _) rfl rfl) rfl rfl (fun w S => (Seq_calls _ _ _ (am (⟨_, rfl, ⟨_, rfl, h60⟩⟩ : AggR UpdR rd48 _ z53) S.le) ha0 (by omega)).mono (by rintro e w' ⟨rfl, k⟩; exact ⟨rfl, (S.callq k)⟩)) ?_
     refine q_g (d' := 45) (v := .slice Ac c.length cc) (y_mv rfl) rfl rfl ?_
     refine q_g (d' := 45) (v := .pointer (some ⟨g64, 0, none⟩)) (y_fb FA29_0 rfl rfl) rfl rfl ?_
     refine q_g (d' := 45) (v := .int .i64 z53.author) (y_ld rfl (fun w S => ld_b1 (i := 2) S rfl rfl T3)) rfl rfl ?_
     obtain ⟨z68, hz69⟩ : ∃ z, (c)[z53.author.toNat]? = some z := nth_of (by omega)
     have hat := atI_nth hz69; have hbd := atI_bd hI.w z53.author.toNat
     obtain ⟨p70, vs71, E72, nn73, r74, Y75⟩ := y_ia U23 SZ3 fc hz69
     clear nn73
     have r74 : vs71 = [.int .i64 z68] := r74; subst r74
     refine q_g (d' := 45) (v := p70) (Y75 rfl rfl (by first | rfl | omega)) rfl rfl ?_
     refine q_g (d' := 45) (v := .int .i64 z68) (y_ld rfl (fun w S => ld_p1 S.le E72 rfl T3)) rfl rfl ?_
     refine q_g (d' := 45) (v := .int .i64 (z68 + 1)) (y_add (r := z68 + 1) rfl rfl (w64 (by omega) (by omega))) rfl rfl ?_
     by_cases hsq : seqU z53 = z68 + 1
     · -- hsq yes
      refine q_g (d' := 45) (v := .bool true) (y_eqT rfl rfl hsq) rfl rfl ?_
      refine q_y (v := .bool true) (y_pT rfl rfl) ?_
      refine q_y (v := .bool true) (y_mv rfl) ?_
      refine q_g (d' := 56) (v := .int .i64 bI) (y_mv rfl) rfl rfl ?_
      by_cases hb0 : bI < 0
      · -- hb0 yes
       refine q_g (d' := 56) (v := .bool true) (y_ltT rfl rfl hb0) rfl rfl ?_
       refine q_g (d' := 56) (v := .bool true) (y_mv rfl) rfl rfl ?_
       refine q_s (d' := 59) rfl rfl ?_
       refine q_s (d' := 59) rfl rfl ?_
       refine q_s (d' := 59) rfl rfl ?_
       refine q_s (d' := 59) rfl rfl ?_
       refine q_s (d' := 59) rfl rfl ?_
       refine q_s (d' := 59) rfl rfl ?_
       refine q_s (d' := 59) rfl rfl ?_
       refine q_s (d' := 59) rfl rfl ?_
       refine q_g (d' := 56) (v := .bool true) (y_pT rfl rfl) rfl rfl ?_
       refine q_y (v := .bool true) (y_pT rfl rfl) ?_
       refine q_nil fun w76 S => ?_
       refine n_seq ?_
       refine e_trim [(6, .slice none 0 0), (7, .pointer (some ⟨g7, 0, none⟩)), (10, .slice Ac c.length cc), (11, .slice AO nO cO), (12, .slice (some ⟨gR, 0, none⟩) r.length cR), (31, .slice (some ⟨gR, 0, none⟩) r.length cR), (32, .int .i64 (r.length : Int)), (33, .bool true), (34, .slice (some ⟨gR, 0, none⟩) r.length cR), (35, .int .i64 (r.length : Int)), (36, .int .i64 (k : Int)), (13, .int .i64 bI), (37, .bool true), (38, .int .i64 (k : Int)), (39, .pointer (some ⟨gR, k * 5, none⟩)), (40, .agg #[.int .i64 z53.author, .slice A61 z53.seen.length c62, .int .i64 z53.kind, .int .i64 z53.key, .int .i64 z53.item]), (15, .pointer (some ⟨g64, 0, none⟩)), (14, .int .i64 (k : Int)), (41, .slice Ac c.length cc), (42, .pointer (some ⟨g64, 1, none⟩)), (43, .slice A61 z53.seen.length c62), (44, .bool true), (45, .bool true), (46, .agg #[.int .i64 z53.author, .slice A61 z53.seen.length c62, .int .i64 z53.kind, .int .i64 z53.key, .int .i64 z53.item]), (47, .int .i64 (seqU z53)), (48, .slice Ac c.length cc), (49, .pointer (some ⟨g64, 0, none⟩)), (50, .int .i64 z53.author), (51, p70), (52, .int .i64 z68), (53, .int .i64 (z68 + 1)), (54, .bool true), (55, .bool true), (56, .bool true), (57, .int .i64 bI), (58, .bool true), (59, .bool true), (60, undef), (61, undef), (62, undef), (63, undef), (64, undef), (65, undef), (66, undef), (67, undef), (68, .bool true), (69, .bool true)] ⟨⟨rfl, rfl⟩, ⟨rfl, rfl⟩, ⟨rfl, rfl⟩, ⟨rfl, rfl⟩, ⟨rfl, rfl⟩, ⟨rfl, rfl⟩, ⟨rfl, rfl⟩, ⟨rfl, rfl⟩, ⟨rfl, rfl⟩, ⟨rfl, rfl⟩, ⟨rfl, rfl⟩, ⟨rfl, rfl⟩, ⟨rfl, rfl⟩, ⟨rfl, rfl⟩, ⟨rfl, rfl⟩, ⟨rfl, rfl⟩, ⟨rfl, rfl⟩, ⟨rfl, rfl⟩, ⟨rfl, rfl⟩, ⟨rfl, rfl⟩, ⟨rfl, rfl⟩, ⟨rfl, rfl⟩, ⟨rfl, rfl⟩, ⟨rfl, rfl⟩, ⟨rfl, rfl⟩, ⟨rfl, rfl⟩, ⟨rfl, rfl⟩, ⟨rfl, rfl⟩, ⟨rfl, rfl⟩, ⟨rfl, rfl⟩, ⟨rfl, rfl⟩, ⟨rfl, rfl⟩, ⟨rfl, rfl⟩, ⟨rfl, rfl⟩, ⟨rfl, rfl⟩, ⟨rfl, rfl⟩, ⟨rfl, rfl⟩, ⟨rfl, rfl⟩, ⟨rfl, rfl⟩, ⟨rfl, rfl⟩, ⟨rfl, rfl⟩, ⟨rfl, rfl⟩, ⟨rfl, rfl⟩, ⟨rfl, rfl⟩, ⟨rfl, rfl⟩, ⟨rfl, rfl⟩, ⟨rfl, rfl⟩, trivial⟩ (fun junk => ?_)
       refine e_cT rfl ?_
       refine e_reg ?_
       refine l_y (v := .int .i64 (k : Int)) S (y_mv rfl) ?_
       refine l_y (v := .int .i64 (k : Int)) S (y_as rfl) ?_
       refine l_nil ?_
       refine n_blk ?_
       refine n_seq ?_
       refine e_reg ?_
       refine l_y (v := .int .i64 ((k : Int) + 1)) S (y_add (r := (k : Int) + 1) rfl rfl (w64 (by omega) (by omega))) ?_
       refine l_y (v := .int .i64 ((k : Int) + 1)) S (y_mv rfl) ?_
       refine l_nil ?_
       refine n_lp ⟨(k + 1, (k : Int)), _, fr_keep (m := [(6, .slice none 0 0), (7, .pointer (some ⟨g7, 0, none⟩)), (10, .slice Ac c.length cc), (11, .slice AO nO cO), (12, .slice (some ⟨gR, 0, none⟩) r.length cR), (31, .slice (some ⟨gR, 0, none⟩) r.length cR), (32, .int .i64 (r.length : Int)), (33, .bool true), (34, .slice (some ⟨gR, 0, none⟩) r.length cR), (35, .int .i64 (r.length : Int)), (36, .int .i64 ((k + 1 : Nat) : Int)), (13, .int .i64 (k : Int))]) ⟨⟨rfl, rfl⟩, ⟨rfl, rfl⟩, ⟨rfl, rfl⟩, ⟨rfl, rfl⟩, ⟨rfl, rfl⟩, ⟨rfl, rfl⟩, ⟨rfl, rfl⟩, ⟨rfl, rfl⟩, ⟨rfl, rfl⟩, ⟨rfl, rfl⟩, ⟨ival (by first | rfl | omega), rfl⟩, ⟨rfl, rfl⟩, trivial⟩, ⟨_, _, rfl, (S.tk 2 2 rfl rfl), (Rd.le_trans L50 (Rd.le_refl rd48)), (by omega), (by first | exact bestI_yes0 hz54 (ready_T hI.w hat hse hsq) hb hb0 | exact bestI_yes1 hz54 (ready_T hI.w hat hse hsq) hb hb0 rfl hlt), (by omega), (by omega)⟩, ?_⟩
       show _ < _; dsimp only; omega
      · -- hb0 no
       refine q_g (d' := 56) (v := .bool false) (y_ltF rfl rfl hb0) rfl rfl ?_
       refine q_g (d' := 56) (v := .bool false) (y_mv rfl) rfl rfl ?_
       refine q_g (d' := 59) (v := .pointer (some ⟨g64, 0, none⟩)) (y_fb FA29_0 rfl rfl) rfl rfl ?_
       refine q_g (d' := 59) (v := .int .i64 z53.author) (y_ld rfl (fun w S => ld_b1 (i := 2) S rfl rfl T3)) rfl rfl ?_
       refine q_g (d' := 59) (v := .slice (some ⟨gR, 0, none⟩) r.length cR) (y_mv rfl) rfl rfl ?_
       refine q_g (d' := 59) (v := .int .i64 bI) (y_mv rfl) rfl rfl ?_
       refine q_g (d' := 59) (v := .pointer (some ⟨gR, bI.toNat * 5, none⟩)) (y_ibs (k := bI.toNat) U36 SZ29 (by omega) (Nat.zero_add _) rfl rfl (by first | rfl | omega)) rfl rfl ?_
       refine q_g (d' := 59) (v := .pointer (some ⟨gR, bI.toNat * 5 + 0, none⟩)) (y_fb FA29_0 rfl rfl) rfl rfl ?_
       obtain ⟨z77, hz78⟩ : ∃ z, (r)[bI.toNat]? = some z := nth_of (by omega)
       obtain ⟨vs79, hl80, hr81, ha82⟩ := RowR.get bI.toNat OR hz78; clear hl80
       obtain ⟨sv83, hr81e, h84⟩ := hr81; subst hr81e
       obtain ⟨A85, c86, rfl, m87, m87'⟩ := h84.val
       refine q_g (d' := 59) (v := .int .i64 z77.author) (y_ld rfl (fun w S => ld_o1 (i := 0) S rfl rfl T3 (ha82 0 _ rfl))) rfl rfl ?_
       by_cases hlt : z53.author < z77.author
       · -- hlt yes
        refine q_g (d' := 59) (v := .bool true) (y_ltT rfl rfl hlt) rfl rfl ?_
        refine q_g (d' := 56) (v := .bool true) (y_pF rfl rfl) rfl rfl ?_
        refine q_y (v := .bool true) (y_pT rfl rfl) ?_
        refine q_nil fun w88 S => ?_
        refine n_seq ?_
        refine e_trim [(6, .slice none 0 0), (7, .pointer (some ⟨g7, 0, none⟩)), (10, .slice Ac c.length cc), (11, .slice AO nO cO), (12, .slice (some ⟨gR, 0, none⟩) r.length cR), (31, .slice (some ⟨gR, 0, none⟩) r.length cR), (32, .int .i64 (r.length : Int)), (33, .bool true), (34, .slice (some ⟨gR, 0, none⟩) r.length cR), (35, .int .i64 (r.length : Int)), (36, .int .i64 (k : Int)), (13, .int .i64 bI), (37, .bool true), (38, .int .i64 (k : Int)), (39, .pointer (some ⟨gR, k * 5, none⟩)), (40, .agg #[.int .i64 z53.author, .slice A61 z53.seen.length c62, .int .i64 z53.kind, .int .i64 z53.key, .int .i64 z53.item]), (15, .pointer (some ⟨g64, 0, none⟩)), (14, .int .i64 (k : Int)), (41, .slice Ac c.length cc), (42, .pointer (some ⟨g64, 1, none⟩)), (43, .slice A61 z53.seen.length c62), (44, .bool true), (45, .bool true), (46, .agg #[.int .i64 z53.author, .slice A61 z53.seen.length c62, .int .i64 z53.kind, .int .i64 z53.key, .int .i64 z53.item]), (47, .int .i64 (seqU z53)), (48, .slice Ac c.length cc), (49, .pointer (some ⟨g64, 0, none⟩)), (50, .int .i64 z53.author), (51, p70), (52, .int .i64 z68), (53, .int .i64 (z68 + 1)), (54, .bool true), (55, .bool true), (56, .bool true), (57, .int .i64 bI), (58, .bool false), (59, .bool false), (60, .pointer (some ⟨g64, 0, none⟩)), (61, .int .i64 z53.author), (62, .slice (some ⟨gR, 0, none⟩) r.length cR), (63, .int .i64 bI), (64, .pointer (some ⟨gR, bI.toNat * 5, none⟩)), (65, .pointer (some ⟨gR, bI.toNat * 5 + 0, none⟩)), (66, .int .i64 z77.author), (67, .bool true), (68, .bool true), (69, .bool true)] ⟨⟨rfl, rfl⟩, ⟨rfl, rfl⟩, ⟨rfl, rfl⟩, ⟨rfl, rfl⟩, ⟨rfl, rfl⟩, ⟨rfl, rfl⟩, ⟨rfl, rfl⟩, ⟨rfl, rfl⟩, ⟨rfl, rfl⟩, ⟨rfl, rfl⟩, ⟨rfl, rfl⟩, ⟨rfl, rfl⟩, ⟨rfl, rfl⟩, ⟨rfl, rfl⟩, ⟨rfl, rfl⟩, ⟨rfl, rfl⟩, ⟨rfl, rfl⟩, ⟨rfl, rfl⟩, ⟨rfl, rfl⟩, ⟨rfl, rfl⟩, ⟨rfl, rfl⟩, ⟨rfl, rfl⟩, ⟨rfl, rfl⟩, ⟨rfl, rfl⟩, ⟨rfl, rfl⟩, ⟨rfl, rfl⟩, ⟨rfl, rfl⟩, ⟨rfl, rfl⟩, ⟨rfl, rfl⟩, ⟨rfl, rfl⟩, ⟨rfl, rfl⟩, ⟨rfl, rfl⟩, ⟨rfl, rfl⟩, ⟨rfl, rfl⟩, ⟨rfl, rfl⟩, ⟨rfl, rfl⟩, ⟨rfl, rfl⟩, ⟨rfl, rfl⟩, ⟨rfl, rfl⟩, ⟨rfl, rfl⟩, ⟨rfl, rfl⟩, ⟨rfl, rfl⟩, ⟨rfl, rfl⟩, ⟨rfl, rfl⟩, ⟨rfl, rfl⟩, ⟨rfl, rfl⟩, ⟨rfl, rfl⟩, trivial⟩ (fun junk => ?_)
        refine e_cT rfl ?_
        refine e_reg ?_
        refine l_y (v := .int .i64 (k : Int)) S (y_mv rfl) ?_
        refine l_y (v := .int .i64 (k : Int)) S (y_as rfl) ?_
        refine l_nil ?_
        refine n_blk ?_
        refine n_seq ?_
        refine e_reg ?_
        refine l_y (v := .int .i64 ((k : Int) + 1)) S (y_add (r := (k : Int) + 1) rfl rfl (w64 (by omega) (by omega))) ?_
        refine l_y (v := .int .i64 ((k : Int) + 1)) S (y_mv rfl) ?_
        refine l_nil ?_
        refine n_lp ⟨(k + 1, (k : Int)), _, fr_keep (m := [(6, .slice none 0 0), (7, .pointer (some ⟨g7, 0, none⟩)), (10, .slice Ac c.length cc), (11, .slice AO nO cO), (12, .slice (some ⟨gR, 0, none⟩) r.length cR), (31, .slice (some ⟨gR, 0, none⟩) r.length cR), (32, .int .i64 (r.length : Int)), (33, .bool true), (34, .slice (some ⟨gR, 0, none⟩) r.length cR), (35, .int .i64 (r.length : Int)), (36, .int .i64 ((k + 1 : Nat) : Int)), (13, .int .i64 (k : Int))]) ⟨⟨rfl, rfl⟩, ⟨rfl, rfl⟩, ⟨rfl, rfl⟩, ⟨rfl, rfl⟩, ⟨rfl, rfl⟩, ⟨rfl, rfl⟩, ⟨rfl, rfl⟩, ⟨rfl, rfl⟩, ⟨rfl, rfl⟩, ⟨rfl, rfl⟩, ⟨ival (by first | rfl | omega), rfl⟩, ⟨rfl, rfl⟩, trivial⟩, ⟨_, _, rfl, (S.tk 2 2 rfl rfl), (Rd.le_trans L50 (Rd.le_refl rd48)), (by omega), (by first | exact bestI_yes0 hz54 (ready_T hI.w hat hse hsq) hb hb0 | exact bestI_yes1 hz54 (ready_T hI.w hat hse hsq) hb hb0 hz78 hlt), (by omega), (by omega)⟩, ?_⟩
        show _ < _; dsimp only; omega
       · -- hlt no
        refine q_g (d' := 59) (v := .bool false) (y_ltF rfl rfl hlt) rfl rfl ?_
        refine q_g (d' := 56) (v := .bool false) (y_pF rfl rfl) rfl rfl ?_
        refine q_y (v := .bool false) (y_pT rfl rfl) ?_
        refine q_nil fun w89 S => ?_
        refine n_seq ?_
        refine e_trim [(6, .slice none 0 0), (7, .pointer (some ⟨g7, 0, none⟩)), (10, .slice Ac c.length cc), (11, .slice AO nO cO), (12, .slice (some ⟨gR, 0, none⟩) r.length cR), (31, .slice (some ⟨gR, 0, none⟩) r.length cR), (32, .int .i64 (r.length : Int)), (33, .bool true), (34, .slice (some ⟨gR, 0, none⟩) r.length cR), (35, .int .i64 (r.length : Int)), (36, .int .i64 (k : Int)), (13, .int .i64 bI), (37, .bool true), (38, .int .i64 (k : Int)), (39, .pointer (some ⟨gR, k * 5, none⟩)), (40, .agg #[.int .i64 z53.author, .slice A61 z53.seen.length c62, .int .i64 z53.kind, .int .i64 z53.key, .int .i64 z53.item]), (15, .pointer (some ⟨g64, 0, none⟩)), (14, .int .i64 (k : Int)), (41, .slice Ac c.length cc), (42, .pointer (some ⟨g64, 1, none⟩)), (43, .slice A61 z53.seen.length c62), (44, .bool true), (45, .bool true), (46, .agg #[.int .i64 z53.author, .slice A61 z53.seen.length c62, .int .i64 z53.kind, .int .i64 z53.key, .int .i64 z53.item]), (47, .int .i64 (seqU z53)), (48, .slice Ac c.length cc), (49, .pointer (some ⟨g64, 0, none⟩)), (50, .int .i64 z53.author), (51, p70), (52, .int .i64 z68), (53, .int .i64 (z68 + 1)), (54, .bool true), (55, .bool true), (56, .bool true), (57, .int .i64 bI), (58, .bool false), (59, .bool false), (60, .pointer (some ⟨g64, 0, none⟩)), (61, .int .i64 z53.author), (62, .slice (some ⟨gR, 0, none⟩) r.length cR), (63, .int .i64 bI), (64, .pointer (some ⟨gR, bI.toNat * 5, none⟩)), (65, .pointer (some ⟨gR, bI.toNat * 5 + 0, none⟩)), (66, .int .i64 z77.author), (67, .bool false), (68, .bool false), (69, .bool false)] ⟨⟨rfl, rfl⟩, ⟨rfl, rfl⟩, ⟨rfl, rfl⟩, ⟨rfl, rfl⟩, ⟨rfl, rfl⟩, ⟨rfl, rfl⟩, ⟨rfl, rfl⟩, ⟨rfl, rfl⟩, ⟨rfl, rfl⟩, ⟨rfl, rfl⟩, ⟨rfl, rfl⟩, ⟨rfl, rfl⟩, ⟨rfl, rfl⟩, ⟨rfl, rfl⟩, ⟨rfl, rfl⟩, ⟨rfl, rfl⟩, ⟨rfl, rfl⟩, ⟨rfl, rfl⟩, ⟨rfl, rfl⟩, ⟨rfl, rfl⟩, ⟨rfl, rfl⟩, ⟨rfl, rfl⟩, ⟨rfl, rfl⟩, ⟨rfl, rfl⟩, ⟨rfl, rfl⟩, ⟨rfl, rfl⟩, ⟨rfl, rfl⟩, ⟨rfl, rfl⟩, ⟨rfl, rfl⟩, ⟨rfl, rfl⟩, ⟨rfl, rfl⟩, ⟨rfl, rfl⟩, ⟨rfl, rfl⟩, ⟨rfl, rfl⟩, ⟨rfl, rfl⟩, ⟨rfl, rfl⟩, ⟨rfl, rfl⟩, ⟨rfl, rfl⟩, ⟨rfl, rfl⟩, ⟨rfl, rfl⟩, ⟨rfl, rfl⟩, ⟨rfl, rfl⟩, ⟨rfl, rfl⟩, ⟨rfl, rfl⟩, ⟨rfl, rfl⟩, ⟨rfl, rfl⟩, ⟨rfl, rfl⟩, trivial⟩ (fun junk => ?_)
        refine e_cF rfl ?_
        refine e_skip ?_
        refine n_blk ?_
        refine n_seq ?_
        refine e_reg ?_
        refine l_y (v := .int .i64 ((k : Int) + 1)) S (y_add (r := (k : Int) + 1) rfl rfl (w64 (by omega) (by omega))) ?_
        refine l_y (v := .int .i64 ((k : Int) + 1)) S (y_mv rfl) ?_
        refine l_nil ?_
        refine n_lp ⟨(k + 1, bI), _, fr_keep (m := [(6, .slice none 0 0), (7, .pointer (some ⟨g7, 0, none⟩)), (10, .slice Ac c.length cc), (11, .slice AO nO cO), (12, .slice (some ⟨gR, 0, none⟩) r.length cR), (31, .slice (some ⟨gR, 0, none⟩) r.length cR), (32, .int .i64 (r.length : Int)), (33, .bool true), (34, .slice (some ⟨gR, 0, none⟩) r.length cR), (35, .int .i64 (r.length : Int)), (36, .int .i64 ((k + 1 : Nat) : Int)), (13, .int .i64 bI)]) ⟨⟨rfl, rfl⟩, ⟨rfl, rfl⟩, ⟨rfl, rfl⟩, ⟨rfl, rfl⟩, ⟨rfl, rfl⟩, ⟨rfl, rfl⟩, ⟨rfl, rfl⟩, ⟨rfl, rfl⟩, ⟨rfl, rfl⟩, ⟨rfl, rfl⟩, ⟨ival (by first | rfl | omega), rfl⟩, ⟨rfl, rfl⟩, trivial⟩, ⟨_, _, rfl, (S.tk 2 2 rfl rfl), (Rd.le_trans L50 (Rd.le_refl rd48)), (by omega), (bestI_no2 hz54 hb hb0 hz78 hlt), (by omega), (by omega)⟩, ?_⟩
        show _ < _; dsimp only; omega
     · -- hsq no
      refine q_g (d' := 45) (v := .bool false) (y_eqF rfl rfl hsq) rfl rfl ?_
      refine q_y (v := .bool false) (y_pT rfl rfl) ?_
      refine q_y (v := .bool false) (y_mv rfl) ?_
      refine q_s (d' := 56) rfl rfl ?_
      refine q_s (d' := 56) rfl rfl ?_
      refine q_s (d' := 56) rfl rfl ?_
      refine q_su (d' := 59) rfl rfl ?_
      refine q_su (d' := 59) rfl rfl ?_
      refine q_su (d' := 59) rfl rfl ?_
      refine q_su (d' := 59) rfl rfl ?_
      refine q_su (d' := 59) rfl rfl ?_
      refine q_su (d' := 59) rfl rfl ?_
      refine q_su (d' := 59) rfl rfl ?_
      refine q_su (d' := 59) rfl rfl ?_
      refine q_s (d' := 56) rfl rfl ?_
      refine q_y (v := .bool false) (y_pF rfl rfl) ?_
      refine q_nil fun w90 S => ?_
      refine n_seq ?_
      refine e_trim [(6, .slice none 0 0), (7, .pointer (some ⟨g7, 0, none⟩)), (10, .slice Ac c.length cc), (11, .slice AO nO cO), (12, .slice (some ⟨gR, 0, none⟩) r.length cR), (31, .slice (some ⟨gR, 0, none⟩) r.length cR), (32, .int .i64 (r.length : Int)), (33, .bool true), (34, .slice (some ⟨gR, 0, none⟩) r.length cR), (35, .int .i64 (r.length : Int)), (36, .int .i64 (k : Int)), (13, .int .i64 bI), (37, .bool true), (38, .int .i64 (k : Int)), (39, .pointer (some ⟨gR, k * 5, none⟩)), (40, .agg #[.int .i64 z53.author, .slice A61 z53.seen.length c62, .int .i64 z53.kind, .int .i64 z53.key, .int .i64 z53.item]), (15, .pointer (some ⟨g64, 0, none⟩)), (14, .int .i64 (k : Int)), (41, .slice Ac c.length cc), (42, .pointer (some ⟨g64, 1, none⟩)), (43, .slice A61 z53.seen.length c62), (44, .bool true), (45, .bool true), (46, .agg #[.int .i64 z53.author, .slice A61 z53.seen.length c62, .int .i64 z53.kind, .int .i64 z53.key, .int .i64 z53.item]), (47, .int .i64 (seqU z53)), (48, .slice Ac c.length cc), (49, .pointer (some ⟨g64, 0, none⟩)), (50, .int .i64 z53.author), (51, p70), (52, .int .i64 z68), (53, .int .i64 (z68 + 1)), (54, .bool false), (55, .bool false), (56, .bool false), (57, undef), (58, undef), (59, undef), (60, undef), (61, undef), (62, undef), (63, undef), (64, undef), (65, undef), (66, undef), (67, undef), (68, undef), (69, .bool false)] ⟨⟨rfl, rfl⟩, ⟨rfl, rfl⟩, ⟨rfl, rfl⟩, ⟨rfl, rfl⟩, ⟨rfl, rfl⟩, ⟨rfl, rfl⟩, ⟨rfl, rfl⟩, ⟨rfl, rfl⟩, ⟨rfl, rfl⟩, ⟨rfl, rfl⟩, ⟨rfl, rfl⟩, ⟨rfl, rfl⟩, ⟨rfl, rfl⟩, ⟨rfl, rfl⟩, ⟨rfl, rfl⟩, ⟨rfl, rfl⟩, ⟨rfl, rfl⟩, ⟨rfl, rfl⟩, ⟨rfl, rfl⟩, ⟨rfl, rfl⟩, ⟨rfl, rfl⟩, ⟨rfl, rfl⟩, ⟨rfl, rfl⟩, ⟨rfl, rfl⟩, ⟨rfl, rfl⟩, ⟨rfl, rfl⟩, ⟨rfl, rfl⟩, ⟨rfl, rfl⟩, ⟨rfl, rfl⟩, ⟨rfl, rfl⟩, ⟨rfl, rfl⟩, ⟨rfl, rfl⟩, ⟨rfl, rfl⟩, ⟨rfl, rfl⟩, ⟨rfl, rfl⟩, ⟨rfl, rfl⟩, ⟨rfl, rfl⟩, ⟨rfl, rfl⟩, ⟨rfl, rfl⟩, ⟨rfl, rfl⟩, ⟨rfl, rfl⟩, ⟨rfl, rfl⟩, ⟨rfl, rfl⟩, ⟨rfl, rfl⟩, ⟨rfl, rfl⟩, ⟨rfl, rfl⟩, ⟨rfl, rfl⟩, trivial⟩ (fun junk => ?_)
      refine e_cF rfl ?_
      refine e_skip ?_
      refine n_blk ?_
      refine n_seq ?_
      refine e_reg ?_
      refine l_y (v := .int .i64 ((k : Int) + 1)) S (y_add (r := (k : Int) + 1) rfl rfl (w64 (by omega) (by omega))) ?_
      refine l_y (v := .int .i64 ((k : Int) + 1)) S (y_mv rfl) ?_
      refine l_nil ?_
      refine n_lp ⟨(k + 1, bI), _, fr_keep (m := [(6, .slice none 0 0), (7, .pointer (some ⟨g7, 0, none⟩)), (10, .slice Ac c.length cc), (11, .slice AO nO cO), (12, .slice (some ⟨gR, 0, none⟩) r.length cR), (31, .slice (some ⟨gR, 0, none⟩) r.length cR), (32, .int .i64 (r.length : Int)), (33, .bool true), (34, .slice (some ⟨gR, 0, none⟩) r.length cR), (35, .int .i64 (r.length : Int)), (36, .int .i64 ((k + 1 : Nat) : Int)), (13, .int .i64 bI)]) ⟨⟨rfl, rfl⟩, ⟨rfl, rfl⟩, ⟨rfl, rfl⟩, ⟨rfl, rfl⟩, ⟨rfl, rfl⟩, ⟨rfl, rfl⟩, ⟨rfl, rfl⟩, ⟨rfl, rfl⟩, ⟨rfl, rfl⟩, ⟨rfl, rfl⟩, ⟨ival (by first | rfl | omega), rfl⟩, ⟨rfl, rfl⟩, trivial⟩, ⟨_, _, rfl, (S.tk 2 2 rfl rfl), (Rd.le_trans L50 (Rd.le_refl rd48)), (by omega), (bestI_no1 hz54 (ready_F2 hI.w hat hsq) hb), (by omega), (by omega)⟩, ?_⟩
      show _ < _; dsimp only; omega
   · -- h52 no
    refine l_y (v := .bool false) S (y_ltF rfl rfl h52) ?_
    refine l_nil ?_
    refine n_seq ?_
    refine e_seq ?_
    refine e_cF rfl ?_
    refine e_exit ?_
    refine x_seq ?_
    refine x_lp ?_
    refine x_hit ?_
    refine n_seq ?_
    refine e_seq ?_
    refine e_reg ?_
    obtain ⟨b, u, hbb, B, hs, hI2⟩ := hI.step hr0
    have hbe : bI = (b : Int) := by rw [hb, show k = r.length by omega]; unfold bestI; rw [hbb]
    subst hbe; have hBlt := B.lt; have hul := hs.r.len; have hua0 := hs.r.a0; have hua1 := hs.r.a1
    refine l_y (v := .slice AO nO cO) S (y_mv rfl) ?_
    refine l_y (v := .slice (some ⟨gR, 0, none⟩) r.length cR) S (y_mv rfl) ?_
    refine l_y (v := .int .i64 (b : Int)) S (y_mv rfl) ?_
    refine l_y (v := .pointer (some ⟨gR, b * 5, none⟩)) S (y_ibs (k := b) U36 SZ29 hBlt (Nat.zero_add _) rfl rfl (by first | rfl | omega)) ?_
    obtain ⟨vs91, hl92, hr93, ha94⟩ := RowR.get b OR B.at_; clear hl92
    obtain ⟨sv95, hr93e, h96⟩ := hr93; subst hr93e
    obtain ⟨A97, c98, rfl, m99, m99'⟩ := h96.val
    refine l_y (v := .agg #[.int .i64 u.author, .slice A97 u.seen.length c98, .int .i64 u.kind, .int .i64 u.key, .int .i64 u.item]) S (y_ld rfl (fun w S => ld_oA (vs := [.int .i64 u.author, .slice A97 u.seen.length c98, .int .i64 u.kind, .int .i64 u.key, .int .i64 u.item]) (i := 0) S rfl rfl T29 rfl ha94)) ?_
    refine l_c (en_f (vs := [.agg #[.int .i64 u.author, .slice A97 u.seen.length c98, .int .i64 u.kind, .int .i64 u.key, .int .i64 u.item]]) (CF 59 _) rfl rfl) (UOwn_m _ _ S.le _ u (⟨_, rfl, ⟨_, rfl, h96⟩⟩ : AggR UpdR rd48 _ u) (by omega)) ?_
    rintro e w100 ⟨v105, rfl, h106, k⟩
    obtain ⟨rd101, S, L102, N103, X104⟩ := S.call' k; clear k
    replace fc := fm fc L102
    replace OR := rm OR L102
    replace OO := rm OO L102
    replace h96 := fm h96 L102
    replace h106 := am h106 X104
    obtain ⟨cs107, h106v, h106⟩ := h106; subst h106v
    obtain ⟨sv108, h106e, h109⟩ := h106; subst h106e
    obtain ⟨A110, c111, rfl, m112, m112'⟩ := h109.val
    refine ckd ?_
    refine l_bs (ps := [(0, .agg #[.int .i64 u.author, .slice A110 u.seen.length c111, .int .i64 u.kind, .int .i64 u.key, .int .i64 u.item])]) (cs := #[.int .i64 u.author, .slice A110 u.seen.length c111, .int .i64 u.kind, .int .i64 u.key, .int .i64 u.item]) S U36 SZ29 Z29 rfl rfl rfl (by kernel_rfl) fun g113 w114 S => ?_
    refine l_ap (e' := 0) (i := 1) (i' := 2) S K36 rfl rfl rfl rfl rfl rfl rfl (by simp only [maxLen]; omega) (by first | omega | (dsimp only; omega)) fun v115 w116 S => ?_
    have OO := RowR.push (x := u) (cs := [.int .i64 u.author, .slice A110 u.seen.length c111, .int .i64 u.kind, .int .i64 u.key, .int .i64 u.item]) OO rfl ⟨_, rfl, h109⟩
    obtain ⟨A117, c118, m119e, m119, m119'⟩ : ∃ A c, v115 = .slice A (nO + 1) c ∧ (nO + 1) ≤ c ∧ c ≤ maxLen := own_len S (i := 1) rfl; subst m119e
    refine l_y (v := .slice A117 (nO + 1) c118) S (y_as rfl) ?_
    refine l_nil ?_
    refine n_seq ?_
    refine e_seq ?_
    refine e_reg ?_
    refine l_y (v := .slice Ac c.length cc) S (y_mv rfl) ?_
    refine l_y (v := .slice (some ⟨gR, 0, none⟩) r.length cR) S (y_mv rfl) ?_
    refine l_y (v := .int .i64 (b : Int)) S (y_mv rfl) ?_
    refine l_y (v := .pointer (some ⟨gR, b * 5, none⟩)) S (y_ibs (k := b) U36 SZ29 hBlt (Nat.zero_add _) rfl rfl (by first | rfl | omega)) ?_
    refine l_y (v := .pointer (some ⟨gR, b * 5 + 0, none⟩)) S (y_fb FA29_0 rfl rfl) ?_
    refine l_y (v := .int .i64 u.author) S (y_ld rfl (fun w S => ld_o1 (i := 0) S rfl rfl T3 (ha94 0 _ rfl))) ?_
    refine l_c (en_f (vs := [.slice Ac c.length cc, .int .i64 u.author]) (CF 25 _) rfl rfl) (Tick_m _ _ S.le _ c u.author fc (by omega)) ?_
    rintro e w120 ⟨v125, rfl, h126, k⟩
    obtain ⟨rd121, S, L122, N123, X124⟩ := S.call' k; clear k
    replace fc := fm fc L122
    replace OR := rm OR L122
    replace OO := rm OO L122
    replace h96 := fm h96 L122
    replace h109 := fm h109 L122
    replace h126 := fm h126 X124
    obtain ⟨A127, c128, rfl, m129, m129'⟩ := h126.val
    refine ckd ?_
    refine l_y (v := .slice A127 ((tickC c u.author).length) c128) S (y_as rfl) ?_
    refine l_nil ?_
    refine n_seq ?_
    refine e_reg ?_
    refine l_y (v := .slice (some ⟨gR, 0, none⟩) r.length cR) S (y_mv rfl) ?_
    refine l_y (v := .int .i64 (b : Int)) S (y_mv rfl) ?_
    refine l_y (v := .int .i64 (b : Int)) S (y_mv rfl) ?_
    refine l_y (v := .int .i64 ((b : Int) + 1)) S (y_add (r := (b : Int) + 1) rfl rfl (w64 (by omega) (by omega))) ?_
    refine l_c (en_f (vs := [.slice (some ⟨gR, 0, none⟩) r.length cR, .int .i64 (b : Int), .int .i64 ((b : Int) + 1)]) (CF 60 _) rfl rfl) (DelU_o rd121 _ S.le _ _ b _ r (S.own _ (List.mem_of_getElem? (i := 0) rfl)).1 (fun g h => ((S.own _ (List.mem_of_getElem? (i := 0) rfl)).2 g h).2) OR rfl hBlt) ?_
    rintro e w133 ⟨v130, xs131, rfl, hO, O132, hB, hF⟩
    have S := S.mut (j := 0) (q' := ⟨29, 5, v130, ((r).eraseIdx b).length, xs131⟩) rfl hF (fun g h => by simpa using h) (by rw [List.length_eraseIdx, if_pos hBlt]; exact hO) hB; clear hF hB hO
    obtain ⟨A134, c135, m136e, m136, m136'⟩ : ∃ A c, v130 = .slice A (((r).eraseIdx b).length) c ∧ (((r).eraseIdx b).length) ≤ c ∧ c ≤ maxLen := own_len S (i := 1) rfl; subst m136e
    refine ckd ?_
    refine l_y (v := .slice A134 (((r).eraseIdx b).length) c135) S (y_as rfl) ?_
    refine l_nil ?_
    refine n_blk ?_
    replace S := S.swapO
    refine n_lp ⟨(tickC c u.author, A127, c128, r.eraseIdx b, A134, c135, xs131, o ++ [u], A117, nO + 1, c118, (xsO ++ [.int .i64 u.author, .slice A110 u.seen.length c111, .int .i64 u.kind, .int .i64 u.key, .int .i64 u.item])), _, fr_keep (m := [(6, .slice none 0 0), (7, .pointer (some ⟨g7, 0, none⟩)), (10, .slice A127 ((tickC c u.author).length) c128), (11, .slice A117 (nO + 1) c118), (12, .slice A134 ((r.eraseIdx b).length) c135)]) ⟨⟨rfl, rfl⟩, ⟨rfl, rfl⟩, ⟨rfl, rfl⟩, ⟨rfl, rfl⟩, ⟨rfl, rfl⟩, trivial⟩, ⟨_, _, rfl, (S.tk 2 2 rfl rfl), (Rd.le_trans L43 (Rd.le_trans (Rd.le_trans (Rd.le_trans (Rd.le_refl rd41) L50) L102) L122)), ⟨O132, rfl⟩, ⟨OO, (by simp; omega)⟩, h126, hI2⟩, ?_⟩
    show _ < _; dsimp only; rw [List.length_eraseIdx, if_pos B.lt]; have := B.lt; omega
  · -- h47 no
   refine l_y (v := .bool false) S (y_gtF rfl rfl h47) ?_
   refine l_nil ?_
   refine n_seq ?_
   refine e_cF rfl ?_
   refine e_exit ?_
   refine x_seq ?_
   refine x_lp ?_
   refine x_hit ?_
   refine n_seq ?_
   refine e_seq ?_
   refine e_reg ?_
   refine l_y (v := .slice AO nO cO) S (y_mv rfl) ?_
   refine l_y (v := .agg #[.int .i64 0, .int .i64 0]) S (y_bd (ps := []) rfl (fun _ => by kernel_rfl)) ?_
   refine l_y (v := .slice AO nO cO) S (y_as rfl) ?_
   refine l_st (u := .agg #[.int .i64 0, .int .i64 0]) (i := 0) (cs' := #[.int .i64 0, .int .i64 0]) S rfl rfl rfl SZ33 rfl rfl rfl fun w137 S => ?_
   refine l_nil ?_
   refine n_seq ?_
   refine e_ret ?_
   refine ret2 (v := .slice AO nO cO) (v' := .agg #[.int .i64 0, .int .i64 0]) rfl rfl ⟨_, rfl, ld_bA (i := 0) (vs := [.int .i64 0, .int .i64 0]) S rfl T33 rfl rfl⟩ ?_
   have er := hI.fin (by omega); rw [SortL_2 hC, er]; exact ⟨_, rfl, S.rowOut (i := 1) rfl rfl (show nO = o.length by omega) rfl OO, S.below⟩
 · -- hC no
  refine l_y (v := .bool true) S (y_neT rfl rfl hC) ?_
  refine l_nil ?_
  refine n_seq ?_
  refine e_cT rfl ?_
  refine e_seq ?_
  refine e_a (fun w => St [] W rd rd12 [(g19, 33, #[.int .i64 ((clockL base l n).2.1), .int .i64 ((clockL base l n).2.2)])] [] w) MX rfl ?_
  have S := S.drew; have sup138 := S.sup
  have SC : St [] W rd rd12 [(g19, 33, #[.int .i64 ((clockL base l n).2.1), .int .i64 ((clockL base l n).2.2)])] [] _ := ((S.tk 2 0 rfl rfl).del 0).rw' rfl rfl
  refine a_take (v := .agg #[.int .i64 ((clockL base l n).2.1), .int .i64 ((clockL base l n).2.2)]) 0 rfl rfl (by kernel_rfl) (by kernel_rfl) (by kernel_rfl) SC rfl (y_ld rfl (fun w S => ld_bA (vs := [.int .i64 ((clockL base l n).2.1), .int .i64 ((clockL base l n).2.2)]) (i := 0) S rfl T33 rfl rfl)) ?_
  refine a_take (v := .slice none 0 0) 1 rfl rfl (by kernel_rfl) (by kernel_rfl) (by kernel_rfl) SC rfl (y_as rfl) ?_
  refine a_all (rs := [2]) (by kernel_rfl) rfl ?_
  refine aa_cons rfl ?_ ?_
  · -- operation 2
   refine l_st (u := .agg #[.int .i64 ((clockL base l n).2.1), .int .i64 ((clockL base l n).2.2)]) (i := 0) (cs' := #[.int .i64 ((clockL base l n).2.1), .int .i64 ((clockL base l n).2.2)]) S rfl rfl rfl SZ33 rfl rfl rfl fun w139 S => ?_
   refine l_nil ?_
   have SC : St [] W rd rd12 [(g19, 33, #[.int .i64 ((clockL base l n).2.1), .int .i64 ((clockL base l n).2.2)])] [] _ := ((S.tk 2 0 rfl rfl).del 0).rw' rfl rfl
   refine n_lp (ak SC ?_)
   refine a_done (by kernel_rfl) ?_
   clear SC
   refine n_seq ?_
   refine e_ret ?_
   refine ret2 (v := .slice none 0 0) (v' := .agg #[.int .i64 ((clockL base l n).2.1), .int .i64 ((clockL base l n).2.2)]) rfl rfl ⟨_, rfl, ld_bA (i := 0) (vs := [.int .i64 ((clockL base l n).2.1), .int .i64 ((clockL base l n).2.2)]) S rfl T33 rfl rfl⟩ ?_
   rw [SortL_1 hC]; exact ⟨_, rfl, SliceR.nil_ _, S.below⟩
  exact aa_nil
end Go.Proofs.Ytkjknlnhffmkkab
