/- prunelaw4.alive answers true. -/
import Derived.Test.YtkjknlnhffmkkabQPlay
import Derived.Test.YtkjknlnhffmkkabQRead
import Derived.Test.YtkjknlnhffmkkabQSame
namespace Go.Proofs.Ytkjknlnhffmkkab
open Go.RowKit
set_option linter.unusedVariables false
def logA4 : List Upd := [⟨0, [0, 0], 1, 1, 5⟩, ⟨1, [0, 0], 1, 1, 6⟩, ⟨0, [1, 0], 5, 2, 7⟩]
set_option maxRecDepth 100000 in
theorem up4_c (rd : Rd) (W : World) (hle : Rd.le rd (wrd W)) (k key item au : Int) (A : Option Addr) (n c : Nat) :
    Calls Try.prog 38 #[(.int .i64 k), (.int .i64 key), (.int .i64 item), (.int .i64 au), (.slice A n c)] W (fun e w' => e = .returned (.agg #[.int .i64 au, .slice A n c, .int .i64 k, .int .i64 key, .int .i64 item]) ∧ Below W.heap.size W w') := by
 have hmx : maxLen = 9223372036854775807 := rfl
 have S : St [] W rd rd [] [] W := St.start hle
 refine e_enter (args := [.int .i64 k, .int .i64 key, .int .i64 item, .int .i64 au, .slice A n c]) 17 Try.func38 rfl rfl rfl ?_
 refine e_seq ?_
 refine e_reg ?_
 refine l_al (cs := #[.int .i64 0, .slice none 0 0, .int .i64 0, .int .i64 0, .int .i64 0]) S Z29 rfl fun g1 w2 S => ?_
 refine l_nil ?_
 refine n_seq ?_
 refine e_seq ?_
 refine e_reg ?_
 refine l_y (v := .int .i64 au) S (y_mv rfl) ?_
 refine l_y (v := .slice A n c) S (y_mv rfl) ?_
 refine l_y (v := .int .i64 k) S (y_mv rfl) ?_
 refine l_y (v := .int .i64 key) S (y_mv rfl) ?_
 refine l_y (v := .int .i64 item) S (y_mv rfl) ?_
 refine l_y (v := .agg #[.int .i64 au, .slice A n c, .int .i64 k, .int .i64 key, .int .i64 item]) S (y_bd (ps := [(0, .int .i64 au), (1, .slice A n c), (2, .int .i64 k), (3, .int .i64 key), (4, .int .i64 item)]) rfl (fun _ => by kernel_rfl)) ?_
 refine l_st (u := .agg #[.int .i64 au, .slice A n c, .int .i64 k, .int .i64 key, .int .i64 item]) (i := 0) (cs' := #[.int .i64 au, .slice A n c, .int .i64 k, .int .i64 key, .int .i64 item]) S rfl rfl rfl SZ29 rfl rfl rfl fun w3 S => ?_
 refine l_nil ?_
 refine n_seq ?_
 refine e_ret ?_
 refine ret1 (v := .agg #[.int .i64 au, .slice A n c, .int .i64 k, .int .i64 key, .int .i64 item]) rfl ⟨_, rfl, ld_bA (i := 0) (vs := [.int .i64 au, .slice A n c, .int .i64 k, .int .i64 key, .int .i64 item]) S rfl T29 rfl rfl⟩ ?_
 exact ⟨rfl, S.below⟩

set_option maxRecDepth 100000 in
set_option maxHeartbeats 8000000 in
theorem alive4_c (rd : Rd) (W : World) (hle : Rd.le rd (wrd W))  :
    Calls Try.prog 13 #[] W (fun e w' => e = .returned (.bool true) ∧ Below W.heap.size W w') := by
 have hmx : maxLen = 9223372036854775807 := rfl
 have S : St [] W rd rd [] [] W := St.start hle
 refine e_enter (args := []) 59 Try.func13 rfl rfl rfl ?_
 refine e_seq ?_
 refine e_reg ?_
 refine l_y (v := .bool false) S (y_as rfl) ?_
 refine l_nil ?_
 refine n_seq ?_
 refine e_seq ?_
 refine e_reg ?_
 refine l_c (en_f (vs := [.int .i64 2]) (CF 18 _) rfl rfl) (SStart_c _ _ S.le 2) ?_
 rintro e w1 ⟨v6, rfl, h7, k⟩
 obtain ⟨rd2, S, L3, N4, X5⟩ := S.call' k; clear k
 replace h7 := am h7 X5
 obtain ⟨cs8, h7v, h7⟩ := h7; subst h7v
 obtain ⟨sv9, sv11, sv13, h7e, h10, h12, h14⟩ := h7; subst h7e
 obtain ⟨A15, c16, rfl, m17, m17'⟩ := h10.val
 obtain ⟨A18, c19, rfl, m20, m20'⟩ := h12.val
 obtain ⟨A21, c22, rfl, m23, m23'⟩ := h14.val
 refine ckd ?_
 refine l_bs (ps := [(0, .int .i64 0), (1, .int .i64 0)]) (cs := #[.int .i64 0, .int .i64 0]) S U22 SZ3 Z3 rfl rfl rfl (by kernel_rfl) fun g24 w25 S => ?_
 obtain ⟨rd26, S, L27, Fz28⟩ := S.frz' (i := 0) rfl rfl
 replace h10 := fm h10 L27
 replace h12 := fm h12 L27
 replace h14 := fm h14 L27
 have F29 := Fz28 (size := 1) (R := IntR) (xs := ([0, 0] : List Int)) (n := 2) (c := 2) rfl (Nat.le_refl _) (by simp [maxLen]) (rowInts _ ([0, 0] : List Int)); clear Fz28
 refine l_c (en_f (vs := [.int .i64 1, .int .i64 1, .int .i64 5, .int .i64 0, .slice (some ⟨g24, 0, none⟩) 2 2]) (CF 38 _) rfl rfl) (up4_c _ _ S.le _ _ _ _ _ _ _) ?_
 rintro e w30 ⟨rfl, k⟩
 have S := S.callq k; clear k
 refine ckd ?_
 refine l_bs (ps := [(0, .int .i64 0), (1, .int .i64 0)]) (cs := #[.int .i64 0, .int .i64 0]) S U22 SZ3 Z3 rfl rfl rfl (by kernel_rfl) fun g31 w32 S => ?_
 obtain ⟨rd33, S, L34, Fz35⟩ := S.frz' (i := 0) rfl rfl
 replace h10 := fm h10 L34
 replace h12 := fm h12 L34
 replace h14 := fm h14 L34
 replace F29 := fm F29 L34
 have F36 := Fz35 (size := 1) (R := IntR) (xs := ([0, 0] : List Int)) (n := 2) (c := 2) rfl (Nat.le_refl _) (by simp [maxLen]) (rowInts _ ([0, 0] : List Int)); clear Fz35
 refine l_c (en_f (vs := [.int .i64 1, .int .i64 1, .int .i64 6, .int .i64 1, .slice (some ⟨g31, 0, none⟩) 2 2]) (CF 38 _) rfl rfl) (up4_c _ _ S.le _ _ _ _ _ _ _) ?_
 rintro e w37 ⟨rfl, k⟩
 have S := S.callq k; clear k
 refine ckd ?_
 refine l_bs (ps := [(0, .int .i64 1), (1, .int .i64 0)]) (cs := #[.int .i64 1, .int .i64 0]) S U22 SZ3 Z3 rfl rfl rfl (by kernel_rfl) fun g38 w39 S => ?_
 obtain ⟨rd40, S, L41, Fz42⟩ := S.frz' (i := 0) rfl rfl
 replace h10 := fm h10 L41
 replace h12 := fm h12 L41
 replace h14 := fm h14 L41
 replace F29 := fm F29 L41
 replace F36 := fm F36 L41
 have F43 := Fz42 (size := 1) (R := IntR) (xs := ([1, 0] : List Int)) (n := 2) (c := 2) rfl (Nat.le_refl _) (by simp [maxLen]) (rowInts _ ([1, 0] : List Int)); clear Fz42
 refine l_c (en_f (vs := [.int .i64 5, .int .i64 2, .int .i64 7, .int .i64 0, .slice (some ⟨g38, 0, none⟩) 2 2]) (CF 38 _) rfl rfl) (up4_c _ _ S.le _ _ _ _ _ _ _) ?_
 rintro e w44 ⟨rfl, k⟩
 have S := S.callq k; clear k
 refine ckd ?_
 refine l_bs (ps := [(0, .agg #[.int .i64 0, .slice (some ⟨g24, 0, none⟩) 2 2, .int .i64 1, .int .i64 1, .int .i64 5]), (1, .agg #[.int .i64 1, .slice (some ⟨g31, 0, none⟩) 2 2, .int .i64 1, .int .i64 1, .int .i64 6]), (2, .agg #[.int .i64 0, .slice (some ⟨g38, 0, none⟩) 2 2, .int .i64 5, .int .i64 2, .int .i64 7])]) (cs := #[.int .i64 0, .slice (some ⟨g24, 0, none⟩) 2 2, .int .i64 1, .int .i64 1, .int .i64 5, .int .i64 1, .slice (some ⟨g31, 0, none⟩) 2 2, .int .i64 1, .int .i64 1, .int .i64 6, .int .i64 0, .slice (some ⟨g38, 0, none⟩) 2 2, .int .i64 5, .int .i64 2, .int .i64 7]) S U36 SZ29 Z29 rfl rfl rfl (by kernel_rfl) fun g45 w46 S => ?_
 obtain ⟨rd47, S, L48, Fz49⟩ := S.frz' (i := 0) rfl rfl
 replace h10 := fm h10 L48
 replace h12 := fm h12 L48
 replace h14 := fm h14 L48
 replace F29 := fm F29 L48
 replace F36 := fm F36 L48
 replace F43 := fm F43 L48
 have F50 := Fz49 (size := 5) (R := UpdR) (xs := ([(⟨0, ([0, 0] : List Int), 1, 1, 5⟩ : Upd), (⟨1, ([0, 0] : List Int), 1, 1, 6⟩ : Upd), (⟨0, ([1, 0] : List Int), 5, 2, 7⟩ : Upd)] : List Upd)) (n := 3) (c := 3) rfl (Nat.le_refl _) (by simp [maxLen]) ⟨[.int .i64 0, .slice (some ⟨g24, 0, none⟩) 2 2, .int .i64 1, .int .i64 1, .int .i64 5], _, rfl, rfl, ⟨_, rfl, F29⟩, ⟨[.int .i64 1, .slice (some ⟨g31, 0, none⟩) 2 2, .int .i64 1, .int .i64 1, .int .i64 6], _, rfl, rfl, ⟨_, rfl, F36⟩, ⟨[.int .i64 0, .slice (some ⟨g38, 0, none⟩) 2 2, .int .i64 5, .int .i64 2, .int .i64 7], _, rfl, rfl, ⟨_, rfl, F43⟩, rfl⟩⟩⟩; clear Fz49
 have F50 : SliceR 5 UpdR rd47 (.slice (some ⟨g45, 0, none⟩) 3 3) logA4 := F50
 refine l_c (en_f (vs := [.agg #[.slice A15 (((startG 2).clock).length) c16, .slice A18 (((startG 2).lives).length) c19, .slice A21 (((startG 2).tallies).length) c22], .slice (some ⟨g45, 0, none⟩) 3 3]) (CF 14 _) rfl rfl) (SPlay_c _ _ S.le _ _ (startG 2) logA4 (⟨_, rfl, ⟨_, _, _, rfl, h10, h12, h14⟩⟩ : AggR StateR rd47 _ (startG 2)) F50) ?_
 rintro e w51 ⟨v56, rfl, h57, k⟩
 obtain ⟨rd52, S, L53, N54, X55⟩ := S.call' k; clear k
 replace h10 := fm h10 L53
 replace h12 := fm h12 L53
 replace h14 := fm h14 L53
 replace F29 := fm F29 L53
 replace F36 := fm F36 L53
 replace F43 := fm F43 L53
 replace F50 := fm F50 L53
 replace h57 := am h57 X55
 obtain ⟨cs58, h57v, h57⟩ := h57; subst h57v
 obtain ⟨sv59, sv61, sv63, h57e, h60, h62, h64⟩ := h57; subst h57e
 obtain ⟨A65, c66, rfl, m67, m67'⟩ := h60.val
 obtain ⟨A68, c69, rfl, m70, m70'⟩ := h62.val
 obtain ⟨A71, c72, rfl, m73, m73'⟩ := h64.val
 refine ckd ?_
 refine l_y (v := .tuple #[.agg #[.slice A65 (((PlayS (startG 2) logA4).1.clock).length) c66, .slice A68 (((PlayS (startG 2) logA4).1.lives).length) c69, .slice A71 (((PlayS (startG 2) logA4).1.tallies).length) c72], .agg #[.int .i64 ((PlayS (startG 2) logA4).2.1), .int .i64 ((PlayS (startG 2) logA4).2.2)]]) S (y_mv rfl) ?_
 refine l_y (v := .agg #[.slice A65 (((PlayS (startG 2) logA4).1.clock).length) c66, .slice A68 (((PlayS (startG 2) logA4).1.lives).length) c69, .slice A71 (((PlayS (startG 2) logA4).1.tallies).length) c72]) S (y_ex rfl rfl) ?_
 refine l_y (v := .agg #[.int .i64 ((PlayS (startG 2) logA4).2.1), .int .i64 ((PlayS (startG 2) logA4).2.2)]) S (y_ex rfl rfl) ?_
 refine l_al (cs := #[.slice none 0 0, .slice none 0 0, .slice none 0 0]) S Z27 rfl fun g74 w75 S => ?_
 refine l_al (cs := #[.int .i64 0, .int .i64 0]) S Z33 rfl fun g76 w77 S => ?_
 refine l_st (u := .agg #[.slice A65 (((PlayS (startG 2) logA4).1.clock).length) c66, .slice A68 (((PlayS (startG 2) logA4).1.lives).length) c69, .slice A71 (((PlayS (startG 2) logA4).1.tallies).length) c72]) (i := 0) (cs' := #[.slice A65 (((PlayS (startG 2) logA4).1.clock).length) c66, .slice A68 (((PlayS (startG 2) logA4).1.lives).length) c69, .slice A71 (((PlayS (startG 2) logA4).1.tallies).length) c72]) S rfl rfl rfl SZ27 rfl rfl rfl fun w78 S => ?_
 refine l_st (u := .agg #[.int .i64 ((PlayS (startG 2) logA4).2.1), .int .i64 ((PlayS (startG 2) logA4).2.2)]) (i := 1) (cs' := #[.int .i64 ((PlayS (startG 2) logA4).2.1), .int .i64 ((PlayS (startG 2) logA4).2.2)]) S rfl rfl rfl SZ33 rfl rfl rfl fun w79 S => ?_
 refine l_nil ?_
 refine n_seq ?_
 refine e_seq ?_
 refine e_reg ?_
 refine l_y (v := .agg #[.slice A65 (((PlayS (startG 2) logA4).1.clock).length) c66, .slice A68 (((PlayS (startG 2) logA4).1.lives).length) c69, .slice A71 (((PlayS (startG 2) logA4).1.tallies).length) c72]) S (y_ld rfl (fun w S => ld_bA (vs := [.slice A65 (((PlayS (startG 2) logA4).1.clock).length) c66, .slice A68 (((PlayS (startG 2) logA4).1.lives).length) c69, .slice A71 (((PlayS (startG 2) logA4).1.tallies).length) c72]) (i := 0) S rfl T27 rfl rfl)) ?_
 refine l_c (en_f (vs := [.agg #[.slice A65 (((PlayS (startG 2) logA4).1.clock).length) c66, .slice A68 (((PlayS (startG 2) logA4).1.lives).length) c69, .slice A71 (((PlayS (startG 2) logA4).1.tallies).length) c72]]) (CF 20 _) rfl rfl) (SRead_c _ _ S.le _ ((PlayS (startG 2) logA4).1) (⟨_, rfl, ⟨_, _, _, rfl, h60, h62, h64⟩⟩ : AggR StateR rd52 _ ((PlayS (startG 2) logA4).1))) ?_
 rintro e w80 ⟨v85, rfl, h86, k⟩
 obtain ⟨rd81, S, L82, N83, X84⟩ := S.call' k; clear k
 replace h10 := fm h10 L82
 replace h12 := fm h12 L82
 replace h14 := fm h14 L82
 replace F29 := fm F29 L82
 replace F36 := fm F36 L82
 replace F43 := fm F43 L82
 replace F50 := fm F50 L82
 replace h60 := fm h60 L82
 replace h62 := fm h62 L82
 replace h64 := fm h64 L82
 replace h86 := am h86 X84
 obtain ⟨cs87, h86v, h86⟩ := h86; subst h86v
 obtain ⟨sv88, sv90, sv92, h86e, h89, h91, h93⟩ := h86; subst h86e
 obtain ⟨A94, c95, rfl, m96, m96'⟩ := h89.val
 obtain ⟨A97, c98, rfl, m99, m99'⟩ := h91.val
 obtain ⟨A100, c101, rfl, m102, m102'⟩ := h93.val
 refine ckd ?_
 refine l_y (v := .tuple #[.agg #[.slice A94 (((ReadS ((PlayS (startG 2) logA4).1)).1.regs).length) c95, .slice A97 (((ReadS ((PlayS (startG 2) logA4).1)).1.sets).length) c98, .slice A100 (((ReadS ((PlayS (startG 2) logA4).1)).1.counters).length) c101], .agg #[.int .i64 ((ReadS ((PlayS (startG 2) logA4).1)).2.1), .int .i64 ((ReadS ((PlayS (startG 2) logA4).1)).2.2)]]) S (y_mv rfl) ?_
 refine l_y (v := .agg #[.slice A94 (((ReadS ((PlayS (startG 2) logA4).1)).1.regs).length) c95, .slice A97 (((ReadS ((PlayS (startG 2) logA4).1)).1.sets).length) c98, .slice A100 (((ReadS ((PlayS (startG 2) logA4).1)).1.counters).length) c101]) S (y_ex rfl rfl) ?_
 refine l_y (v := .agg #[.int .i64 ((ReadS ((PlayS (startG 2) logA4).1)).2.1), .int .i64 ((ReadS ((PlayS (startG 2) logA4).1)).2.2)]) S (y_ex rfl rfl) ?_
 refine l_al (cs := #[.slice none 0 0, .slice none 0 0, .slice none 0 0]) S Z44 rfl fun g103 w104 S => ?_
 refine l_al (cs := #[.int .i64 0, .int .i64 0]) S Z33 rfl fun g105 w106 S => ?_
 refine l_st (u := .agg #[.slice A94 (((ReadS ((PlayS (startG 2) logA4).1)).1.regs).length) c95, .slice A97 (((ReadS ((PlayS (startG 2) logA4).1)).1.sets).length) c98, .slice A100 (((ReadS ((PlayS (startG 2) logA4).1)).1.counters).length) c101]) (i := 2) (cs' := #[.slice A94 (((ReadS ((PlayS (startG 2) logA4).1)).1.regs).length) c95, .slice A97 (((ReadS ((PlayS (startG 2) logA4).1)).1.sets).length) c98, .slice A100 (((ReadS ((PlayS (startG 2) logA4).1)).1.counters).length) c101]) S rfl rfl rfl SZ44 rfl rfl rfl fun w107 S => ?_
 refine l_st (u := .agg #[.int .i64 ((ReadS ((PlayS (startG 2) logA4).1)).2.1), .int .i64 ((ReadS ((PlayS (startG 2) logA4).1)).2.2)]) (i := 3) (cs' := #[.int .i64 ((ReadS ((PlayS (startG 2) logA4).1)).2.1), .int .i64 ((ReadS ((PlayS (startG 2) logA4).1)).2.2)]) S rfl rfl rfl SZ33 rfl rfl rfl fun w108 S => ?_
 refine l_nil ?_
 refine n_seq ?_
 refine e_seq ?_
 refine e_reg ?_
 refine l_y (v := .pointer (some ⟨g76, 0, none⟩)) S (y_fb FA33_0 rfl rfl) ?_
 refine l_y (v := .int .i64 ((PlayS (startG 2) logA4).2.1)) S (y_ld rfl (fun w S => ld_b1 (i := 1) S rfl rfl T31)) ?_
 have h109 : (PlayS (startG 2) logA4).2.1 = 0 := by decide +kernel
 refine l_y (v := .bool true) S (y_eqT rfl rfl h109) ?_
 refine l_y (v := .bool true) S (y_mv rfl) ?_
 refine l_g (d' := 25) (v := .pointer (some ⟨g105, 0, none⟩)) S (y_fb FA33_0 rfl rfl) rfl rfl ?_
 refine l_g (d' := 25) (v := .int .i64 ((ReadS ((PlayS (startG 2) logA4).1)).2.1)) S (y_ld rfl (fun w S => ld_b1 (i := 3) S rfl rfl T31)) rfl rfl ?_
 have h110 : (ReadS ((PlayS (startG 2) logA4).1)).2.1 = 0 := by decide +kernel
 refine l_g (d' := 25) (v := .bool true) S (y_eqT rfl rfl h110) rfl rfl ?_
 refine l_y (v := .bool true) S (y_pT rfl rfl) ?_
 refine l_y (v := .bool true) S (y_mv rfl) ?_
 refine l_g (d' := 30) (v := .pointer (some ⟨g103, 0, none⟩)) S (y_fb FA44_0 rfl rfl) rfl rfl ?_
 refine l_g (d' := 30) (v := .slice A94 (((ReadS ((PlayS (startG 2) logA4).1)).1.regs).length) c95) S (y_ld rfl (fun w S => ld_b1 (i := 2) S rfl rfl T41)) rfl rfl ?_
 refine l_g (d' := 30) (v := .int .i64 (((ReadS ((PlayS (startG 2) logA4).1)).1.regs).length : Int)) S (y_len U41 rfl rfl) rfl rfl ?_
 have h111 : (((ReadS ((PlayS (startG 2) logA4).1)).1.regs).length : Int) = 1 := by decide +kernel
 refine l_g (d' := 30) (v := .bool true) S (y_eqT rfl rfl h111) rfl rfl ?_
 refine l_y (v := .bool true) S (y_pT rfl rfl) ?_
 refine l_y (v := .bool true) S (y_mv rfl) ?_
 refine l_g (d' := 36) (v := .pointer (some ⟨g103, 0, none⟩)) S (y_fb FA44_0 rfl rfl) rfl rfl ?_
 refine l_g (d' := 36) (v := .slice A94 (((ReadS ((PlayS (startG 2) logA4).1)).1.regs).length) c95) S (y_ld rfl (fun w S => ld_b1 (i := 2) S rfl rfl T41)) rfl rfl ?_
 obtain ⟨z112, hz113⟩ : ∃ z, ((ReadS ((PlayS (startG 2) logA4).1)).1.regs)[0]? = some z := ⟨⟨1, [5, 6]⟩, by decide +kernel⟩
 have hz1 : z112 = (⟨1, [5, 6]⟩ : Cell) := by have e : (ReadS (PlayS (startG 2) logA4).1).1.regs[0]? = some ⟨1, [5, 6]⟩ := (by decide +kernel); rw [e] at hz113; injection hz113 with h; exact h.symm
 obtain ⟨p114, vs115, E116, nn117, r118, Y119⟩ := y_ia U41 SZ55 h89 hz113
 clear nn117
 obtain ⟨sv120, r118e, h121⟩ := r118; subst r118e
 obtain ⟨A122, c123, rfl, m124, m124'⟩ := h121.val
 refine l_g (d' := 36) (v := p114) S (Y119 rfl rfl (by first | rfl | omega)) rfl rfl ?_
 obtain ⟨p125, Ep125, Yp125⟩ := y_fp (us := [.slice A122 z112.items.length c123]) FA55_1 E116 rfl
 refine l_g (d' := 36) (v := p125) S (Yp125 rfl) rfl rfl ?_
 refine l_g (d' := 36) (v := .slice A122 z112.items.length c123) S (y_ld rfl (fun w S => ld_p1 S.le Ep125 rfl T22)) rfl rfl ?_
 refine l_ug (d' := 36) rfl rfl ?_
 refine l_bs (ps := [(0, .int .i64 5), (1, .int .i64 6)]) (cs := #[.int .i64 5, .int .i64 6]) S U22 SZ3 Z3 rfl rfl rfl (by kernel_rfl) fun g126 w127 S => ?_
 obtain ⟨rd128, S, L129, Fz130⟩ := S.frz' (i := 4) rfl rfl
 replace h10 := fm h10 L129
 replace h12 := fm h12 L129
 replace h14 := fm h14 L129
 replace F29 := fm F29 L129
 replace F36 := fm F36 L129
 replace F43 := fm F43 L129
 replace F50 := fm F50 L129
 replace h60 := fm h60 L129
 replace h62 := fm h62 L129
 replace h64 := fm h64 L129
 replace h89 := fm h89 L129
 replace h91 := fm h91 L129
 replace h93 := fm h93 L129
 replace h121 := fm h121 L129
 replace E116 := PtrC.mono E116 L129
 replace Ep125 := PtrC.mono Ep125 L129
 have F131 := Fz130 (size := 1) (R := IntR) (xs := ([5, 6] : List Int)) (n := 2) (c := 2) rfl (Nat.le_refl _) (by simp [maxLen]) (rowInts _ ([5, 6] : List Int)); clear Fz130
 refine l_cg (d' := 36) (en_f (vs := [.slice A122 z112.items.length c123, .slice (some ⟨g126, 0, none⟩) 2 2]) (CF 24 _) rfl rfl) rfl rfl (Same_calls _ _ _ _ _ (fm h121 S.le) (fm F131 S.le)) ?_
 rintro e w132 ⟨rfl, k⟩
 have S := S.callq k; clear k
 have b133 : sameL z112.items ([5, 6] : List Int) = true := by rw [hz1]; decide
 rw [b133]
 refine ckd ?_
 refine l_y (v := .bool true) S (y_pT rfl rfl) ?_
 refine l_y (v := .bool true) S (y_mv rfl) ?_
 refine l_g (d' := 45) (v := .pointer (some ⟨g103, 2, none⟩)) S (y_fb FA44_2 rfl rfl) rfl rfl ?_
 refine l_g (d' := 45) (v := .slice A100 (((ReadS ((PlayS (startG 2) logA4).1)).1.counters).length) c101) S (y_ld rfl (fun w S => ld_b1 (i := 2) S rfl rfl T42)) rfl rfl ?_
 refine l_g (d' := 45) (v := .int .i64 (((ReadS ((PlayS (startG 2) logA4).1)).1.counters).length : Int)) S (y_len U42 rfl rfl) rfl rfl ?_
 have h134 : (((ReadS ((PlayS (startG 2) logA4).1)).1.counters).length : Int) = 1 := by decide +kernel
 refine l_g (d' := 45) (v := .bool true) S (y_eqT rfl rfl h134) rfl rfl ?_
 refine l_y (v := .bool true) S (y_pT rfl rfl) ?_
 refine l_y (v := .bool true) S (y_mv rfl) ?_
 refine l_g (d' := 51) (v := .pointer (some ⟨g103, 2, none⟩)) S (y_fb FA44_2 rfl rfl) rfl rfl ?_
 refine l_g (d' := 51) (v := .slice A100 (((ReadS ((PlayS (startG 2) logA4).1)).1.counters).length) c101) S (y_ld rfl (fun w S => ld_b1 (i := 2) S rfl rfl T42)) rfl rfl ?_
 obtain ⟨z135, hz136⟩ : ∃ z, ((ReadS ((PlayS (startG 2) logA4).1)).1.counters)[0]? = some z := ⟨⟨2, 7⟩, by decide +kernel⟩
 have hz2 : z135 = (⟨2, 7⟩ : Pair) := by have e : (ReadS (PlayS (startG 2) logA4).1).1.counters[0]? = some ⟨2, 7⟩ := (by decide +kernel); rw [e] at hz136; injection hz136 with h; exact h.symm
 obtain ⟨p137, vs138, E139, nn140, r141, Y142⟩ := y_ia U42 SZ57 h93 hz136
 clear nn140
 have r141e : vs138 = [.int .i64 z135.key, .int .i64 z135.sum] := r141; subst r141e; clear r141
 refine l_g (d' := 51) (v := p137) S (Y142 rfl rfl (by first | rfl | omega)) rfl rfl ?_
 refine l_g (d' := 51) (v := .agg #[.int .i64 z135.key, .int .i64 z135.sum]) S (y_ld rfl (fun w S => ld_pA (us := [.int .i64 z135.key, .int .i64 z135.sum]) S.le E139 T57 rfl rfl)) rfl rfl ?_
 refine l_g (d' := 51) (v := .agg #[.int .i64 2, .int .i64 7]) S (y_bd (ps := [(0, .int .i64 2), (1, .int .i64 7)]) rfl (fun _ => by kernel_rfl)) rfl rfl ?_
 refine l_g (d' := 51) (v := .bool true) S (y_eqa (fun _ _ _ => by kernel_rfl) (fun w => pair_eq2 hz2 w) rfl rfl) rfl rfl ?_
 refine l_y (v := .bool true) S (y_pT rfl rfl) ?_
 refine l_y (v := .bool true) S (y_as rfl) ?_
 refine l_nil ?_
 refine n_seq ?_
 refine e_trim [(0, .bool true)] ⟨⟨rfl, rfl⟩, trivial⟩ (fun junk => ?_)
 refine e_ret ?_
 refine ret1 (v := .bool true) rfl rfl ?_
 exact ⟨rfl, S.below⟩
end Go.Proofs.Ytkjknlnhffmkkab
