/- prunelaw5.alive answers true; the state of those updates of a log that a clock has. -/
import Derived.Test.YtkjknlnhffmkkabQPlay
import Derived.Test.YtkjknlnhffmkkabQSame
import Derived.Test.YtkjknlnhffmkkabQJoin
import Derived.Test.YtkjknlnhffmkkabQPl
namespace Go.Proofs.Ytkjknlnhffmkkab
open Go.RowKit
set_option linter.unusedVariables false
def logA5 : List Upd := [⟨0, [0, 0], 1, 1, 5⟩]
def logB5 : List Upd := [⟨1, [0, 0], 5, 1, 6⟩]
set_option maxRecDepth 100000 in
theorem up5_c (rd : Rd) (W : World) (hle : Rd.le rd (wrd W)) (k key item au : Int) (A : Option Addr) (n c : Nat) :
    Calls Try.prog 66 #[(.int .i64 k), (.int .i64 key), (.int .i64 item), (.int .i64 au), (.slice A n c)] W (fun e w' => e = .returned (.agg #[.int .i64 au, .slice A n c, .int .i64 k, .int .i64 key, .int .i64 item]) ∧ Below W.heap.size W w') := by
 have hmx : maxLen = 9223372036854775807 := rfl
 have S : St [] W rd rd [] [] W := St.start hle
 refine e_enter (args := [.int .i64 k, .int .i64 key, .int .i64 item, .int .i64 au, .slice A n c]) 17 Try.func66 rfl rfl rfl ?_
 refine e_seq ?_
 refine e_reg ?_
 refine l_al (cs := #[.int .i64 0, .slice none 0 0, .int .i64 0, .int .i64 0, .int .i64 0]) S Z29 rfl fun g1 w2 S => ?_
 refine l_nil ?_
 refine n_seq ?_
 refine e_seq ?_
 refine e_reg ?_
 refine l_y (v := .int .i64 au) S (y_mv rfl) ?_
 refine l_y (v := .slice A n c) S (y_mv rfl) ?_
 refine l_y (v := .int .i64 k) S (y_mv rfl) ?_
 refine l_y (v := .int .i64 key) S (y_mv rfl) ?_
 refine l_y (v := .int .i64 item) S (y_mv rfl) ?_
 refine l_y (v := .agg #[.int .i64 au, .slice A n c, .int .i64 k, .int .i64 key, .int .i64 item]) S (y_bd (ps := [(0, .int .i64 au), (1, .slice A n c), (2, .int .i64 k), (3, .int .i64 key), (4, .int .i64 item)]) rfl (fun _ => by kernel_rfl)) ?_
 refine l_st (u := .agg #[.int .i64 au, .slice A n c, .int .i64 k, .int .i64 key, .int .i64 item]) (i := 0) (cs' := #[.int .i64 au, .slice A n c, .int .i64 k, .int .i64 key, .int .i64 item]) S rfl rfl rfl SZ29 rfl rfl rfl fun w3 S => ?_
 refine l_nil ?_
 refine n_seq ?_
 refine e_ret ?_
 refine ret1 (v := .agg #[.int .i64 au, .slice A n c, .int .i64 k, .int .i64 key, .int .i64 item]) rfl ⟨_, rfl, ld_bA (i := 0) (vs := [.int .i64 au, .slice A n c, .int .i64 k, .int .i64 key, .int .i64 item]) S rfl T29 rfl rfl⟩ ?_
 exact ⟨rfl, S.below⟩

set_option maxRecDepth 100000 in
set_option maxHeartbeats 8000000 in
theorem alive5_c (rd : Rd) (W : World) (hle : Rd.le rd (wrd W))  :
    Calls Try.prog 33 #[] W (fun e w' => e = .returned (.bool true) ∧ Below W.heap.size W w') := by
 have hmx : maxLen = 9223372036854775807 := rfl
 have S : St [] W rd rd [] [] W := St.start hle
 refine e_enter (args := []) 59 Try.func33 rfl rfl rfl ?_
 refine e_seq ?_
 refine e_reg ?_
 refine l_y (v := .bool false) S (y_as rfl) ?_
 refine l_nil ?_
 refine n_seq ?_
 refine e_seq ?_
 refine e_reg ?_
 refine l_c (en_f (vs := [.int .i64 2]) (CF 18 _) rfl rfl) (SStart_c _ _ S.le 2) ?_
 rintro e w1 ⟨v6, rfl, h7, k⟩
 obtain ⟨rd2, S, L3, N4, X5⟩ := S.call' k; clear k
 replace h7 := am h7 X5
 obtain ⟨cs8, h7v, h7⟩ := h7; subst h7v
 obtain ⟨sv9, sv11, sv13, h7e, h10, h12, h14⟩ := h7; subst h7e
 obtain ⟨A15, c16, rfl, m17, m17'⟩ := h10.val
 obtain ⟨A18, c19, rfl, m20, m20'⟩ := h12.val
 obtain ⟨A21, c22, rfl, m23, m23'⟩ := h14.val
 refine ckd ?_
 refine l_bs (ps := [(0, .int .i64 0), (1, .int .i64 0)]) (cs := #[.int .i64 0, .int .i64 0]) S U22 SZ3 Z3 rfl rfl rfl (by kernel_rfl) fun g24 w25 S => ?_
 obtain ⟨rd26, S, L27, Fz28⟩ := S.frz' (i := 0) rfl rfl
 replace h10 := fm h10 L27
 replace h12 := fm h12 L27
 replace h14 := fm h14 L27
 have F29 := Fz28 (size := 1) (R := IntR) (xs := ([0, 0] : List Int)) (n := 2) (c := 2) rfl (Nat.le_refl _) (by simp [maxLen]) (rowInts _ ([0, 0] : List Int)); clear Fz28
 refine l_c (en_f (vs := [.int .i64 1, .int .i64 1, .int .i64 5, .int .i64 0, .slice (some ⟨g24, 0, none⟩) 2 2]) (CF 66 _) rfl rfl) (up5_c _ _ S.le _ _ _ _ _ _ _) ?_
 rintro e w30 ⟨rfl, k⟩
 have S := S.callq k; clear k
 refine ckd ?_
 refine l_bs (ps := [(0, .agg #[.int .i64 0, .slice (some ⟨g24, 0, none⟩) 2 2, .int .i64 1, .int .i64 1, .int .i64 5])]) (cs := #[.int .i64 0, .slice (some ⟨g24, 0, none⟩) 2 2, .int .i64 1, .int .i64 1, .int .i64 5]) S U36 SZ29 Z29 rfl rfl rfl (by kernel_rfl) fun g31 w32 S => ?_
 obtain ⟨rd33, S, L34, Fz35⟩ := S.frz' (i := 0) rfl rfl
 replace h10 := fm h10 L34
 replace h12 := fm h12 L34
 replace h14 := fm h14 L34
 replace F29 := fm F29 L34
 have F36 := Fz35 (size := 5) (R := UpdR) (xs := ([(⟨0, ([0, 0] : List Int), 1, 1, 5⟩ : Upd)] : List Upd)) (n := 1) (c := 1) rfl (Nat.le_refl _) (by simp [maxLen]) ⟨[.int .i64 0, .slice (some ⟨g24, 0, none⟩) 2 2, .int .i64 1, .int .i64 1, .int .i64 5], _, rfl, rfl, ⟨_, rfl, F29⟩, rfl⟩; clear Fz35
 have F36 : SliceR 5 UpdR rd33 (.slice (some ⟨g31, 0, none⟩) 1 1) logA5 := F36
 refine l_c (en_f (vs := [.agg #[.slice A15 (((startG 2).clock).length) c16, .slice A18 (((startG 2).lives).length) c19, .slice A21 (((startG 2).tallies).length) c22], .slice (some ⟨g31, 0, none⟩) 1 1]) (CF 14 _) rfl rfl) (SPlay_c _ _ S.le _ _ (startG 2) logA5 (⟨_, rfl, ⟨_, _, _, rfl, h10, h12, h14⟩⟩ : AggR StateR rd33 _ (startG 2)) F36) ?_
 rintro e w37 ⟨v42, rfl, h43, k⟩
 obtain ⟨rd38, S, L39, N40, X41⟩ := S.call' k; clear k
 replace h10 := fm h10 L39
 replace h12 := fm h12 L39
 replace h14 := fm h14 L39
 replace F29 := fm F29 L39
 replace F36 := fm F36 L39
 replace h43 := am h43 X41
 obtain ⟨cs44, h43v, h43⟩ := h43; subst h43v
 obtain ⟨sv45, sv47, sv49, h43e, h46, h48, h50⟩ := h43; subst h43e
 obtain ⟨A51, c52, rfl, m53, m53'⟩ := h46.val
 obtain ⟨A54, c55, rfl, m56, m56'⟩ := h48.val
 obtain ⟨A57, c58, rfl, m59, m59'⟩ := h50.val
 refine ckd ?_
 refine l_y (v := .tuple #[.agg #[.slice A51 (((PlayS (startG 2) logA5).1.clock).length) c52, .slice A54 (((PlayS (startG 2) logA5).1.lives).length) c55, .slice A57 (((PlayS (startG 2) logA5).1.tallies).length) c58], .agg #[.int .i64 ((PlayS (startG 2) logA5).2.1), .int .i64 ((PlayS (startG 2) logA5).2.2)]]) S (y_mv rfl) ?_
 refine l_y (v := .agg #[.slice A51 (((PlayS (startG 2) logA5).1.clock).length) c52, .slice A54 (((PlayS (startG 2) logA5).1.lives).length) c55, .slice A57 (((PlayS (startG 2) logA5).1.tallies).length) c58]) S (y_ex rfl rfl) ?_
 refine l_y (v := .agg #[.int .i64 ((PlayS (startG 2) logA5).2.1), .int .i64 ((PlayS (startG 2) logA5).2.2)]) S (y_ex rfl rfl) ?_
 refine l_al (cs := #[.slice none 0 0, .slice none 0 0, .slice none 0 0]) S Z27 rfl fun g60 w61 S => ?_
 refine l_al (cs := #[.int .i64 0, .int .i64 0]) S Z33 rfl fun g62 w63 S => ?_
 refine l_st (u := .agg #[.slice A51 (((PlayS (startG 2) logA5).1.clock).length) c52, .slice A54 (((PlayS (startG 2) logA5).1.lives).length) c55, .slice A57 (((PlayS (startG 2) logA5).1.tallies).length) c58]) (i := 0) (cs' := #[.slice A51 (((PlayS (startG 2) logA5).1.clock).length) c52, .slice A54 (((PlayS (startG 2) logA5).1.lives).length) c55, .slice A57 (((PlayS (startG 2) logA5).1.tallies).length) c58]) S rfl rfl rfl SZ27 rfl rfl rfl fun w64 S => ?_
 refine l_st (u := .agg #[.int .i64 ((PlayS (startG 2) logA5).2.1), .int .i64 ((PlayS (startG 2) logA5).2.2)]) (i := 1) (cs' := #[.int .i64 ((PlayS (startG 2) logA5).2.1), .int .i64 ((PlayS (startG 2) logA5).2.2)]) S rfl rfl rfl SZ33 rfl rfl rfl fun w65 S => ?_
 refine l_nil ?_
 refine n_seq ?_
 refine e_seq ?_
 refine e_reg ?_
 refine l_c (en_f (vs := [.int .i64 2]) (CF 18 _) rfl rfl) (SStart_c _ _ S.le 2) ?_
 rintro e w66 ⟨v71, rfl, h72, k⟩
 obtain ⟨rd67, S, L68, N69, X70⟩ := S.call' k; clear k
 replace h10 := fm h10 L68
 replace h12 := fm h12 L68
 replace h14 := fm h14 L68
 replace F29 := fm F29 L68
 replace F36 := fm F36 L68
 replace h46 := fm h46 L68
 replace h48 := fm h48 L68
 replace h50 := fm h50 L68
 replace h72 := am h72 X70
 obtain ⟨cs73, h72v, h72⟩ := h72; subst h72v
 obtain ⟨sv74, sv76, sv78, h72e, h75, h77, h79⟩ := h72; subst h72e
 obtain ⟨A80, c81, rfl, m82, m82'⟩ := h75.val
 obtain ⟨A83, c84, rfl, m85, m85'⟩ := h77.val
 obtain ⟨A86, c87, rfl, m88, m88'⟩ := h79.val
 refine ckd ?_
 refine l_bs (ps := [(0, .int .i64 0), (1, .int .i64 0)]) (cs := #[.int .i64 0, .int .i64 0]) S U22 SZ3 Z3 rfl rfl rfl (by kernel_rfl) fun g89 w90 S => ?_
 obtain ⟨rd91, S, L92, Fz93⟩ := S.frz' (i := 2) rfl rfl
 replace h10 := fm h10 L92
 replace h12 := fm h12 L92
 replace h14 := fm h14 L92
 replace F29 := fm F29 L92
 replace F36 := fm F36 L92
 replace h46 := fm h46 L92
 replace h48 := fm h48 L92
 replace h50 := fm h50 L92
 replace h75 := fm h75 L92
 replace h77 := fm h77 L92
 replace h79 := fm h79 L92
 have F94 := Fz93 (size := 1) (R := IntR) (xs := ([0, 0] : List Int)) (n := 2) (c := 2) rfl (Nat.le_refl _) (by simp [maxLen]) (rowInts _ ([0, 0] : List Int)); clear Fz93
 refine l_c (en_f (vs := [.int .i64 5, .int .i64 1, .int .i64 6, .int .i64 1, .slice (some ⟨g89, 0, none⟩) 2 2]) (CF 66 _) rfl rfl) (up5_c _ _ S.le _ _ _ _ _ _ _) ?_
 rintro e w95 ⟨rfl, k⟩
 have S := S.callq k; clear k
 refine ckd ?_
 refine l_bs (ps := [(0, .agg #[.int .i64 1, .slice (some ⟨g89, 0, none⟩) 2 2, .int .i64 5, .int .i64 1, .int .i64 6])]) (cs := #[.int .i64 1, .slice (some ⟨g89, 0, none⟩) 2 2, .int .i64 5, .int .i64 1, .int .i64 6]) S U36 SZ29 Z29 rfl rfl rfl (by kernel_rfl) fun g96 w97 S => ?_
 obtain ⟨rd98, S, L99, Fz100⟩ := S.frz' (i := 2) rfl rfl
 replace h10 := fm h10 L99
 replace h12 := fm h12 L99
 replace h14 := fm h14 L99
 replace F29 := fm F29 L99
 replace F36 := fm F36 L99
 replace h46 := fm h46 L99
 replace h48 := fm h48 L99
 replace h50 := fm h50 L99
 replace h75 := fm h75 L99
 replace h77 := fm h77 L99
 replace h79 := fm h79 L99
 replace F94 := fm F94 L99
 have F101 := Fz100 (size := 5) (R := UpdR) (xs := ([(⟨1, ([0, 0] : List Int), 5, 1, 6⟩ : Upd)] : List Upd)) (n := 1) (c := 1) rfl (Nat.le_refl _) (by simp [maxLen]) ⟨[.int .i64 1, .slice (some ⟨g89, 0, none⟩) 2 2, .int .i64 5, .int .i64 1, .int .i64 6], _, rfl, rfl, ⟨_, rfl, F94⟩, rfl⟩; clear Fz100
 have F101 : SliceR 5 UpdR rd98 (.slice (some ⟨g96, 0, none⟩) 1 1) logB5 := F101
 refine l_c (en_f (vs := [.agg #[.slice A80 (((startG 2).clock).length) c81, .slice A83 (((startG 2).lives).length) c84, .slice A86 (((startG 2).tallies).length) c87], .slice (some ⟨g96, 0, none⟩) 1 1]) (CF 14 _) rfl rfl) (SPlay_c _ _ S.le _ _ (startG 2) logB5 (⟨_, rfl, ⟨_, _, _, rfl, h75, h77, h79⟩⟩ : AggR StateR rd98 _ (startG 2)) F101) ?_
 rintro e w102 ⟨v107, rfl, h108, k⟩
 obtain ⟨rd103, S, L104, N105, X106⟩ := S.call' k; clear k
 replace h10 := fm h10 L104
 replace h12 := fm h12 L104
 replace h14 := fm h14 L104
 replace F29 := fm F29 L104
 replace F36 := fm F36 L104
 replace h46 := fm h46 L104
 replace h48 := fm h48 L104
 replace h50 := fm h50 L104
 replace h75 := fm h75 L104
 replace h77 := fm h77 L104
 replace h79 := fm h79 L104
 replace F94 := fm F94 L104
 replace F101 := fm F101 L104
 replace h108 := am h108 X106
 obtain ⟨cs109, h108v, h108⟩ := h108; subst h108v
 obtain ⟨sv110, sv112, sv114, h108e, h111, h113, h115⟩ := h108; subst h108e
 obtain ⟨A116, c117, rfl, m118, m118'⟩ := h111.val
 obtain ⟨A119, c120, rfl, m121, m121'⟩ := h113.val
 obtain ⟨A122, c123, rfl, m124, m124'⟩ := h115.val
 refine ckd ?_
 refine l_y (v := .tuple #[.agg #[.slice A116 (((PlayS (startG 2) logB5).1.clock).length) c117, .slice A119 (((PlayS (startG 2) logB5).1.lives).length) c120, .slice A122 (((PlayS (startG 2) logB5).1.tallies).length) c123], .agg #[.int .i64 ((PlayS (startG 2) logB5).2.1), .int .i64 ((PlayS (startG 2) logB5).2.2)]]) S (y_mv rfl) ?_
 refine l_y (v := .agg #[.slice A116 (((PlayS (startG 2) logB5).1.clock).length) c117, .slice A119 (((PlayS (startG 2) logB5).1.lives).length) c120, .slice A122 (((PlayS (startG 2) logB5).1.tallies).length) c123]) S (y_ex rfl rfl) ?_
 refine l_y (v := .agg #[.int .i64 ((PlayS (startG 2) logB5).2.1), .int .i64 ((PlayS (startG 2) logB5).2.2)]) S (y_ex rfl rfl) ?_
 refine l_al (cs := #[.slice none 0 0, .slice none 0 0, .slice none 0 0]) S Z27 rfl fun g125 w126 S => ?_
 refine l_al (cs := #[.int .i64 0, .int .i64 0]) S Z33 rfl fun g127 w128 S => ?_
 refine l_st (u := .agg #[.slice A116 (((PlayS (startG 2) logB5).1.clock).length) c117, .slice A119 (((PlayS (startG 2) logB5).1.lives).length) c120, .slice A122 (((PlayS (startG 2) logB5).1.tallies).length) c123]) (i := 2) (cs' := #[.slice A116 (((PlayS (startG 2) logB5).1.clock).length) c117, .slice A119 (((PlayS (startG 2) logB5).1.lives).length) c120, .slice A122 (((PlayS (startG 2) logB5).1.tallies).length) c123]) S rfl rfl rfl SZ27 rfl rfl rfl fun w129 S => ?_
 refine l_st (u := .agg #[.int .i64 ((PlayS (startG 2) logB5).2.1), .int .i64 ((PlayS (startG 2) logB5).2.2)]) (i := 3) (cs' := #[.int .i64 ((PlayS (startG 2) logB5).2.1), .int .i64 ((PlayS (startG 2) logB5).2.2)]) S rfl rfl rfl SZ33 rfl rfl rfl fun w130 S => ?_
 have S : St [] W rd rd103 [(g60, 27, #[.slice A51 (((PlayS (startG 2) logA5).1.clock).length) c52, .slice A54 (((PlayS (startG 2) logA5).1.lives).length) c55, .slice A57 (((PlayS (startG 2) logA5).1.tallies).length) c58]), (g62, 33, #[.int .i64 ((PlayS (startG 2) logA5).2.1), .int .i64 ((PlayS (startG 2) logA5).2.2)]), (g125, 27, #[.slice A116 (((PlayS (startG 2) logB5).1.clock).length) c117, .slice A119 (((PlayS (startG 2) logB5).1.lives).length) c120, .slice A122 (((PlayS (startG 2) logB5).1.tallies).length) c123]), (g127, 33, #[.int .i64 ((PlayS (startG 2) logB5).2.1), .int .i64 ((PlayS (startG 2) logB5).2.2)])] [] _ := S.rw' rfl rfl
 refine l_nil ?_
 refine n_seq ?_
 refine e_seq ?_
 refine e_reg ?_
 refine l_y (v := .agg #[.slice A51 (((PlayS (startG 2) logA5).1.clock).length) c52, .slice A54 (((PlayS (startG 2) logA5).1.lives).length) c55, .slice A57 (((PlayS (startG 2) logA5).1.tallies).length) c58]) S (y_ld rfl (fun w S => ld_bA (vs := [.slice A51 (((PlayS (startG 2) logA5).1.clock).length) c52, .slice A54 (((PlayS (startG 2) logA5).1.lives).length) c55, .slice A57 (((PlayS (startG 2) logA5).1.tallies).length) c58]) (i := 0) S rfl T27 rfl rfl)) ?_
 refine l_y (v := .agg #[.slice A116 (((PlayS (startG 2) logB5).1.clock).length) c117, .slice A119 (((PlayS (startG 2) logB5).1.lives).length) c120, .slice A122 (((PlayS (startG 2) logB5).1.tallies).length) c123]) S (y_ld rfl (fun w S => ld_bA (vs := [.slice A116 (((PlayS (startG 2) logB5).1.clock).length) c117, .slice A119 (((PlayS (startG 2) logB5).1.lives).length) c120, .slice A122 (((PlayS (startG 2) logB5).1.tallies).length) c123]) (i := 2) S rfl T27 rfl rfl)) ?_
 refine l_c (en_f (vs := [.agg #[.slice A51 (((PlayS (startG 2) logA5).1.clock).length) c52, .slice A54 (((PlayS (startG 2) logA5).1.lives).length) c55, .slice A57 (((PlayS (startG 2) logA5).1.tallies).length) c58], .agg #[.slice A116 (((PlayS (startG 2) logB5).1.clock).length) c117, .slice A119 (((PlayS (startG 2) logB5).1.lives).length) c120, .slice A122 (((PlayS (startG 2) logB5).1.tallies).length) c123]]) (CF 31 _) rfl rfl) (Join_m _ _ S.le _ _ ((PlayS (startG 2) logA5).1) ((PlayS (startG 2) logB5).1) (⟨_, rfl, ⟨_, _, _, rfl, h46, h48, h50⟩⟩ : AggR StateR rd103 _ ((PlayS (startG 2) logA5).1)) (⟨_, rfl, ⟨_, _, _, rfl, h111, h113, h115⟩⟩ : AggR StateR rd103 _ ((PlayS (startG 2) logB5).1))) ?_
 rintro e w131 ⟨v136, rfl, h137, k⟩
 obtain ⟨rd132, S, L133, N134, X135⟩ := S.call' k; clear k
 replace h10 := fm h10 L133
 replace h12 := fm h12 L133
 replace h14 := fm h14 L133
 replace F29 := fm F29 L133
 replace F36 := fm F36 L133
 replace h46 := fm h46 L133
 replace h48 := fm h48 L133
 replace h50 := fm h50 L133
 replace h75 := fm h75 L133
 replace h77 := fm h77 L133
 replace h79 := fm h79 L133
 replace F94 := fm F94 L133
 replace F101 := fm F101 L133
 replace h111 := fm h111 L133
 replace h113 := fm h113 L133
 replace h115 := fm h115 L133
 replace h137 := am h137 X135
 obtain ⟨cs138, h137v, h137⟩ := h137; subst h137v
 obtain ⟨sv139, sv141, sv143, h137e, h140, h142, h144⟩ := h137; subst h137e
 obtain ⟨A145, c146, rfl, m147, m147'⟩ := h140.val
 obtain ⟨A148, c149, rfl, m150, m150'⟩ := h142.val
 obtain ⟨A151, c152, rfl, m153, m153'⟩ := h144.val
 refine ckd ?_
 refine l_y (v := .tuple #[.agg #[.slice A145 (((JoinS ((PlayS (startG 2) logA5).1) ((PlayS (startG 2) logB5).1)).1.clock).length) c146, .slice A148 (((JoinS ((PlayS (startG 2) logA5).1) ((PlayS (startG 2) logB5).1)).1.lives).length) c149, .slice A151 (((JoinS ((PlayS (startG 2) logA5).1) ((PlayS (startG 2) logB5).1)).1.tallies).length) c152], .int .i64 ((JoinS ((PlayS (startG 2) logA5).1) ((PlayS (startG 2) logB5).1)).2)]) S (y_mv rfl) ?_
 refine l_y (v := .agg #[.slice A145 (((JoinS ((PlayS (startG 2) logA5).1) ((PlayS (startG 2) logB5).1)).1.clock).length) c146, .slice A148 (((JoinS ((PlayS (startG 2) logA5).1) ((PlayS (startG 2) logB5).1)).1.lives).length) c149, .slice A151 (((JoinS ((PlayS (startG 2) logA5).1) ((PlayS (startG 2) logB5).1)).1.tallies).length) c152]) S (y_ex rfl rfl) ?_
 refine l_y (v := .int .i64 ((JoinS ((PlayS (startG 2) logA5).1) ((PlayS (startG 2) logB5).1)).2)) S (y_ex rfl rfl) ?_
 refine l_al (cs := #[.slice none 0 0, .slice none 0 0, .slice none 0 0]) S Z27 rfl fun g154 w155 S => ?_
 refine l_st (u := .agg #[.slice A145 (((JoinS ((PlayS (startG 2) logA5).1) ((PlayS (startG 2) logB5).1)).1.clock).length) c146, .slice A148 (((JoinS ((PlayS (startG 2) logA5).1) ((PlayS (startG 2) logB5).1)).1.lives).length) c149, .slice A151 (((JoinS ((PlayS (startG 2) logA5).1) ((PlayS (startG 2) logB5).1)).1.tallies).length) c152]) (i := 4) (cs' := #[.slice A145 (((JoinS ((PlayS (startG 2) logA5).1) ((PlayS (startG 2) logB5).1)).1.clock).length) c146, .slice A148 (((JoinS ((PlayS (startG 2) logA5).1) ((PlayS (startG 2) logB5).1)).1.lives).length) c149, .slice A151 (((JoinS ((PlayS (startG 2) logA5).1) ((PlayS (startG 2) logB5).1)).1.tallies).length) c152]) S rfl rfl rfl SZ27 rfl rfl rfl fun w156 S => ?_
 refine l_y (v := .int .i64 ((JoinS ((PlayS (startG 2) logA5).1) ((PlayS (startG 2) logB5).1)).2)) S (y_as rfl) ?_
 refine l_nil ?_
 refine n_seq ?_
 refine e_trim [(0, .bool false), (2, .pointer (some ⟨g62, 0, none⟩)), (4, .pointer (some ⟨g127, 0, none⟩)), (5, .pointer (some ⟨g154, 0, none⟩)), (6, .int .i64 ((JoinS ((PlayS (startG 2) logA5).1) ((PlayS (startG 2) logB5).1)).2))] ⟨⟨rfl, rfl⟩, ⟨rfl, rfl⟩, ⟨rfl, rfl⟩, ⟨rfl, rfl⟩, ⟨rfl, rfl⟩, trivial⟩ (fun junk => ?_)
 refine e_seq ?_
 refine e_reg ?_
 refine l_y (v := .pointer (some ⟨g62, 0, none⟩)) S (y_fb FA33_0 rfl rfl) ?_
 refine l_y (v := .int .i64 ((PlayS (startG 2) logA5).2.1)) S (y_ld rfl (fun w S => ld_b1 (i := 1) S rfl rfl T31)) ?_
 have h157 : (PlayS (startG 2) logA5).2.1 = 0 := by decide +kernel
 refine l_y (v := .bool true) S (y_eqT rfl rfl h157) ?_
 refine l_y (v := .bool true) S (y_mv rfl) ?_
 refine l_g (d' := 32) (v := .pointer (some ⟨g127, 0, none⟩)) S (y_fb FA33_0 rfl rfl) rfl rfl ?_
 refine l_g (d' := 32) (v := .int .i64 ((PlayS (startG 2) logB5).2.1)) S (y_ld rfl (fun w S => ld_b1 (i := 3) S rfl rfl T31)) rfl rfl ?_
 have h158 : (PlayS (startG 2) logB5).2.1 = 0 := by decide +kernel
 refine l_g (d' := 32) (v := .bool true) S (y_eqT rfl rfl h158) rfl rfl ?_
 refine l_y (v := .bool true) S (y_pT rfl rfl) ?_
 refine l_y (v := .bool true) S (y_mv rfl) ?_
 refine l_g (d' := 37) (v := .int .i64 ((JoinS ((PlayS (startG 2) logA5).1) ((PlayS (startG 2) logB5).1)).2)) S (y_mv rfl) rfl rfl ?_
 have h159 : (JoinS ((PlayS (startG 2) logA5).1) ((PlayS (startG 2) logB5).1)).2 = 0 := by decide +kernel
 refine l_g (d' := 37) (v := .bool true) S (y_eqT rfl rfl h159) rfl rfl ?_
 refine l_y (v := .bool true) S (y_pT rfl rfl) ?_
 refine l_y (v := .bool true) S (y_mv rfl) ?_
 refine l_g (d' := 41) (v := .pointer (some ⟨g154, 1, none⟩)) S (y_fb FA27_1 rfl rfl) rfl rfl ?_
 refine l_g (d' := 41) (v := .slice A148 (((JoinS ((PlayS (startG 2) logA5).1) ((PlayS (startG 2) logB5).1)).1.lives).length) c149) S (y_ld rfl (fun w S => ld_b1 (i := 4) S rfl rfl T24)) rfl rfl ?_
 refine l_g (d' := 41) (v := .int .i64 (((JoinS ((PlayS (startG 2) logA5).1) ((PlayS (startG 2) logB5).1)).1.lives).length : Int)) S (y_len U24 rfl rfl) rfl rfl ?_
 have h160 : (((JoinS ((PlayS (startG 2) logA5).1) ((PlayS (startG 2) logB5).1)).1.lives).length : Int) = 1 := by decide +kernel
 refine l_g (d' := 41) (v := .bool true) S (y_eqT rfl rfl h160) rfl rfl ?_
 refine l_y (v := .bool true) S (y_pT rfl rfl) ?_
 refine l_y (v := .bool true) S (y_mv rfl) ?_
 refine l_g (d' := 47) (v := .pointer (some ⟨g154, 2, none⟩)) S (y_fb FA27_2 rfl rfl) rfl rfl ?_
 refine l_g (d' := 47) (v := .slice A151 (((JoinS ((PlayS (startG 2) logA5).1) ((PlayS (startG 2) logB5).1)).1.tallies).length) c152) S (y_ld rfl (fun w S => ld_b1 (i := 4) S rfl rfl T25)) rfl rfl ?_
 refine l_g (d' := 47) (v := .int .i64 (((JoinS ((PlayS (startG 2) logA5).1) ((PlayS (startG 2) logB5).1)).1.tallies).length : Int)) S (y_len U25 rfl rfl) rfl rfl ?_
 have h161 : (((JoinS ((PlayS (startG 2) logA5).1) ((PlayS (startG 2) logB5).1)).1.tallies).length : Int) = 1 := by decide +kernel
 refine l_g (d' := 47) (v := .bool true) S (y_eqT rfl rfl h161) rfl rfl ?_
 refine l_y (v := .bool true) S (y_pT rfl rfl) ?_
 refine l_y (v := .bool true) S (y_mv rfl) ?_
 refine l_g (d' := 53) (v := .pointer (some ⟨g154, 0, none⟩)) S (y_fb FA27_0 rfl rfl) rfl rfl ?_
 refine l_g (d' := 53) (v := .slice A145 (((JoinS ((PlayS (startG 2) logA5).1) ((PlayS (startG 2) logB5).1)).1.clock).length) c146) S (y_ld rfl (fun w S => ld_b1 (i := 4) S rfl rfl T23)) rfl rfl ?_
 refine l_ug (d' := 53) rfl rfl ?_
 refine l_bs (ps := [(0, .int .i64 1), (1, .int .i64 1)]) (cs := #[.int .i64 1, .int .i64 1]) S U22 SZ3 Z3 rfl rfl rfl (by kernel_rfl) fun g162 w163 S => ?_
 obtain ⟨rd164, S, L165, Fz166⟩ := S.frz' (i := 5) rfl rfl
 replace h46 := fm h46 L165
 replace h48 := fm h48 L165
 replace h50 := fm h50 L165
 replace h111 := fm h111 L165
 replace h113 := fm h113 L165
 replace h115 := fm h115 L165
 replace h140 := fm h140 L165
 replace h142 := fm h142 L165
 replace h144 := fm h144 L165
 have F167 := Fz166 (size := 1) (R := IntR) (xs := ([1, 1] : List Int)) (n := 2) (c := 2) rfl (Nat.le_refl _) (by simp [maxLen]) (rowInts _ ([1, 1] : List Int)); clear Fz166
 refine l_cg (d' := 53) (en_f (vs := [.slice A145 (((JoinS ((PlayS (startG 2) logA5).1) ((PlayS (startG 2) logB5).1)).1.clock).length) c146, .slice (some ⟨g162, 0, none⟩) 2 2]) (CF 24 _) rfl rfl) rfl rfl (Same_calls _ _ _ _ _ (fm h140 S.le) (fm F167 S.le)) ?_
 rintro e w168 ⟨rfl, k⟩
 have S := S.callq k; clear k
 have b169 : sameL ((JoinS ((PlayS (startG 2) logA5).1) ((PlayS (startG 2) logB5).1)).1.clock) ([1, 1] : List Int) = true := by decide +kernel
 rw [b169]
 refine ckd ?_
 refine l_y (v := .bool true) S (y_pT rfl rfl) ?_
 refine l_y (v := .bool true) S (y_as rfl) ?_
 refine l_nil ?_
 refine n_seq ?_
 refine e_trim [(0, .bool true)] ⟨⟨rfl, rfl⟩, trivial⟩ (fun junk => ?_)
 refine e_ret ?_
 refine ret1 (v := .bool true) rfl rfl ?_
 exact ⟨rfl, S.below⟩

set_option maxRecDepth 100000 in
set_option maxHeartbeats 8000000 in
theorem Of_c (rd : Rd) (W : World) (hle : Rd.le rd (wrd W)) (v v2 : Value) (l : List Upd) (c : List Int) (n : Int) (h : SliceR 5 UpdR rd v l) (h2 : SliceR 1 IntR rd v2 c) (hl : l.length ≤ 300) :
    Calls Try.prog 36 #[v, v2, (.int .i64 n)] W (fun e w' => ∃ v', e = .returned (.tuple #[v', .bool (decide ((PlayS (startG n) (mineU c l)).2.1 = 0))]) ∧ AggR StateR (ext rd W w') v' (PlayS (startG n) (mineU c l)).1 ∧ Below W.heap.size W w') := by
 obtain ⟨A1, c2, rfl, m3, m3'⟩ := h.val
 obtain ⟨A4, c5, rfl, m6, m6'⟩ := h2.val
 have hmx : maxLen = 9223372036854775807 := rfl
 have S : St [] W rd rd [] [] W := St.start hle
 refine e_enter (args := [.slice A1 l.length c2, .slice A4 c.length c5, .int .i64 n]) 67 Try.func36 rfl rfl rfl ?_
 refine e_seq ?_
 refine e_reg ?_
 refine l_al (cs := #[.slice none 0 0, .slice none 0 0, .slice none 0 0]) S Z27 rfl fun g7 w8 S => ?_
 refine l_y (v := .bool false) S (y_as rfl) ?_
 refine l_nil ?_
 refine n_seq ?_
 refine e_seq ?_
 refine e_reg ?_
 refine l_y (v := .slice none 0 0) S (y_as rfl) ?_
 refine l_nil ?_
 refine n_seq ?_
 refine e_seq ?_
 refine e_seq ?_
 refine e_reg ?_
 refine l_y (v := .slice A1 l.length c2) S (y_mv rfl) ?_
 refine l_y (v := .int .i64 (l.length : Int)) S (y_len U36 rfl rfl) ?_
 refine l_y (v := .int .i64 0) S (y_mv rfl) ?_
 refine l_nil ?_
 refine n_seq ?_
 refine e_blk ?_
 have S := S.ownNil 29 5
 have O9 : RowR 5 UpdR rd [] [] := rfl
 refine e_trim [(1, .slice A4 c.length c5), (2, .int .i64 n), (6, .pointer (some ⟨g7, 0, none⟩)), (7, .bool false), (13, .slice A1 l.length c2), (14, .int .i64 (l.length : Int)), (15, .int .i64 (0 : Int)), (8, .slice none 0 0)] ⟨⟨rfl, rfl⟩, ⟨rfl, rfl⟩, ⟨rfl, rfl⟩, ⟨rfl, rfl⟩, ⟨rfl, rfl⟩, ⟨rfl, rfl⟩, ⟨ival (by first | rfl | omega), rfl⟩, ⟨rfl, rfl⟩, trivial⟩ (fun junk => ?_)
 refine e_loop (fun (gh_ : Nat × (List Upd) × (Option Addr) × Nat × Nat × (List Value)) ov w => match gh_ with | (k, o, AO, nO, cO, xsO) => ∃ rd' junk, ov = [(1, .slice A4 c.length c5), (2, .int .i64 n), (6, .pointer (some ⟨g7, 0, none⟩)), (7, .bool false), (13, .slice A1 l.length c2), (14, .int .i64 (l.length : Int)), (15, .int .i64 (k : Int)), (8, .slice AO nO cO)] ++ junk ∧ St [] W rd rd' [(g7, 27, #[.slice none 0 0, .slice none 0 0, .slice none 0 0])] [⟨29, 5, .slice AO nO cO, nO, xsO⟩] w ∧ Rd.le rd rd' ∧ (RowR 5 UpdR rd' xsO o ∧ nO = o.length) ∧ k ≤ l.length ∧ o = (l.take k).filter (hasU c)) (fun gh_ => match gh_ with | (k, o, AO, nO, cO, xsO) => l.length - k) (0, [], none, 0, 0, []) ⟨_, junk, rfl, (S.rw' rfl rfl), (Rd.le_refl _), ⟨O9, rfl⟩, (by omega), (by simp)⟩ ?_
 rintro ⟨k, o, AO, nO, cO, xsO⟩ ov13 w11 ⟨rd10, junk, rfl, S, L12, ⟨OO, on14⟩, hk, ho⟩
 replace h := fm h L12
 replace h2 := fm h2 L12
 have hbo : o.length ≤ 300 := by rw [ho]; exact Nat.le_trans (List.length_filter_le _ _) (Nat.le_trans (List.length_take_le' _ _) hl)
 refine e_seq ?_
 refine e_reg ?_
 by_cases h15 : (k : Int) < (l.length : Int)
 · -- h15 yes
  refine l_y (v := .bool true) S (y_ltT rfl rfl h15) ?_
  refine l_nil ?_
  refine n_seq ?_
  refine e_seq ?_
  refine e_cT rfl ?_
  refine e_skip ?_
  refine n_seq ?_
  refine e_seq ?_
  refine e_blk ?_
  refine e_seq ?_
  refine e_reg ?_
  obtain ⟨z16, hz17⟩ : ∃ z, (l)[k]? = some z := nth_of (by first | assumption | omega)
  obtain ⟨p18, vs19, E20, nn21, r22, Y23⟩ := y_ia U36 SZ29 h hz17
  clear nn21
  obtain ⟨sv24, r22e, h25⟩ := r22; subst r22e
  obtain ⟨A26, c27, rfl, m28, m28'⟩ := h25.val
  refine l_y (v := p18) S (Y23 rfl rfl (by first | rfl | omega)) ?_
  refine l_y (v := .agg #[.int .i64 z16.author, .slice A26 z16.seen.length c27, .int .i64 z16.kind, .int .i64 z16.key, .int .i64 z16.item]) S (y_ld rfl (fun w S => ld_pA (us := [.int .i64 z16.author, .slice A26 z16.seen.length c27, .int .i64 z16.kind, .int .i64 z16.key, .int .i64 z16.item]) S.le E20 T29 rfl rfl)) ?_
  refine l_al (cs := #[.int .i64 0, .slice none 0 0, .int .i64 0, .int .i64 0, .int .i64 0]) S Z29 rfl fun g29 w30 S => ?_
  refine l_st (u := .agg #[.int .i64 z16.author, .slice A26 z16.seen.length c27, .int .i64 z16.kind, .int .i64 z16.key, .int .i64 z16.item]) (i := 1) (cs' := #[.int .i64 z16.author, .slice A26 z16.seen.length c27, .int .i64 z16.kind, .int .i64 z16.key, .int .i64 z16.item]) S rfl rfl rfl SZ29 rfl rfl rfl fun w31 S => ?_
  refine l_nil ?_
  refine n_seq ?_
  refine e_seq ?_
  refine e_q MX (by kernel_rfl) S.drew ?_
  -- draws
  refine q_y (v := .pointer (some ⟨g29, 0, none⟩)) (y_fb FA29_0 rfl rfl) ?_
  refine q_y (v := .int .i64 z16.author) (y_ld rfl (fun w S => ld_b1 (i := 1) S rfl rfl T3)) ?_
  by_cases h32 : 0 ≤ z16.author
  · -- h32 yes
   refine q_y (v := .bool true) (y_geT rfl rfl h32) ?_
   refine q_y (v := .bool true) (y_mv rfl) ?_
   refine q_g (d' := 22) (v := .pointer (some ⟨g29, 0, none⟩)) (y_fb FA29_0 rfl rfl) rfl rfl ?_
   refine q_g (d' := 22) (v := .int .i64 z16.author) (y_ld rfl (fun w S => ld_b1 (i := 1) S rfl rfl T3)) rfl rfl ?_
   refine q_g (d' := 22) (v := .pointer (some ⟨g29, 1, none⟩)) (y_fb FA29_1 rfl rfl) rfl rfl ?_
   refine q_g (d' := 22) (v := .slice A26 z16.seen.length c27) (y_ld rfl (fun w S => ld_b1 (i := 1) S rfl rfl T23)) rfl rfl ?_
   refine q_g (d' := 22) (v := .int .i64 (z16.seen.length : Int)) (y_len U23 rfl rfl) rfl rfl ?_
   by_cases h33 : z16.author < (z16.seen.length : Int)
   · -- h33 yes
    refine q_g (d' := 22) (v := .bool true) (y_ltT rfl rfl h33) rfl rfl ?_
    refine q_y (v := .bool true) (y_pT rfl rfl) ?_
    refine q_y (v := .bool true) (y_mv rfl) ?_
    refine q_g (d' := 30) (v := .pointer (some ⟨g29, 0, none⟩)) (y_fb FA29_0 rfl rfl) rfl rfl ?_
    refine q_g (d' := 30) (v := .int .i64 z16.author) (y_ld rfl (fun w S => ld_b1 (i := 1) S rfl rfl T3)) rfl rfl ?_
    refine q_g (d' := 30) (v := .slice A4 c.length c5) (y_mv rfl) rfl rfl ?_
    refine q_g (d' := 30) (v := .int .i64 (c.length : Int)) (y_len U23 rfl rfl) rfl rfl ?_
    by_cases h34 : z16.author < (c.length : Int)
    · -- h34 yes
     refine q_g (d' := 30) (v := .bool true) (y_ltT rfl rfl h34) rfl rfl ?_
     refine q_y (v := .bool true) (y_pT rfl rfl) ?_
     refine q_y (v := .bool true) (y_mv rfl) ?_
     refine q_g (d' := 37) (v := .pointer (some ⟨g29, 1, none⟩)) (y_fb FA29_1 rfl rfl) rfl rfl ?_
     refine q_g (d' := 37) (v := .slice A26 z16.seen.length c27) (y_ld rfl (fun w S => ld_b1 (i := 1) S rfl rfl T23)) rfl rfl ?_
     refine q_g (d' := 37) (v := .pointer (some ⟨g29, 0, none⟩)) (y_fb FA29_0 rfl rfl) rfl rfl ?_
     refine q_g (d' := 37) (v := .int .i64 z16.author) (y_ld rfl (fun w S => ld_b1 (i := 1) S rfl rfl T3)) rfl rfl ?_
     obtain ⟨z35, hz36⟩ : ∃ z, (z16.seen)[z16.author.toNat]? = some z := nth_of (by omega)
     have := atI_nth hz36
     obtain ⟨p37, vs38, E39, nn40, r41, Y42⟩ := y_ia U23 SZ3 h25 hz36
     clear nn40
     have r41 : vs38 = [.int .i64 z35] := r41; subst r41
     refine q_g (d' := 37) (v := p37) (Y42 rfl rfl (by first | rfl | omega)) rfl rfl ?_
     refine q_g (d' := 37) (v := .int .i64 z35) (y_ld rfl (fun w S => ld_p1 S.le E39 rfl T3)) rfl rfl ?_
     refine q_g (d' := 37) (v := .slice A4 c.length c5) (y_mv rfl) rfl rfl ?_
     refine q_g (d' := 37) (v := .pointer (some ⟨g29, 0, none⟩)) (y_fb FA29_0 rfl rfl) rfl rfl ?_
     refine q_g (d' := 37) (v := .int .i64 z16.author) (y_ld rfl (fun w S => ld_b1 (i := 1) S rfl rfl T3)) rfl rfl ?_
     obtain ⟨z43, hz44⟩ : ∃ z, (c)[z16.author.toNat]? = some z := nth_of (by omega)
     have := atI_nth hz44
     obtain ⟨p45, vs46, E47, nn48, r49, Y50⟩ := y_ia U23 SZ3 h2 hz44
     clear nn48
     have r49 : vs46 = [.int .i64 z43] := r49; subst r49
     refine q_g (d' := 37) (v := p45) (Y50 rfl rfl (by first | rfl | omega)) rfl rfl ?_
     refine q_g (d' := 37) (v := .int .i64 z43) (y_ld rfl (fun w S => ld_p1 S.le E47 rfl T3)) rfl rfl ?_
     by_cases h51 : z35 < z43
     · -- h51 yes
      refine q_g (d' := 37) (v := .bool true) (y_ltT rfl rfl h51) rfl rfl ?_
      refine q_y (v := .bool true) (y_pT rfl rfl) ?_
      refine q_nil fun w52 S => ?_
      refine n_seq ?_
      refine e_trim [(1, .slice A4 c.length c5), (2, .int .i64 n), (6, .pointer (some ⟨g7, 0, none⟩)), (7, .bool false), (13, .slice A1 l.length c2), (14, .int .i64 (l.length : Int)), (15, .int .i64 (k : Int)), (8, .slice AO nO cO), (16, .bool true), (17, p18), (18, .agg #[.int .i64 z16.author, .slice A26 z16.seen.length c27, .int .i64 z16.kind, .int .i64 z16.key, .int .i64 z16.item]), (10, .pointer (some ⟨g29, 0, none⟩)), (19, .pointer (some ⟨g29, 0, none⟩)), (20, .int .i64 z16.author), (21, .bool true), (22, .bool true), (23, .pointer (some ⟨g29, 0, none⟩)), (24, .int .i64 z16.author), (25, .pointer (some ⟨g29, 1, none⟩)), (26, .slice A26 z16.seen.length c27), (27, .int .i64 (z16.seen.length : Int)), (28, .bool true), (29, .bool true), (30, .bool true), (31, .pointer (some ⟨g29, 0, none⟩)), (32, .int .i64 z16.author), (33, .slice A4 c.length c5), (34, .int .i64 (c.length : Int)), (35, .bool true), (36, .bool true), (37, .bool true), (38, .pointer (some ⟨g29, 1, none⟩)), (39, .slice A26 z16.seen.length c27), (40, .pointer (some ⟨g29, 0, none⟩)), (41, .int .i64 z16.author), (42, p37), (43, .int .i64 z35), (44, .slice A4 c.length c5), (45, .pointer (some ⟨g29, 0, none⟩)), (46, .int .i64 z16.author), (47, p45), (48, .int .i64 z43), (49, .bool true), (50, .bool true)] ⟨⟨rfl, rfl⟩, ⟨rfl, rfl⟩, ⟨rfl, rfl⟩, ⟨rfl, rfl⟩, ⟨rfl, rfl⟩, ⟨rfl, rfl⟩, ⟨rfl, rfl⟩, ⟨rfl, rfl⟩, ⟨rfl, rfl⟩, ⟨rfl, rfl⟩, ⟨rfl, rfl⟩, ⟨rfl, rfl⟩, ⟨rfl, rfl⟩, ⟨rfl, rfl⟩, ⟨rfl, rfl⟩, ⟨rfl, rfl⟩, ⟨rfl, rfl⟩, ⟨rfl, rfl⟩, ⟨rfl, rfl⟩, ⟨rfl, rfl⟩, ⟨rfl, rfl⟩, ⟨rfl, rfl⟩, ⟨rfl, rfl⟩, ⟨rfl, rfl⟩, ⟨rfl, rfl⟩, ⟨rfl, rfl⟩, ⟨rfl, rfl⟩, ⟨rfl, rfl⟩, ⟨rfl, rfl⟩, ⟨rfl, rfl⟩, ⟨rfl, rfl⟩, ⟨rfl, rfl⟩, ⟨rfl, rfl⟩, ⟨rfl, rfl⟩, ⟨rfl, rfl⟩, ⟨rfl, rfl⟩, ⟨rfl, rfl⟩, ⟨rfl, rfl⟩, ⟨rfl, rfl⟩, ⟨rfl, rfl⟩, ⟨rfl, rfl⟩, ⟨rfl, rfl⟩, ⟨rfl, rfl⟩, ⟨rfl, rfl⟩, trivial⟩ (fun junk => ?_)
      refine e_cT rfl ?_
      refine e_reg ?_
      refine l_y (v := .slice AO nO cO) S (y_mv rfl) ?_
      refine l_y (v := .agg #[.int .i64 z16.author, .slice A26 z16.seen.length c27, .int .i64 z16.kind, .int .i64 z16.key, .int .i64 z16.item]) S (y_ld rfl (fun w S => ld_bA (vs := [.int .i64 z16.author, .slice A26 z16.seen.length c27, .int .i64 z16.kind, .int .i64 z16.key, .int .i64 z16.item]) (i := 1) S rfl T29 rfl rfl)) ?_
      refine l_bs (ps := [(0, .agg #[.int .i64 z16.author, .slice A26 z16.seen.length c27, .int .i64 z16.kind, .int .i64 z16.key, .int .i64 z16.item])]) (cs := #[.int .i64 z16.author, .slice A26 z16.seen.length c27, .int .i64 z16.kind, .int .i64 z16.key, .int .i64 z16.item]) S U36 SZ29 Z29 rfl rfl rfl (by kernel_rfl) fun g53 w54 S => ?_
      refine l_ap (e' := 0) (i := 0) (i' := 2) S K36 rfl rfl rfl rfl rfl rfl rfl (by simp only [maxLen]; omega) (by first | omega | (dsimp only; omega)) fun v55 w56 S => ?_
      have OO := RowR.push (x := z16) (cs := [.int .i64 z16.author, .slice A26 z16.seen.length c27, .int .i64 z16.kind, .int .i64 z16.key, .int .i64 z16.item]) OO rfl ⟨_, rfl, h25⟩
      obtain ⟨A57, c58, m59e, m59, m59'⟩ : ∃ A c, v55 = .slice A (nO + 1) c ∧ (nO + 1) ≤ c ∧ c ≤ maxLen := own_len S (i := 0) rfl; subst m59e
      refine l_y (v := .slice A57 (nO + 1) c58) S (y_as rfl) ?_
      refine l_nil ?_
      refine n_blk ?_
      refine n_seq ?_
      refine e_reg ?_
      refine l_y (v := .int .i64 ((k : Int) + 1)) S (y_add (r := (k : Int) + 1) rfl rfl (w64 (by omega) (by omega))) ?_
      refine l_y (v := .int .i64 ((k : Int) + 1)) S (y_mv rfl) ?_
      refine l_nil ?_
      refine n_lp ⟨(k + 1, o ++ [z16], A57, nO + 1, c58, (xsO ++ [.int .i64 z16.author, .slice A26 z16.seen.length c27, .int .i64 z16.kind, .int .i64 z16.key, .int .i64 z16.item])), _, fr_keep (m := [(1, .slice A4 c.length c5), (2, .int .i64 n), (6, .pointer (some ⟨g7, 0, none⟩)), (7, .bool false), (13, .slice A1 l.length c2), (14, .int .i64 (l.length : Int)), (15, .int .i64 ((k + 1 : Nat) : Int)), (8, .slice A57 (nO + 1) c58)]) ⟨⟨rfl, rfl⟩, ⟨rfl, rfl⟩, ⟨rfl, rfl⟩, ⟨rfl, rfl⟩, ⟨rfl, rfl⟩, ⟨rfl, rfl⟩, ⟨ival (by first | rfl | omega), rfl⟩, ⟨rfl, rfl⟩, trivial⟩, ⟨_, _, rfl, (S.tk 1 1 rfl rfl), (Rd.le_trans L12 (Rd.le_refl rd10)), ⟨OO, (by simp; omega)⟩, (by omega), (fil_yes ho hz17 (by unfold hasU; simp only [Bool.and_eq_true, decide_eq_true_eq]; omega))⟩, ?_⟩
      show _ < _; dsimp only; omega
     · -- h51 no
      refine q_g (d' := 37) (v := .bool false) (y_ltF rfl rfl h51) rfl rfl ?_
      refine q_y (v := .bool false) (y_pT rfl rfl) ?_
      refine q_nil fun w60 S => ?_
      refine n_seq ?_
      refine e_trim [(1, .slice A4 c.length c5), (2, .int .i64 n), (6, .pointer (some ⟨g7, 0, none⟩)), (7, .bool false), (13, .slice A1 l.length c2), (14, .int .i64 (l.length : Int)), (15, .int .i64 (k : Int)), (8, .slice AO nO cO), (16, .bool true), (17, p18), (18, .agg #[.int .i64 z16.author, .slice A26 z16.seen.length c27, .int .i64 z16.kind, .int .i64 z16.key, .int .i64 z16.item]), (10, .pointer (some ⟨g29, 0, none⟩)), (19, .pointer (some ⟨g29, 0, none⟩)), (20, .int .i64 z16.author), (21, .bool true), (22, .bool true), (23, .pointer (some ⟨g29, 0, none⟩)), (24, .int .i64 z16.author), (25, .pointer (some ⟨g29, 1, none⟩)), (26, .slice A26 z16.seen.length c27), (27, .int .i64 (z16.seen.length : Int)), (28, .bool true), (29, .bool true), (30, .bool true), (31, .pointer (some ⟨g29, 0, none⟩)), (32, .int .i64 z16.author), (33, .slice A4 c.length c5), (34, .int .i64 (c.length : Int)), (35, .bool true), (36, .bool true), (37, .bool true), (38, .pointer (some ⟨g29, 1, none⟩)), (39, .slice A26 z16.seen.length c27), (40, .pointer (some ⟨g29, 0, none⟩)), (41, .int .i64 z16.author), (42, p37), (43, .int .i64 z35), (44, .slice A4 c.length c5), (45, .pointer (some ⟨g29, 0, none⟩)), (46, .int .i64 z16.author), (47, p45), (48, .int .i64 z43), (49, .bool false), (50, .bool false)] ⟨⟨rfl, rfl⟩, ⟨rfl, rfl⟩, ⟨rfl, rfl⟩, ⟨rfl, rfl⟩, ⟨rfl, rfl⟩, ⟨rfl, rfl⟩, ⟨rfl, rfl⟩, ⟨rfl, rfl⟩, ⟨rfl, rfl⟩, ⟨rfl, rfl⟩, ⟨rfl, rfl⟩, ⟨rfl, rfl⟩, ⟨rfl, rfl⟩, ⟨rfl, rfl⟩, ⟨rfl, rfl⟩, ⟨rfl, rfl⟩, ⟨rfl, rfl⟩, ⟨rfl, rfl⟩, ⟨rfl, rfl⟩, ⟨rfl, rfl⟩, ⟨rfl, rfl⟩, ⟨rfl, rfl⟩, ⟨rfl, rfl⟩, ⟨rfl, rfl⟩, ⟨rfl, rfl⟩, ⟨rfl, rfl⟩, ⟨rfl, rfl⟩, ⟨rfl, rfl⟩, ⟨rfl, rfl⟩, ⟨rfl, rfl⟩, ⟨rfl, rfl⟩, ⟨rfl, rfl⟩, ⟨rfl, rfl⟩, ⟨rfl, rfl⟩, ⟨rfl, rfl⟩, ⟨rfl, rfl⟩, ⟨rfl, rfl⟩, ⟨rfl, rfl⟩, ⟨rfl, rfl⟩, ⟨rfl, rfl⟩, ⟨rfl, rfl⟩, ⟨rfl, rfl⟩, ⟨rfl, rfl⟩, ⟨rfl, rfl⟩, trivial⟩ (fun junk => ?_)
      refine e_cF rfl ?_
      refine e_skip ?_
      refine n_blk ?_
      refine n_seq ?_
      refine e_reg ?_
      refine l_y (v := .int .i64 ((k : Int) + 1)) S (y_add (r := (k : Int) + 1) rfl rfl (w64 (by omega) (by omega))) ?_
      refine l_y (v := .int .i64 ((k : Int) + 1)) S (y_mv rfl) ?_
      refine l_nil ?_
      refine n_lp ⟨(k + 1, o, AO, nO, cO, xsO), _, fr_keep (m := [(1, .slice A4 c.length c5), (2, .int .i64 n), (6, .pointer (some ⟨g7, 0, none⟩)), (7, .bool false), (13, .slice A1 l.length c2), (14, .int .i64 (l.length : Int)), (15, .int .i64 ((k + 1 : Nat) : Int)), (8, .slice AO nO cO)]) ⟨⟨rfl, rfl⟩, ⟨rfl, rfl⟩, ⟨rfl, rfl⟩, ⟨rfl, rfl⟩, ⟨rfl, rfl⟩, ⟨rfl, rfl⟩, ⟨ival (by first | rfl | omega), rfl⟩, ⟨rfl, rfl⟩, trivial⟩, ⟨_, _, rfl, (S.tk 1 1 rfl rfl), (Rd.le_trans L12 (Rd.le_refl rd10)), ⟨OO, (by omega)⟩, (by omega), (fil_no ho hz17 (by rw [Bool.eq_false_iff]; intro hh; unfold hasU at hh; simp only [Bool.and_eq_true, decide_eq_true_eq] at hh; omega))⟩, ?_⟩
      show _ < _; dsimp only; omega
    · -- h34 no
     refine q_g (d' := 30) (v := .bool false) (y_ltF rfl rfl h34) rfl rfl ?_
     refine q_y (v := .bool false) (y_pT rfl rfl) ?_
     refine q_y (v := .bool false) (y_mv rfl) ?_
     refine q_s (d' := 37) rfl rfl ?_
     refine q_s (d' := 37) rfl rfl ?_
     refine q_s (d' := 37) rfl rfl ?_
     refine q_s (d' := 37) rfl rfl ?_
     refine q_s (d' := 37) rfl rfl ?_
     refine q_s (d' := 37) rfl rfl ?_
     refine q_s (d' := 37) rfl rfl ?_
     refine q_s (d' := 37) rfl rfl ?_
     refine q_s (d' := 37) rfl rfl ?_
     refine q_s (d' := 37) rfl rfl ?_
     refine q_s (d' := 37) rfl rfl ?_
     refine q_s (d' := 37) rfl rfl ?_
     refine q_y (v := .bool false) (y_pF rfl rfl) ?_
     refine q_nil fun w61 S => ?_
     refine n_seq ?_
     refine e_trim [(1, .slice A4 c.length c5), (2, .int .i64 n), (6, .pointer (some ⟨g7, 0, none⟩)), (7, .bool false), (13, .slice A1 l.length c2), (14, .int .i64 (l.length : Int)), (15, .int .i64 (k : Int)), (8, .slice AO nO cO), (16, .bool true), (17, p18), (18, .agg #[.int .i64 z16.author, .slice A26 z16.seen.length c27, .int .i64 z16.kind, .int .i64 z16.key, .int .i64 z16.item]), (10, .pointer (some ⟨g29, 0, none⟩)), (19, .pointer (some ⟨g29, 0, none⟩)), (20, .int .i64 z16.author), (21, .bool true), (22, .bool true), (23, .pointer (some ⟨g29, 0, none⟩)), (24, .int .i64 z16.author), (25, .pointer (some ⟨g29, 1, none⟩)), (26, .slice A26 z16.seen.length c27), (27, .int .i64 (z16.seen.length : Int)), (28, .bool true), (29, .bool true), (30, .bool true), (31, .pointer (some ⟨g29, 0, none⟩)), (32, .int .i64 z16.author), (33, .slice A4 c.length c5), (34, .int .i64 (c.length : Int)), (35, .bool false), (36, .bool false), (37, .bool false), (38, undef), (39, undef), (40, undef), (41, undef), (42, undef), (43, undef), (44, undef), (45, undef), (46, undef), (47, undef), (48, undef), (49, undef), (50, .bool false)] ⟨⟨rfl, rfl⟩, ⟨rfl, rfl⟩, ⟨rfl, rfl⟩, ⟨rfl, rfl⟩, ⟨rfl, rfl⟩, ⟨rfl, rfl⟩, ⟨rfl, rfl⟩, ⟨rfl, rfl⟩, ⟨rfl, rfl⟩, ⟨rfl, rfl⟩, ⟨rfl, rfl⟩, ⟨rfl, rfl⟩, ⟨rfl, rfl⟩, ⟨rfl, rfl⟩, ⟨rfl, rfl⟩, ⟨rfl, rfl⟩, ⟨rfl, rfl⟩, ⟨rfl, rfl⟩, ⟨rfl, rfl⟩, ⟨rfl, rfl⟩, ⟨rfl, rfl⟩, ⟨rfl, rfl⟩, ⟨rfl, rfl⟩, ⟨rfl, rfl⟩, ⟨rfl, rfl⟩, ⟨rfl, rfl⟩, ⟨rfl, rfl⟩, ⟨rfl, rfl⟩, ⟨rfl, rfl⟩, ⟨rfl, rfl⟩, ⟨rfl, rfl⟩, ⟨rfl, rfl⟩, ⟨rfl, rfl⟩, ⟨rfl, rfl⟩, ⟨rfl, rfl⟩, ⟨rfl, rfl⟩, ⟨rfl, rfl⟩, ⟨rfl, rfl⟩, ⟨rfl, rfl⟩, ⟨rfl, rfl⟩, ⟨rfl, rfl⟩, ⟨rfl, rfl⟩, ⟨rfl, rfl⟩, ⟨rfl, rfl⟩, trivial⟩ (fun junk => ?_)
     refine e_cF rfl ?_
     refine e_skip ?_
     refine n_blk ?_
     refine n_seq ?_
     refine e_reg ?_
     refine l_y (v := .int .i64 ((k : Int) + 1)) S (y_add (r := (k : Int) + 1) rfl rfl (w64 (by omega) (by omega))) ?_
     refine l_y (v := .int .i64 ((k : Int) + 1)) S (y_mv rfl) ?_
     refine l_nil ?_
     refine n_lp ⟨(k + 1, o, AO, nO, cO, xsO), _, fr_keep (m := [(1, .slice A4 c.length c5), (2, .int .i64 n), (6, .pointer (some ⟨g7, 0, none⟩)), (7, .bool false), (13, .slice A1 l.length c2), (14, .int .i64 (l.length : Int)), (15, .int .i64 ((k + 1 : Nat) : Int)), (8, .slice AO nO cO)]) ⟨⟨rfl, rfl⟩, ⟨rfl, rfl⟩, ⟨rfl, rfl⟩, ⟨rfl, rfl⟩, ⟨rfl, rfl⟩, ⟨rfl, rfl⟩, ⟨ival (by first | rfl | omega), rfl⟩, ⟨rfl, rfl⟩, trivial⟩, ⟨_, _, rfl, (S.tk 1 1 rfl rfl), (Rd.le_trans L12 (Rd.le_refl rd10)), ⟨OO, (by omega)⟩, (by omega), (fil_no ho hz17 (by rw [Bool.eq_false_iff]; intro hh; unfold hasU at hh; simp only [Bool.and_eq_true, decide_eq_true_eq] at hh; omega))⟩, ?_⟩
     show _ < _; dsimp only; omega
   · -- h33 no
    refine q_g (d' := 22) (v := .bool false) (y_ltF rfl rfl h33) rfl rfl ?_
    refine q_y (v := .bool false) (y_pT rfl rfl) ?_
    refine q_y (v := .bool false) (y_mv rfl) ?_
    refine q_s (d' := 30) rfl rfl ?_
    refine q_s (d' := 30) rfl rfl ?_
    refine q_s (d' := 30) rfl rfl ?_
    refine q_s (d' := 30) rfl rfl ?_
    refine q_s (d' := 30) rfl rfl ?_
    refine q_y (v := .bool false) (y_pF rfl rfl) ?_
    refine q_y (v := .bool false) (y_mv rfl) ?_
    refine q_s (d' := 37) rfl rfl ?_
    refine q_s (d' := 37) rfl rfl ?_
    refine q_s (d' := 37) rfl rfl ?_
    refine q_s (d' := 37) rfl rfl ?_
    refine q_s (d' := 37) rfl rfl ?_
    refine q_s (d' := 37) rfl rfl ?_
    refine q_s (d' := 37) rfl rfl ?_
    refine q_s (d' := 37) rfl rfl ?_
    refine q_s (d' := 37) rfl rfl ?_
    refine q_s (d' := 37) rfl rfl ?_
    refine q_s (d' := 37) rfl rfl ?_
    refine q_s (d' := 37) rfl rfl ?_
    refine q_y (v := .bool false) (y_pF rfl rfl) ?_
    refine q_nil fun w62 S => ?_
    refine n_seq ?_
    refine e_trim [(1, .slice A4 c.length c5), (2, .int .i64 n), (6, .pointer (some ⟨g7, 0, none⟩)), (7, .bool false), (13, .slice A1 l.length c2), (14, .int .i64 (l.length : Int)), (15, .int .i64 (k : Int)), (8, .slice AO nO cO), (16, .bool true), (17, p18), (18, .agg #[.int .i64 z16.author, .slice A26 z16.seen.length c27, .int .i64 z16.kind, .int .i64 z16.key, .int .i64 z16.item]), (10, .pointer (some ⟨g29, 0, none⟩)), (19, .pointer (some ⟨g29, 0, none⟩)), (20, .int .i64 z16.author), (21, .bool true), (22, .bool true), (23, .pointer (some ⟨g29, 0, none⟩)), (24, .int .i64 z16.author), (25, .pointer (some ⟨g29, 1, none⟩)), (26, .slice A26 z16.seen.length c27), (27, .int .i64 (z16.seen.length : Int)), (28, .bool false), (29, .bool false), (30, .bool false), (31, undef), (32, undef), (33, undef), (34, undef), (35, undef), (36, .bool false), (37, .bool false), (38, undef), (39, undef), (40, undef), (41, undef), (42, undef), (43, undef), (44, undef), (45, undef), (46, undef), (47, undef), (48, undef), (49, undef), (50, .bool false)] ⟨⟨rfl, rfl⟩, ⟨rfl, rfl⟩, ⟨rfl, rfl⟩, ⟨rfl, rfl⟩, ⟨rfl, rfl⟩, ⟨rfl, rfl⟩, ⟨rfl, rfl⟩, ⟨rfl, rfl⟩, ⟨rfl, rfl⟩, ⟨rfl, rfl⟩, ⟨rfl, rfl⟩, ⟨rfl, rfl⟩, ⟨rfl, rfl⟩, ⟨rfl, rfl⟩, ⟨rfl, rfl⟩, ⟨rfl, rfl⟩, ⟨rfl, rfl⟩, ⟨rfl, rfl⟩, ⟨rfl, rfl⟩, ⟨rfl, rfl⟩, ⟨rfl, rfl⟩, ⟨rfl, rfl⟩, ⟨rfl, rfl⟩, ⟨rfl, rfl⟩, ⟨rfl, rfl⟩, ⟨rfl, rfl⟩, ⟨rfl, rfl⟩, ⟨rfl, rfl⟩, ⟨rfl, rfl⟩, ⟨rfl, rfl⟩, ⟨rfl, rfl⟩, ⟨rfl, rfl⟩, ⟨rfl, rfl⟩, ⟨rfl, rfl⟩, ⟨rfl, rfl⟩, ⟨rfl, rfl⟩, ⟨rfl, rfl⟩, ⟨rfl, rfl⟩, ⟨rfl, rfl⟩, ⟨rfl, rfl⟩, ⟨rfl, rfl⟩, ⟨rfl, rfl⟩, ⟨rfl, rfl⟩, ⟨rfl, rfl⟩, trivial⟩ (fun junk => ?_)
    refine e_cF rfl ?_
    refine e_skip ?_
    refine n_blk ?_
    refine n_seq ?_
    refine e_reg ?_
    refine l_y (v := .int .i64 ((k : Int) + 1)) S (y_add (r := (k : Int) + 1) rfl rfl (w64 (by omega) (by omega))) ?_
    refine l_y (v := .int .i64 ((k : Int) + 1)) S (y_mv rfl) ?_
    refine l_nil ?_
    refine n_lp ⟨(k + 1, o, AO, nO, cO, xsO), _, fr_keep (m := [(1, .slice A4 c.length c5), (2, .int .i64 n), (6, .pointer (some ⟨g7, 0, none⟩)), (7, .bool false), (13, .slice A1 l.length c2), (14, .int .i64 (l.length : Int)), (15, .int .i64 ((k + 1 : Nat) : Int)), (8, .slice AO nO cO)]) ⟨⟨rfl, rfl⟩, ⟨rfl, rfl⟩, ⟨rfl, rfl⟩, ⟨rfl, rfl⟩, ⟨rfl, rfl⟩, ⟨rfl, rfl⟩, ⟨ival (by first | rfl | omega), rfl⟩, ⟨rfl, rfl⟩, trivial⟩, ⟨_, _, rfl, (S.tk 1 1 rfl rfl), (Rd.le_trans L12 (Rd.le_refl rd10)), ⟨OO, (by omega)⟩, (by omega), (fil_no ho hz17 (by rw [Bool.eq_false_iff]; intro hh; unfold hasU at hh; simp only [Bool.and_eq_true, decide_eq_true_eq] at hh; omega))⟩, ?_⟩
    show _ < _; dsimp only; omega
  · -- h32 no
   refine q_y (v := .bool false) (y_geF rfl rfl h32) ?_
   refine q_y (v := .bool false) (y_mv rfl) ?_
   refine q_s (d' := 22) rfl rfl ?_
   refine q_s (d' := 22) rfl rfl ?_
   refine q_s (d' := 22) rfl rfl ?_
   refine q_s (d' := 22) rfl rfl ?_
   refine q_s (d' := 22) rfl rfl ?_
   refine q_s (d' := 22) rfl rfl ?_
   refine q_y (v := .bool false) (y_pF rfl rfl) ?_
   refine q_y (v := .bool false) (y_mv rfl) ?_
   refine q_s (d' := 30) rfl rfl ?_
   refine q_s (d' := 30) rfl rfl ?_
   refine q_s (d' := 30) rfl rfl ?_
   refine q_s (d' := 30) rfl rfl ?_
   refine q_s (d' := 30) rfl rfl ?_
   refine q_y (v := .bool false) (y_pF rfl rfl) ?_
   refine q_y (v := .bool false) (y_mv rfl) ?_
   refine q_s (d' := 37) rfl rfl ?_
   refine q_s (d' := 37) rfl rfl ?_
   refine q_s (d' := 37) rfl rfl ?_
   refine q_s (d' := 37) rfl rfl ?_
   refine q_s (d' := 37) rfl rfl ?_
   refine q_s (d' := 37) rfl rfl ?_
   refine q_s (d' := 37) rfl rfl ?_
   refine q_s (d' := 37) rfl rfl ?_
   refine q_s (d' := 37) rfl rfl ?_
   refine q_s (d' := 37) rfl rfl ?_
   refine q_s (d' := 37) rfl rfl ?_
   refine q_s (d' := 37) rfl rfl ?_
   refine q_y (v := .bool false) (y_pF rfl rfl) ?_
   refine q_nil fun w63 S => ?_
   refine n_seq ?_
   refine e_trim [(1, .slice A4 c.length c5), (2, .int .i64 n), (6, .pointer (some ⟨g7, 0, none⟩)), (7, .bool false), (13, .slice A1 l.length c2), (14, .int .i64 (l.length : Int)), (15, .int .i64 (k : Int)), (8, .slice AO nO cO), (16, .bool true), (17, p18), (18, .agg #[.int .i64 z16.author, .slice A26 z16.seen.length c27, .int .i64 z16.kind, .int .i64 z16.key, .int .i64 z16.item]), (10, .pointer (some ⟨g29, 0, none⟩)), (19, .pointer (some ⟨g29, 0, none⟩)), (20, .int .i64 z16.author), (21, .bool false), (22, .bool false), (23, undef), (24, undef), (25, undef), (26, undef), (27, undef), (28, undef), (29, .bool false), (30, .bool false), (31, undef), (32, undef), (33, undef), (34, undef), (35, undef), (36, .bool false), (37, .bool false), (38, undef), (39, undef), (40, undef), (41, undef), (42, undef), (43, undef), (44, undef), (45, undef), (46, undef), (47, undef), (48, undef), (49, undef), (50, .bool false)] ⟨⟨rfl, rfl⟩, ⟨rfl, rfl⟩, ⟨rfl, rfl⟩, ⟨rfl, rfl⟩, ⟨rfl, rfl⟩, ⟨rfl, rfl⟩, ⟨rfl, rfl⟩, ⟨rfl, rfl⟩, ⟨rfl, rfl⟩, ⟨rfl, rfl⟩, ⟨rfl, rfl⟩, ⟨rfl, rfl⟩, ⟨rfl, rfl⟩, ⟨rfl, rfl⟩, ⟨rfl, rfl⟩, ⟨rfl, rfl⟩, ⟨rfl, rfl⟩, ⟨rfl, rfl⟩, ⟨rfl, rfl⟩, ⟨rfl, rfl⟩, ⟨rfl, rfl⟩, ⟨rfl, rfl⟩, ⟨rfl, rfl⟩, ⟨rfl, rfl⟩, ⟨rfl, rfl⟩, ⟨rfl, rfl⟩, ⟨rfl, rfl⟩, ⟨rfl, rfl⟩, ⟨rfl, rfl⟩, ⟨rfl, rfl⟩, ⟨rfl, rfl⟩, ⟨rfl, rfl⟩, ⟨rfl, rfl⟩, ⟨rfl, rfl⟩, ⟨rfl, rfl⟩, ⟨rfl, rfl⟩, ⟨rfl, rfl⟩, ⟨rfl, rfl⟩, ⟨rfl, rfl⟩, ⟨rfl, rfl⟩, ⟨rfl, rfl⟩, ⟨rfl, rfl⟩, ⟨rfl, rfl⟩, ⟨rfl, rfl⟩, trivial⟩ (fun junk => ?_)
   refine e_cF rfl ?_
   refine e_skip ?_
   refine n_blk ?_
   refine n_seq ?_
   refine e_reg ?_
   refine l_y (v := .int .i64 ((k : Int) + 1)) S (y_add (r := (k : Int) + 1) rfl rfl (w64 (by omega) (by omega))) ?_
   refine l_y (v := .int .i64 ((k : Int) + 1)) S (y_mv rfl) ?_
   refine l_nil ?_
   refine n_lp ⟨(k + 1, o, AO, nO, cO, xsO), _, fr_keep (m := [(1, .slice A4 c.length c5), (2, .int .i64 n), (6, .pointer (some ⟨g7, 0, none⟩)), (7, .bool false), (13, .slice A1 l.length c2), (14, .int .i64 (l.length : Int)), (15, .int .i64 ((k + 1 : Nat) : Int)), (8, .slice AO nO cO)]) ⟨⟨rfl, rfl⟩, ⟨rfl, rfl⟩, ⟨rfl, rfl⟩, ⟨rfl, rfl⟩, ⟨rfl, rfl⟩, ⟨rfl, rfl⟩, ⟨ival (by first | rfl | omega), rfl⟩, ⟨rfl, rfl⟩, trivial⟩, ⟨_, _, rfl, (S.tk 1 1 rfl rfl), (Rd.le_trans L12 (Rd.le_refl rd10)), ⟨OO, (by omega)⟩, (by omega), (fil_no ho hz17 (by rw [Bool.eq_false_iff]; intro hh; unfold hasU at hh; simp only [Bool.and_eq_true, decide_eq_true_eq] at hh; omega))⟩, ?_⟩
   show _ < _; dsimp only; omega
 · -- h15 no
  refine l_y (v := .bool false) S (y_ltF rfl rfl h15) ?_
  refine l_nil ?_
  refine n_seq ?_
  refine e_seq ?_
  refine e_cF rfl ?_
  refine e_exit ?_
  refine x_seq ?_
  refine x_lp ?_
  refine x_hit ?_
  refine n_seq ?_
  refine e_seq ?_
  refine e_reg ?_
  have hoe : o = mineU c l := by rw [ho, List.take_of_length_le (by omega)]; rfl
  refine l_y (v := .int .i64 n) S (y_mv rfl) ?_
  obtain ⟨rd64, S, L65, F66⟩ := S.frzo' (i := 0) rfl rfl
  replace h := fm h L65
  replace h2 := fm h2 L65
  replace OO := rm OO L65
  have F67 : SliceR 5 UpdR rd64 (.slice AO nO cO) o := F66 (by omega) OO; clear F66
  refine l_c (en_f (vs := [.int .i64 n]) (CF 18 _) rfl rfl) (SStart_c _ _ S.le n) ?_
  rintro e w68 ⟨v73, rfl, h74, k⟩
  obtain ⟨rd69, S, L70, N71, X72⟩ := S.call' k; clear k
  replace h := fm h L70
  replace h2 := fm h2 L70
  replace F67 := fm F67 L70
  replace h74 := am h74 X72
  obtain ⟨cs75, h74v, h74⟩ := h74; subst h74v
  obtain ⟨sv76, sv78, sv80, h74e, h77, h79, h81⟩ := h74; subst h74e
  obtain ⟨A82, c83, rfl, m84, m84'⟩ := h77.val
  obtain ⟨A85, c86, rfl, m87, m87'⟩ := h79.val
  obtain ⟨A88, c89, rfl, m90, m90'⟩ := h81.val
  refine ckd ?_
  refine l_y (v := .slice AO nO cO) S (y_mv rfl) ?_
  refine l_c (en_f (vs := [.agg #[.slice A82 (((startG n).clock).length) c83, .slice A85 (((startG n).lives).length) c86, .slice A88 (((startG n).tallies).length) c89], .slice AO nO cO]) (CF 14 _) rfl rfl) (SPlay_c _ _ S.le _ _ (startG n) o (⟨_, rfl, ⟨_, _, _, rfl, h77, h79, h81⟩⟩ : AggR StateR rd69 _ (startG n)) F67) ?_
  rintro e w91 ⟨v96, rfl, h97, k⟩
  obtain ⟨rd92, S, L93, N94, X95⟩ := S.call' k; clear k
  replace h := fm h L93
  replace h2 := fm h2 L93
  replace F67 := fm F67 L93
  replace h77 := fm h77 L93
  replace h79 := fm h79 L93
  replace h81 := fm h81 L93
  replace h97 := am h97 X95
  obtain ⟨cs98, h97v, h97⟩ := h97; subst h97v
  obtain ⟨sv99, sv101, sv103, h97e, h100, h102, h104⟩ := h97; subst h97e
  obtain ⟨A105, c106, rfl, m107, m107'⟩ := h100.val
  obtain ⟨A108, c109, rfl, m110, m110'⟩ := h102.val
  obtain ⟨A111, c112, rfl, m113, m113'⟩ := h104.val
  refine ckd ?_
  refine l_y (v := .tuple #[.agg #[.slice A105 (((PlayS (startG n) o).1.clock).length) c106, .slice A108 (((PlayS (startG n) o).1.lives).length) c109, .slice A111 (((PlayS (startG n) o).1.tallies).length) c112], .agg #[.int .i64 ((PlayS (startG n) o).2.1), .int .i64 ((PlayS (startG n) o).2.2)]]) S (y_mv rfl) ?_
  refine l_y (v := .agg #[.slice A105 (((PlayS (startG n) o).1.clock).length) c106, .slice A108 (((PlayS (startG n) o).1.lives).length) c109, .slice A111 (((PlayS (startG n) o).1.tallies).length) c112]) S (y_ex rfl rfl) ?_
  refine l_y (v := .agg #[.int .i64 ((PlayS (startG n) o).2.1), .int .i64 ((PlayS (startG n) o).2.2)]) S (y_ex rfl rfl) ?_
  refine l_al (cs := #[.slice none 0 0, .slice none 0 0, .slice none 0 0]) S Z27 rfl fun g114 w115 S => ?_
  refine l_al (cs := #[.int .i64 0, .int .i64 0]) S Z33 rfl fun g116 w117 S => ?_
  refine l_st (u := .agg #[.slice A105 (((PlayS (startG n) o).1.clock).length) c106, .slice A108 (((PlayS (startG n) o).1.lives).length) c109, .slice A111 (((PlayS (startG n) o).1.tallies).length) c112]) (i := 1) (cs' := #[.slice A105 (((PlayS (startG n) o).1.clock).length) c106, .slice A108 (((PlayS (startG n) o).1.lives).length) c109, .slice A111 (((PlayS (startG n) o).1.tallies).length) c112]) S rfl rfl rfl SZ27 rfl rfl rfl fun w118 S => ?_
  refine l_st (u := .agg #[.int .i64 ((PlayS (startG n) o).2.1), .int .i64 ((PlayS (startG n) o).2.2)]) (i := 2) (cs' := #[.int .i64 ((PlayS (startG n) o).2.1), .int .i64 ((PlayS (startG n) o).2.2)]) S rfl rfl rfl SZ33 rfl rfl rfl fun w119 S => ?_
  refine l_nil ?_
  refine n_seq ?_
  refine e_seq ?_
  refine e_a (fun w => St [] W rd rd92 [(g114, 27, #[.slice A105 (((PlayS (startG n) o).1.clock).length) c106, .slice A108 (((PlayS (startG n) o).1.lives).length) c109, .slice A111 (((PlayS (startG n) o).1.tallies).length) c112]), (g116, 33, #[.int .i64 ((PlayS (startG n) o).2.1), .int .i64 ((PlayS (startG n) o).2.2)])] [] w) MX rfl ?_
  have S := S.drew; have sup120 := S.sup
  have SC : St [] W rd rd92 [(g114, 27, #[.slice A105 (((PlayS (startG n) o).1.clock).length) c106, .slice A108 (((PlayS (startG n) o).1.lives).length) c109, .slice A111 (((PlayS (startG n) o).1.tallies).length) c112]), (g116, 33, #[.int .i64 ((PlayS (startG n) o).2.1), .int .i64 ((PlayS (startG n) o).2.2)])] [] _ := ((S.tk 3 0 rfl rfl).del 0).rw' rfl rfl
  refine a_take (v := .agg #[.slice A105 (((PlayS (startG n) o).1.clock).length) c106, .slice A108 (((PlayS (startG n) o).1.lives).length) c109, .slice A111 (((PlayS (startG n) o).1.tallies).length) c112]) 0 rfl rfl (by kernel_rfl) (by kernel_rfl) (by kernel_rfl) SC rfl (y_ld rfl (fun w S => ld_bA (vs := [.slice A105 (((PlayS (startG n) o).1.clock).length) c106, .slice A108 (((PlayS (startG n) o).1.lives).length) c109, .slice A111 (((PlayS (startG n) o).1.tallies).length) c112]) (i := 0) S rfl T27 rfl rfl)) ?_
  refine a_take (v := .pointer (some ⟨g116, 0, none⟩)) 1 rfl rfl (by kernel_rfl) (by kernel_rfl) (by kernel_rfl) SC rfl (y_fb FA33_0 rfl rfl) ?_
  refine a_take (v := .int .i64 ((PlayS (startG n) o).2.1)) 2 rfl rfl (by kernel_rfl) (by kernel_rfl) (by kernel_rfl) SC rfl (y_ld rfl (fun w S => ld_b1 (i := 1) S rfl rfl T31)) ?_
  by_cases h66 : (PlayS (startG n) o).2.1 = 0
  · -- h66 yes
   refine a_take (v := .bool true) 3 rfl rfl (by kernel_rfl) (by kernel_rfl) (by kernel_rfl) SC rfl (y_eqT rfl rfl h66) ?_
   refine a_all (rs := [4]) (by kernel_rfl) rfl ?_
   refine aa_cons rfl ?_ ?_
   · -- operation 4
    refine l_st (u := .agg #[.slice A105 (((PlayS (startG n) o).1.clock).length) c106, .slice A108 (((PlayS (startG n) o).1.lives).length) c109, .slice A111 (((PlayS (startG n) o).1.tallies).length) c112]) (i := 0) (cs' := #[.slice A105 (((PlayS (startG n) o).1.clock).length) c106, .slice A108 (((PlayS (startG n) o).1.lives).length) c109, .slice A111 (((PlayS (startG n) o).1.tallies).length) c112]) S rfl rfl rfl SZ27 rfl rfl rfl fun w121 S => ?_
    refine l_nil ?_
    have SC : St [] W rd rd92 [(g114, 27, #[.slice A105 (((PlayS (startG n) o).1.clock).length) c106, .slice A108 (((PlayS (startG n) o).1.lives).length) c109, .slice A111 (((PlayS (startG n) o).1.tallies).length) c112]), (g116, 33, #[.int .i64 ((PlayS (startG n) o).2.1), .int .i64 ((PlayS (startG n) o).2.2)])] [] _ := ((S.tk 3 0 rfl rfl).del 0).rw' rfl rfl
    refine n_lp (ak SC ?_)
    refine a_take (v := .bool true) 5 rfl rfl (by kernel_rfl) (by kernel_rfl) (by kernel_rfl) SC rfl (y_as rfl) ?_
    refine a_done (by kernel_rfl) ?_
    clear SC
    refine n_seq ?_
    refine e_ret ?_
    refine ret2 (v := .agg #[.slice A105 (((PlayS (startG n) o).1.clock).length) c106, .slice A108 (((PlayS (startG n) o).1.lives).length) c109, .slice A111 (((PlayS (startG n) o).1.tallies).length) c112]) (v' := .bool true) rfl ⟨_, rfl, ld_bA (i := 0) (vs := [.slice A105 (((PlayS (startG n) o).1.clock).length) c106, .slice A108 (((PlayS (startG n) o).1.lives).length) c109, .slice A111 (((PlayS (startG n) o).1.tallies).length) c112]) S rfl T27 rfl rfl⟩ rfl ?_
    rw [← hoe]
    exact ⟨_, by rw [decide_eq_true h66], ⟨_, rfl, ⟨_, _, _, rfl, (fm h100 S.out), (fm h102 S.out), (fm h104 S.out)⟩⟩, S.below⟩
   exact aa_nil
  · -- h66 no
   refine a_take (v := .bool false) 3 rfl rfl (by kernel_rfl) (by kernel_rfl) (by kernel_rfl) SC rfl (y_eqF rfl rfl h66) ?_
   refine a_all (rs := [4]) (by kernel_rfl) rfl ?_
   refine aa_cons rfl ?_ ?_
   · -- operation 4
    refine l_st (u := .agg #[.slice A105 (((PlayS (startG n) o).1.clock).length) c106, .slice A108 (((PlayS (startG n) o).1.lives).length) c109, .slice A111 (((PlayS (startG n) o).1.tallies).length) c112]) (i := 0) (cs' := #[.slice A105 (((PlayS (startG n) o).1.clock).length) c106, .slice A108 (((PlayS (startG n) o).1.lives).length) c109, .slice A111 (((PlayS (startG n) o).1.tallies).length) c112]) S rfl rfl rfl SZ27 rfl rfl rfl fun w122 S => ?_
    refine l_nil ?_
    have SC : St [] W rd rd92 [(g114, 27, #[.slice A105 (((PlayS (startG n) o).1.clock).length) c106, .slice A108 (((PlayS (startG n) o).1.lives).length) c109, .slice A111 (((PlayS (startG n) o).1.tallies).length) c112]), (g116, 33, #[.int .i64 ((PlayS (startG n) o).2.1), .int .i64 ((PlayS (startG n) o).2.2)])] [] _ := ((S.tk 3 0 rfl rfl).del 0).rw' rfl rfl
    refine n_lp (ak SC ?_)
    refine a_take (v := .bool false) 5 rfl rfl (by kernel_rfl) (by kernel_rfl) (by kernel_rfl) SC rfl (y_as rfl) ?_
    refine a_done (by kernel_rfl) ?_
    clear SC
    refine n_seq ?_
    refine e_ret ?_
    refine ret2 (v := .agg #[.slice A105 (((PlayS (startG n) o).1.clock).length) c106, .slice A108 (((PlayS (startG n) o).1.lives).length) c109, .slice A111 (((PlayS (startG n) o).1.tallies).length) c112]) (v' := .bool false) rfl ⟨_, rfl, ld_bA (i := 0) (vs := [.slice A105 (((PlayS (startG n) o).1.clock).length) c106, .slice A108 (((PlayS (startG n) o).1.lives).length) c109, .slice A111 (((PlayS (startG n) o).1.tallies).length) c112]) S rfl T27 rfl rfl⟩ rfl ?_
    rw [← hoe]
    exact ⟨_, by rw [decide_eq_false h66], ⟨_, rfl, ⟨_, _, _, rfl, (fm h100 S.out), (fm h102 S.out), (fm h104 S.out)⟩⟩, S.below⟩
   exact aa_nil

/-! ## the laws, plain -/
theorem startG_nat' {n : Nat} (h6 : n ≤ 6) : startG n = startS n := by
  unfold startG startS
  have : (min (max (n : Int) 0) 6).toNat = n := by omega
  rw [this]
theorem part_law {l : List Upd} {n : Int} {a : List Int} (ha : wrongC a n = 0) (hc : (clockL (List.replicate n.toNat 0) l n).2.1 = 0) (h1 : decide ((PlayS (startG n) (mineU a l)).2.1 = 0) = true) : ∃ m : Nat, n = m ∧ m ≤ 6 ∧ Part m l a := by
  have hn := wrongC_ok ha
  obtain ⟨m, rfl⟩ : ∃ m : Nat, n = m := ⟨n.toNat, by omega⟩
  rw [Int.toNat_natCast] at hc
  rw [startG_nat' (by omega), decide_eq_true_eq] at h1
  exact ⟨m, rfl, by omega, Part.of ha hc h1⟩
theorem plays_law {l : List Upd} {m : Nat} {a : List Int} (h6 : m ≤ 6) (hl : l.length ≤ 300) (p : Part m l a) : PlayS (startG m) (mineU a l) = (ofS m l a, 0, 0) := by
  rw [startG_nat' h6]; exact p.plays hl
theorem union_law {l : List Upd} {n : Int} {a b : List Int} (ha : wrongC a n = 0) (hb : wrongC b n = 0) (hc : (clockL (List.replicate n.toNat 0) l n).2.1 = 0) (h1 : decide ((PlayS (startG n) (mineU a l)).2.1 = 0) = true) (h2 : decide ((PlayS (startG n) (mineU b l)).2.1 = 0) = true) :
    decide ((PlayS (startG n) (mineU (joinC a b) l)).2.1 = 0) = true ∧ JoinS (PlayS (startG n) (mineU a l)).1 (PlayS (startG n) (mineU b l)).1 = ((PlayS (startG n) (mineU (joinC a b) l)).1, 0) := by
  have hl := (clockL_ok hc).2.1
  obtain ⟨m, rfl, h6, p⟩ := part_law ha hc h1
  obtain ⟨m', e, _, q⟩ := part_law hb hc h2
  obtain rfl : m = m' := by omega
  rw [plays_law h6 hl p, plays_law h6 hl q, plays_law h6 hl (p.join q)]
  exact ⟨by simp, union_p p q⟩
structure Laws (x y z : State) : Prop where
  xy : (JoinS x y).2 = 0
  yx : (JoinS y x).2 = 0
  xx : (JoinS x x).2 = 0
  comm : (JoinS x y).1 = (JoinS y x).1
  self : (JoinS x x).1 = x
  yz : (JoinS y z).2 = 0
  l : (JoinS (JoinS x y).1 z).2 = 0
  r : (JoinS x (JoinS y z).1).2 = 0
  assoc : (JoinS (JoinS x y).1 z).1 = (JoinS x (JoinS y z).1).1
theorem laws_law {l : List Upd} {n : Int} {a b c : List Int} (ha : wrongC a n = 0) (hb : wrongC b n = 0) (hc : wrongC c n = 0) (hl : (clockL (List.replicate n.toNat 0) l n).2.1 = 0) (h1 : decide ((PlayS (startG n) (mineU a l)).2.1 = 0) = true) (h2 : decide ((PlayS (startG n) (mineU b l)).2.1 = 0) = true) (h3 : decide ((PlayS (startG n) (mineU c l)).2.1 = 0) = true) :
    Laws (PlayS (startG n) (mineU a l)).1 (PlayS (startG n) (mineU b l)).1 (PlayS (startG n) (mineU c l)).1 := by
  have h300 := (clockL_ok hl).2.1
  obtain ⟨m, rfl, h6, p⟩ := part_law ha hl h1
  obtain ⟨m', e, _, q⟩ := part_law hb hl h2
  obtain rfl : m = m' := by omega
  obtain ⟨m', e, _, r⟩ := part_law hc hl h3
  obtain rfl : m = m' := by omega
  rw [plays_law h6 h300 p, plays_law h6 h300 q, plays_law h6 h300 r]
  have exy := union_p p q
  have eyx := union_p q p
  have exx := union_p p p
  have eyz := union_p q r
  have el := union_p (p.join q) r
  have er := union_p p (q.join r)
  refine ⟨by rw [exy], by rw [eyx], by rw [exx], by rw [exy, eyx, joinC_comm], by rw [exx, joinC_self], by rw [eyz], by rw [exy, el], by rw [eyz, er], by rw [exy, eyz]; dsimp only; rw [el, er, joinC_assoc]⟩
theorem more_law {l : List Upd} {n : Int} {k : Nat} (h1 : 1 ≤ n) (h6 : n ≤ 6) (ha : (PlayS (startG n) l).2.1 = 0) (hk : k ≤ l.length) :
    JoinS (PlayS (startG n) l).1 (PlayS (startG n) (l.take k)).1 = ((PlayS (startG n) l).1, 0) ∧ JoinS (PlayS (startG n) (l.take k)).1 (PlayS (startG n) l).1 = ((PlayS (startG n) l).1, 0) := by
  obtain ⟨m, rfl⟩ : ∃ m : Nat, n = m := ⟨n.toNat, by omega⟩
  rw [startG_nat' (by omega)] at ha ⊢
  exact more_p (by omega) (by omega) ha hk
end Go.Proofs.Ytkjknlnhffmkkab
