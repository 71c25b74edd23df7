/- slices.Clone: a row of the caller's own. -/
import Derived.Test.YtkjknlnhffmkkacGreatQPl
import Derived.Test.YtkjknlnhffmkkacGreatQEg
import Derived.Test.YtkjknlnhffmkkacGreatQTy
namespace Go.Proofs.YtkjknlnhffmkkacGreat
open Go.RowKit
set_option linter.unusedVariables false
theorem owns1 {B:Nat} {w:World} {q:OwE} (h:w.ownsRow B q.e q.size q.v q.n q.xs):OwnsL B w [q]:=⟨fun p hp => by obtain rfl:=List.mem_singleton.1 hp;exact h,List.pairwise_singleton _ _⟩
theorem nil_len {α:Type} {size:Nat} {R:CR α} {rd:Rd} {A:Option Addr} {n c:Nat} {l:List α} (h:SliceR size R rd (.slice A n c) l) (ha:A.isNone = true):l = []:=by
  cases A with
  | none => exact h.nil_of
  | some a => cases ha
set_option maxRecDepth 100000 in
theorem CloneC_o (rd:Rd) (W:World) (hle:Rd.le rd (wrd W)) (v:Value) (l:List Int) (h:SliceR 1 IntR rd v l) (hb:l.length * 8 ≤ 140737488355328) :
    Calls Tryz.prog 45 #[v] W (fun e w' => ∃ v' xs,e = .returned v' ∧ OwnsL W.heap.size w' [⟨3,1,v',l.length,xs⟩] ∧ RowR 1 IntR rd xs l ∧ Below W.heap.size W w'):=by
 obtain ⟨A1,c2,rfl,m3,m3'⟩:=h.val;have hmx:maxLen = 9223372036854775807:=rfl;have S:St [] W rd rd [] [] W:=St.start hle;refine e_enter (args:=[sc A1 l.length c2]) 8 Tryz.func45 rfl rfl rfl ?_;refine er (ly sn S Ya (ln (e_seq (er (ly (sc A1 l.length c2) S Ym ?_)))))
 rcases Bool.eq_false_or_eq_true (A1).isNone with a4 | a4
 ·
  have hl:=nil_len h a4;refine ly (.bool true) S (y_se U23 rfl rfl a4) (ln (e_cT rfl (er (ly sn S Ya (ln (e_ret ?_))))));refine ret1 (v:=sn) rfl rfl ?_;exact ⟨_,[],rfl,hl ▸ owns1 (World.ownsRow_nil _ _ _ _),hl ▸ rfl,S.below⟩
 skip
 refine ly (.bool false) S (y_se U23 rfl rfl a4) (ln (e_cF rfl (e_skip (n_seq (er (l_bs0 S U23 SZ3 fun g5 w6 S => ly (sc A1 l.length c2) S Ym ?_))))));have S:=S.boxOwn (i:=0) rfl 1 0 0 rfl rfl (by simp [maxLen]);have O7:RowR 1 IntR rd [] []:=rfl;refine l_apS (i:=0) S K23 U23 GoodR.one rfl rfl rfl rfl h (by simp only [maxLen];omega) (by first | omega | (dsimp only;omega)) fun v8 w9 us10 r11 S => ?_
 have O7:=RowR.append O7 r11;obtain ⟨A12,c13,m14e,m14,m14'⟩:∃ A c,v8 = .slice A (0 + l.length) c ∧ (0 + l.length) ≤ c ∧ c ≤ maxLen:=own_len S (i:=0) rfl;subst m14e;refine ly (sc A12 (0 + l.length) c13) S Ya (ln (e_ret ?_));refine ret1 (v:=sc A12 (0 + l.length) c13) rfl rfl ?_;exact ⟨_,_,rfl,owns1 (by simpa using S.ownB (i:=0) rfl),by simpa using O7,S.below⟩

set_option maxRecDepth 100000 in
theorem CloneL_o (rd:Rd) (W:World) (hle:Rd.le rd (wrd W)) (v:Value) (l:List Live) (h:SliceR 5 LiveR rd v l) (hb:l.length * 40 ≤ 140737488355328) :
    Calls Tryz.prog 100 #[v] W (fun e w' => ∃ v' xs,e = .returned v' ∧ OwnsL W.heap.size w' [⟨104,5,v',l.length,xs⟩] ∧ RowR 5 LiveR rd xs l ∧ Below W.heap.size W w'):=by
 obtain ⟨A1,c2,rfl,m3,m3'⟩:=h.val;have hmx:maxLen = 9223372036854775807:=rfl;have S:St [] W rd rd [] [] W:=St.start hle;refine e_enter (args:=[sc A1 l.length c2]) 8 Tryz.func100 rfl rfl rfl ?_;refine er (ly sn S Ya (ln (e_seq (er (ly (sc A1 l.length c2) S Ym ?_)))))
 rcases Bool.eq_false_or_eq_true (A1).isNone with a4 | a4
 ·
  have hl:=nil_len h a4;refine ly (.bool true) S (y_se U24 rfl rfl a4) (ln (e_cT rfl (er (ly sn S Ya (ln (e_ret ?_))))));refine ret1 (v:=sn) rfl rfl ?_;exact ⟨_,[],rfl,hl ▸ owns1 (World.ownsRow_nil _ _ _ _),hl ▸ rfl,S.below⟩
 skip
 refine ly (.bool false) S (y_se U24 rfl rfl a4) (ln (e_cF rfl (e_skip (n_seq (er (l_bs0 S U24 SZ104 fun g5 w6 S => ly (sc A1 l.length c2) S Ym ?_))))));have S:=S.boxOwn (i:=0) rfl 5 0 0 rfl rfl (by simp [maxLen]);have O7:RowR 5 LiveR rd [] []:=rfl;refine l_apS (i:=0) S K24 U24 GoodR.one rfl rfl rfl rfl h (by simp only [maxLen];omega) (by first | omega | (dsimp only;omega)) fun v8 w9 us10 r11 S => ?_
 have O7:=RowR.append O7 r11;obtain ⟨A12,c13,m14e,m14,m14'⟩:∃ A c,v8 = .slice A (0 + l.length) c ∧ (0 + l.length) ≤ c ∧ c ≤ maxLen:=own_len S (i:=0) rfl;subst m14e;refine ly (sc A12 (0 + l.length) c13) S Ya (ln (e_ret ?_));refine ret1 (v:=sc A12 (0 + l.length) c13) rfl rfl ?_;exact ⟨_,_,rfl,owns1 (by simpa using S.ownB (i:=0) rfl),by simpa using O7,S.below⟩

set_option maxRecDepth 100000 in
theorem CloneT_o (rd:Rd) (W:World) (hle:Rd.le rd (wrd W)) (v:Value) (l:List Tally) (h:SliceR 3 TallyR rd v l) (hb:l.length * 24 ≤ 140737488355328) :
    Calls Tryz.prog 101 #[v] W (fun e w' => ∃ v' xs,e = .returned v' ∧ OwnsL W.heap.size w' [⟨106,3,v',l.length,xs⟩] ∧ RowR 3 TallyR rd xs l ∧ Below W.heap.size W w'):=by
 obtain ⟨A1,c2,rfl,m3,m3'⟩:=h.val;have hmx:maxLen = 9223372036854775807:=rfl;have S:St [] W rd rd [] [] W:=St.start hle;refine e_enter (args:=[sc A1 l.length c2]) 8 Tryz.func101 rfl rfl rfl ?_;refine er (ly sn S Ya (ln (e_seq (er (ly (sc A1 l.length c2) S Ym ?_)))))
 rcases Bool.eq_false_or_eq_true (A1).isNone with a4 | a4
 ·
  have hl:=nil_len h a4;refine ly (.bool true) S (y_se U25 rfl rfl a4) (ln (e_cT rfl (er (ly sn S Ya (ln (e_ret ?_))))));refine ret1 (v:=sn) rfl rfl ?_;exact ⟨_,[],rfl,hl ▸ owns1 (World.ownsRow_nil _ _ _ _),hl ▸ rfl,S.below⟩
 skip
 refine ly (.bool false) S (y_se U25 rfl rfl a4) (ln (e_cF rfl (e_skip (n_seq (er (l_bs0 S U25 SZ106 fun g5 w6 S => ly (sc A1 l.length c2) S Ym ?_))))));have S:=S.boxOwn (i:=0) rfl 3 0 0 rfl rfl (by simp [maxLen]);have O7:RowR 3 TallyR rd [] []:=rfl;refine l_apS (i:=0) S K25 U25 GoodR.one rfl rfl rfl rfl h (by simp only [maxLen];omega) (by first | omega | (dsimp only;omega)) fun v8 w9 us10 r11 S => ?_
 have O7:=RowR.append O7 r11;obtain ⟨A12,c13,m14e,m14,m14'⟩:∃ A c,v8 = .slice A (0 + l.length) c ∧ (0 + l.length) ≤ c ∧ c ≤ maxLen:=own_len S (i:=0) rfl;subst m14e;refine ly (sc A12 (0 + l.length) c13) S Ya (ln (e_ret ?_));refine ret1 (v:=sc A12 (0 + l.length) c13) rfl rfl ?_;exact ⟨_,_,rfl,owns1 (by simpa using S.ownB (i:=0) rfl),by simpa using O7,S.below⟩
end Go.Proofs.YtkjknlnhffmkkacGreat
