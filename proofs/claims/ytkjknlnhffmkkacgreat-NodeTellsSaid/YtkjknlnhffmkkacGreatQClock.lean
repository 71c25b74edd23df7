/- Package clock and the reference's clocks compute the plain functions of Pure. The slices are read, not written; what is answered is new. -/
import Derived.Test.YtkjknlnhffmkkacGreatRows
import Derived.Test.YtkjknlnhffmkkacGreatQPl
namespace Go.Proofs.YtkjknlnhffmkkacGreat
open Go.RowKit
set_option linter.unusedVariables false

theorem At_calls (v:Value) (l:List Int) (i:Nat) (w:World) (h:IntsR (wrd w) v l) :
    Calls Tryz.prog 95 #[v,.int .i64 i] w fun e w' => e = .returned (.int .i64 (atI l i)) ∧ w = w':=by
  obtain ⟨A,c,rfl,h1,h2⟩:=h.val
  unfold maxLen at h2
  by_cases hk:i < l.length
  · obtain ⟨b,o,rfl,hc⟩:=h.at_ hk
    simp only [wrd] at hc
    have e:atI l i = l[i]:=atI_lt hk
    clear h
    rw [e]
    clear e
    go_enter Tryz.func95,Tryz.ntmps95
    go_wp2
    go_ret
    exact ⟨rfl,rfl⟩
  · have e:atI l i = 0:=atI_ge (by omega)
    clear h
    rw [e]
    clear e
    go_enter Tryz.func95,Tryz.ntmps95
    go_wp2
    go_ret
    exact ⟨rfl,rfl⟩

theorem long_calls (v u:Value) (l m:List Int) (w:World) (h:IntsR (wrd w) v l) (h':IntsR (wrd w) u m) :
    Calls Tryz.prog 94 #[v,u] w fun e w' => e = .returned (.int .i64 (max l.length m.length:Nat)) ∧ w = w':=by
  obtain ⟨A,c,rfl,h1,h2⟩:=h.val
  obtain ⟨A',c',rfl,h1',h2'⟩:=h'.val
  unfold maxLen at h2 h2'
  clear h h'
  go_enter Tryz.func94,Tryz.ntmps94
  go_wp2
  all_goals
    go_ret
    exact ⟨ret_i (by omega),rfl⟩

/-- a function value that tells of a number -/
def TellsI (f:Nat) (p:Int → Bool):Prop:=(∀ (x:Int) (w:World),(callFunc f #[.int .i64 x]).run Tryz.prog w = .ok (.enter f #[.int .i64 x]) w) ∧ ∀ (x:Int) (w:World),Calls Tryz.prog f #[.int .i64 x] w fun e w' => e = .returned (.bool (p x)) ∧ w = w'

theorem idxFunc_calls (v:Value) (l:List Int) (f:Nat) (p:Int → Bool) (w:World) (h:IntsR (wrd w) v l) (hp:TellsI f p) :
    Calls Tryz.prog 111 #[v,.func (.func f) #[] #[]] w fun e w' => e = .returned (.int .i64 (idxF p l)) ∧ w = w':=by
  obtain ⟨A,c,rfl,h1,h2⟩:=h.val
  unfold maxLen at h2
  have H:=hid h;clear h
  obtain ⟨eg,hp⟩:=hp
  have HP:=hid hp;clear hp
  go_enter Tryz.func111,Tryz.ntmps111
  go_wp2
  go_loop [8] (fun i => ∃ k:Nat,k ≤ l.length ∧ i = .int .i64 k ∧ Hid (∀ j y,j < k → l[j]? = some y → p y = false)) (fun i => l.length - (intOf i).toNat)
  case atStart => exact ⟨0,Nat.zero_le _,rfl,hid (fun j y h => absurd h (by omega))⟩
  case round =>
    obtain ⟨k,hk,rfl,hb⟩:=hrel
    by_cases hlt:k < l.length
    · obtain ⟨b,o,rfl,hc⟩:=H.out.at_ hlt
      simp only [wrd] at hc
      cases hpk:p l[k]
      · go_wp2_with (refine (HP.out _ _).mono ?_;rintro e w' ⟨rfl,rfl⟩)
        go_round
        case rel => exact ⟨k + 1,by omega,by go_num,hid (fun j y hj hy => by
          by_cases e:j = k
          · subst e;have e2:=(List.getElem?_eq_some_iff.1 hy).2;rw [← e2];exact hpk
          · exact hb.out j y (by omega) hy)⟩
        case measure => simp [intOf];omega
      · go_wp2_with (refine (HP.out _ _).mono ?_;rintro e w' ⟨rfl,rfl⟩)
        go_ret
        exact ⟨ret_i (idxF_hit (x:=l[k]) (by simp [hlt]) hpk hb.out).symm,rfl⟩
    · go_wp2
      go_ret
      refine ⟨ret_i (idxF_none fun j y hy => hb.out j y ?_ hy).symm,rfl⟩
      have:=(List.getElem?_eq_some_iff.1 hy).1
      omega

theorem cntFunc_calls (v:Value) (l:List Int) (f:Nat) (p:Int → Bool) (w:World) (h:IntsR (wrd w) v l) (hp:TellsI f p) :
    Calls Tryz.prog 75 #[v,.func (.func f) #[] #[]] w fun e w' => e = .returned (.bool (l.any p)) ∧ w = w':=by
  rw [← idxF_any]
  obtain ⟨b1,b2⟩:=idxF_bd p l
  have HI:=idxFunc_calls v l f p w h hp
  generalize idxF p l = q at *
  have H:=hid HI;clear HI h hp
  go_enter Tryz.func75,Tryz.ntmps75
  go_wp2_with (refine H.out.mono ?_;rintro e w' ⟨rfl,rfl⟩)
  go_ret
  exact ⟨rfl,rfl⟩

theorem wrong1_tells:TellsI 76 (fun k => !okK k):=by
  refine ⟨fun _ _ => by kernel_rfl,fun x w => ?_⟩
  show Calls _ _ _ _ fun e w' => e = .returned (.bool (!okK x)) ∧ w = w'
  by_cases h0:x < 0
  · have e:(!okK x) = true:=by simp [okK];omega
    rw [e];clear e
    go_enter Tryz.func76,Tryz.ntmps76
    go_wp2
    go_ret
    exact ⟨rfl,rfl⟩
  · by_cases h1:1000 < x
    · have e:(!okK x) = true:=by simp [okK];omega
      rw [e];clear e
      go_enter Tryz.func76,Tryz.ntmps76
      go_wp2
      go_ret
      exact ⟨rfl,rfl⟩
    · have e:(!okK x) = false:=by simp [okK];omega
      rw [e];clear e
      go_enter Tryz.func76,Tryz.ntmps76
      go_wp2
      go_ret
      exact ⟨rfl,rfl⟩

theorem any_not_all {l:List Int}:l.any (fun k => !okK k) = !l.all okK:=by
  induction l <;> simp_all

theorem Wrong_calls (v:Value) (l:List Int) (n:Int) (w:World) (h:IntsR (wrd w) v l) :
    Calls Tryz.prog 40 #[v,.int .i64 n] w fun e w' => e = .returned (.int .i64 (wrongC l n)) ∧ w = w':=by
  have HC:=hid (cntFunc_calls v l _ _ w h wrong1_tells)
  rw [any_not_all] at HC
  obtain ⟨A,c,rfl,h1,h2⟩:=h.val
  unfold maxLen at h2
  clear h
  by_cases c1:n < 1
  · have e:wrongC l n = 5:=by unfold wrongC;rw [if_pos (by omega)]
    rw [e];clear e HC
    go_enter Tryz.func40,Tryz.ntmps40
    go_wp2
    go_ret
    exact ⟨rfl,rfl⟩
  by_cases c2:6 < n
  · have e:wrongC l n = 5:=by unfold wrongC;rw [if_pos (by omega)]
    rw [e];clear e HC
    go_enter Tryz.func40,Tryz.ntmps40
    go_wp2
    go_ret
    exact ⟨rfl,rfl⟩
  by_cases c3:(l.length:Int) = n
  · subst c3
    cases hl:l.all okK
    · have e:wrongC l l.length = 3:=by unfold wrongC;rw [if_neg (by omega),hl];rfl
      rw [hl] at HC
      rw [e];clear e hl
      go_enter Tryz.func40,Tryz.ntmps40
      go_wp2_with (refine HC.out.mono ?_;rintro e w' ⟨rfl,rfl⟩)
      go_ret
      exact ⟨rfl,rfl⟩
    · have e:wrongC l l.length = 0:=by unfold wrongC;rw [if_neg (by omega),hl];rfl
      rw [hl] at HC
      rw [e];clear e hl
      go_enter Tryz.func40,Tryz.ntmps40
      go_wp2_with (refine HC.out.mono ?_;rintro e w' ⟨rfl,rfl⟩)
      go_ret
      exact ⟨rfl,rfl⟩
  · have e:wrongC l n = 5:=by unfold wrongC;rw [if_pos (by omega)]
    have e2:((l.length:Int) == n) = false:=by simpa using c3
    have e3:((l.length:Int) != n) = true:=by simpa using c3
    rw [e];clear e HC
    go_enter Tryz.func40,Tryz.ntmps40
    go_wp2
    go_ret
    exact ⟨rfl,rfl⟩

/-- a function value of two numbers -/
def TellsII (f:Nat) (g:Int → Int → Int):Prop:=(∀ (x y:Int) (w:World),(callFunc f #[.int .i64 x,.int .i64 y]).run Tryz.prog w = .ok (.enter f #[.int .i64 x,.int .i64 y]) w) ∧
  ∀ (x y:Int) (w:World),Calls Tryz.prog f #[.int .i64 x,.int .i64 y] w fun e w' => e = .returned (.int .i64 (g x y)) ∧ w = w'
theorem max_tells:TellsII 69 max:=by
  refine ⟨fun _ _ _ => by kernel_rfl,fun x y w => ?_⟩
  go_enter Tryz.func69,Tryz.ntmps69
  go_wp2
  all_goals
    go_ret
    exact ⟨ret_i (by omega),rfl⟩
theorem min_tells:TellsII 103 min:=by
  refine ⟨fun _ _ _ => by kernel_rfl,fun x y w => ?_⟩
  go_enter Tryz.func103,Tryz.ntmps103
  go_wp2
  all_goals
    go_ret
    exact ⟨ret_i (by omega),rfl⟩
def ltI (x y:Int):Int:=if x < y then 1 else 0
theorem less_tells:TellsII 67 ltI:=by
  refine ⟨fun _ _ _ => by kernel_rfl,fun x y w => ?_⟩
  by_cases h:x < y
  · have e:ltI x y = 1:=if_pos h
    rw [e];clear e
    go_enter Tryz.func67,Tryz.ntmps67
    go_wp2
    go_ret
    exact ⟨rfl,rfl⟩
  · have e:ltI x y = 0:=if_neg h
    rw [e];clear e
    go_enter Tryz.func67,Tryz.ntmps67
    go_wp2
    go_ret
    exact ⟨rfl,rfl⟩

theorem ok_elem {P:Program} {t e:TypeId} {z:Value} {size bytes:Nat} (hu:P.underlying t = some (.slice e)) (h:(P.info? e).map (fun i => (i.zero,i.size,i.bytes)) = some (some z,size,bytes)) (hz:z.cells.size = size) (hs:0 < size) :
    ElemOk P t e size bytes:=by
  obtain ⟨i,h1,h2,h3,h4⟩:=info_parts h
  exact ⟨i,z,hu,h1,h2,h3,h4,hz,hs⟩
theorem ok_clock:ElemOk Tryz.prog 23 3 1 8:=ok_elem Tryz.underlying23 (z:=.int .i64 0) (by kernel_rfl) rfl (by decide)
theorem ok_ints:ElemOk Tryz.prog 22 3 1 8:=ok_elem Tryz.underlying22 (z:=.int .i64 0) (by kernel_rfl) rfl (by decide)

def rdN:Rd:=fun _ _ => none
theorem each_calls (v u:Value) (a b:List Int) (f:Nat) (g:Int → Int → Int) (w:World) (h:IntsR (wrd w) v a) (h':IntsR (wrd w) u b) (hf:TellsII f g) (hbig:max a.length b.length * 8 ≤ 140737488355328) :
    Calls Tryz.prog 66 #[v,u,.func (.func f) #[] #[]] w fun e w' => ∃ r,e = .returned r ∧ OwnR 1 IntR w.heap.size 3 w' rdN r (zipC g a b) ∧ Below w.heap.size w w':=by
  obtain ⟨A,c,rfl,h1,h2⟩:=h.val
  obtain ⟨A',c',rfl,h1',h2'⟩:=h'.val
  unfold maxLen at h2 h2'
  have H:=hid h;clear h
  have H':=hid h';clear h'
  obtain ⟨eg,hp⟩:=hf
  have HP:=hid hp;clear hp
  have HL:=hid (zipC_len g a b)
  go_enter Tryz.func66,Tryz.ntmps66
  go_wp2
  all_goals
    go_loopw [7,16] (fun v i wr => ∃ k:Nat,k ≤ max a.length b.length ∧ i = .int .i64 k ∧ OwnR 1 IntR w.heap.size 3 wr rdN v ((zipC g a b).take k) ∧ Below w.heap.size w wr) (fun _ i _ => max a.length b.length - (intOf i).toNat)
    case atStart => exact ⟨0,Nat.zero_le _,rfl,by simpa using OwnR.nil_,Below.refl _ _⟩
    case round =>
      obtain ⟨k,hk,rfl,hown,hb⟩:=hrel
      by_cases hlt:k < max a.length b.length
      · have hg :=hid (zipC_get g a b hlt)
        have hl:((zipC g a b).take k).length = k:=by simp [HL.out];omega
        by_cases ha:k < a.length
        · obtain ⟨ba,oa,rfl,hca⟩:=(H.out.mono (le_below hb (Nat.le_refl _))).at_ ha
          simp only [wrd] at hca
          rw [atI_lt ha] at hg
          by_cases hb':k < b.length
          · obtain ⟨bb,ob,rfl,hcb⟩:=(H'.out.mono (le_below hb (Nat.le_refl _))).at_ hb'
            simp only [wrd] at hcb
            rw [atI_lt hb'] at hg
            go_wp2_with (first
              | (refine (HP.out _ _ _).mono ?_;rintro e w' ⟨rfl,rfl⟩)
              | (at_builtin;refine wpList_push _ rfl (.tmp 35) (.tmp 40) _ rfl w.heap.size 3 8 ok_clock rdN _ _ rfl (hown.alloc _) _ 1 [.int .i64 (g a[k] b[k])] (g a[k] b[k]) rfl rfl (alloc_cells _ _ _ _) (fun u hu => by rw [List.mem_singleton.1 hu];rfl) rfl (by rw [hl];simp only [maxLen];omega) (by have:=hb.size;simp;omega) ?_;intro v2 w2 ho2 hb2 _ _))
            go_roundw
            case rel => exact ⟨k + 1,by omega,by go_num,by rw [take_snoc hg.out];exact ho2,(hb.alloc hb.size _).trans hb2⟩
            case measure => simp [intOf];omega
          · first
            | (exfalso;omega)
            | (rw [atI_ge (Nat.le_of_not_lt hb')] at hg
               go_wp2_with (first
                 | (refine (HP.out _ _ _).mono ?_;rintro e w' ⟨rfl,rfl⟩)
                 | (at_builtin;refine wpList_push _ rfl (.tmp 35) (.tmp 40) _ rfl w.heap.size 3 8 ok_clock rdN _ _ rfl (hown.alloc _) _ 1 [.int .i64 (g a[k] 0)] (g a[k] 0) rfl rfl (alloc_cells _ _ _ _) (fun u hu => by rw [List.mem_singleton.1 hu];rfl) rfl (by rw [hl];simp only [maxLen];omega) (by have:=hb.size;simp;omega) ?_;intro v2 w2 ho2 hb2 _ _))
               go_roundw
               case rel => exact ⟨k + 1,by omega,by go_num,by rw [take_snoc hg.out];exact ho2,(hb.alloc hb.size _).trans hb2⟩
               case measure => simp [intOf];omega)
        · rw [atI_ge (Nat.le_of_not_lt ha)] at hg
          by_cases hb':k < b.length
          · obtain ⟨bb,ob,rfl,hcb⟩:=(H'.out.mono (le_below hb (Nat.le_refl _))).at_ hb'
            simp only [wrd] at hcb
            rw [atI_lt hb'] at hg
            first
            | (exfalso;omega)
            | (go_wp2_with (first
                 | (refine (HP.out _ _ _).mono ?_;rintro e w' ⟨rfl,rfl⟩)
                 | (at_builtin;refine wpList_push _ rfl (.tmp 35) (.tmp 40) _ rfl w.heap.size 3 8 ok_clock rdN _ _ rfl (hown.alloc _) _ 1 [.int .i64 (g 0 b[k])] (g 0 b[k]) rfl rfl (alloc_cells _ _ _ _) (fun u hu => by rw [List.mem_singleton.1 hu];rfl) rfl (by rw [hl];simp only [maxLen];omega) (by have:=hb.size;simp;omega) ?_;intro v2 w2 ho2 hb2 _ _))
               go_roundw
               case rel => exact ⟨k + 1,by omega,by go_num,by rw [take_snoc hg.out];exact ho2,(hb.alloc hb.size _).trans hb2⟩
               case measure => simp [intOf];omega)
          · exfalso;omega
      · have hz:(zipC g a b).take k = zipC g a b:=List.take_of_length_le (by rw [HL.out];omega)
        rw [hz] at hown
        have hz':=hid hz;clear hz
        go_wp2
        go_ret
        exact ⟨_,rfl,hown,hb⟩
end Go.Proofs.YtkjknlnhffmkkacGreat
