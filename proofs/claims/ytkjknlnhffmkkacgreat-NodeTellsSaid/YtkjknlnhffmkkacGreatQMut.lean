/- Functions that write a row of their caller's: Delete, DeleteFunc, over a row that the caller owns. -/
import Derived.Test.YtkjknlnhffmkkacGreatQDelete
import Derived.Test.YtkjknlnhffmkkacGreatQDelF
import Derived.Test.YtkjknlnhffmkkacGreatQInsert
namespace Go.Proofs.YtkjknlnhffmkkacGreat
open Go.RowKit
set_option linter.unusedVariables false
set_option maxRecDepth 100000 in
theorem DelFL_n (rd:Rd) (W:World) (hle:Rd.le rd (wrd W)) (f:Nat) (caps:List Value) (p:Live → Bool) (hf:∀ vs w,(callFunc f vs).run Tryz.prog w = .ok (.enter f vs) w) (hT:∀ (w:World) (x:Live),Frm [] W w → Calls Tryz.prog f ([Value.agg #[.bool x.set,.int .i64 x.key,.int .i64 x.item,.int .i64 x.author,.int .i64 x.seq]] ++ caps).toArray w fun e w' => e = .returned (.bool (p x)) ∧ Below w.heap.size w w') :
    Calls Tryz.prog 117 #[(sn),(.func (.func f) #[] caps.toArray)] W (fun e w' => e = .returned (.slice none 0 0) ∧ Below W.heap.size W w'):=by
 have hmx:maxLen = 9223372036854775807:=rfl;have S:St [] W rd rd [] [] W:=St.start hle;refine e_enter (args:=[sn,.func (.func f) #[] caps.toArray]) 42 Tryz.func117 rfl rfl rfl ?_;refine er (ly sn S Ya (ln (er (ly sn S Ym (ly (.func (.func f) #[] caps.toArray) S Ym ?_)))));refine l_c (en_f (vs:=[sn,.func (.func f) #[] caps.toArray]) (CF 127 _) rfl rfl) (IdxFL_c (wrd _) _ (Rd.le_refl _) [] W f caps p hf hT S.fr _ [] (SliceR.nil_ _)) ?_;rintro e w1 ⟨rfl,k⟩;have S:=S.callq k;clear k;refine ckd (ly (ni (idxF p [])) S Ya (ln (e_seq (er (ly (ni (idxF p [])) S Ym ?_)))));have h2:idxF p [] = (-1):=rfl;refine ly (.bool true) S (y_eqT rfl rfl h2) (ln (e_cT rfl (er (ly sn S Ym (ly sn S Ya (ln (e_ret ?_)))))));refine ret1 (v:=sn) rfl rfl ?_;exact ⟨rfl,S.below⟩

theorem DelFL_o (rd:Rd) (W:World) (hle:Rd.le rd (wrd W)) (v:Value) (n:Nat) (xs:List Value) (l:List Live) (hv:W.ownsRow 0 104 5 v n xs) (hrd:∀ g,v.ownBlock = some g → ∀ o,rd g o = none) (hr:RowR 5 LiveR rd xs l) (hn:n = l.length) (f:Nat) (caps:List Value) (p:Live → Bool) (hf:∀ vs w,(callFunc f vs).run Tryz.prog w = .ok (.enter f vs) w) (hT:∀ (w:World) (x:Live),Frm v.ownBlock.toList W w → Calls Tryz.prog f ([Value.agg #[.bool x.set,.int .i64 x.key,.int .i64 x.item,.int .i64 x.author,.int .i64 x.seq]] ++ caps).toArray w fun e w' => e = .returned (.bool (p x)) ∧ Below w.heap.size w w') :
    Calls Tryz.prog 117 #[v,(.func (.func f) #[] caps.toArray)] W fun e w' => ∃ v' xs',e = .returned v' ∧ w'.ownsRow 0 104 5 v' (l.filter fun x => !p x).length xs' ∧ RowR 5 LiveR rd xs' (l.filter fun x => !p x) ∧ (∀ g',v'.ownBlock = some g' → v.ownBlock = some g' ∨ W.heap.size ≤ g') ∧ Frm v.ownBlock.toList W w':=by
  rcases hv.2 with ⟨rfl,rfl⟩ | ⟨g,cap,cur,rfl,_,hg,hc,hm,hs,rfl⟩
  · have hl:l = []:=List.eq_nil_of_length_eq_zero hn.symm
    have hx:xs = []:=List.eq_nil_of_length_eq_zero (by simpa using hv.1)
    subst hl hx
    exact (DelFL_n rd W hle f caps p hf hT).mono fun e w' ⟨h1,h2⟩ => ⟨_,[],h1,World.ownsRow_nil w' 0 104 5,rfl,fun g' k => (by cases k),⟨h2.os,h2.tape,h2.output,h2.size,fun b hb _ => h2.block b hb⟩⟩
  · refine (DelFL_c rd W hle g n cap cur l hg (hrd g rfl) hs hr hn hc hm f caps p hf hT).mono fun e w' ⟨cur',_,h1,rfl,h2,h3,h4,h5⟩ => ⟨_,_,h1,⟨?_,.inr ⟨g,cap,cur',rfl,Nat.zero_le _,h2,?_,hm,h3,rfl⟩⟩,h4,fun g' k => .inl k,h5⟩
    all_goals have hfl:=List.length_filter_le (fun x => !p x) l
    · have hA:cur'.toList.length = cur'.size:=rfl
      rw [List.length_take];omega
    · omega
end Go.Proofs.YtkjknlnhffmkkacGreat
