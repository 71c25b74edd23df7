/- slices.SortFunc at what stays and at tallies; join.Sorted. -/
import Derived.Test.YtkjknlnhffmkkacGreatQSortLay
import Derived.Test.YtkjknlnhffmkkacGreatQSortW
import Derived.Test.YtkjknlnhffmkkacGreatQCmpW
import Derived.Test.YtkjknlnhffmkkacGreatQEg
namespace Go.Proofs.YtkjknlnhffmkkacGreat
open Go.RowKit
set_option linter.unusedVariables false
theorem lexI_refl:∀ (a:List Int),lexI a a = 0
  | [] => rfl
  | x :: a => by rw [lexI_cons0];exact ⟨rfl,lexI_refl a⟩
theorem lexI_ntrans:∀ {a b c:List Int},a.length = b.length → b.length = c.length → ¬ lexI a b < 0 → ¬ lexI b c < 0 → ¬ lexI a c < 0:=fun {a b c} h1 h2 k1 k2 k => by
  have e1:=lexI_swap (a:=a) (b:=b)
  have e2:=lexI_swap (a:=b) (b:=c)
  rcases Int.lt_or_eq_of_le (show lexI b a ≤ 0 by omega) with p | p
  · rcases Int.lt_or_eq_of_le (show lexI c b ≤ 0 by omega) with q | q
    · have:=lexI_trans q p
      have e3:=lexI_swap (a:=a) (b:=c);omega
    · have:=lexI_eq (h2.symm) q;subst this
      have e3:=lexI_swap (a:=a) (b:=c);omega
  · have:=lexI_eq (h1.symm) p;subst this
    exact k2 k
def encL (x:Live):List Value:=[.bool x.set,.int .i64 x.key,.int .i64 x.item,.int .i64 x.author,.int .i64 x.seq]
instance:Inhabited Live:=⟨⟨false,0,0,0,0⟩⟩
theorem swoL:Go.Sort.SWO (ltOf ordL) where
  irrefl x:=by unfold ltOf;rw [decide_eq_false_iff_not,ordL_code,lexI_refl];omega
  trans x y z h1 h2:=by unfold ltOf at *;rw [decide_eq_true_eq] at *;exact ordL_trans h1 h2
  ntrans x y z h1 h2:=by
    unfold ltOf at *;rw [decide_eq_false_iff_not] at *
    simp only [ordL_code] at *
    exact lexI_ntrans (a:=codeL x) (b:=codeL y) (c:=codeL z) rfl rfl h1 h2
theorem SortL_m (Y:List Nat) (rd:Rd) (W:World) (v:Value) (n:Nat) (xs:List Value) (l:List Live) (S0:St Y W rd rd [] [⟨104,5,v,n,xs⟩] W) (hr:RowR 5 LiveR rd xs l) (hn:l.Nodup) (hs:l.length < 4611686018427387904) :
    Calls Tryz.prog 113 #[v,.func (.func 86) #[] #[]] W fun e w' => e = .returned (.tuple #[]) ∧ ∃ xs',St Y W rd rd [] [⟨104,5,v,n,xs'⟩] w' ∧ RowR 5 LiveR rd xs' (sortL l):=by
  have ho:=S0.own _ (List.mem_singleton.2 rfl)
  have key:=sort_own (R:=LiveR) (enc:=encL) (k:=5) Tryz.sortLive (by decide) T104.a T104.s (fun _ _ _ => Iff.rfl) (fun _ => rfl)
    (fun x u hu => by unfold encL at hu;simp only [List.mem_cons,List.not_mem_nil,or_false] at hu;rcases hu with rfl | rfl | rfl | rfl | rfl <;> rfl) ordL swoL 86 (fun vs w => CF 86 vs (by kernel_rfl) w)
    (fun W x y => D.Order_c (fun _ _ => none) W (fun _ _ _ h => by cases h) _ _ x y ⟨_,rfl,rfl⟩ ⟨_,rfl,rfl⟩) rd W 104 v n xs l ho.1 hr hs
  change Calls Tryz.prog 113 _ _ _ at key
  refine key.mono fun e w' ⟨he,l',xs',hp,hw,hO,hr',hF⟩ => ⟨he,xs',?_,?_⟩
  · have:=S0.mut (j:=0) (q':=⟨104,5,v,n,xs'⟩) rfl hF (fun g hg => by simpa using hg) hO (fun g hg => .inl hg)
    exact this
  · rw [← sortL_eq hn hp (hw.imp fun {a b} h => by have:=ordL_swap (a:=a) (b:=b);omega)];exact hr'

def encT (x:Tally):List Value:=[.int .i64 x.key,.int .i64 x.author,.int .i64 x.sum]
instance:Inhabited Tally:=⟨⟨0,0,0⟩⟩
theorem swoT:Go.Sort.SWO (ltOf ordT) where
  irrefl x:=by unfold ltOf;rw [decide_eq_false_iff_not,ordT_code,lexI_refl];omega
  trans x y z h1 h2:=by unfold ltOf at *;rw [decide_eq_true_eq] at *;exact ordT_trans h1 h2
  ntrans x y z h1 h2:=by
    unfold ltOf at *;rw [decide_eq_false_iff_not] at *
    simp only [ordT_code] at *
    exact lexI_ntrans (a:=codeT x) (b:=codeT y) (c:=codeT z) rfl rfl h1 h2
theorem SortT_m (Y:List Nat) (rd:Rd) (W:World) (v:Value) (n:Nat) (xs:List Value) (l:List Tally) (S0:St Y W rd rd [] [⟨106,3,v,n,xs⟩] W) (hr:RowR 3 TallyR rd xs l) (hn:DistT l) (hs:l.length < 4611686018427387904) :
    Calls Tryz.prog 114 #[v,.func (.func 87) #[] #[]] W fun e w' => e = .returned (.tuple #[]) ∧ ∃ xs',St Y W rd rd [] [⟨106,3,v,n,xs'⟩] w' ∧ RowR 3 TallyR rd xs' (sortT l):=by
  have ho:=S0.own _ (List.mem_singleton.2 rfl)
  have key:=sort_own (R:=TallyR) (enc:=encT) (k:=3) Tryz.sortTally (by decide) T106.a T106.s (fun _ _ _ => Iff.rfl) (fun _ => rfl)
    (fun x u hu => by unfold encT at hu;simp only [List.mem_cons,List.not_mem_nil,or_false] at hu;rcases hu with rfl | rfl | rfl <;> rfl) ordT swoT 87 (fun vs w => CF 87 vs (by kernel_rfl) w)
    (fun W x y => D.Tally_c (fun _ _ => none) W (fun _ _ _ h => by cases h) _ _ x y ⟨_,rfl,rfl⟩ ⟨_,rfl,rfl⟩) rd W 106 v n xs l ho.1 hr hs
  change Calls Tryz.prog 114 _ _ _ at key
  refine key.mono fun e w' ⟨he,l',xs',hp,hw,hO,hr',hF⟩ => ⟨he,xs',?_,?_⟩
  · have:=S0.mut (j:=0) (q':=⟨106,3,v,n,xs'⟩) rfl hF (fun g hg => by simpa using hg) hO (fun g hg => .inl hg)
    exact this
  · rw [← sortT_eq hn hp (hw.imp fun {a b} h => by have:=ordT_swap (a:=a) (b:=b);omega)];exact hr'

set_option maxRecDepth 100000 in
theorem JSorted_m (Y:List Nat) (rd:Rd) (W:World) (Ac Al At:Option Addr) (nc n m cc cl ct:Nat) (xs ys:List Value) (l:List Live) (t:List Tally) (S0:St Y W rd rd [] [⟨104,5,.slice Al n cl,n,xs⟩,⟨106,3,.slice At m ct,m,ys⟩] W) (hr1:RowR 5 LiveR rd xs l) (hr2:RowR 3 TallyR rd ys t) (hn:l.Nodup) (hd:DistT t) (hs1:l.length < 4611686018427387904) (hs2:t.length < 4611686018427387904) :
    Calls Tryz.prog 80 #[(.agg #[sc Ac nc cc,sc Al n cl,sc At m ct])] W (fun e w' => ∃ xs' ys',e = .returned (.agg #[.slice Ac nc cc,.slice Al n cl,.slice At m ct]) ∧ St Y W rd rd [] [⟨104,5,.slice Al n cl,n,xs'⟩,⟨106,3,.slice At m ct,m,ys'⟩] w' ∧ RowR 5 LiveR rd xs' (sortL l) ∧ RowR 3 TallyR rd ys' (sortT t)):=by
 have hmx:maxLen = 9223372036854775807:=rfl;have S:=S0;refine e_enter (args:=[.agg #[sc Ac nc cc,sc Al n cl,sc At m ct]]) 10 Tryz.func80 rfl rfl rfl ?_;refine e_seq (e_reg (l_bx (u:=.agg #[sc Ac nc cc,sc Al n cl,sc At m ct]) (cs:=#[sc Ac nc cc,sc Al n cl,sc At m ct]) S rfl rfl fun g1 w2 S => l_al (cs:=zc27) S Z27 rfl fun g3 w4 S => l_nil (n_seq (e_seq (e_reg (ly (pa g1 1) S (y_fb FA27_1 rfl rfl) (ly (sc Al n cl) S (y_ld rfl (fun w S => ld_b1 (i:=0) S rfl rfl T24)) ?_)))))));have S:=S.toEndO (i:=0) rfl;refine l_c (en_f (vs:=[sc Al n cl,.func (.func 86) #[] #[]]) (CF 113 _) rfl rfl) (SortL_m _ _ _ _ _ _ l (S.giveN 2 1) hr1 hn hs1) ?_;rintro e w7 ⟨rfl,xs5,k,O6⟩;have L8:=k.sup;have S:=S.compN 2 1 k;clear k;replace hr2:=rm hr2 L8;refine ckd (l_nil (n_seq (e_seq (e_reg (ly (pa g1 2) S (y_fb FA27_2 rfl rfl) (ly (sc At m ct) S (y_ld rfl (fun w S => ld_b1 (i:=0) S rfl rfl T25)) ?_))))));have S:=S.toEndO (i:=0) rfl;refine l_c (en_f (vs:=[sc At m ct,.func (.func 87) #[] #[]]) (CF 114 _) rfl rfl) (SortT_m _ _ _ _ _ _ t (S.giveN 2 1) hr2 hd hs2) ?_;rintro e w11 ⟨rfl,xs9,k,O10⟩;have L12:=k.sup;have S:=S.compN 2 1 k;clear k;replace O6:=rm O6 L12;refine ckd (l_nil (n_seq (e_seq (e_reg (ly (.agg #[sc Ac nc cc,sc Al n cl,sc At m ct]) S (y_ld rfl (fun w S => ld_bA (vs:=[sc Ac nc cc,sc Al n cl,sc At m ct]) (i:=0) S rfl T27 rfl rfl)) (l_st (u:=.agg #[sc Ac nc cc,sc Al n cl,sc At m ct]) (i:=1) (cs':=#[sc Ac nc cc,sc Al n cl,sc At m ct]) S rfl rfl rfl SZ27 rfl rfl rfl fun w13 S => l_nil (n_seq (e_ret ?_))))))));refine ret1 (v:=.agg #[sc Ac nc cc,sc Al n cl,sc At m ct]) rfl ⟨_,rfl,ld_bA (i:=1) (vs:=[sc Ac nc cc,sc Al n cl,sc At m ct]) S rfl T27 rfl rfl⟩ ?_;exact ⟨_,_,rfl,(S.tk 0 2 rfl rfl).rw' rfl rfl,O6,O10⟩
end Go.Proofs.YtkjknlnhffmkkacGreat
