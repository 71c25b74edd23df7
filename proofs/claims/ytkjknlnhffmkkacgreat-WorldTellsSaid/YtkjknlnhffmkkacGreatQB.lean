/- Part of the proof of WorldTells: lemmas; no condition. -/
import Derived.Test.YtkjknlnhffmkkacGreatRows
import Derived.Test.YtkjknlnhffmkkacGreatQA
import Derived.Deep.QuietTactic
import Derived.BigQuiet
import Derived.WalkSpells
import Derived.Deep.MidRow
import Derived.Laws.CopyRow
import Derived.OrdersHeld
set_option linter.unusedVariables false
set_option linter.unusedSimpArgs false
set_option maxRecDepth 100000
set_option maxHeartbeats 16000000
namespace Go.Proofs.YtkjknlnhffmkkacGreat
open Go.RowKit
theorem q5(v:Value)(l:List Int)(i:Nat)(w:World)(h:iC (fX w) v l) :
    Calls Tryz.prog 95 #[v,.int .i64 i] w fun e w'=>e = .returned (.int .i64 (g6 l i))∧w=w':=by
  obtain⟨A,c,rfl,_,d⟩:=h.val
  unfold maxLen at d
  by_cases a:i<l.length
  · obtain⟨b,o,rfl,f⟩:=h.at_ a
    simp only [fX] at f
    have e:g6 l i=l[i]:=lX a
    clear h
    rw [e]
    clear e
    go_enter Tryz.func95,Tryz.ntmps95
    go_wp2
    go_ret
    exact⟨rfl,rfl⟩
  · have e:g6 l i=0:=oV (by omega)
    clear h
    rw [e]
    clear e
    go_enter Tryz.func95,Tryz.ntmps95
    go_wp2
    go_ret
    exact⟨rfl,rfl⟩
theorem pg(v u:Value)(l m:List Int)(w:World)(h:iC (fX w) v l)(h':iC (fX w) u m) :
    Calls Tryz.prog 94 #[v,u] w fun e w'=>e = .returned (.int .i64 (max l.length m.length:Nat))∧w=w':=by
  obtain⟨A,c,rfl,_,a⟩:=h.val
  obtain⟨_,_,rfl,_,b⟩:=h'.val
  unfold maxLen at a b
  clear h h'
  go_enter Tryz.func94,Tryz.ntmps94
  go_wp2
  all_goals
    go_ret
    exact⟨oN (by omega),rfl⟩
def vn(f:Nat)(p:Int→Bool):Prop:=(∀ (x:Int) (w:World),(callFunc f #[.int .i64 x]).run Tryz.prog w = .ok (.enter f #[.int .i64 x]) w) ∧ ∀ (x:Int) (w:World),Calls Tryz.prog f #[.int .i64 x] w fun e w'=>e = .returned (.bool (p x))∧w=w'
theorem CZ(v:Value)(l:List Int)(f:Nat)(p:Int→Bool)(w:World)(h:iC (fX w) v l)(hp:vn f p) :
    Calls Tryz.prog 111 #[v,.func (.func f) #[] #[]] w fun e w'=>e = .returned (.int .i64 (jD p l))∧w=w':=by
  obtain⟨A,c,rfl,_,n⟩:=h.val
  unfold maxLen at n
  have H:=j3 h
  obtain⟨_,hp⟩:=hp
  have HP:=j3 hp
  go_enter Tryz.func111,Tryz.ntmps111
  go_wp2
  go_loop [8] (fun i => ∃ k:Nat,k≤l.length∧i = .int .i64 k∧Hid (∀ j y,j<k→l[j]? = some y→p y=false)) (fun i=>l.length - (intOf i).toNat)
  case atStart=>exact⟨0,Nat.zero_le _,rfl,j3 (fun j y h=>absurd h (by omega))⟩
  case round =>
    obtain⟨k,_,rfl,d⟩:=hrel
    by_cases g:k<l.length
    · obtain⟨b,o,rfl,q⟩:=H.out.at_ g
      simp only [fX] at q
      cases m:p l[k]
      · go_wp2_with (refine(HP.out _ _).mono ?_;rintro e w' ⟨rfl,rfl⟩)
        go_round
        case rel=>exact⟨k+1,by omega,by go_num,j3 (fun j y _ a=>by
          by_cases e:j=k
          · subst e;have r:=(List.getElem?_eq_some_iff.1 a).2;rw [← r];exact m
          · exact d.out j y (by omega) a)⟩
        case measure=>simp [intOf];omega
      · go_wp2_with (refine(HP.out _ _).mono ?_;rintro e w' ⟨rfl,rfl⟩)
        go_ret
        exact⟨oN (sZ (x:=l[k]) (by simp [g]) m d.out).symm,rfl⟩
    · go_wp2
      go_ret
      refine⟨oN (tr fun j y a=>d.out j y ?_ a).symm,rfl⟩
      have:=(List.getElem?_eq_some_iff.1 a).1
      omega
theorem D5(v:Value)(l:List Int)(f:Nat)(p:Int→Bool)(w:World)(h:iC (fX w) v l)(hp:vn f p) :
    Calls Tryz.prog 75 #[v,.func (.func f) #[] #[]] w fun e w'=>e = .returned (.bool (l.any p))∧w=w':=by
  rw [← t6]
  obtain⟨_,_⟩:=zW p l
  have HI:=CZ v l f p w h hp
  generalize jD p l=q at *
  have H:=j3 HI
  go_enter Tryz.func75,Tryz.ntmps75
  go_wp2_with (refine H.out.mono ?_;rintro e w' ⟨rfl,rfl⟩)
  go_ret
  exact⟨rfl,rfl⟩
theorem C7:vn 76 (fun k => !mc k):=by
  refine⟨fun _ _=>by kernel_rfl,fun x w => ?_⟩
  show Calls _ _ _ _ fun e w'=>e = .returned (.bool (!mc x))∧w=w'
  by_cases a:x<0
  · have e:(!mc x)=true:=by simp [mc];omega
    rw [e]
    go_enter Tryz.func76,Tryz.ntmps76
    go_wp2
    go_ret
    exact⟨rfl,rfl⟩
  · by_cases b:1000<x
    · have e:(!mc x)=true:=by simp [mc];omega
      rw [e]
      go_enter Tryz.func76,Tryz.ntmps76
      go_wp2
      go_ret
      exact⟨rfl,rfl⟩
    · have e:(!mc x)=false:=by simp [mc];omega
      rw [e]
      go_enter Tryz.func76,Tryz.ntmps76
      go_wp2
      go_ret
      exact⟨rfl,rfl⟩
theorem Bt{l:List Int}:l.any (fun k => !mc k) = !l.all mc:=by
 induction l <;> simp_all
theorem qo(v:Value)(l:List Int)(n:Int)(w:World)(h:iC (fX w) v l) :
    Calls Tryz.prog 40 #[v,.int .i64 n] w fun e w'=>e = .returned (.int .i64 (gb l n))∧w=w':=by
  have HC:=j3 (D5 v l _ _ w h C7)
  rw [Bt] at HC
  obtain⟨A,c,rfl,_,d⟩:=h.val
  unfold maxLen at d
  clear h
  by_cases f:n<1
  · have e:gb l n=5:=by unfold gb;rw [if_pos (by omega)]
    rw [e]
    go_enter Tryz.func40,Tryz.ntmps40
    go_wp2
    go_ret
    exact⟨rfl,rfl⟩
  by_cases g:6<n
  · have e:gb l n=5:=by unfold gb;rw [if_pos (by omega)]
    rw [e]
    go_enter Tryz.func40,Tryz.ntmps40
    go_wp2
    go_ret
    exact⟨rfl,rfl⟩
  by_cases b:(l.length:Int)=n
  · subst b
    cases a:l.all mc
    · have e:gb l l.length=3:=by unfold gb;rw [if_neg (by omega),a];rfl
      rw [a] at HC
      rw [e]
      go_enter Tryz.func40,Tryz.ntmps40
      go_wp2_with (refine HC.out.mono ?_;rintro e w' ⟨rfl,rfl⟩)
      go_ret
      exact⟨rfl,rfl⟩
    · have e:gb l l.length=0:=by unfold gb;rw [if_neg (by omega),a];rfl
      rw [a] at HC
      rw [e]
      go_enter Tryz.func40,Tryz.ntmps40
      go_wp2_with (refine HC.out.mono ?_;rintro e w' ⟨rfl,rfl⟩)
      go_ret
      exact⟨rfl,rfl⟩
  · have e:gb l n=5:=by unfold gb;rw [if_pos (by omega)]
    have i:((l.length:Int) == n)=false:=by simpa using b
    have j:((l.length:Int) != n)=true:=by simpa using b
    rw [e]
    go_enter Tryz.func40,Tryz.ntmps40
    go_wp2
    go_ret
    exact⟨rfl,rfl⟩
def u4(f:Nat)(g:Int→Int→Int):Prop:=(∀ (x y:Int) (w:World),(callFunc f #[.int .i64 x,.int .i64 y]).run Tryz.prog w = .ok (.enter f #[.int .i64 x,.int .i64 y]) w) ∧
 ∀ (x y:Int) (w:World),Calls Tryz.prog f #[.int .i64 x,.int .i64 y] w fun e w'=>e = .returned (.int .i64 (g x y))∧w=w'
theorem Cm:u4 69 max:=by
  refine⟨fun _ _ _=>by kernel_rfl,fun x y w => ?_⟩
  go_enter Tryz.func69,Tryz.ntmps69
  go_wp2
  all_goals
    go_ret
    exact⟨oN (by omega),rfl⟩
theorem A8:u4 103 min:=by
  refine⟨fun _ _ _=>by kernel_rfl,fun x y w => ?_⟩
  go_enter Tryz.func103,Tryz.ntmps103
  go_wp2
  all_goals
    go_ret
    exact⟨oN (by omega),rfl⟩
def rT(x y:Int):Int:=if x<y then 1 else 0
theorem Dy:u4 67 rT:=by
  refine⟨fun _ _ _=>by kernel_rfl,fun x y w => ?_⟩
  by_cases h:x<y
  · have e:rT x y=1:=if_pos h
    rw [e]
    go_enter Tryz.func67,Tryz.ntmps67
    go_wp2
    go_ret
    exact⟨rfl,rfl⟩
  · have e:rT x y=0:=if_neg h
    rw [e]
    go_enter Tryz.func67,Tryz.ntmps67
    go_wp2
    go_ret
    exact⟨rfl,rfl⟩
theorem uY{P:Program}{t e:TypeId}{z:Value}{size bytes:Nat}(hu:P.underlying t=some (.slice e))(h:(P.info? e).map (fun i=>(i.zero,i.size,i.bytes))=some (some z,size,bytes))(hz:z.cells.size=size)(hs:0<size) :
  li P t e size bytes:=by
 obtain⟨i,a,b,c,d⟩:=info_parts h
 exact⟨i,z,hu,a,b,c,d,hz,hs⟩
theorem su:li Tryz.prog 23 3 1 8:=uY Tryz.underlying23 (z:=.int .i64 0) (by kernel_rfl) rfl (by decide)
theorem ti:li Tryz.prog 22 3 1 8:=uY Tryz.underlying22 (z:=.int .i64 0) (by kernel_rfl) rfl (by decide)
def nk:Rd:=fun _ _=>none
theorem uQ (v u :Value)(a b:List Int)(f:Nat)(g:Int→Int→Int)(w:World)(h:iC (fX w) v a)(h':iC (fX w) u b)(hf:u4 f g)(hbig:max a.length b.length * 8≤140737488355328) :
    Calls Tryz.prog 66 #[v,u,.func (.func f) #[] #[]] w fun e w' => ∃ r,e = .returned r∧hJ 1 ge w.heap.size 3 w' nk r (lI g a b)∧Below w.heap.size w w':=by
  obtain⟨A,c,rfl,_,B⟩:=h.val
  obtain⟨_,_,rfl,_,C⟩:=h'.val
  unfold maxLen at B C
  have H:=j3 h
  have H':=j3 h'
  obtain⟨_,D⟩:=hf
  have HP:=j3 D
  have HL:=j3 (rn g a b)
  go_enter Tryz.func66,Tryz.ntmps66
  go_wp2
  all_goals
    go_loopw [7,16] (fun v i wr => ∃ k:Nat,k≤max a.length b.length∧i = .int .i64 k∧hJ 1 ge w.heap.size 3 wr nk v ((lI g a b).take k)∧Below w.heap.size w wr) (fun _ i _=>max a.length b.length - (intOf i).toNat)
    case atStart=>exact⟨0,Nat.zero_le _,rfl,by simpa using hJ.nil_,Below.refl _ _⟩
    case round =>
      obtain⟨k,_,rfl,m,d⟩:=hrel
      by_cases E:k<max a.length b.length
      · have j :=j3 (tX g a b E)
        have q:((lI g a b).take k).length=k:=by simp [HL.out];omega
        by_cases s:k<a.length
        · obtain ⟨_,_,rfl,F⟩:=(H.out.mono (p2 d (Nat.le_refl _))).at_ s
          simp only [fX] at F
          rw [lX s] at j
          by_cases l:k<b.length
          · obtain⟨bb,ob,rfl,t⟩:=(H'.out.mono (p2 d (Nat.le_refl _))).at_ l
            simp only [fX] at t
            rw [lX l] at j
            go_wp2_with (first
              | (refine(HP.out _ _ _).mono ?_;rintro e w' ⟨rfl,rfl⟩)
              | (at_builtin;refine pI _ rfl (.tmp 35) (.tmp 40) _ rfl w.heap.size 3 8 su nk _ _ rfl (m.alloc _) _ 1 [.int .i64 (g a[k] b[k])] (g a[k] b[k]) rfl rfl (q4 _ _ _ _) (fun u n=>by rw [List.mem_singleton.1 n];rfl) rfl (by rw [q];simp only [maxLen];omega) (by have:=d.size;simp;omega) ?_;intro x y o p _ _))
            go_roundw
            case rel=>exact⟨k+1,by omega,by go_num,by rw [jl j.out];exact o,(d.alloc d.size _).trans p⟩
            case measure=>simp [intOf];omega
          · first
            | (exfalso;omega)
            | (rw [oV (Nat.le_of_not_lt l)] at j
               go_wp2_with (first
                 | (refine(HP.out _ _ _).mono ?_;rintro e w' ⟨rfl,rfl⟩)
                 | (at_builtin;refine pI _ rfl (.tmp 35) (.tmp 40) _ rfl w.heap.size 3 8 su nk _ _ rfl (m.alloc _) _ 1 [.int .i64 (g a[k] 0)] (g a[k] 0) rfl rfl (q4 _ _ _ _) (fun u n=>by rw [List.mem_singleton.1 n];rfl) rfl (by rw [q];simp only [maxLen];omega) (by have:=d.size;simp;omega) ?_;intro x y o p _ _))
               go_roundw
               case rel=>exact⟨k+1,by omega,by go_num,by rw [jl j.out];exact o,(d.alloc d.size _).trans p⟩
               case measure=>simp [intOf];omega)
        · rw [oV (Nat.le_of_not_lt s)] at j
          by_cases l:k<b.length
          · obtain⟨bb,ob,rfl,t⟩:=(H'.out.mono (p2 d (Nat.le_refl _))).at_ l
            simp only [fX] at t
            rw [lX l] at j
            first
            | (exfalso;omega)
            | (go_wp2_with (first
                 | (refine(HP.out _ _ _).mono ?_;rintro e w' ⟨rfl,rfl⟩)
                 | (at_builtin;refine pI _ rfl (.tmp 35) (.tmp 40) _ rfl w.heap.size 3 8 su nk _ _ rfl (m.alloc _) _ 1 [.int .i64 (g 0 b[k])] (g 0 b[k]) rfl rfl (q4 _ _ _ _) (fun u n=>by rw [List.mem_singleton.1 n];rfl) rfl (by rw [q];simp only [maxLen];omega) (by have:=d.size;simp;omega) ?_;intro x y o p _ _))
               go_roundw
               case rel=>exact⟨k+1,by omega,by go_num,by rw [jl j.out];exact o,(d.alloc d.size _).trans p⟩
               case measure=>simp [intOf];omega)
          · exfalso;omega
      · have z:(lI g a b).take k=lI g a b:=List.take_of_length_le (by rw [HL.out];omega)
        rw [z] at m
        have G:=j3 z
        go_wp2
        go_ret
        exact⟨_,rfl,m,d⟩
theorem vm(v:Value)(l:List Int)(rd:Rd)(w:World)(h:iC rd v l)(hle:Rd.le rd (fX w))(hbig:l.length * 8≤140737488355328) :
    Calls Tryz.prog 45 #[v] w fun e w' => ∃ r,e = .returned r∧hJ 1 ge w.heap.size 3 w' rd r l∧Below w.heap.size w w':=by
  obtain⟨A,c,rfl,_,a⟩:=h.val
  unfold maxLen at a
  have H:=j3 h
  have HL:=j3 hle
  rcases A with _ | ad
  · have d:l=[]:=by
      rcases l with _ | ⟨x,l⟩
      · rfl
      · obtain⟨b,o,e,_⟩:=H.out.at_ (k:=0) (by simp);cases e
    subst d
    have f:=Lib.run_eql_slice_nil (P:=Tryz.prog) w 23 3 none 0 c 0 0 Tryz.underlying23
    go_enter Tryz.func45,Tryz.ntmps45
    go_wp2
    go_ret
    exact⟨_,rfl,hJ.nil_,Below.refl _ _⟩
  · have f:=Lib.run_eql_slice_nil (P:=Tryz.prog) w 23 3 (some ad) l.length c 0 0 Tryz.underlying23
    go_enter Tryz.func45,Tryz.ntmps45
    go_wp2_with (at_builtin;refine BF _ rfl (.tmp 5) (.tmp 6) _ rfl w.heap.size 3 8 su rd (fY HL.out (rt _ _)) yu _ _ [] l rfl rfl (BE w rd (Nat.le_refl _)) H.out (by simp only [maxLen,List.length_nil];omega) (by simp) ?_;intro j m g i _ _)
    go_ret
    exact⟨_,rfl,by simpa using g,((Below.refl _ _).alloc (Nat.le_refl _) _).trans i⟩
theorem DD(v:Value)(l:List Int)(x:Int)(w:World)(h:iC (fX w) v l) :
    Calls Tryz.prog 104 #[v,.int .i64 x] w fun e w'=>e = .returned (.int .i64 (jD (fun y=>y == x) l))∧w=w':=by
  obtain⟨A,c,rfl,_,m⟩:=h.val
  unfold maxLen at m
  have H:=j3 h
  go_enter Tryz.func104,Tryz.ntmps104
  go_wp2
  go_loop [8] (fun i => ∃ k:Nat,k≤l.length∧i = .int .i64 k∧Hid (∀ (j:Nat) y,j<k→l[j]? = some y→(y == x)=false)) (fun i=>l.length - (intOf i).toNat)
  case atStart=>exact⟨0,Nat.zero_le _,rfl,j3 (fun j y h=>absurd h (by omega))⟩
  case round =>
    obtain⟨k,_,rfl,f⟩:=hrel
    by_cases g:k<l.length
    · obtain⟨b,o,rfl,n⟩:=H.out.at_ g
      simp only [fX] at n
      cases d:x == l[k]
      · go_wp2
        go_round
        case rel=>exact⟨k+1,by omega,by go_num,j3 (fun j y _ a=>by
          by_cases e:j=k
          · subst e;have p:=(List.getElem?_eq_some_iff.1 a).2;rw [← p];simp at d ⊢;exact fun e=>d e.symm
          · exact f.out j y (by omega) a)⟩
        case measure=>simp [intOf];omega
      · go_wp2
        go_ret
        exact⟨oN (sZ (x:=l[k]) (by simp [g]) (by simp at d ⊢;exact d.symm) f.out).symm,rfl⟩
    · go_wp2
      go_ret
      refine⟨oN (tr fun j y a=>f.out j y ?_ a).symm,rfl⟩
      have:=(List.getElem?_eq_some_iff.1 a).1
      omega
theorem DB(v:Value)(l:List Int)(x:Int)(w:World)(h:iC (fX w) v l) :
    Calls Tryz.prog 68 #[v,.int .i64 x] w fun e w'=>e = .returned (.bool (l.any (fun y=>y == x)))∧w=w':=by
  rw [← t6]
  obtain⟨_,_⟩:=zW (fun y=>y == x) l
  have HI:=DD v l x w h
  generalize jD (fun y=>y == x) l=q at *
  have H:=j3 HI
  go_enter Tryz.func68,Tryz.ntmps68
  go_wp2_with (refine H.out.mono ?_;rintro e w' ⟨rfl,rfl⟩)
  go_ret
  exact⟨rfl,rfl⟩
theorem rD(v:Value)(l:List Int)(a s:Int)(w:World)(h:iC (fX w) v l) :
    Calls Tryz.prog 83 #[v,.int .i64 a,.int .i64 s] w fun e w'=>e = .returned (.bool (kK l a s))∧w=w':=by
  obtain⟨A,c,rfl,_,f⟩:=h.val
  unfold maxLen at f
  by_cases g:0≤a
  · obtain⟨k,rfl⟩:=Int.eq_ofNat_of_zero_le g
    by_cases d:k<l.length
    · obtain⟨b,o,rfl,i⟩:=h.at_ d
      simp only [fX] at i
      have e:kK l k s=decide (s≤l[k]):=by unfold kK;rw [Int.toNat_natCast,lX d];simp [d]
      rw [e]
      go_enter Tryz.func83,Tryz.ntmps83
      go_wp2
      go_ret
      exact⟨rfl,rfl⟩
    · have e:kK l k s=false:=by unfold kK;simp;omega
      rw [e]
      go_enter Tryz.func83,Tryz.ntmps83
      go_wp2
      go_ret
      exact⟨rfl,rfl⟩
  · have e:kK l a s=false:=by unfold kK;simp;omega
    rw [e]
    go_enter Tryz.func83,Tryz.ntmps83
    go_wp2
    go_ret
    exact⟨rfl,rfl⟩
theorem r7(v:Value)(l:List Int)(a:Int)(rd:Rd)(w:World)(h:iC rd v l)(hle:Rd.le rd (fX w))(hbig:l.length * 8≤140737488355328) :
    Calls Tryz.prog 88 #[v,.int .i64 a] w fun e w' => ∃ r,e = .returned r∧hJ 1 ge w.heap.size 3 w' rd r (gD l a)∧Below w.heap.size w w':=by
  have HC:=j3 (vm v l rd w h hle hbig)
  clear h hle
  by_cases q:0≤a
  · obtain⟨k,rfl⟩:=Int.eq_ofNat_of_zero_le q
    by_cases i:k<l.length
    · have e:gD l k=l.set k (wrap64 (l[k]+1)):=by unfold gD;rw [if_pos (by omega),Int.toNat_natCast,lX i]
      rw [e]
      go_enter Tryz.func88,Tryz.ntmps88
      go_wp2_with fail
      refine HC.out.mono ?_
      rintro e n ⟨r,rfl,b,d⟩
      obtain⟨g,_,rfl,s,_,o,f,p,cs,_,t,m⟩:=b.blk i
      unfold maxLen at f
      cases t
      have p:=p k
      have m:=m 0 _ rfl
      rw [Nat.mul_one,Nat.add_zero] at m
      go_wp2
      go_ret
      refine⟨_,rfl,?_,d.setCell s _⟩
      have:=b.set_ (k:=k) (j:=0) (u:=.int .i64 (wrap64 (l[k]+1))) (x:=l[k]) (y:=wrap64 (l[k]+1)) (by omega) (by simp [i]) (by rintro cs _ rfl;rfl)
      simpa using this
    · have e:gD l k=l:=by unfold gD;rw [if_neg (by omega)]
      rw [e]
      go_enter Tryz.func88,Tryz.ntmps88
      go_wp2_with fail
      refine HC.out.mono ?_
      rintro e n ⟨r,rfl,b,d⟩
      obtain⟨A,c,rfl,o,f⟩:=b.val
      unfold maxLen at f
      go_wp2
      go_ret
      exact⟨_,rfl,b,d⟩
  · have e:gD l a=l:=by unfold gD;rw [if_neg (by omega)]
    rw [e]
    go_enter Tryz.func88,Tryz.ntmps88
    go_wp2_with fail
    refine HC.out.mono ?_
    rintro e n ⟨r,rfl,b,d⟩
    obtain⟨A,c,rfl,o,f⟩:=b.val
    unfold maxLen at f
    go_wp2
    go_ret
    exact⟨_,rfl,b,d⟩
theorem DL(a b:List Int):(!(lI rT a b).any (fun y=>y == 1))=gO a b:=by
 unfold gO lI
 rw [List.any_map,List.not_any_eq_all_not]
 congr 2
 funext i
 simp only [Function.comp,rT]
 by_cases h:g6 a i<g6 b i
 ·simp [h]
 ·simp [h];omega
theorem qv(v u:Value)(a b:List Int)(w:World)(h:iC (fX w) v a)(h':iC (fX w) u b)(hbig:max a.length b.length * 8≤140737488355328) :
    Calls Tryz.prog 29 #[v,u] w fun e w'=>e = .returned (.bool (gO a b))∧Below w.heap.size w w':=by
  have HC:=j3 (uQ v u a b _ _ w h h' Dy hbig)
  have HS:=j3 (DL a b)
  clear h h'
  go_enter Tryz.func29,Tryz.ntmps29
  go_wp2_with fail
  refine HC.out.mono ?_
  rintro e _ ⟨r,rfl,c,d⟩
  have f:=c.slice sH (fun _ _ _ h=>by cases h)
  go_wp2_with (refine(DB _ _ _ _ f).mono ?_;rintro e w' ⟨rfl,rfl⟩)
  go_ret
  exact⟨ro HS.out,d⟩
theorem CT(v u:Value)(a b:List Int)(w:World)(h:iC (fX w) v a)(h':iC (fX w) u b)(hbig:max a.length b.length * 8≤140737488355328) :
    Calls Tryz.prog 31 #[v,u] w fun e w' => ∃ r,e = .returned r∧hJ 1 ge w.heap.size 3 w' nk r (g8 a b)∧Below w.heap.size w w':=by
  have HC:=j3 (uQ v u a b _ _ w h h' Cm hbig)
  clear h h'
  go_enter Tryz.func31,Tryz.ntmps31
  go_wp2_with fail
  refine HC.out.mono ?_
  rintro e _ ⟨r,rfl,c,d⟩
  go_wp2
  go_ret
  exact⟨_,rfl,c,d⟩
theorem Dr(v u:Value)(a b:List Int)(w:World)(h:iC (fX w) v a)(h':iC (fX w) u b)(hbig:max a.length b.length * 8≤140737488355328) :
    Calls Tryz.prog 64 #[v,u] w fun e w' => ∃ r,e = .returned r∧hJ 1 ge w.heap.size 3 w' nk r (k9 a b)∧Below w.heap.size w w':=by
  have HC:=j3 (uQ v u a b _ _ w h h' A8 hbig)
  clear h h'
  go_enter Tryz.func64,Tryz.ntmps64
  go_wp2_with fail
  refine HC.out.mono ?_
  rintro e _ ⟨r,rfl,c,d⟩
  go_wp2
  go_ret
  exact⟨_,rfl,c,d⟩
theorem vR{l:List Int}{n:Int}(h:n<1∨6<n∨(l.length:Int) ≠ n):gb l n=5:=by unfold gb;rw [if_pos h]
theorem x0{l:List Int}(h1:1≤l.length)(h2:l.length≤6){k:Nat}(hk:k<l.length)(hb:mc l[k]=false):gb l l.length=3:=by
 unfold gb
 rw [if_neg (by omega),if_neg]
 intro h
 rw [List.all_eq_true] at h
 rw [h _ (List.getElem_mem hk)] at hb
 cases hb
theorem Ba{l:List Int}(h1:1≤l.length)(h2:l.length≤6)(hb:∀ (j:Nat) y,l[j]? = some y→mc y=true):gb l l.length=0:=by
 unfold gb
 rw [if_neg (by omega),if_pos]
 rw [List.all_eq_true]
 intro x a
 obtain⟨j,b⟩:=List.getElem?_of_mem a
 exact hb j x b
theorem sq (v :Value)(l:List Int)(n:Int)(w:World)(h:iC (fX w) v l) :
    Calls Tryz.prog 53 #[v,.int .i64 n] w fun e w'=>e = .returned (.int .i64 (gb l n))∧w=w':=by
  obtain⟨A,c,rfl,_,m⟩:=h.val
  unfold maxLen at m
  have H:=j3 h
  by_cases p:n<1
  · rw [vR (.inl p)]
    go_enter Tryz.func53,Tryz.ntmps53
    go_wp2
    go_ret
    exact⟨rfl,rfl⟩
  by_cases q:6<n
  · rw [vR (.inr (.inl q))]
    go_enter Tryz.func53,Tryz.ntmps53
    go_wp2
    go_ret
    exact⟨rfl,rfl⟩
  by_cases d:(l.length:Int)=n
  · subst d
    go_enter Tryz.func53,Tryz.ntmps53
    go_wp2
    go_loop [21] (fun i => ∃ k:Nat,k≤l.length∧i = .int .i64 k∧Hid (∀ (j:Nat) y,j<k→l[j]? = some y→mc y=true)) (fun i=>l.length - (intOf i).toNat)
    case atStart=>exact⟨0,Nat.zero_le _,rfl,j3 (fun j y h=>absurd h (by omega))⟩
    case round =>
      obtain⟨k,_,rfl,g⟩:=hrel
      by_cases f:k<l.length
      · obtain⟨b,o,rfl,r⟩:=H.out.at_ f
        simp only [fX] at r
        by_cases s:l[k]<0
        · have HQ:=j3 (x0 (by omega) (by omega) f (by unfold mc;simp;omega))
          go_wp2
          go_ret
          exact⟨oN HQ.out.symm,rfl⟩
        · by_cases t:1000<l[k]
          · have HQ:=j3 (x0 (by omega) (by omega) f (by unfold mc;simp;omega))
            go_wp2
            go_ret
            exact⟨oN HQ.out.symm,rfl⟩
          · have HQ:=j3 (show mc l[k]=true by unfold mc;simp;omega)
            go_wp2
            go_round
            case rel=>exact⟨k+1,by omega,by go_num,j3 (fun j y _ a=>by
              by_cases e:j=k
              · subst e;rw [← (List.getElem?_eq_some_iff.1 a).2];exact HQ.out
              · exact g.out j y (by omega) a)⟩
            case measure=>simp [intOf];omega
      · go_wp2
        go_ret
        refine⟨oN (Ba (by omega) (by omega) fun j y a=>g.out j y ?_ a).symm,rfl⟩
        have:=(List.getElem?_eq_some_iff.1 a).1
        omega
  · have u:((l.length:Int) == n)=false:=by simpa using d
    have x:((l.length:Int) != n)=true:=by simpa using d
    rw [vR (.inr (.inr d))]
    go_enter Tryz.func53,Tryz.ntmps53
    go_wp2
    go_ret
    exact⟨rfl,rfl⟩
theorem DY{a b:List Int}{k:Nat}(hk:k<max a.length b.length)(h:g6 a k<g6 b k):gO a b=false:=by
 unfold gO
 rw [List.all_eq_false]
 exact⟨k,List.mem_range.2 hk,by simpa using h⟩
theorem Bb{a b:List Int}(h:∀ k,k<max a.length b.length→g6 b k≤g6 a k):gO a b=true:=by
 unfold gO
 rw [List.all_eq_true]
 intro k c
 simpa using h k (List.mem_range.1 c)
theorem qO(v u:Value)(a b:List Int)(w:World)(h:iC (fX w) v a)(h':iC (fX w) u b) :
    Calls Tryz.prog 54 #[v,u] w fun e w'=>e = .returned (.bool (gO a b))∧w=w':=by
  obtain⟨A,c,rfl,_,f⟩:=h.val
  obtain⟨_,_,rfl,_,g⟩:=h'.val
  unfold maxLen at f g
  have HA:=h
  have HB:=h'
  clear h h'
  go_enter Tryz.func54,Tryz.ntmps54
  go_wp2
  go_loop [5] (fun i => ∃ k:Nat,k≤max a.length b.length∧i = .int .i64 k∧Hid (∀ j,j<k→g6 b j≤g6 a j)) (fun i=>max a.length b.length - (intOf i).toNat)
  case atStart=>exact⟨0,Nat.zero_le _,rfl,j3 (fun j h=>absurd h (by omega))⟩
  case round =>
    obtain⟨k,_,rfl,d⟩:=hrel
    by_cases l:k<max a.length b.length
    · by_cases m:g6 a k<g6 b k
      · have HQ:=j3 (DY l m)
        go_wp2_with (first | (go_at_call 94;refine(pg _ _ _ _ _ HA HB).mono ?_;rintro e w' ⟨rfl,rfl⟩) | (go_at_call 95;refine(q5 _ _ _ _ ‹_›).mono ?_;rintro e w' ⟨rfl,rfl⟩))
        go_ret
        exact⟨ro HQ.out.symm,rfl⟩
      · go_wp2_with (first | (go_at_call 94;refine(pg _ _ _ _ _ HA HB).mono ?_;rintro e w' ⟨rfl,rfl⟩) | (go_at_call 95;refine(q5 _ _ _ _ ‹_›).mono ?_;rintro e w' ⟨rfl,rfl⟩))
        go_round
        case rel=>exact⟨k+1,by omega,by go_num,j3 (fun j n=>by
          by_cases e:j=k
          · subst e;omega
          · exact d.out j (by omega))⟩
        case measure=>simp [intOf];omega
    · go_wp2_with (first | (go_at_call 94;refine(pg _ _ _ _ _ HA HB).mono ?_;rintro e w' ⟨rfl,rfl⟩))
      go_ret
      exact⟨ro (Bb fun j n=>d.out j (by omega)).symm,rfl⟩
def jM(a b:List Int):Bool:=decide (a=b)
theorem Ct{a b:List Int}(h:a.length ≠ b.length):jM a b=false:=by unfold jM;simp;intro e;exact h (by rw [e])
theorem EO{a b:List Int}{k:Nat}(h1:k<a.length)(h2:k<b.length)(h:a[k] ≠ b[k]):jM a b=false:=by
 unfold jM;simp;intro e;subst e;exact h rfl
theorem Cr{a b:List Int}(hl:a.length=b.length)(h:∀ (k:Nat) (h1:k<a.length) (h2:k<b.length),a[k]=b[k]):jM a b=true:=by
 unfold jM;simp;exact List.ext_getElem hl h
theorem pY (v u:Value)(a b:List Int)(w:World)(h:iC (fX w) v a)(h':iC (fX w) u b) :
    Calls Tryz.prog 16 #[v,u] w fun e w'=>e = .returned (.bool (jM a b))∧Below w.heap.size w w':=by
  obtain⟨A,c,rfl,l,f⟩:=h.val
  obtain⟨_,_,rfl,_,s⟩:=h'.val
  unfold maxLen at f s
  have HA:=h
  have HB:=h'
  clear h h'
  by_cases g:a.length=b.length
  · have n :((a.length:Int) != (b.length:Int))=false:=by simp [g]
    have o:((a.length:Int) == (b.length:Int))=true:=by simp [g]
    have HL:=j3 g
    clear g
    go_enter Tryz.func16,Tryz.ntmps16
    go_wp2
    clear n o
    go_loopw [13] (fun i wr => ∃ k:Nat,k≤a.length∧i = .int .i64 k∧Hid (∀ (j:Nat) (l:j<a.length) (f:j<b.length),j<k→a[j]=b[j])∧Below w.heap.size w wr) (fun i _=>a.length - (intOf i).toNat)
    case atStart=>exact⟨0,Nat.zero_le _,rfl,j3 (fun j _ _ h=>absurd h (by omega)),Below.refl _ _⟩
    case round =>
      obtain⟨k,_,rfl,p,m⟩:=hrel
      by_cases q:k<a.length
      · obtain⟨_,_,rfl,t⟩:=(HA.mono (p2 m (Nat.le_refl _))).at_ q
        have r:k<b.length:=by have:=HL.out;omega
        obtain⟨_,_,rfl,x⟩:=(HB.mono (p2 m (Nat.le_refl _))).at_ r
        simp only [fX] at t x
        have z:(k:Int)<(a.length:Int):=by omega
        have B:(k:Int)<(b.length:Int):=by omega
        by_cases d:a[k]=b[k]
        · have n:(a[k] != b[k])=false:=by simp [d]
          have o:(a[k] == b[k])=true:=by simp [d]
          have y:=j3 d
          clear d
          go_wp2
          go_quiet (fail)
          go_wp2
          go_roundw
          case rel=>exact⟨k+1,by omega,by go_num,j3 (fun j l f _=>by
            by_cases e:j=k
            · subst e;exact y.out
            · exact p.out j l f (by omega)),m.trans (p6 _ _ _)⟩
          case measure=>simp [intOf];omega
        · have n:(a[k] != b[k])=true:=by simp [d]
          have o:(a[k] == b[k])=false:=by simp [d]
          have HQ:=j3 (EO q r d)
          clear d
          go_wp2
          go_quiet (fail)
          go_wp2
          go_ret
          exact⟨ro HQ.out.symm,m.trans (p6 _ _ _)⟩
      · go_wp2
        go_ret
        exact⟨ro (Cr HL.out fun j l f=>p.out j l f (by omega)).symm,m⟩
  · have n:((a.length:Int) != (b.length:Int))=true:=by simp;omega
    have o:((a.length:Int) == (b.length:Int))=false:=by simp;omega
    have HQ:=j3 (Ct g)
    clear g
    go_enter Tryz.func16,Tryz.ntmps16
    go_wp2
    go_ret
    exact⟨ro HQ.out.symm,Below.refl _ _⟩
theorem D3(v u:Value)(a b:List Int)(W:World)(h:iC (fX W) v a)(h':iC (fX W) u b)(hbig:max a.length b.length * 8≤140737488355328) :
    Calls Tryz.prog 61 #[v,u] W fun e w' => ∃ r,e = .returned r∧hJ 1 ge W.heap.size 3 w' nk r (g8 a b)∧Below W.heap.size W w':=by
  obtain⟨A,c,rfl,_,q⟩:=h.val
  obtain⟨_,_,rfl,_,s⟩:=h'.val
  unfold maxLen at q s
  have h:=fN.top h
  have h':=fN.top h'
  have HL:=j3 (rn max a b)
  unfold g8
  go_enter Tryz.func61,Tryz.ntmps61
  go_wp2
  go_loopw [5,6] (fun v i wr => ∃ k:Nat,k≤max a.length b.length∧i = .int .i64 k∧hJ 1 ge W.heap.size 3 wr nk v ((lI max a b).take k)∧Below W.heap.size W wr) (fun _ i _=>max a.length b.length - (intOf i).toNat)
  case atStart=>exact⟨0,Nat.zero_le _,rfl,by simpa using hJ.nil_,Below.refl _ _⟩
  case round =>
    obtain⟨k,_,rfl,g,d⟩:=hrel
    by_cases t:k<max a.length b.length
    · have j:=j3 (tX max a b t)
      have o:((lI max a b).take k).length=k:=by simp [HL.out];omega
      by_cases y:g6 a k<g6 b k
      · have f:=j3 (show max (g6 a k) (g6 b k)=g6 b k by omega)
        rw [f.out] at j
        clear f
        go_wp2_with (first | (go_at_call 94;refine(pg _ _ _ _ _ (by first | assumption | exact fN.of_top ‹_› ‹_› | exact fN.up ‹_› (lh _ _) | exact fN.up ‹_› (lF _ _ _) | exact fN.of_top (W:=W) ‹_› (Below.alloc ‹_› (Below.size ‹_›) _)) (by first | assumption | exact fN.of_top ‹_› ‹_› | exact fN.up ‹_› (lh _ _) | exact fN.up ‹_› (lF _ _ _) | exact fN.of_top (W:=W) ‹_› (Below.alloc ‹_› (Below.size ‹_›) _))).mono ?_;rintro e w' ⟨rfl,rfl⟩) | (go_at_call 95;refine(q5 _ _ _ _ (by first | assumption | exact fN.of_top ‹_› ‹_› | exact fN.up ‹_› (lh _ _) | exact fN.up ‹_› (lF _ _ _) | exact fN.of_top (W:=W) ‹_› (Below.alloc ‹_› (Below.size ‹_›) _))).mono ?_;rintro e w' ⟨rfl,rfl⟩) | (at_builtin;refine pI _ rfl (.tmp 26) (.tmp 28) _ rfl W.heap.size 3 8 ti nk _ _ rfl (g.alloc _) _ 1 [.int .i64 (g6 b k)] (g6 b k) rfl rfl (q4 _ _ _ _) (fun u l=>by rw [List.mem_singleton.1 l];rfl) rfl (by rw [o];simp only [maxLen];omega) (by have:=d.size;simp;omega) ?_;intro w x m n _ _))
        go_roundw
        case rel=>exact⟨k+1,by omega,by go_num,by rw [jl j.out];exact m,(d.alloc d.size _).trans n⟩
        case measure=>simp [intOf];omega
      · have f:=j3 (show max (g6 a k) (g6 b k)=g6 a k by omega)
        rw [f.out] at j
        clear f
        go_wp2_with (first | (go_at_call 94;refine(pg _ _ _ _ _ (by first | assumption | exact fN.of_top ‹_› ‹_› | exact fN.up ‹_› (lh _ _) | exact fN.up ‹_› (lF _ _ _) | exact fN.of_top (W:=W) ‹_› (Below.alloc ‹_› (Below.size ‹_›) _)) (by first | assumption | exact fN.of_top ‹_› ‹_› | exact fN.up ‹_› (lh _ _) | exact fN.up ‹_› (lF _ _ _) | exact fN.of_top (W:=W) ‹_› (Below.alloc ‹_› (Below.size ‹_›) _))).mono ?_;rintro e w' ⟨rfl,rfl⟩) | (go_at_call 95;refine(q5 _ _ _ _ (by first | assumption | exact fN.of_top ‹_› ‹_› | exact fN.up ‹_› (lh _ _) | exact fN.up ‹_› (lF _ _ _) | exact fN.of_top (W:=W) ‹_› (Below.alloc ‹_› (Below.size ‹_›) _))).mono ?_;rintro e w' ⟨rfl,rfl⟩) | (at_builtin;refine pI _ rfl (.tmp 26) (.tmp 28) _ rfl W.heap.size 3 8 ti nk _ _ rfl (g.alloc _) _ 1 [.int .i64 (g6 a k)] (g6 a k) rfl rfl (q4 _ _ _ _) (fun u l=>by rw [List.mem_singleton.1 l];rfl) rfl (by rw [o];simp only [maxLen];omega) (by have:=d.size;simp;omega) ?_;intro w x m n _ _))
        go_roundw
        case rel=>exact⟨k+1,by omega,by go_num,by rw [jl j.out];exact m,(d.alloc d.size _).trans n⟩
        case measure=>simp [intOf];omega
    · have p:(lI max a b).take k=lI max a b:=List.take_of_length_le (by rw [HL.out];omega)
      rw [p] at g
      clear p
      go_wp2_with (go_at_call 94;refine(pg _ _ _ _ _ (by first | assumption | exact fN.of_top ‹_› ‹_› | exact fN.up ‹_› (lh _ _) | exact fN.up ‹_› (lF _ _ _) | exact fN.of_top (W:=W) ‹_› (Below.alloc ‹_› (Below.size ‹_›) _)) (by first | assumption | exact fN.of_top ‹_› ‹_› | exact fN.up ‹_› (lh _ _) | exact fN.up ‹_› (lF _ _ _) | exact fN.of_top (W:=W) ‹_› (Below.alloc ‹_› (Below.size ‹_›) _))).mono ?_;rintro e w' ⟨rfl,rfl⟩)
      go_ret
      exact⟨_,rfl,g,d⟩
theorem Ck(v u:Value)(a b:List Int)(W:World)(h:iC (fX W) v a)(h':iC (fX W) u b)(hbig:max a.length b.length * 8≤140737488355328) :
    Calls Tryz.prog 65 #[v,u] W fun e w' => ∃ r,e = .returned r∧hJ 1 ge W.heap.size 3 w' nk r (k9 a b)∧Below W.heap.size W w':=by
  obtain⟨A,c,rfl,_,q⟩:=h.val
  obtain⟨_,_,rfl,_,s⟩:=h'.val
  unfold maxLen at q s
  have h:=fN.top h
  have h':=fN.top h'
  have HL:=j3 (rn min a b)
  unfold k9
  go_enter Tryz.func65,Tryz.ntmps65
  go_wp2
  go_loopw [5,6] (fun v i wr => ∃ k:Nat,k≤max a.length b.length∧i = .int .i64 k∧hJ 1 ge W.heap.size 3 wr nk v ((lI min a b).take k)∧Below W.heap.size W wr) (fun _ i _=>max a.length b.length - (intOf i).toNat)
  case atStart=>exact⟨0,Nat.zero_le _,rfl,by simpa using hJ.nil_,Below.refl _ _⟩
  case round =>
    obtain⟨k,_,rfl,g,d⟩:=hrel
    by_cases t:k<max a.length b.length
    · have j:=j3 (tX min a b t)
      have o:((lI min a b).take k).length=k:=by simp [HL.out];omega
      by_cases y:g6 b k<g6 a k
      · have f:=j3 (show min (g6 a k) (g6 b k)=g6 b k by omega)
        rw [f.out] at j
        clear f
        go_wp2_with (first | (go_at_call 94;refine(pg _ _ _ _ _ (by first | assumption | exact fN.of_top ‹_› ‹_› | exact fN.up ‹_› (lh _ _) | exact fN.up ‹_› (lF _ _ _) | exact fN.of_top (W:=W) ‹_› (Below.alloc ‹_› (Below.size ‹_›) _)) (by first | assumption | exact fN.of_top ‹_› ‹_› | exact fN.up ‹_› (lh _ _) | exact fN.up ‹_› (lF _ _ _) | exact fN.of_top (W:=W) ‹_› (Below.alloc ‹_› (Below.size ‹_›) _))).mono ?_;rintro e w' ⟨rfl,rfl⟩) | (go_at_call 95;refine(q5 _ _ _ _ (by first | assumption | exact fN.of_top ‹_› ‹_› | exact fN.up ‹_› (lh _ _) | exact fN.up ‹_› (lF _ _ _) | exact fN.of_top (W:=W) ‹_› (Below.alloc ‹_› (Below.size ‹_›) _))).mono ?_;rintro e w' ⟨rfl,rfl⟩) | (at_builtin;refine pI _ rfl (.tmp 26) (.tmp 28) _ rfl W.heap.size 3 8 ti nk _ _ rfl (g.alloc _) _ 1 [.int .i64 (g6 b k)] (g6 b k) rfl rfl (q4 _ _ _ _) (fun u l=>by rw [List.mem_singleton.1 l];rfl) rfl (by rw [o];simp only [maxLen];omega) (by have:=d.size;simp;omega) ?_;intro w x m n _ _))
        go_roundw
        case rel=>exact⟨k+1,by omega,by go_num,by rw [jl j.out];exact m,(d.alloc d.size _).trans n⟩
        case measure=>simp [intOf];omega
      · have f:=j3 (show min (g6 a k) (g6 b k)=g6 a k by omega)
        rw [f.out] at j
        clear f
        go_wp2_with (first | (go_at_call 94;refine(pg _ _ _ _ _ (by first | assumption | exact fN.of_top ‹_› ‹_› | exact fN.up ‹_› (lh _ _) | exact fN.up ‹_› (lF _ _ _) | exact fN.of_top (W:=W) ‹_› (Below.alloc ‹_› (Below.size ‹_›) _)) (by first | assumption | exact fN.of_top ‹_› ‹_› | exact fN.up ‹_› (lh _ _) | exact fN.up ‹_› (lF _ _ _) | exact fN.of_top (W:=W) ‹_› (Below.alloc ‹_› (Below.size ‹_›) _))).mono ?_;rintro e w' ⟨rfl,rfl⟩) | (go_at_call 95;refine(q5 _ _ _ _ (by first | assumption | exact fN.of_top ‹_› ‹_› | exact fN.up ‹_› (lh _ _) | exact fN.up ‹_› (lF _ _ _) | exact fN.of_top (W:=W) ‹_› (Below.alloc ‹_› (Below.size ‹_›) _))).mono ?_;rintro e w' ⟨rfl,rfl⟩) | (at_builtin;refine pI _ rfl (.tmp 26) (.tmp 28) _ rfl W.heap.size 3 8 ti nk _ _ rfl (g.alloc _) _ 1 [.int .i64 (g6 a k)] (g6 a k) rfl rfl (q4 _ _ _ _) (fun u l=>by rw [List.mem_singleton.1 l];rfl) rfl (by rw [o];simp only [maxLen];omega) (by have:=d.size;simp;omega) ?_;intro w x m n _ _))
        go_roundw
        case rel=>exact⟨k+1,by omega,by go_num,by rw [jl j.out];exact m,(d.alloc d.size _).trans n⟩
        case measure=>simp [intOf];omega
    · have p:(lI min a b).take k=lI min a b:=List.take_of_length_le (by rw [HL.out];omega)
      rw [p] at g
      clear p
      go_wp2_with (go_at_call 94;refine(pg _ _ _ _ _ (by first | assumption | exact fN.of_top ‹_› ‹_› | exact fN.up ‹_› (lh _ _) | exact fN.up ‹_› (lF _ _ _) | exact fN.of_top (W:=W) ‹_› (Below.alloc ‹_› (Below.size ‹_›) _)) (by first | assumption | exact fN.of_top ‹_› ‹_› | exact fN.up ‹_› (lh _ _) | exact fN.up ‹_› (lF _ _ _) | exact fN.of_top (W:=W) ‹_› (Below.alloc ‹_› (Below.size ‹_›) _))).mono ?_;rintro e w' ⟨rfl,rfl⟩)
      go_ret
      exact⟨_,rfl,g,d⟩
section
abbrev sc(A:Option Addr)(n c:Nat):Value:=.slice A n c
abbrev sb(g o n c:Nat):Value:=.slice (some ⟨g,o,none⟩) n c
abbrev sn:Value:=.slice none 0 0
abbrev ni(n:Int):Value:=.int .i64 n
abbrev pa(g o:Nat):Value:=.pointer (some ⟨g,o,none⟩)
abbrev Ov:=List (Nat × Value)
def lk(n:Nat):Ov→Nat→Value
 | [],_=>undef
 | (d,v) :: l,t=>bif d.beq t && Nat.blt d n then v else lk n l t
def ll(n:Nat):Ov→Array Value
 | []=>Array.replicate n undef
 | (d,v) :: l=>(ll n l).setIfInBounds d v
theorem pU(n:Nat):∀ l:Ov,(ll n l).size=n
 | []=>by simp [ll]
 | (d,v) :: l=>by simp [ll,pU n l]
theorem p5(n:Nat):∀ (l:Ov) (t:Nat),(ll n l).getD t undef=lk n l t
 | [],t=>by
  simp only [ll,lk,Array.getD_eq_getD_getElem?]
  by_cases h:t<n <;> simp [h]
 | (d,v) :: l,t=>by
  have ih:=p5 n l t
  simp only [ll,lk,Array.getD_eq_getD_getElem?] at ih ⊢
  rw [Array.getElem?_setIfInBounds]
  by_cases h:d=t
  ·subst h
   by_cases hd:d<n
   ·simp [pU,hd,Nat.blt]
    have e:Nat.ble (d+1) n=true:=Nat.ble_eq_true_of_le hd
    rw [e];rfl
   ·have e:Nat.ble (d+1) n=false:=by
     rw [Bool.eq_false_iff];intro e;exact hd (Nat.le_of_ble_eq_true e)
    simp only [pU,hd,Nat.blt,e]
    rw [← ih]
    simp [Array.getElem?_eq_none (show(ll n l).size≤d by rw [pU];omega)]
  ·have e:Nat.beq d t=false:=by rw [Bool.eq_false_iff];intro e;exact h (Nat.eq_of_beq_eq_true e)
   simp [h,e,ih]
def fd(ds:List Deferred)(n:Nat)(l:Ov):Act:=⟨ll n l,ds⟩
abbrev fr(n:Nat)(l:Ov):Act:=fd [] n l
variable {ds:List Deferred}
def ev(n:Nat)(l:Ov):Operand→Value
 | .tmp t=>lk n l t
 | .const v=>v
 | .global g => .pointer (some ⟨g,0,none⟩)
 | .func f => .func (.func f) #[] #[]
theorem no(n:Nat)(l:Ov):(fd ds n l).eval=ev n l:=by
 funext x
 cases x with
 | tmp t=>exact p5 n l t
 | _=>rfl
def pt(l:Ov):Option Tmp→Value→Ov
 | some d,v=>(d,v) :: l
 | none,_=>l
theorem n9(n:Nat)(l:Ov)(d:Option Tmp)(v:Value):(fd ds n l).put d v=fd ds n (pt l d v):=by cases d <;> rfl
def rv(n:Nat)(l:Ov):Ov→Prop
 | []=>True
 | (d,v) :: m=>(lk n l d=v∧Nat.blt d n=true)∧rv n l m
theorem BN(n:Nat)(l m:Ov)(t:Nat):rv n l m→lk n (m++l) t=lk n l t:=by
 induction m with
 | nil=>intro _;rfl
 | cons p m ih =>
  obtain⟨d,v⟩:=p
  rintro⟨⟨b,_⟩,c⟩
  show(bif d.beq t && Nat.blt d n then v else lk n (m++l) t)=_
  rw [ih c]
  by_cases a:d=t
  ·subst a;rw [b];simp
  ·have e:Nat.beq d t=false:=by rw [Bool.eq_false_iff];intro e;exact a (Nat.eq_of_beq_eq_true e)
   simp [e]
theorem zx{n:Nat}{l m:Ov}(h:rv n l m):fd ds n l=fd ds n (m++l):=by
 unfold fd
 congr 1
 refine Array.ext (by simp [pU]) fun i b c => ?_
 have e:=p5 n l i
 have a:=p5 n (m++l) i
 rw [Array.getD_eq_getD_getElem?,Array.getElem?_eq_getElem b,Option.getD_some] at e
 rw [Array.getD_eq_getD_getElem?,Array.getElem?_eq_getElem c,Option.getD_some] at a
 rw [e,a,BN n l m i h]
def qd:Nat→List Value→Ov
 | _,[]=>[]
 | k,v :: l=>(k,v) :: qd (k+1) l
theorem yE(n:Nat):∀ (l:List Value) (k t:Nat),t<n→lk n (qd k l) t=if k≤t then l.getD (t - k) undef else undef
 | [],k,t,ht=>by simp [qd,lk]
 | v :: l,k,t,ht=>by
  show(bif k.beq t && Nat.blt k n then v else lk n (qd (k+1) l) t)=_
  rw [yE n l (k+1) t ht]
  by_cases hi:k=t
  ·subst hi
   have:Nat.ble (k+1) n=true:=Nat.ble_eq_true_of_le ht
   simp [Nat.blt,this]
  ·have e:Nat.beq k t=false:=by rw [Bool.eq_false_iff];intro e;exact hi (Nat.eq_of_beq_eq_true e)
   simp only [e,Bool.false_and,cond_false]
   by_cases a:k≤t
   ·rw [if_pos (by omega),if_pos a,show t - k=(t - (k+1))+1 by omega];rfl
   ·rw [if_neg (by omega),if_neg a]
theorem Ef(l:List Value)(n:Nat)(h:l.length≤n):({ tmps:=l.toArray++Array.replicate (n - l.toArray.size) undef,defers:=[] }:Act)=fr n (qd 0 l):=by
 unfold fr fd
 congr 1
 refine Array.ext (by simp [pU];omega) fun i _ a => ?_
 have e:=p5 n (qd 0 l) i
 rw [pU] at a
 rw [yE n l 0 i a,if_pos (Nat.zero_le _),Nat.sub_zero,Array.getD_eq_getD_getElem?,Array.getElem?_eq_getElem (by rw [pU];exact a),Option.getD_some] at e
 rw [e,List.getD]
 by_cases b:i<l.length
 ·simp [Array.getElem_append,b]
 ·simp [Array.getElem_append,b]
structure WL (P:Program) (ops:Array Oper) (Q:Exit→Act→World→Prop) (l:List Oper) (a:Act) (w:World):Prop where
 out:wpList P ops Q l a w
structure WQ (P:Program) (ops:Array Oper) (C:World→Prop) (Q:Act→Prop) (l:List Oper) (a:Act):Prop where
 out:wpQuiet P ops C Q l a
inductive Kf where
 | seq (c:Code)
 | blk (id:Nat)
 | lp (I:Act→World→Prop)
def gZ(P:Program)(Q:Exit→Act→World→Prop):List Kf→Exit→Act→World→Prop
 | []=>Q
 | .seq c :: s=>Exit.then (c.wp P (gZ P Q s)) (gZ P Q s)
 | .blk id :: s=>Exit.inBlock id (gZ P Q s)
 | .lp I :: s=>Exit.then I (gZ P Q s)
section
variable {P:Program} {Q:Exit→Act→World→Prop} {s:List Kf} {a:Act} {w:World} {x y c:Code} {id i n:Nat}
theorem fJ(h:x.wp P (gZ P Q (.seq y :: s)) a w):(Code.seq x y).wp P (gZ P Q s) a w:=wp_seq h
theorem go(h:c.wp P (gZ P Q (.blk id :: s)) a w):(Code.block id c).wp P (gZ P Q s) a w:=wp_block h
theorem g1(h:gZ P Q s .normal a w):Code.skip.wp P (gZ P Q s) a w:=wp_skip h
theorem iP(h:gZ P Q s (.exit id) a w):(Code.exit id).wp P (gZ P Q s) a w:=wp_exit h
theorem sS(h:Q .ret a w):∀ s:List Kf,gZ P Q s .ret a w
 | []=>h
 | .seq _ :: s=>sS h s
 | .blk _ :: s=>sS h s
 | .lp _ :: s=>sS h s
theorem fR(h:Q .ret a w):Code.ret.wp P (gZ P Q s) a w:=wp_ret (sS h s)
theorem fM(h:y.wp P (gZ P Q s) a w):gZ P Q (.seq y :: s) .normal a w:=h
theorem gA(h:gZ P Q s .normal a w):gZ P Q (.blk id :: s) .normal a w:=h
theorem fK{I:Act→World→Prop}(h:I a w):gZ P Q (.lp I :: s) .normal a w:=h
theorem iQ(h:gZ P Q s (.exit i) a w):gZ P Q (.seq y :: s) (.exit i) a w:=h
theorem j0{I:Act→World→Prop}(h:gZ P Q s (.exit i) a w):gZ P Q (.lp I :: s) (.exit i) a w:=h
theorem iR(h:gZ P Q s .normal a w):gZ P Q (.blk id :: s) (.exit id) a w:=by
 show(if id=id then _ else _);rw [if_pos rfl];exact h
theorem fS{l:Ov}{o:Operand}(hc:ev n l o = .bool true)(h:x.wp P (gZ P Q s) (fd ds n l) w):(Code.cond o x y).wp P (gZ P Q s) (fd ds n l) w:=wp_cond_true (by rw [no];exact hc) h
theorem fV{l:Ov}{o:Operand}(hc:ev n l o = .bool false)(h:y.wp P (gZ P Q s) (fd ds n l) w):(Code.cond o x y).wp P (gZ P Q s) (fd ds n l) w:=wp_cond_false (by rw [no];exact hc) h
theorem gU{l:List Oper}(h:WL P l.toArray (gZ P Q s) l a w):(Code.region id l.toArray false).wp P (gZ P Q s) a w:=wp_region_lit h.1
theorem jZ{l:List Oper}{C:World→Prop}(hm:P.follows .mixedOrders=true)(hB:Region.lexB .any l.toArray=true)(hC:C w.drew)
  (h:WQ P l.toArray C (fun a' => ∀ w',C w'→gZ P Q s .normal a' w') l a):(Code.region id l.toArray true).wp P (gZ P Q s) a w :=
 wp_region_quiet hm hB hC (by simpa using h.1)
theorem fL{ops:Array Oper}(h:gZ P Q s .normal a w):WL P ops (gZ P Q s) [] a w:=⟨h⟩
theorem ig{ops:Array Oper}{C:World→Prop}(h:∀ w',C w'→gZ P Q s .normal a w'):WQ P ops C (fun a' => ∀ w',C w'→gZ P Q s .normal a' w') [] a:=⟨h⟩
theorem yF{p:Nat→Prop}(h:∃ m,p m):∃ m,p m ∧ ∀ k,p k→m≤k:=by
 obtain⟨m,b⟩:=h
 induction m using Nat.strongRecOn with
 | _ m ih =>
  by_cases a:∃ k,k<m∧p k
  ·obtain⟨k,c,d⟩:=a
   exact ih k c d
  ·exact⟨m,b,fun k e=>Nat.le_of_not_lt fun f=>a ⟨k,f,e⟩⟩
def B9{ι:Type}(ds:List Deferred)(n:Nat)(J:ι→Ov→World→Prop)(m:ι→Nat)(b:Nat)(a:Act)(w:World):Prop:=∃ i ov,a=fd ds n ov∧J i ov w∧m i<b
open Classical in
theorem j1{ι:Type}(J:ι→Ov→World→Prop)(m:ι→Nat)(i0:ι){ov:Ov}(h0:J i0 ov w)
  (round:∀ i ov w,J i ov w→c.wp P (gZ P Q (.lp (B9 ds n J m (m i)) :: s)) (fd ds n ov) w):(Code.loop c).wp P (gZ P Q s) (fd ds n ov) w:=by
 let p:Act→World→Nat→Prop:=fun a w k => ∃ i ov,a=fd ds n ov∧J i ov w∧m i=k
 let μ:Act→World→Nat:=fun a w=>if h:∃ k,p a w k then Classical.choose (yF h) else 0
 have hμ:∀ a w,(∃ k,p a w k)→p a w (μ a w) ∧ ∀ k,p a w k→μ a w≤k:=fun a w h=>by
  show p a w (dite _ _ _) ∧ ∀ k,p a w k→(dite _ _ _)≤k
  rw [dif_pos h]
  exact Classical.choose_spec (yF h)
 refine wp_loop (fun a w => ∃ k,p a w k) μ ⟨_,i0,ov,rfl,h0,rfl⟩ fun a w l => ?_
 obtain⟨⟨i,ov',o,q,_⟩,_⟩:=hμ a w l
 subst o
 refine wp_mono (round i ov' w q) fun e a' w' b => ?_
 cases e <;> first | exact b | skip
 obtain⟨i',d,f,g,_⟩:=b
 have j:∃ k,p a' w' k:=⟨_,i',d,f,g,rfl⟩
 exact⟨j,by have:=(hμ a' w' j).2 (m i') ⟨i',d,f,g,rfl⟩;omega⟩
theorem io{f:FuncId}{fn:Func}{args:List Value}{R:Ending→World→Prop}(n:Nat)(hf:P.funcs[f]? = some fn)(hb:fn.body=some c)(hn:fn.ntmps=n)(hl:Nat.ble args.length n=true)
  (h:c.wp P (gZ P (bodyPost P fn R) []) (fr n (qd 0 args)) w):Calls P f args.toArray w R :=
 calls_of_wp hf hb (by
  subst hn
  rw [Ef args fn.ntmps (Nat.le_of_ble_eq_true hl)]
  exact h)
theorem md{y:Code}{J:Ov→World→Prop}{l:Ov}(h:x.wp P (gZ P Q (.lp (fun a w => ∃ ov,a=fd ds n ov∧J ov w) :: s)) (fd ds n l) w)(k:∀ ov w,J ov w→y.wp P (gZ P Q s) (fd ds n ov) w):(Code.seq x y).wp P (gZ P Q s) (fd ds n l) w:=by
 refine wp_seq (wp_mono h fun e a w b => ?_)
 cases e <;> first | exact b | skip
 obtain⟨ov,rfl,c⟩:=b
 exact k ov w c
end
def Yv(P:Program)(C:World→Prop)(e:Operand→Value)(o:Oper)(v:Value):Prop:=∀ w,C w→(execOp e o).run P w = .ok (.value v) w
section
variable {P:Program} {Q:Exit→Act→World→Prop} {w:World} {n:Nat} {l:Ov} {o:Oper} {rest:List Oper} {ops:Array Oper} {C:World→Prop} {v:Value} {Qa:Act→Prop}
theorem BY(S:C w)(Y:Yv P C (ev n l) o v)(hg:o.guard=none)(h:wpList P ops Q rest (fd ds n (pt l o.dst v)) w):wpList P ops Q (o :: rest) (fd ds n l) w:=by
 refine wpList_plain hg fun K a => ?_
 unfold Oper.wp
 rw [no,Y w S,Oper.upon_value,n9]
 exact a _ _ h
theorem pz{j d:Nat}{b:Bool}(hd:(ops[j]?).bind (·.dst)=some d)(hb:lk n l d = .bool b):yielded ops (ll n l) j=some b:=by
 unfold yielded
 rw [hd]
 have e:=p5 n l d
 rw [hb,Array.getD_eq_getD_getElem?] at e
 simp only [Option.bind_some]
 rcases h:(ll n l)[d]? with _ | x
 ·rw [h] at e;cases e
 ·rw [h] at e;simp only [Option.getD_some] at e;subst e;rfl
theorem El{j d:Nat}{b:Bool}(S:C w)(Y:Yv P C (ev n l) o v)(hg:o.guard=some (j,b))(hd:(ops[j]?).bind (·.dst)=some d)(hb:lk n l d = .bool b)
  (h:wpList P ops Q rest (fd ds n (pt l o.dst v)) w):wpList P ops Q (o :: rest) (fd ds n l) w:=by
 refine wpList_step fun K a => ?_
 have c:Region.wanted o (yielded ops (fd ds n l).tmps)=true:=by
  unfold Region.wanted;rw [hg];show(yielded ops (ll n l) j == some b)=true
  rw [pz hd hb];simp
 rw [if_pos c]
 unfold Oper.wp
 rw [no,Y w S,Oper.upon_value,n9]
 exact a _ _ h
theorem CV{j d:Nat}{b:Bool}(hg:o.guard=some (j,b))(hd:(ops[j]?).bind (·.dst)=some d)(hb:lk n l d = .bool (!b))
  (h:wpList P ops Q rest (fd ds n (pt l o.dst undef)) w):wpList P ops Q (o :: rest) (fd ds n l) w:=by
 refine wpList_step fun K a => ?_
 have c:Region.wanted o (yielded ops (fd ds n l).tmps)=false:=by
  unfold Region.wanted;rw [hg];show(yielded ops (ll n l) j == some b)=false
  rw [pz hd hb];cases b <;> rfl
 rw [if_neg (by rw [c];simp),n9]
 exact a _ _ h
theorem E1(Y:Yv P C (ev n l) o v)(hg:o.guard=none)(h:wpQuiet P ops C Qa rest (fd ds n (pt l o.dst v))):wpQuiet P ops C Qa (o :: rest) (fd ds n l):=by
 refine wpQuiet_step fun K a => ?_
 have b:Region.wanted o (yielded ops (fd ds n l).tmps)=true:=by unfold Region.wanted;rw [hg]
 rw [if_pos b]
 refine⟨v,fun w S => ?_,?_⟩
 ·unfold Oper.quietAt;rw [no,Y w S];exact⟨rfl,rfl⟩
 ·rw [n9];exact a _ h
theorem Aq{j d:Nat}{b:Bool}(Y:Yv P C (ev n l) o v)(hg:o.guard=some (j,b))(hd:(ops[j]?).bind (·.dst)=some d)(hb:lk n l d = .bool b)
  (h:wpQuiet P ops C Qa rest (fd ds n (pt l o.dst v))):wpQuiet P ops C Qa (o :: rest) (fd ds n l):=by
 refine wpQuiet_step fun K a => ?_
 have c:Region.wanted o (yielded ops (fd ds n l).tmps)=true:=by
  unfold Region.wanted;rw [hg];show(yielded ops (ll n l) j == some b)=true
  rw [pz hd hb];simp
 rw [if_pos c]
 refine⟨v,fun w S => ?_,?_⟩
 ·unfold Oper.quietAt;rw [no,Y w S];exact⟨rfl,rfl⟩
 ·rw [n9];exact a _ h
theorem Cv{j d:Nat}{b:Bool}(hg:o.guard=some (j,b))(hd:(ops[j]?).bind (·.dst)=some d)(hb:lk n l d = .bool (!b))
  (h:wpQuiet P ops C Qa rest (fd ds n (pt l o.dst undef))):wpQuiet P ops C Qa (o :: rest) (fd ds n l):=by
 refine wpQuiet_step fun K a => ?_
 have c:Region.wanted o (yielded ops (fd ds n l).tmps)=false:=by
  unfold Region.wanted;rw [hg];show(yielded ops (ll n l) j == some b)=false
  rw [pz hd hb];cases b <;> rfl
 rw [if_neg (by rw [c];simp),n9]
 exact a _ h
def CK(ds:List Deferred)(P:Program)(ops:Array Oper)(Q:Exit→Act→World→Prop)(rest:List Oper)(n:Nat)(l:Ov)(d:Option Tmp):Ending→World→Prop
 | .returned v,w=>WL P ops Q rest (fd ds n (pt l d v)) w
 | _,_=>False
theorem ck{d:Option Tmp}(h:WL P ops Q rest (fd ds n (pt l d v)) w):CK ds P ops Q rest n l d (.returned v) w:=h
def En(P:Program)(e:Operand→Value)(o:Oper)(f:FuncId)(vs:Array Value):Prop:=∀ w,(execOp e o).run P w = .ok (.enter f vs) w
theorem xf{f:FuncId}{vs:Array Value}(E:En P (ev n l) o f vs)(h:Calls P f vs w (CK ds P ops Q rest n l o.dst))(K:Act→World→Prop)(hK:∀ a w,wpList P ops Q rest a w→K a w):o.wp P (fd ds n l) w K Q:=by
 unfold Oper.wp
 rw [no,E w,Oper.upon_enter]
 refine h.mono fun e _ b => ?_
 cases e with
 | returned v=>show K _ _;rw [n9];exact hK _ _ b.1
 | panicked _=>exact b.elim
 | outgrown=>exact b.elim
theorem C5{f:FuncId}{vs:Array Value}{R:Ending→World→Prop}(E:En P (ev n l) o f vs)(hg:o.guard=none)(c:Calls P f vs w R)(h:∀ e w',R e w'→CK ds P ops Q rest n l o.dst e w'):wpList P ops Q (o :: rest) (fd ds n l) w :=
 wpList_plain hg (xf E (c.mono h))
theorem Az{j d:Nat}{b:Bool}{f:FuncId}{vs:Array Value}{R:Ending→World→Prop}(E:En P (ev n l) o f vs)(hg:o.guard=some (j,b))(hd:(ops[j]?).bind (·.dst)=some d)(hb:lk n l d = .bool b)
  (c:Calls P f vs w R) (h:∀ e w',R e w'→CK ds P ops Q rest n l o.dst e w'):wpList P ops Q (o :: rest) (fd ds n l) w:=by
 refine wpList_step fun K a => ?_
 have g:Region.wanted o (yielded ops (fd ds n l).tmps)=true:=by
  unfold Region.wanted;rw [hg];show(yielded ops (ll n l) j == some b)=true
  rw [pz hd hb];simp
 rw [if_pos g]
 exact xf E (c.mono h) K a
theorem xo{f:FuncId}{vs:Array Value}(E:En P (ev n l) o f vs)(c:∀ w,C w→Calls P f vs w (fun e w'=>e = .returned v∧C w')){K:Act→Prop}(h:K (fd ds n (pt l o.dst v))):o.quiet P (fd ds n l) C K:=by
 refine⟨v,fun w S => ?_,by rw [n9];exact h⟩
 unfold Oper.quietAt;rw [no,E w];exact⟨rfl,c w S⟩
theorem F0{f:FuncId}{vs:Array Value}(E:En P (ev n l) o f vs)(hg:o.guard=none)(c:∀ w,C w→Calls P f vs w (fun e w'=>e = .returned v∧C w'))(h:wpQuiet P ops C Qa rest (fd ds n (pt l o.dst v))):wpQuiet P ops C Qa (o :: rest) (fd ds n l):=by
 refine wpQuiet_step fun K a => ?_
 have b:Region.wanted o (yielded ops (fd ds n l).tmps)=true:=by unfold Region.wanted;rw [hg]
 rw [if_pos b]
 exact xo E c (a _ h)
theorem DX{j d:Nat}{b:Bool}{f:FuncId}{vs:Array Value}(E:En P (ev n l) o f vs)(hg:o.guard=some (j,b))(hd:(ops[j]?).bind (·.dst)=some d)(hb:lk n l d = .bool b)
  (c:∀ w,C w→Calls P f vs w (fun e w'=>e = .returned v∧C w')) (h:wpQuiet P ops C Qa rest (fd ds n (pt l o.dst v))):wpQuiet P ops C Qa (o :: rest) (fd ds n l):=by
 refine wpQuiet_step fun K a => ?_
 have g:Region.wanted o (yielded ops (fd ds n l).tmps)=true:=by
  unfold Region.wanted;rw [hg];show(yielded ops (ll n l) j == some b)=true
  rw [pz hd hb];simp
 rw [if_pos g]
 exact xo E c (a _ h)
def Tw(P:Program)(e:Operand→Value)(o:Oper)(w:World)(v:Value)(w':World):Prop:=(execOp e o).run P w = .ok (.value v) w'∨(v=undef∧(execOp e o).run P w = .ok .skip w')
theorem x4{w':World}(T:Tw P (ev n l) o w v w')(hg:o.guard=none)(h:wpList P ops Q rest (fd ds n (pt l o.dst v)) w'):wpList P ops Q (o :: rest) (fd ds n l) w:=by
 refine wpList_plain hg fun K a => ?_
 unfold Oper.wp
 rcases T with T | ⟨rfl,T⟩
 ·rw [no,T,Oper.upon_value,n9];exact a _ _ h
 ·rw [no,T,Oper.upon_skip,n9];exact a _ _ h
end
section
variable {P:Program} {Q:Exit→Act→World→Prop} {w:World} {n d j d':Nat} {l:Ov} {b:Bool} {op:Op} {ty:TypeId} {pos:String} {af:Array Edge} {rest:List Oper} {ops:Array Oper} {C:World→Prop} {v:Value} {Qa:Act→Prop}
theorem CX(S:C w)(Y:Yv P C (ev n l) ⟨some d,op,ty,pos,af,none⟩ v)(h:WL P ops Q rest (fd ds n ((d,v) :: l)) w):WL P ops Q (⟨some d,op,ty,pos,af,none⟩ :: rest) (fd ds n l) w:=⟨BY S Y rfl h.1⟩
theorem Cj(S:C w)(Y:Yv P C (ev n l) ⟨some d,op,ty,pos,af,some (j,b)⟩ v)(hd:(ops.toList[j]?).bind (·.dst)=some d')(hb:lk n l d' = .bool b)(h:WL P ops Q rest (fd ds n ((d,v) :: l)) w):WL P ops Q (⟨some d,op,ty,pos,af,some (j,b)⟩ :: rest) (fd ds n l) w:=⟨El S Y rfl (by rwa [Array.getElem?_toList] at hd) hb h.1⟩
theorem DC(hd:(ops.toList[j]?).bind (·.dst)=some d')(hb:lk n l d' = .bool (!b))(h:WL P ops Q rest (fd ds n ((d,undef) :: l)) w):WL P ops Q (⟨some d,op,ty,pos,af,some (j,b)⟩ :: rest) (fd ds n l) w:=⟨CV rfl (by rwa [Array.getElem?_toList] at hd) hb h.1⟩
theorem Bg(Y:Yv P C (ev n l) ⟨some d,op,ty,pos,af,none⟩ v)(h:WQ P ops C Qa rest (fd ds n ((d,v) :: l))):WQ P ops C Qa (⟨some d,op,ty,pos,af,none⟩ :: rest) (fd ds n l):=⟨E1 Y rfl h.1⟩
theorem Ao(Y:Yv P C (ev n l) ⟨some d,op,ty,pos,af,some (j,b)⟩ v)(hd:(ops.toList[j]?).bind (·.dst)=some d')(hb:lk n l d' = .bool b)(h:WQ P ops C Qa rest (fd ds n ((d,v) :: l))):WQ P ops C Qa (⟨some d,op,ty,pos,af,some (j,b)⟩ :: rest) (fd ds n l):=⟨Aq Y rfl (by rwa [Array.getElem?_toList] at hd) hb h.1⟩
theorem Au(hd:(ops.toList[j]?).bind (·.dst)=some d')(hb:lk n l d' = .bool (!b))(h:WQ P ops C Qa rest (fd ds n ((d,undef) :: l))):WQ P ops C Qa (⟨some d,op,ty,pos,af,some (j,b)⟩ :: rest) (fd ds n l):=⟨Cv rfl (by rwa [Array.getElem?_toList] at hd) hb h.1⟩
theorem g7{f:FuncId}{vs:Array Value}{R:Ending→World→Prop}(E:En P (ev n l) ⟨some d,op,ty,pos,af,none⟩ f vs)(c:Calls P f vs w R)(h:∀ e w',R e w'→CK ds P ops Q rest n l (some d) e w'):WL P ops Q (⟨some d,op,ty,pos,af,none⟩ :: rest) (fd ds n l) w:=⟨C5 E rfl c h⟩
theorem lj{f:FuncId}{vs:Array Value}{R:Ending→World→Prop}(E:En P (ev n l) ⟨some d,op,ty,pos,af,some (j,b)⟩ f vs)(hd:(ops.toList[j]?).bind (·.dst)=some d')(hb:lk n l d' = .bool b)(c:Calls P f vs w R)(h:∀ e w',R e w'→CK ds P ops Q rest n l (some d) e w'):WL P ops Q (⟨some d,op,ty,pos,af,some (j,b)⟩ :: rest) (fd ds n l) w:=⟨Az E rfl (by rwa [Array.getElem?_toList] at hd) hb c h⟩
theorem n0{f:FuncId}{vs:Array Value}(E:En P (ev n l) ⟨some d,op,ty,pos,af,none⟩ f vs)(c:∀ w,C w→Calls P f vs w (fun e w'=>e = .returned v∧C w'))(h:WQ P ops C Qa rest (fd ds n ((d,v) :: l))):WQ P ops C Qa (⟨some d,op,ty,pos,af,none⟩ :: rest) (fd ds n l):=⟨F0 E rfl c h.1⟩
theorem nR{f:FuncId}{vs:Array Value}(E:En P (ev n l) ⟨some d,op,ty,pos,af,some (j,b)⟩ f vs)(hd:(ops.toList[j]?).bind (·.dst)=some d')(hb:lk n l d' = .bool b)(c:∀ w,C w→Calls P f vs w (fun e w'=>e = .returned v∧C w'))(h:WQ P ops C Qa rest (fd ds n ((d,v) :: l))):WQ P ops C Qa (⟨some d,op,ty,pos,af,some (j,b)⟩ :: rest) (fd ds n l):=⟨DX E rfl (by rwa [Array.getElem?_toList] at hd) hb c h.1⟩
theorem mz{w':World}(T:Tw P (ev n l) ⟨some d,op,ty,pos,af,none⟩ w v w')(h:WL P ops Q rest (fd ds n ((d,v) :: l)) w'):WL P ops Q (⟨some d,op,ty,pos,af,none⟩ :: rest) (fd ds n l) w:=⟨x4 T rfl h.1⟩
theorem rU{w':World}(T:Tw P (ev n l) ⟨none,op,ty,pos,af,none⟩ w v w')(h:WL P ops Q rest (fd ds n l) w'):WL P ops Q (⟨none,op,ty,pos,af,none⟩ :: rest) (fd ds n l) w:=⟨x4 T rfl h.1⟩
theorem g9(h:WL P ops Q rest (fd ds n ((d,v) :: l)) w):CK ds P ops Q rest n l (some d) (.returned v) w:=h
end
theorem q6{α β:Type}{e:α→β}{aS:Array α}{us:List β}(h:aS.toList.map e=us):aS.map e=us.toArray:=by subst h;cases aS;simp
section
variable {P:Program} {C:World→Prop} {e:Operand→Value} {d:Option Tmp} {t ty:TypeId} {pos:String} {af:Array Edge} {g:Option (Nat × Bool)} {v:Value} {x y c:Operand}
theorem l7(h:e x=v):Yv P C e ⟨d,.move x,ty,pos,af,g⟩ v:=fun w _=>by subst h;rfl
theorem kI(h:e x=v):Yv P C e ⟨d,.assign x,ty,pos,af,g⟩ v:=fun w _=>by subst h;rfl
theorem rK(hc:e c = .bool true)(h:e x=v):Yv P C e ⟨d,.pick c x y,ty,pos,af,g⟩ v:=fun w _=>by subst h;simp [execOp,hc,asBool]
theorem uh(hc:e c = .bool false)(h:e y=v):Yv P C e ⟨d,.pick c x y,ty,pos,af,g⟩ v:=fun w _=>by subst h;simp [execOp,hc,asBool]
theorem B5{i:Nat}{vs:Array Value}(h:e x = .tuple vs)(hi:vs[i]? = some v):Yv P C e ⟨d,.extract x i,ty,pos,af,g⟩ v:=fun w _=>by simp [execOp,h,Instr.extract,hi]
theorem iH{b b':Bool}(h:e x = .bool b)(hb:(!b)=b'):Yv P C e ⟨d,.unOp .not t x,ty,pos,af,g⟩ (.bool b'):=fun w _=>by subst hb;simp [execOp,h,Op.unary]
theorem wV{b:Addr}(h:e x = .pointer (some b)):Yv P C e ⟨d,.nilCheck x,ty,pos,af,g⟩ (.pointer (some b)):=fun w _=>by simp [execOp,h]
theorem qq{f:Fn}{aS bs:Array Operand}{aS' bs':List Value}(h1:aS.toList.map e=aS')(h2:bs.toList.map e=bs'):Yv P C e ⟨d,.makeFunc f aS bs,ty,pos,af,g⟩ (.func f aS'.toArray bs'.toArray):=fun w _=>by rw [← q6 h1,← q6 h2];rfl
section
variable {k:IntKind} {p q:Int} {yt:TypeId} {b:Bool}
theorem bo(op:BinOp)(h1:e x = .int k p)(h2:e y = .int k q)(w:World)(h:(binOp op t (.int k p) (.int k q)).run P w = .ok v w):(execOp e ⟨d,.binOp op t x y yt,ty,pos,af,g⟩).run P w = .ok (.value v) w:=by
 simp [execOp,h1,h2,eqGuard]
 rw [h]
 cases op <;> rfl
theorem oc(op:BinOp)(hop:op = .eql∨op = .neq∨op = .lss∨op = .leq∨op = .gtr∨op = .geq)(w:World):(binOp op t (.int k p) (.int k q)).run P w=(Op.intCmp op p q).run P w:=by
 rcases hop with rfl | rfl | rfl | rfl | rfl | rfl <;> simp [binOp]
theorem gJ(h1:e x = .int k p)(h2:e y = .int k q)(h:p<q):Yv P C e ⟨d,.binOp .lss t x y yt,ty,pos,af,g⟩ (.bool true):=fun w _=>bo _ h1 h2 w (by rw [oc _ (by simp)];simp [Op.intCmp,h])
theorem gH(h1:e x = .int k p)(h2:e y = .int k q)(h:¬ p<q):Yv P C e ⟨d,.binOp .lss t x y yt,ty,pos,af,g⟩ (.bool false):=fun w _=>bo _ h1 h2 w (by rw [oc _ (by simp)];simp [Op.intCmp];omega)
theorem zQ(h1:e x = .int k p)(h2:e y = .int k q)(h:p≤q):Yv P C e ⟨d,.binOp .leq t x y yt,ty,pos,af,g⟩ (.bool true):=fun w _=>bo _ h1 h2 w (by rw [oc _ (by simp)];simp [Op.intCmp,h])
theorem wJ(h1:e x = .int k p)(h2:e y = .int k q)(h:¬ p≤q):Yv P C e ⟨d,.binOp .leq t x y yt,ty,pos,af,g⟩ (.bool false):=fun w _=>bo _ h1 h2 w (by rw [oc _ (by simp)];simp [Op.intCmp];omega)
theorem ko(h1:e x = .int k p)(h2:e y = .int k q)(h:q<p):Yv P C e ⟨d,.binOp .gtr t x y yt,ty,pos,af,g⟩ (.bool true):=fun w _=>bo _ h1 h2 w (by rw [oc _ (by simp)];simp [Op.intCmp,h])
theorem kt(h1:e x = .int k p)(h2:e y = .int k q)(h:¬ q<p):Yv P C e ⟨d,.binOp .gtr t x y yt,ty,pos,af,g⟩ (.bool false):=fun w _=>bo _ h1 h2 w (by rw [oc _ (by simp)];simp [Op.intCmp];omega)
theorem jY(h1:e x = .int k p)(h2:e y = .int k q)(h:q≤p):Yv P C e ⟨d,.binOp .geq t x y yt,ty,pos,af,g⟩ (.bool true):=fun w _=>bo _ h1 h2 w (by rw [oc _ (by simp)];simp [Op.intCmp,h])
theorem k4(h1:e x = .int k p)(h2:e y = .int k q)(h:¬ q≤p):Yv P C e ⟨d,.binOp .geq t x y yt,ty,pos,af,g⟩ (.bool false):=fun w _=>bo _ h1 h2 w (by rw [oc _ (by simp)];simp [Op.intCmp];omega)
theorem iw(h1:e x = .int k p)(h2:e y = .int k q)(h:p=q):Yv P C e ⟨d,.binOp .eql t x y yt,ty,pos,af,g⟩ (.bool true):=fun w _=>bo _ h1 h2 w (by rw [oc _ (by simp)];simp [Op.intCmp,h])
theorem i5(h1:e x = .int k p)(h2:e y = .int k q)(h:¬ p=q):Yv P C e ⟨d,.binOp .eql t x y yt,ty,pos,af,g⟩ (.bool false):=fun w _=>bo _ h1 h2 w (by rw [oc _ (by simp)];simp [Op.intCmp,h])
theorem j4(h1:e x = .int k p)(h2:e y = .int k q)(h:¬ p=q):Yv P C e ⟨d,.binOp .neq t x y yt,ty,pos,af,g⟩ (.bool true):=fun w _=>bo _ h1 h2 w (by rw [oc _ (by simp)];simp [Op.intCmp,h])
theorem iT(h1:e x = .int k p)(h2:e y = .int k q)(h:p=q):Yv P C e ⟨d,.binOp .neq t x y yt,ty,pos,af,g⟩ (.bool false):=fun w _=>bo _ h1 h2 w (by rw [oc _ (by simp)];simp [Op.intCmp,h])
theorem gw{r:Int}(h1:e x = .int k p)(h2:e y = .int k q)(h:k.wrap (p+q)=r):Yv P C e ⟨d,.binOp .add t x y yt,ty,pos,af,g⟩ (.int k r):=fun w _=>bo _ h1 h2 w (by subst h;simp [binOp,Op.intArith])
theorem qX{r:Int}(h1:e x = .int k p)(h2:e y = .int k q)(h:k.wrap (p - q)=r):Yv P C e ⟨d,.binOp .sub t x y yt,ty,pos,af,g⟩ (.int k r):=fun w _=>bo _ h1 h2 w (by subst h;simp [binOp,Op.intArith])
theorem v8{r:Int}(h1:e x = .int k p)(h2:e y = .int k q)(h:k.wrap (p * q)=r):Yv P C e ⟨d,.binOp .mul t x y yt,ty,pos,af,g⟩ (.int k r):=fun w _=>bo _ h1 h2 w (by subst h;simp [binOp,Op.intArith])
end
theorem xI{A:Option Addr}{m cp:Nat}{ts:Array TypeId}{el:TypeId}(ht:P.underlying t=some (.slice el))(hts:ts[0]? = some t)(h:e x = .slice A m cp):Yv P C e ⟨d,.call ⟨.builtin .len,#[x],ts⟩,ty,pos,af,g⟩ (.int .i64 m):=fun w _=>by
 simp [execOp,resolve,invoke,builtin,h,hts,Builtin.len_,goInt,run_underlying ht]
theorem Dj{k:IntKind}{p q:Int}{ts:Array TypeId}(h1:e x = .int k p)(h2:e y = .int k q):Yv P C e ⟨d,.call ⟨.builtin .max,#[x,y],ts⟩,ty,pos,af,g⟩ (.int k (max p q)):=fun w _=>by
 simp [execOp,resolve,invoke,builtin,h1,h2,Builtin.max_,Builtin.max2]
 split <;> omega
theorem CW{k:IntKind}{p q:Int}{ts:Array TypeId}(h1:e x = .int k p)(h2:e y = .int k q):Yv P C e ⟨d,.call ⟨.builtin .min,#[x,y],ts⟩,ty,pos,af,g⟩ (.int k (min p q)):=fun w _=>by
 simp [execOp,resolve,invoke,builtin,h1,h2,Builtin.min_,Builtin.min2]
 split <;> omega
theorem g4{f:FuncId}{aS:Array Operand}{vs:List Value}{ts:Array TypeId}(hf:∀ w,(callFunc f vs.toArray).run P w = .ok (.enter f vs.toArray) w)(hx:e x = .func (.func f) #[] #[])(h:aS.toList.map e=vs):En P e ⟨d,.call ⟨.value x,aS,ts⟩,ty,pos,af,g⟩ f vs.toArray:=fun w=>by
 have:=hf w
 have h:=q6 h
 simp [execOp,resolve,invoke,hx,Deferred.ofValue,h,this]
theorem lr{f:FuncId}{aS:Array Operand}{vs us cs:List Value}{ts:Array TypeId}(hf:∀ w,(callFunc f us.toArray).run P w = .ok (.enter f us.toArray) w)(hx:e x = .func (.func f) #[] cs.toArray)(h:aS.toList.map e=vs)(hu:vs++cs=us):En P e ⟨d,.call ⟨.value x,aS,ts⟩,ty,pos,af,g⟩ f us.toArray:=fun w=>by
 have:=hf w
 have h:=q6 h
 subst hu
 simp [execOp,resolve,invoke,hx,Deferred.ofValue,h,this]
end
theorem gl{x:Int}(h1:-9223372036854775808≤x)(h2:x≤9223372036854775807):IntKind.i64.wrap x=x:=IntWalk.i64_in _ (by omega)
end
section
structure h7 where
 e:TypeId
 size:Nat
 v:Value
 n:Nat
 xs:List Value
abbrev je:=Nat × TypeId × Array Value
def ext(r:Rd)(w w':World):Rd:=fun b o=>if b<w.heap.size then r b o else w'.cell? ⟨b,o,none⟩
def k8(r:Rd)(w:World)(g:Option Nat):Rd:=fun b o=>if some b=g then w.cell? ⟨b,o,none⟩ else r b o
structure jj (X:List Nat) (w w':World):Prop where
 os:w'.os=w.os
 tape:w'.tape=w.tape
 output:w'.output=w.output
 size:w.heap.size≤w'.heap.size
 block:∀ k,k<w.heap.size→k ∉ X→w'.heap[k]? = w.heap[k]?
theorem jj.below{w w':World}(h:jj [] w w'):Below w.heap.size w w':=⟨h.os,h.tape,h.output,h.size,fun k hk=>h.block k hk (by simp)⟩
theorem jj.refl(X:List Nat)(w:World):jj X w w:=⟨rfl,rfl,rfl,Nat.le_refl _,fun _ _ _=>rfl⟩
structure St (X:List Nat) (W:World) (r0 rd:Rd) (bx:List je) (ow:List h7) (w:World):Prop where
 fr:jj X W w
 sub:∀ b o v,b<W.heap.size→rd b o=some v→r0 b o=some v
 sup:Rd.le r0 rd
 le:Rd.le rd (fX w)
 box:∀ p∈bx,(W.heap.size≤p.1∨p.1∈X)∧w.heap[p.1]? = some (.cells p.2.2 p.2.1 (0,0)) ∧ ∀ o,rd p.1 o=none
 own:∀ q∈ow,w.ownsRow 0 q.e q.size q.v q.n q.xs ∧ ∀ g,q.v.ownBlock=some g→(W.heap.size≤g∨g∈X) ∧ ∀ o,rd g o=none
 d1:bx.Pairwise fun p q=>p.1 ≠ q.1
 d2:ow.Pairwise fun p q=>p.v.ownBlock=none∨p.v.ownBlock ≠ q.v.ownBlock
 d3:∀ p∈bx,∀ q∈ow,q.v.ownBlock ≠ some p.1
section
variable {X:List Nat} {W w w':World} {r0 rd:Rd} {bx:List je} {ow:List h7}
theorem St.below(S:St [] W r0 rd bx ow w):Below W.heap.size W w:=S.fr.below
theorem St.start(h:Rd.le r0 (fX W)):St X W r0 r0 [] [] W :=
 ⟨jj.refl _ _,fun _ _ _ _ h=>h,Rd.le_refl _,h,by simp,by simp,.nil,.nil,by simp⟩
theorem St.base_le(S:St X W r0 rd bx ow w):W.heap.size≤w.heap.size:=S.fr.size
theorem St.lt_box(S:St X W r0 rd bx ow w){p:je}(hp:p∈bx):p.1<w.heap.size:=by
 have:=(S.box p hp).2.1
 rcases Nat.lt_or_ge p.1 w.heap.size with h | h
 ·exact h
 ·rw [Array.getElem?_eq_none h] at this;cases this
theorem St.free(S:St X W r0 rd bx ow w){k:Nat}(hk:w.heap.size≤k)(o:Nat):rd k o=none:=by
 cases h:rd k o with
 | none=>rfl
 | some v=>have:=o8 (S.le _ _ _ h);omega
theorem vQ{w w':World}(k:Below w.heap.size w w'):w.grownBy w' none:=⟨k.os,k.tape,k.output,k.size,fun i hi _=>k.block i hi⟩
theorem tB{rd:Rd}{w w':World}{row:Option Nat}(h:Rd.le rd (fX w))(hg:w.grownBy w' row)(hr:∀ k,row=some k → ∀ o,rd k o=none):Rd.le rd (fX w'):=fun b o v e=>by
 have hlt:=o8 (h _ _ _ e)
 have hne:some b ≠ row:=fun e2=>by have:=hr b e2.symm o;rw [e] at this;cases this
 exact(World.cell?_of_block (w:=w) (a:=⟨b,o,none⟩) (hg.block b hlt hne)).trans (h _ _ _ e)
theorem St.fr_grown(S:St X W r0 rd bx ow w){row:Option Nat}(hg:w.grownBy w' row)(hr:∀ k,row=some k→W.heap.size≤k∨k∈X):jj X W w' :=
 ⟨hg.os.trans S.fr.os,hg.tape.trans S.fr.tape,hg.output.trans S.fr.output,Nat.le_trans S.fr.size hg.size,fun k hk hX=>by
  rw [hg.block k (Nat.lt_of_lt_of_le hk S.fr.size) (fun e=>(hr k e.symm).elim (fun h=>by omega) hX)]
  exact S.fr.block k hk hX⟩
theorem sm(S:St X W r0 rd bx ow w){row:Option Nat}(hg:w.grownBy w' row){p:je}(hp:p∈bx)(hne:row ≠ some p.1):w'.heap[p.1]? = some (.cells p.2.2 p.2.1 (0,0)) :=
 (hg.block p.1 (S.lt_box hp) (fun e=>hne e.symm)).trans (S.box p hp).2.1
theorem so(S:St X W r0 rd bx ow w){row:Option Nat}(hg:w.grownBy w' row){q:h7}(hq:q∈ow)(hne:q.v.ownBlock=none∨q.v.ownBlock ≠ row):w'.ownsRow 0 q.e q.size q.v q.n q.xs :=
 (S.own q hq).1.kept hg hne
theorem St.grown0(S:St X W r0 rd bx ow w)(hg:w.grownBy w' none):St X W r0 rd bx ow w' :=
 ⟨S.fr_grown hg (fun _ h=>by cases h),S.sub,S.sup,tB S.le hg (fun _ h=>by cases h),fun p hp=>⟨(S.box p hp).1,sm S hg hp (by simp),(S.box p hp).2.2⟩,
  fun q hq=>⟨so S hg hq (by cases h:q.v.ownBlock <;> simp),(S.own q hq).2⟩,S.d1,S.d2,S.d3⟩
theorem St.callq(S:St X W r0 rd bx ow w)(k:Below w.heap.size w w'):St X W r0 rd bx ow w':=S.grown0 (vQ k)
theorem St.drew(S:St X W r0 rd bx ow w):St X W r0 rd bx ow w.drew:=S.callq ⟨rfl,rfl,rfl,Nat.le_refl _,fun _ _=>rfl⟩
theorem oC{r:Rd}{w w':World}(h:Rd.le r (fX w)):Rd.le r (ext r w w'):=fun b o v e=>by
 unfold ext;rw [if_pos (o8 (h _ _ _ e))];exact e
theorem si{r:Rd}{w w':World}:Rd.le (newer w' w.heap.size) (ext r w w'):=fun b o v e=>by
 unfold newer at e;split at e
 ·rename_i hb;unfold ext;rw [if_neg (by omega)];exact e
 ·cases e
theorem w4{r:Rd}{w w':World}(h:Rd.le r (fX w))(k:Below w.heap.size w w'):Rd.le (ext r w w') (fX w'):=fun b o v e=>by
 unfold ext at e;split at e
 ·rename_i hb;exact(k.cell (p:=⟨b,o,none⟩) hb).trans (h _ _ _ e)
 ·exact e
theorem St.call(S:St X W r0 rd bx ow w)(k:Below w.heap.size w w'):St X W r0 (ext rd w w') bx ow w':=by
 have S':=S.callq k
 refine⟨S'.fr,fun b o v f e => ?_,fY S.sup (oC S.le),w4 S.le k,fun p a=>⟨(S'.box p a).1,(S'.box p a).2.1,fun o => ?_⟩,fun q c=>⟨(S'.own q c).1,fun g d=>⟨((S'.own q c).2 g d).1,fun o => ?_⟩⟩,S.d1,S.d2,S.d3⟩
 ·have:b<w.heap.size:=Nat.lt_of_lt_of_le f S.base_le
  unfold ext at e;rw [if_pos this] at e
  exact S.sub b o v f e
 ·unfold ext;rw [if_pos (S.lt_box a)];exact(S.box p a).2.2 o
 ·unfold ext;rw [if_pos ((S.own q c).1.lt g d).2];exact((S.own q c).2 g d).2 o
theorem yN(w:World)(o:Obj):w.grownBy (w.alloc o) none:=vQ ((Below.refl _ _).alloc (Nat.le_refl _) o)
theorem St.alloc(S:St X W r0 rd bx ow w)(T:TypeId)(cs:Array Value):St X W r0 rd (bx++[(w.heap.size,T,cs)]) ow (w.alloc (.cells cs T)):=by
 have S':=S.grown0 (yN w (.cells cs T))
 refine⟨S'.fr,S'.sub,S'.sup,S'.le,fun p a => ?_,S'.own,?_,S.d2,fun p a q b => ?_⟩
 ·rcases List.mem_append.1 a with h | h
  ·exact S'.box p h
  ·obtain rfl:=List.mem_singleton.1 h
   exact⟨.inl S.base_le,heap_alloc_new w _,fun o=>S.free (Nat.le_refl _) o⟩
 ·rw [List.pairwise_append]
  refine⟨S.d1,List.pairwise_singleton _ _,fun p a q b => ?_⟩
  obtain rfl:=List.mem_singleton.1 b
  have:=S.lt_box a
  show p.1 ≠ w.heap.size
  omega
 ·rcases List.mem_append.1 a with h | h
  ·exact S.d3 p h q b
  ·obtain rfl:=List.mem_singleton.1 h
   intro e
   have:=((S.own q b).1.lt _ e).2
   exact absurd this (Nat.lt_irrefl _)
theorem EA{α:Type}{R:α→α→Prop}{l:List α}{i:Nat}{x y:α}(h:l.Pairwise R)(hx:l[i]? = some x)(h1:∀ z,R x z→R y z)(h2:∀ z,R z x→R z y):(l.set i y).Pairwise R:=by
 induction l generalizing i with
 | nil=>simp
 | cons a l ih =>
  rw [List.pairwise_cons] at h
  cases i with
  | zero =>
   simp at hx;subst hx
   rw [List.set_cons_zero,List.pairwise_cons]
   exact⟨fun b c=>h1 _ (h.1 b c),h.2⟩
  | succ i =>
   rw [List.set_cons_succ,List.pairwise_cons]
   refine⟨fun b c => ?_,ih h.2 (by simpa using hx)⟩
   rcases List.mem_or_eq_of_mem_set c with c | rfl
   ·exact h.1 b c
   ·exact h2 _ (h.1 x (List.mem_of_getElem? (by simpa using hx)))
theorem St.wrote(S:St X W r0 rd bx ow w){i g:Nat}{T:TypeId}{cs cs':Array Value}(hi:bx[i]? = some (g,T,cs))(hg:w.grownBy w' (some g))(hw:w'.heap[g]? = some (.cells cs' T (0,0))) :
  St X W r0 rd (bx.set i (g,T,cs')) ow w':=by
 have d:=List.mem_of_getElem? hi
 have c:=S.box _ d
 refine⟨S.fr_grown hg (fun k e=>by injection e with e;subst e;exact c.1),S.sub,S.sup,tB S.le hg (fun k e=>by injection e with e;subst e;exact c.2.2),fun p f => ?_,fun q b => ?_,?_,S.d2,fun p f q b => ?_⟩
 ·obtain⟨j,a⟩:=List.getElem?_of_mem f
  rw [List.getElem?_set] at a
  split at a
  ·split at a
   ·injection a with a;subst a;exact⟨c.1,hw,c.2.2⟩
   ·cases a
  ·rename_i t
   have h:=List.mem_of_getElem? a
   have u:p.1 ≠ g:=by
    have m:=(List.pairwise_iff_getElem.1 S.d1)
    obtain⟨n,o⟩:=List.getElem?_eq_some_iff.1 hi
    obtain⟨r,s⟩:=List.getElem?_eq_some_iff.1 a
    rcases Nat.lt_or_gt_of_ne t with l | l
    ·have:=m i j n r l;rw [o,s] at this;exact fun e=>this e.symm
    ·have:=m j i r n l;rw [o,s] at this;exact this
   exact⟨(S.box p h).1,sm S hg h (by simp;exact fun e=>u e.symm),(S.box p h).2.2⟩
 ·refine⟨so S hg b (.inr ?_),(S.own q b).2⟩
  exact S.d3 _ d q b
 ·exact EA S.d1 hi (fun z h=>h) (fun z h=>h)
 ·rcases List.mem_or_eq_of_mem_set f with h | rfl
  ·exact S.d3 p h q b
  ·exact S.d3 _ d q b
end
end
section
section
variable {X:List Nat} {W w w':World} {r0 rd:Rd} {bx:List je} {ow:List h7}
theorem qr{r:Rd}{w:World}{g:Option Nat}(h:∀ k,g=some k → ∀ o,r k o=none):Rd.le r (k8 r w g):=fun b o v e=>by
 unfold k8;rw [if_neg (fun e2=>by have:=h b e2.symm o;rw [e] at this;cases this)];exact e
theorem td{r:Rd}{w:World}{g:Option Nat}(h:Rd.le r (fX w)):Rd.le (k8 r w g) (fX w):=fun b o v e=>by
 unfold k8 at e;split at e
 ·exact e
 ·exact h _ _ _ e
theorem qj{α:Type}{R:α→α→Prop}{l:List α}{i:Nat}(h:l.Pairwise R):(l.eraseIdx i).Pairwise R:=h.sublist (List.eraseIdx_sublist l i)
theorem mq{α:Type}{l:List α}{i:Nat}{x:α}(h:x∈l.eraseIdx i):∃ j,j ≠ i∧l[j]? = some x:=by
 obtain⟨j,a⟩:=List.getElem?_of_mem h
 rw [List.getElem?_eraseIdx] at a
 split at a
 ·exact⟨j,by omega,a⟩
 ·exact⟨j+1,by omega,a⟩
theorem oK(S:St X W r0 rd bx ow w){i j:Nat}{p q:je}(hi:bx[i]? = some p)(hj:bx[j]? = some q)(hn:j ≠ i):q.1 ≠ p.1:=by
 have b:=(List.pairwise_iff_getElem.1 S.d1)
 obtain⟨c,d⟩:=List.getElem?_eq_some_iff.1 hi
 obtain⟨f,g⟩:=List.getElem?_eq_some_iff.1 hj
 rcases Nat.lt_or_gt_of_ne hn with a | a
 ·have:=b j i f c a;rw [d,g] at this;exact this
 ·have:=b i j c f a;rw [d,g] at this;exact fun e=>this e.symm
theorem oA(S:St X W r0 rd bx ow w){i j:Nat}{p q:h7}(hi:ow[i]? = some p)(hj:ow[j]? = some q)(hn:j ≠ i):q.v.ownBlock=none∨q.v.ownBlock ≠ p.v.ownBlock:=by
 have b:=(List.pairwise_iff_getElem.1 S.d2)
 obtain⟨c,d⟩:=List.getElem?_eq_some_iff.1 hi
 obtain⟨f,g⟩:=List.getElem?_eq_some_iff.1 hj
 rcases Nat.lt_or_gt_of_ne hn with a | a
 ·have:=b j i f c a;rw [d,g] at this;exact this
 ·have:=b i j c f a;rw [d,g] at this
  rcases this with h | h
  ·cases l:q.v.ownBlock with
   | none=>exact .inl rfl
   | some k=>exact .inr (by rw [h];simp)
  ·exact .inr fun e=>h e.symm
theorem St.frz(S:St X W r0 rd bx ow w){i g:Nat}{T:TypeId}{cs:Array Value}(hi:bx[i]? = some (g,T,cs))(hX:g ∉ X):St X W r0 (k8 rd w (some g)) (bx.eraseIdx i) ow w:=by
 have n:=List.mem_of_getElem? hi
 have r:=S.box _ n
 refine⟨S.fr,fun b o v s e => ?_,fY S.sup (qr fun k e=>by injection e with e;subst e;exact r.2.2),td S.le,fun p d => ?_,fun q a=>⟨(S.own q a).1,fun k f=>⟨((S.own q a).2 k f).1,fun o => ?_⟩⟩,qj S.d1,S.d2,fun p d => ?_⟩
 ·unfold k8 at e;split at e
  ·rename_i l;injection l with l;subst l;exact r.1.elim (fun h=>absurd s (by dsimp only at h;omega)) (fun h=>absurd h hX)
  ·exact S.sub b o v s e
 ·obtain⟨j,t,c⟩:=mq d
  have m:=List.mem_of_getElem? c
  refine⟨(S.box p m).1,(S.box p m).2.1,fun o => ?_⟩
  unfold k8;rw [if_neg (fun e=>oK S hi c t (by injection e))];exact(S.box p m).2.2 o
 ·unfold k8;rw [if_neg (fun e=>S.d3 _ n q a (by rw [f,e]))];exact((S.own q a).2 k f).2 o
 ·obtain⟨j,t,c⟩:=mq d
  exact S.d3 p (List.mem_of_getElem? c)
theorem St.frz_le(S:St X W r0 rd bx ow w){i g:Nat}{T:TypeId}{cs:Array Value}(hi:bx[i]? = some (g,T,cs)):Rd.le rd (k8 rd w (some g)):=qr fun k e=>by injection e with e;subst e;exact(S.box _ (List.mem_of_getElem? hi)).2.2
theorem St.frz_sl{α:Type}{size:Nat}{R:CR α}{xs:List α}(S:St X W r0 rd bx ow w){i g:Nat}{T:TypeId}{cs:Array Value}(hi:bx[i]? = some (g,T,cs)){n c:Nat}(hn:n=xs.length)(hc:xs.length≤c)(hm:c≤maxLen)
  (hr:fQ size R (k8 rd w (some g)) cs.toList xs):fN size R (k8 rd w (some g)) (.slice (some ⟨g,0,none⟩) n c) xs:=by
 subst hn
 refine⟨_,_,_,rfl,hc,hm,hr,fun _=>⟨g,0,rfl,fun j u a => ?_⟩⟩
 unfold k8;rw [if_pos rfl,Nat.zero_add]
 rw [cell_of_row w g j cs T (0,0) (S.box _ (List.mem_of_getElem? hi)).2.1];simpa using a
theorem St.frzo(S:St X W r0 rd bx ow w){i:Nat}{q:h7}(hi:ow[i]? = some q)(hX:X=[]):St X W r0 (k8 rd w q.v.ownBlock) bx (ow.eraseIdx i) w:=by
 have g:=List.mem_of_getElem? hi
 have l:=S.own _ g
 refine⟨S.fr,fun b o v m e => ?_,fY S.sup (qr fun k c=>(l.2 k c).2),td S.le,fun p a=>⟨(S.box p a).1,(S.box p a).2.1,fun o => ?_⟩,fun p a => ?_,S.d1,qj S.d2,fun p a r s => ?_⟩
 ·unfold k8 at e;split at e
  ·rename_i t;exact(l.2 b t.symm).1.elim (fun h=>absurd m (by omega)) (fun h=>by subst hX;cases h)
  ·exact S.sub b o v m e
 ·unfold k8;rw [if_neg (fun e=>S.d3 p a q g e.symm)];exact(S.box p a).2.2 o
 ·obtain⟨j,n,d⟩:=mq a
  have f:=List.mem_of_getElem? d
  refine⟨(S.own p f).1,fun k c=>⟨((S.own p f).2 k c).1,fun o => ?_⟩⟩
  unfold k8
  rw [if_neg (fun e=>by
   rcases oA S hi d n with h | h
   ·rw [h] at c;cases c
   ·exact h (by rw [c,e]))]
  exact((S.own p f).2 k c).2 o
 ·obtain⟨j,n,d⟩:=mq s
  exact S.d3 p a r (List.mem_of_getElem? d)
theorem St.frzo_le(S:St X W r0 rd bx ow w){i:Nat}{q:h7}(hi:ow[i]? = some q):Rd.le rd (k8 rd w q.v.ownBlock):=qr fun k hk=>((S.own _ (List.mem_of_getElem? hi)).2 k hk).2
theorem St.frzo_sl{α:Type}{size:Nat}{R:CR α}{xs:List α}(S:St X W r0 rd bx ow w){i:Nat}{q:h7}(hi:ow[i]? = some q){v:Value}{n:Nat}(hv:q.v=v)(hn:q.n=n)(he:n=xs.length)(hs:q.size=size)
  (hr:fQ size R (k8 rd w v.ownBlock) q.xs xs):fN size R (k8 rd w v.ownBlock) v xs:=by
 subst hv hn hs
 have a:=(S.own _ (List.mem_of_getElem? hi)).1
 rcases a.2 with⟨h1,h2⟩ | ⟨g,cap,cur,h1,_,hh,hc,hm',_⟩
 ·rw [h1] at hr ⊢
  have:xs=[]:=List.eq_nil_of_length_eq_zero (by omega)
  subst this
  exact fN.nil_ _
 ·rw [h1] at hr ⊢
  refine⟨some ⟨g,0,none⟩,cap,q.xs,by rw [he],by omega,hm',hr,fun _=>⟨g,0,rfl,fun j u b => ?_⟩⟩
  rw [h1] at a
  have:=a.cells (g:=g) rfl j u b
  rw [Addr.add_mid,Nat.zero_add] at this
  unfold k8
  rw [if_pos (by rfl),Nat.zero_add]
  exact this
theorem St.ownNil(S:St X W r0 rd bx ow w)(e:TypeId)(size:Nat):St X W r0 rd bx (ow++[⟨e,size,.slice none 0 0,0,[]⟩]) w:=by
 refine⟨S.fr,S.sub,S.sup,S.le,S.box,fun q a => ?_,S.d1,?_,fun p b q a => ?_⟩
 ·rcases List.mem_append.1 a with h | h
  ·exact S.own q h
  ·obtain rfl:=List.mem_singleton.1 h
   exact⟨World.ownsRow_nil w _ e size,fun g c=>by cases c⟩
 ·rw [List.pairwise_append]
  refine⟨S.d2,List.pairwise_singleton _ _,fun p b q a => ?_⟩
  obtain rfl:=List.mem_singleton.1 a
  cases h:p.v.ownBlock with
  | none=>exact .inl rfl
  | some k=>exact .inr (by simp [Value.ownBlock])
 ·rcases List.mem_append.1 a with h | h
  ·exact S.d3 p b q h
  ·obtain rfl:=List.mem_singleton.1 h
   simp [Value.ownBlock]
theorem St.ownAdd(S:St X W r0 rd bx ow w)(k:Below w.heap.size w w'){q:h7}(hq:w'.ownsRow w.heap.size q.e q.size q.v q.n q.xs):St X W r0 rd bx (ow++[q]) w':=by
 have S':=S.callq k
 have d:∀ g,q.v.ownBlock=some g→w.heap.size≤g:=fun g f=>(hq.lt g f).1
 have j:w'.ownsRow 0 q.e q.size q.v q.n q.xs:=by
  refine⟨hq.1,?_⟩
  rcases hq.2 with h | ⟨g,cap,cur,a,b,r⟩
  ·exact .inl h
  ·exact .inr ⟨g,cap,cur,a,Nat.zero_le _,r⟩
 refine⟨S'.fr,S'.sub,S'.sup,S'.le,S'.box,fun p c => ?_,S'.d1,?_,fun p c r i => ?_⟩
 ·rcases List.mem_append.1 c with h | h
  ·exact S'.own p h
  ·obtain rfl:=List.mem_singleton.1 h
   exact⟨j,fun g f=>⟨.inl (Nat.le_trans S.base_le (d g f)),fun o=>S.free (d g f) o⟩⟩
 ·rw [List.pairwise_append]
  refine⟨S.d2,List.pairwise_singleton _ _,fun p c r i => ?_⟩
  obtain rfl:=List.mem_singleton.1 i
  cases h:p.v.ownBlock with
  | none=>exact .inl rfl
  | some k=>exact .inr fun e=>by have:=((S.own p c).1.lt k h).2;have:=d k e.symm;omega
 ·rcases List.mem_append.1 i with h | h
  ·exact S.d3 p c r h
  ·obtain rfl:=List.mem_singleton.1 h
   intro e
   have:=d _ e
   have:=S.lt_box c
   omega
theorem St.grew(S:St X W r0 rd bx ow w){i:Nat}{q q':h7}(hi:ow[i]? = some q)(hg:w.grownBy w' q.v.ownBlock)(hq:w'.ownsRow 0 q'.e q'.size q'.v q'.n q'.xs)
  (h':q'.v.ownBlock=q.v.ownBlock∨q'.v.ownBlock=some w.heap.size):St X W r0 rd bx (ow.set i q') w':=by
 have s:=List.mem_of_getElem? hi
 have t:=S.own _ s
 have u:∀ g,q'.v.ownBlock=some g→(W.heap.size≤g∨g∈X) ∧ ∀ o,rd g o=none:=fun g e=>by
  rcases h' with h | h
  ·exact t.2 g (h ▸ e)
  ·rw [h] at e;injection e with e;subst e;exact⟨.inl S.base_le,fun o=>S.free (Nat.le_refl _) o⟩
 refine⟨S.fr_grown hg (fun k e=>(t.2 k e).1),S.sub,S.sup,tB S.le hg (fun k x=>(t.2 k x).2),fun p d=>⟨(S.box p d).1,sm S hg d (S.d3 p d q s),(S.box p d).2.2⟩,fun p d => ?_,S.d1,?_,fun p d r y => ?_⟩
 ·obtain⟨j,c⟩:=List.getElem?_of_mem d
  rw [List.getElem?_set] at c
  split at c
  ·split at c
   ·injection c with c;subst c;exact⟨hq,u⟩
   ·cases c
  ·rename_i z
   exact⟨so S hg (List.mem_of_getElem? c) (oA S hi c (fun e=>z e.symm)),(S.own p (List.mem_of_getElem? c)).2⟩
 ·rw [List.pairwise_iff_getElem]
  intro a b l m A
  rw [List.length_set] at l m
  have B:=(List.pairwise_iff_getElem.1 S.d2)
  have key:∀ p:h7,p∈ow→(p.v.ownBlock=none∨p.v.ownBlock ≠ q.v.ownBlock)→p.v.ownBlock=none∨p.v.ownBlock ≠ q'.v.ownBlock:=fun p d h=>by
   rcases h with h | h
   ·exact .inl h
   ·rcases h' with e | e
    ·exact .inr (by rw [e];exact h)
    ·cases C:p.v.ownBlock with
     | none=>exact .inl rfl
     | some k=>exact .inr (by rw [e];intro f;injection f with f;have:=((S.own p d).1.lt k C).2;omega)
  rw [List.getElem_set,List.getElem_set]
  split
  ·rename_i D
   rw [if_neg (by omega)]
   have f:ow[i]? = some ow[a]:=by rw [D];exact List.getElem?_eq_getElem l
   rw [hi] at f;injection f with f
   have E:ow[b].v.ownBlock=none∨ow[b].v.ownBlock ≠ q.v.ownBlock:=oA S hi (List.getElem?_eq_getElem m) (by omega)
   rcases key _ (List.getElem_mem m) E with h | h
   ·cases F:q'.v.ownBlock with
    | none=>exact .inl rfl
    | some k=>exact .inr (by rw [h];simp)
   ·exact .inr fun e=>h e.symm
  ·split
   ·exact key _ (List.getElem_mem l) (oA S hi (List.getElem?_eq_getElem l) (by omega))
   ·exact B a b l m A
 ·obtain⟨j,c⟩:=List.getElem?_of_mem y
  rw [List.getElem?_set] at c
  split at c
  ·split at c
   ·injection c with c;subst c
    rcases h' with h | h
    ·rw [h];exact S.d3 p d q s
    ·rw [h];intro e;injection e with e;have:=S.lt_box d;omega
   ·cases c
  ·exact S.d3 p d r (List.mem_of_getElem? c)
end
end
section
variable {ds:List Deferred}
structure lM (P:Program) (t:TypeId):Prop where
 a:∀ w,(isAgg t).run P w = .ok false w
 s:∀ w,(sizeOf t).run P w = .ok 1 w
structure mE (P:Program) (t:TypeId) (k:Nat):Prop where
 a:∀ w,(isAgg t).run P w = .ok true w
 s:∀ w,(sizeOf t).run P w = .ok k w
def j2(rd:Rd)(p:Value)(cs:List Value):Prop:=∃ b o,p = .pointer (some ⟨b,o,none⟩) ∧ ∀ j u,cs[j]? = some u→rd b (o+j)=some u
theorem j2.mono{rd rd':Rd}{p:Value}{cs:List Value}(h:j2 rd p cs)(hle:Rd.le rd rd'):j2 rd' p cs:=by
 obtain⟨b,o,e,h⟩:=h
 exact⟨b,o,e,fun j u a=>hle _ _ _ (h j u a)⟩
def Ld(P:Program)(w:World)(t:TypeId)(p v:Value):Prop:=(Instr.loadAt t p).run P w = .ok v w
section
variable {P:Program} {X:List Nat} {W w w':World} {r0 rd:Rd} {bx:List je} {ow:List h7} {C:World→Prop} {e:Operand→Value} {d:Option Tmp} {t ty:TypeId} {pos:String} {af:Array Edge} {gd:Option (Nat × Bool)} {v p:Value} {x y:Operand} {g i j:Nat} {T:TypeId} {cs:Array Value}
theorem rL{a:Addr}(ht:lM P t)(hc:w.cell? a=some v):Ld P w t (.pointer (some a)) v:=by
 unfold Ld Instr.loadAt Instr.sureAddr loadVar
 simp [Sem.run_bind,ht.a,hc]
theorem rX{b o k:Nat}{vs:List Value}(ht:mE P t k)(hk:vs.length=k)(hc:∀ j u,vs[j]? = some u→w.cell? ⟨b,o+j,none⟩=some u):Ld P w t (.pointer (some ⟨b,o,none⟩)) (.agg vs.toArray):=by
 subst hk
 have c:(loadCells ⟨b,o,none⟩ vs.length).run P w = .ok vs.toArray w :=
  run_loadCells_list (P:=P) w ⟨b,o,none⟩ vs (fun j v d=>by rw [Addr.add_mid];exact hc j v d)
 unfold Ld Instr.loadAt Instr.sureAddr loadVar
 simp [Sem.run_bind,ht.a,ht.s,c]
theorem St.cell(S:St X W r0 rd bx ow w)(hi:bx[i]? = some (g,T,cs))(j:Nat):w.cell? ⟨g,j,none⟩=cs[j]?:=cell_of_row w g j cs T (0,0) (S.box _ (List.mem_of_getElem? hi)).2.1
theorem jm(S:St X W r0 rd bx ow w)(hi:bx[i]? = some (g,T,cs))(hj:cs[j]? = some v)(ht:lM P t):Ld P w t (.pointer (some ⟨g,j,none⟩)) v:=rL ht (by rw [S.cell hi];exact hj)
theorem gu{k:Nat}{vs:List Value}(S:St X W r0 rd bx ow w)(hi:bx[i]? = some (g,T,cs))(ht:mE P t k)(hk:vs.length=k)(hv:(cs.toList.drop j).take k=vs):Ld P w t (.pointer (some ⟨g,j,none⟩)) (.agg vs.toArray) :=
 rX ht hk fun j' u hu=>by
  rw [S.cell hi]
  rw [← hv,List.getElem?_take] at hu
  split at hu
  ·rw [List.getElem?_drop] at hu;simpa using hu
  ·cases hu
theorem m4{vs:List Value}(hle:Rd.le rd (fX w))(h:j2 rd p vs)(hj:vs[0]? = some v)(ht:lM P t):Ld P w t p v:=by
 obtain⟨b,o,rfl,a⟩:=h
 exact rL ht (hle _ _ _ (a 0 v hj))
theorem vx{k:Nat}{vs us:List Value}(hle:Rd.le rd (fX w))(h:j2 rd p vs)(ht:mE P t k)(hk:us.length=k)(hv:vs.take k=us):Ld P w t p (.agg us.toArray):=by
 obtain⟨b,o,rfl,c⟩:=h
 refine rX ht hk fun j u a=>hle _ _ _ (c j u ?_)
 rw [← hv,List.getElem?_take] at a
 split at a
 ·exact a
 ·cases a
theorem gG(hx:e x=p)(h:∀ w,C w→Ld P w t p v):Yv P C e ⟨d,.load t x,ty,pos,af,gd⟩ v:=fun w S=>by
 have:=h w S
 unfold Ld at this
 simp [execOp,hx,this]
def jO(P:Program)(s:TypeId)(f off:Nat):Prop:=∀ w b o,(Instr.fieldAt s (.pointer (some ⟨b,o,none⟩)) f).run P w = .ok (.pointer (some ⟨b,o+off,none⟩)) w
theorem kd{s:TypeId}{f off k:Nat}{fs:Array Field}{fd:Field}(hu:P.underlying s=some (.struct fs))(hf:fs[f]? = some fd)(hs:∀ w,(sizeOf fd.type).run P w = .ok k w)(hk:k ≠ 0)(ho:fd.offset=off):jO P s f off:=fun w b o=>by
 subst ho
 simp [Instr.fieldAt,run_underlying hu,hf,Instr.sureAddr,fieldPlace,hs,hk,Addr.add_mid]
theorem jr{s:TypeId}{f off:Nat}{o o':Nat}(F:jO P s f off)(hx:e x = .pointer (some ⟨g,o,none⟩))(ho:o+off=o'):Yv P C e ⟨d,.fieldAddr s x f,ty,pos,af,gd⟩ (.pointer (some ⟨g,o',none⟩)):=fun w _=>by
 subst ho;simp [execOp,hx,F w]
theorem jB{s:TypeId}{f off:Nat}{vs us:List Value}(F:jO P s f off)(h:j2 rd p vs)(hv:vs.drop off=us):∃ p',j2 rd p' us ∧ ∀ {C:World→Prop} {e:Operand→Value} {d:Option Tmp} {ty:TypeId} {pos:String} {af:Array Edge} {gd:Option (Nat × Bool)} {x:Operand},e x=p→Yv P C e ⟨d,.fieldAddr s x f,ty,pos,af,gd⟩ p':=by
 obtain⟨b,o,rfl,c⟩:=h
 subst hv
 refine⟨_,⟨b,o+off,rfl,fun j u a => ?_⟩,fun g w _=>by simp [execOp,g,F w]⟩
 rw [List.getElem?_drop] at a
 have:=c _ _ a
 rwa [← Nat.add_assoc] at this
theorem hD{α:Type}{size n c k:Nat}{R:CR α}{l:List α}{A:Option Addr}{el:TypeId}{z:α}(hu:P.underlying t=some (.slice el))(hs:∀ w,(sizeOf el).run P w = .ok size w)(h:fN size R rd (.slice A n c) l)(hk:l[k]? = some z) :
  ∃ p vs,j2 rd p vs∧vs.length=size∧R rd vs z ∧ ∀ {C:World→Prop} {e:Operand→Value} {d:Option Tmp} {ty:TypeId} {pos:String} {af:Array Edge} {gd:Option (Nat × Bool)} {x y:Operand} {kk:IntKind} {q:Int},e x = .slice A n c→e y = .int kk q→q=k→Yv P C e ⟨d,.indexAddr t x y,ty,pos,af,gd⟩ p:=by
 obtain⟨b,o,cs,rfl,a,f,g⟩:=h.get hk
 have r:=h.len.1
 have s:=(List.getElem?_eq_some_iff.1 hk).1
 refine⟨.pointer (some ⟨b,o+k * size,none⟩),cs,⟨b,o+k * size,rfl,g⟩,a,f,fun i j m w _ => ?_⟩
 subst m
 simp [execOp,i,j,Instr.indexAt,asIntOf,run_underlying hu,hs,show k<n by omega,Addr.add_mid]
theorem tV{α:Type}{size n c lo hi:Nat}{R:CR α}{l:List α}{A:Option Addr}{el:TypeId}(hu:P.underlying t=some (.slice el))(hs:∀ w,(sizeOf el).run P w = .ok size w)(h:fN size R rd (.slice A n c) l)(h1:lo≤hi)(h2:hi≤l.length) :
  ∃ A' c',fN size R rd (.slice A' (hi - lo) c') ((l.take hi).drop lo) ∧ ∀ {C:World→Prop} {e:Operand→Value} {d:Option Tmp} {ty:TypeId} {pos:String} {af:Array Edge} {gd:Option (Nat × Bool)} {x:Operand} {ol oh:Option Operand},e x = .slice A n c →
   (ol=none∧lo=0 ∨ ∃ y k q,ol=some y∧e y = .int k q∧q=lo)→(oh=none∧hi=n ∨ ∃ y k q,oh=some y∧e y = .int k q∧q=hi)→Yv P C e ⟨d,.slice t x ol oh none,ty,pos,af,gd⟩ (.slice A' (hi - lo) c'):=by
 have o:=h.len
 refine⟨if c=lo then A else A.map (·.add (lo * size)),c - lo,?_,fun {C e d ty pos af gd x ol oh} b f g w _ => ?_⟩
 ·have a:=fN.head_ h h2
  have i:lo≤(l.take hi).length:=by simp;omega
  split
  ·rename_i e
   have j:(l.take hi).drop lo=[]:=List.drop_eq_nil_of_le (by simp;omega)
   rw [j,show hi - lo=0 by omega]
   exact fN.empty_ _ _ _ (by omega)
  ·cases A with
   | none =>
    have:=fN.nil_of a
    rw [this]
    have p:min hi l.length=0:=by rw [← List.length_take,this];rfl
    rw [show hi - lo=0 by omega]
    simpa using fN.empty_ rd none (c - lo) (by omega)
   | some ad=>exact fN.cutA a i
 ·have m:(Instr.sliceBounds true n c (ol.map e) (oh.map e) none).run P w = .ok (lo,hi,c) w:=by
   unfold Instr.sliceBounds
   rcases f with⟨rfl,rfl⟩ | ⟨y,k,q,rfl,hy,rfl⟩ <;> rcases g with⟨rfl,rfl⟩ | ⟨y',k',q',rfl,hy',rfl⟩
   ·simp
   ·simp [hy',Instr.sliceBound,asIntOf,show hi≤c by omega]
   ·simp [hy,Instr.sliceBound,asIntOf,h1]
   ·simp [hy,hy',Instr.sliceBound,asIntOf,show hi≤c by omega,h1]
  simp [execOp,b,Instr.sliceAt,Instr.slice,run_underlying hu,m,hs]
theorem gy{parts:Array (Nat × Operand)}{ps:List (Nat × Value)}(h:parts.toList.map (fun q=>(q.1,e q.2))=ps)(hb:∀ w,(Instr.build t ps.toArray).run P w = .ok v w):Yv P C e ⟨d,.build t parts,ty,pos,af,gd⟩ v:=fun w _=>by
 have h':(parts.map fun(i,x)=>(i,e x))=ps.toArray:=q6 h
 simp only [execOp]
 rw [h',Sem.run_bind,hb w]
 rfl
theorem th{s:TypeId}{u:Value}(h:e x=u)(hb:∀ w,(convert s t u).run P w = .ok v w):Yv P C e ⟨d,.convert s t x,ty,pos,af,gd⟩ v:=fun w _=>by
 subst h;simp [execOp,hb w]
end
section
variable {P:Program} {Q:Exit→Act→World→Prop} {X:List Nat} {W w w':World} {r0 rd:Rd} {bx:List je} {ow:List h7} {n d:Nat} {l:Ov} {t ty:TypeId} {pos:String} {af:Array Edge} {v p:Value} {x y:Operand} {g i j:Nat} {T:TypeId} {cs cs':Array Value} {rest:List Oper} {ops:Array Oper}
theorem gk{z:Value}(S:St X W r0 rd bx ow w)(hz:∀ w,(zeroValue T).run P w = .ok z w)(hc:z.cells=cs)
  (h:∀ g w',St X W r0 rd (bx++[(g,T,cs)]) ow w'→WL P ops Q rest (fd ds n ((d,(.pointer (some ⟨g,0,none⟩))) :: l)) w'):WL P ops Q (⟨some d,.alloc T,ty,pos,af,none⟩ :: rest) (fd ds n l) w:=by
 subst hc
 exact mz (.inl (by simp [execOp,Instr.alloc,hz,newVar,newRow])) (h _ _ (S.alloc T z.cells))
theorem ix{u:Value}(S:St X W r0 rd bx ow w)(hx:ev n l x=u)(hc:u.cells=cs)
  (h:∀ g w',St X W r0 rd (bx++[(g,T,cs)]) ow w'→WL P ops Q rest (fd ds n ((d,(.pointer (some ⟨g,0,none⟩))) :: l)) w'):WL P ops Q (⟨some d,.box T x,ty,pos,af,none⟩ :: rest) (fd ds n l) w:=by
 subst hc hx
 exact mz (.inl (by simp [execOp,Instr.box,newVar,newRow])) (h _ _ (S.alloc T _))
theorem iZ{el:TypeId}{len size:Nat}{z:Value}{parts:Array (Nat × Operand)}{ps:List (Nat × Value)}(S:St X W r0 rd bx ow w)(hu:P.underlying t=some (.slice el))(hs:∀ w,(sizeOf el).run P w = .ok size w)(hz:∀ w,(zeroValue el).run P w = .ok z w)
  (hp:parts.toList.map (fun q=>(q.1,ev n l q.2))=ps) (hl:Nat.blt (2 ^ 24) (len * size)=false) (hl0:Nat.beq (len * size) 0=false)
  (hf:Instr.fill (fun i=>some (i * size,size)) ((Array.range (len * size)).map (z.cells[· % z.cells.size]!)) ps=some cs)
  (h:∀ g w',St X W r0 rd (bx++[(g,el,cs)]) ow w'→WL P ops Q rest (fd ds n ((d,(.slice (some ⟨g,0,none⟩) len len)) :: l)) w'):WL P ops Q (⟨some d,.buildSlice t len parts,ty,pos,af,none⟩ :: rest) (fd ds n l) w:=by
 have a:¬ len * size > 2 ^ 24:=fun b=>by
  have:Nat.blt (2 ^ 24) (len * size)=true:=Nat.ble_eq_true_of_le b
  rw [this] at hl;cases hl
 have c:¬ len * size=0:=fun e=>by rw [e] at hl0;cases hl0
 have f:(Instr.buildSlice t len ps.toArray).run P w = .ok (.slice (some ⟨w.heap.size,0,none⟩) len len) (w.alloc (.cells cs el)):=by
  unfold Instr.buildSlice
  rw [Sem.run_bind,run_underlying hu]
  simp only [Result.andThen_ok,Sem.run_bind,hs]
  rw [if_neg a,if_neg c]
  simp only [Sem.run_bind,Sem.run_pure,Result.andThen_ok,hz]
  split
  ·rename_i cells j
   rw [j] at hf;injection hf with hf;subst hf
   simp [newRow]
  ·rename_i k
   exact absurd hf (by intro hf;exact k _ hf)
 refine mz (.inl ?_) (h _ _ (S.alloc el cs))
 have m:(parts.map fun(i,x)=>(i,ev n l x))=ps.toArray:=q6 hp
 simp only [execOp]
 rw [m,Sem.run_bind,f]
 rfl
theorem nn{el:TypeId}{size:Nat}(S:St X W r0 rd bx ow w)(hu:P.underlying t=some (.slice el))(hs:∀ w,(sizeOf el).run P w = .ok size w)
  (h:∀ g w',St X W r0 rd (bx++[(g,el,#[])]) ow w'→WL P ops Q rest (fd ds n ((d,(.slice (some ⟨g,0,none⟩) 0 0)) :: l)) w'):WL P ops Q (⟨some d,.buildSlice t 0 #[],ty,pos,af,none⟩ :: rest) (fd ds n l) w:=by
 refine mz (.inl ?_) (h _ _ (S.alloc el #[]))
 have a:(Instr.buildSlice t 0 #[]).run P w = .ok (.slice (some ⟨w.heap.size,0,none⟩) 0 0) (w.alloc (.cells #[] el)):=by
  unfold Instr.buildSlice
  rw [Sem.run_bind,run_underlying hu]
  simp [hs,Instr.fill,newRow]
  rw [show Array.range 0=(#[]:Array Nat) from by simp,Array.map_empty]
 simp only [execOp,Array.map_empty]
 rw [Sem.run_bind,a]
 rfl
def jb(cs:Array Value)(j:Nat)(vs:List Value):Array Value:=(cs.toList.take j++vs++cs.toList.drop (j+vs.length)).toArray
theorem qp(w:World)(g:Nat)(cs:Array Value):w.grownBy (w.setRow g cs) (some g):=by
 refine⟨rfl,rfl,rfl,by simp [World.setRow],fun k _ a => ?_⟩
 simp only [World.setRow,Array.getElem?_modify]
 rw [if_neg (fun e=>a (by rw [e]))]
theorem vH{u:Value}(hg:w.heap[g]? = some (.cells cs T (0,0)))(hs:∀ w,(sizeOf t).run P w = .ok u.cells.size w)(hj:Nat.ble (j+u.cells.size) cs.size=true)(h1:∀ c∈u.cells,c.oneCell'=true) :
  (Instr.storeAt t (.pointer (some ⟨g,j,none⟩)) u).run P w = .ok () (w.setRow g (jb cs j u.cells.toList)):=by
 have a:=run_storeCells_at (P:=P) g j T u.cells.toList 0 cs w hg (by simpa using Nat.le_of_ble_eq_true hj) (fun v b=>h1 v (by simpa using b))
 simp only [Nat.add_zero] at a
 simp only [Instr.storeAt,Instr.sureAddr,storeVar,Sem.run_bind,Sem.run_pure,Result.andThen_ok,hs,ne_eq,not_true_eq_false,if_false,a]
 rfl
theorem fT{u:Value}(S:St X W r0 rd bx ow w)(hx:ev n l x = .pointer (some ⟨g,j,none⟩))(hy:ev n l y=u)(hi:bx[i]? = some (g,T,cs))(hs:∀ w,(sizeOf t).run P w = .ok u.cells.size w)(hj:Nat.ble (j+u.cells.size) cs.size=true)
  (h1:u.cells.toList.all Value.oneCell'=true) (ho:jb cs j u.cells.toList=cs') (h:∀ w',St X W r0 rd (bx.set i (g,T,cs')) ow w'→WL P ops Q rest (fd ds n l) w'):WL P ops Q (⟨none,.store t x y,ty,pos,af,none⟩ :: rest) (fd ds n l) w:=by
 subst ho
 have a:=(S.box _ (List.mem_of_getElem? hi)).2.1
 have b:=vH (P:=P) (t:=t) a hs hj (fun c d=>List.all_eq_true.1 h1 c (by simpa using d))
 refine rU (w':=w.setRow g (jb cs j u.cells.toList)) (.inr ⟨rfl,?_⟩) (h _ (S.wrote hi (qp w g _) (setRow_heap w g cs _ T _ a)))
 simp [execOp,hx,hy,b]
theorem js{e':TypeId}{bytes m c size:Nat}{q:h7}{s:Operand}(S:St X W r0 rd bx ow w)(K:li P t q.e size bytes)(hi:ow[i]? = some q)(hsz:q.size=size)(hs:ev n l s=q.v)(hx:ev n l x = .slice (some ⟨g,0,none⟩) m c){i':Nat}(hb:bx[i']? = some (g,T,cs))
  (hm:cs.size=m * size) (h1:cs.toList.all Value.oneCell'=true) (hlen:q.n+m≤maxLen) (hby:(q.n+m) * bytes≤140737488355328)
  (h:∀ v' w',St X W r0 rd bx (ow.set i ⟨q.e,size,v',q.n+m,q.xs++cs.toList⟩) w'→WL P ops Q rest (fd ds n ((d,v') :: l)) w'):WL P ops Q (⟨some d,.call ⟨.builtin .append,#[s,x],#[t,t]⟩,ty,pos,af,none⟩ :: rest) (fd ds n l) w:=by
 subst hsz
 obtain⟨inf,z,b,f,k,o,p,r,hsz⟩:=K.ex
 obtain⟨v',w',y,A,B,_,C⟩:=run_append_own_at (P:=P) w 0 t ty q.e inf z q.size bytes b f k o p r hsz q.v q.n q.xs (S.own _ (List.mem_of_getElem? hi)).1 ⟨g,0,none⟩ m c cs.toList (by simpa using hm)
  (fun j u a=>by rw [Addr.add_mid,Nat.zero_add,S.cell hb];simpa using a) (fun u a=>List.all_eq_true.1 h1 u a) hlen hby (Nat.zero_le _)
 refine mz (.inl ?_) (h v' w' (S.grew (q':=⟨q.e,q.size,v',q.n+m,q.xs++cs.toList⟩) hi B A C))
 simp [execOp,resolve,invoke,builtin,hs,hx,y]
theorem mP{α:Type}{R:CR α}{bytes size:Nat}{q:h7}{s:Operand}{u:Value}{ys:List α}{t' e':TypeId}(S:St X W r0 rd bx ow w)(K:li P t q.e size bytes)(ht':P.underlying t'=some (.slice e'))(hone:qx R)(hi:ow[i]? = some q)(hsz:q.size=size)(hs:ev n l s=q.v)(hx:ev n l x=u)(hu:fN size R rd u ys)
  (hlen:q.n+ys.length≤maxLen) (hby:(q.n+ys.length) * bytes≤140737488355328)
  (h:∀ v' w' us,fQ size R rd us ys→St X W r0 rd bx (ow.set i ⟨q.e,size,v',q.n+ys.length,q.xs++us⟩) w'→WL P ops Q rest (fd ds n ((d,v') :: l)) w'):WL P ops Q (⟨some d,.call ⟨.builtin .append,#[s,x],#[t,t']⟩,ty,pos,af,none⟩ :: rest) (fd ds n l) w:=by
 subst hsz
 have f:=(S.own _ (List.mem_of_getElem? hi)).1
 obtain⟨A,cq,ev',_⟩:∃ A cq,q.v = .slice A q.n cq∧True:=by
  rcases f.2 with⟨h1,c⟩ | ⟨g,cap,cur,h1,_⟩
  ·exact⟨none,0,by rw [h1,c],trivial⟩
  ·exact⟨_,cap,h1,trivial⟩
 have K':=K
 obtain⟨inf,z,p,r,C,D,E,F,hsz⟩:=K.ex
 obtain⟨G,y,us,rfl,_,_,B,H⟩:=hu
 have a:∃ v' w',(Builtin.append_ #[t,t] ty #[q.v,.slice G ys.length y]).run P w = .ok v' w'∧w'.ownsRow 0 q.e q.size v' (q.n+ys.length) (q.xs++us)∧w.grownBy w' q.v.ownBlock∧(v'.ownBlock=q.v.ownBlock∨v'.ownBlock=some w.heap.size):=by
  rcases ys with _ | ⟨y0,ys⟩
  ·have I:us=[]:=by simpa [fQ] using B
   subst I
   rcases G with _ | ad
   ·exact⟨q.v,w,A7 w 0 t ty q.e inf q.size p r q.v q.n q.xs f y,by simpa using f,World.grownBy.refl w _,.inl rfl⟩
   ·obtain⟨v',w',a,c,k,_,m⟩:=run_append_own_at (P:=P) w 0 t ty q.e inf z q.size bytes p r C D E F hsz q.v q.n q.xs f ad 0 y [] (by simp) (by simp) (by simp) (by simpa using hlen) (by simpa using hby) (Nat.zero_le _)
    exact⟨v',w',a,c,k,m⟩
  ·obtain⟨b,o,rfl,J⟩:=H (by simp)
   obtain⟨v',w',a,c,k,_,m⟩:=run_append_own_at (P:=P) w 0 t ty q.e inf z q.size bytes p r C D E F hsz q.v q.n q.xs f ⟨b,o,none⟩ (y0 :: ys).length y us B.len
    (fun j u hu=>by rw [Addr.add_mid];exact S.le _ _ _ (J j u hu)) (B.one_ hone) hlen hby (Nat.zero_le _)
   exact⟨v',w',a,c,k,m⟩
 obtain⟨v',w',a,c,k,m⟩:=a
 rw [ev',← Eu w p ht' r,← ev'] at a
 refine mz (.inl ?_) (h v' w' us B (S.grew (q':=⟨q.e,q.size,v',q.n+ys.length,q.xs++us⟩) hi k c m))
 simp [execOp,resolve,invoke,builtin,hs,hx,a]
end
section
variable {P:Program} {X:List Nat} {W w:World} {r0 rd:Rd} {bx:List je} {ow:List h7} {n:Nat} {l:Ov} {fn:Func} {R:Ending→World→Prop}
def RV(P:Program)(n:Nat)(l:Ov)(w:World):ResultVar→Value→Prop
 | .tmp t,v=>lk n l t=v
 | .cell a t,v => ∃ ad,lk n l a = .pointer (some ad)∧Ld P w t (.pointer (some ad)) v
theorem oI{t:Tmp}{v:Value}(h:RV P n l w (.tmp t) v):(ll n l)[t]?.getD undef=v:=by
 have:=p5 n l t
 rw [Array.getD_eq_getD_getElem?] at this
 rw [this];exact h
theorem oq{a:Tmp}{t:TypeId}{v:Value}(h:RV P n l w (.cell a t) v):∃ ad,(ll n l)[a]?.getD undef = .pointer (some ad)∧(loadVar t ad).run P w = .ok v w:=by
 obtain⟨ad,c,b⟩:=h
 have:=p5 n l a
 rw [Array.getD_eq_getD_getElem?,c] at this
 refine⟨ad,this,?_⟩
 unfold Ld Instr.loadAt Instr.sureAddr at b
 simpa using b
theorem g3{r:ResultVar}{v:Value}(hr:fn.results = #[r])(h:RV P n l w r v)(hR:R (.returned v) w):bodyPost P fn R .ret (fr n l) w:=by
 refine⟨rfl,_,?_,hR⟩
 unfold results
 rw [hr]
 cases r with
 | tmp t0 =>
  have a:=oI h
  simp_all [fr,fd,asAddr]
 | cell a0 t0 =>
  obtain⟨_,a,_⟩:=oq h
  simp_all [fr,fd,asAddr]
theorem iv{r r':ResultVar}{v v':Value}(hr:fn.results = #[r,r'])(h:RV P n l w r v)(h':RV P n l w r' v')(hR:R (.returned (.tuple #[v,v'])) w):bodyPost P fn R .ret (fr n l) w:=by
 refine⟨rfl,_,?_,hR⟩
 unfold results
 rw [hr]
 cases r with
 | tmp t0 =>
  have b:=oI h
  cases r' with
  | tmp t1 =>
   have a:=oI h'
   simp_all [fr,fd,asAddr]
  | cell a1 t1 =>
   obtain⟨c,a,d⟩:=oq h'
   simp_all [fr,fd,asAddr]
 | cell a0 t0 =>
  obtain⟨_,b,_⟩:=oq h
  cases r' with
  | tmp t1 =>
   have a:=oI h'
   simp_all [fr,fd,asAddr]
  | cell a1 t1 =>
   obtain⟨c,a,d⟩:=oq h'
   simp_all [fr,fd,asAddr]
theorem Dw{r r' r'':ResultVar}{v v' v'':Value}(hr:fn.results = #[r,r',r''])(h:RV P n l w r v)(h':RV P n l w r' v')(h'':RV P n l w r'' v''):(results fn (ll n l)).run P w = .ok (.tuple #[v,v',v'']) w:=by
 unfold results
 rw [hr]
 cases r with
 | tmp t0 =>
  have e:=oI h
  cases r' with
  | tmp t1 =>
   have b:=oI h'
   cases r'' with
   | tmp t2 =>
    have a:=oI h''
    simp_all [fr,fd,asAddr]
   | cell a2 t2 =>
    obtain⟨c,a,d⟩:=oq h''
    simp_all [fr,fd,asAddr]
  | cell a1 t1 =>
   obtain⟨f,b,g⟩:=oq h'
   cases r'' with
   | tmp t2 =>
    have a:=oI h''
    simp_all [fr,fd,asAddr]
   | cell a2 t2 =>
    obtain⟨c,a,d⟩:=oq h''
    simp_all [fr,fd,asAddr]
 | cell a0 t0 =>
  obtain⟨_,e,_⟩:=oq h
  cases r' with
  | tmp t1 =>
   have b:=oI h'
   cases r'' with
   | tmp t2 =>
    have a:=oI h''
    simp_all [fr,fd,asAddr]
   | cell a2 t2 =>
    obtain⟨c,a,d⟩:=oq h''
    simp_all [fr,fd,asAddr]
  | cell a1 t1 =>
   obtain⟨f,b,g⟩:=oq h'
   cases r'' with
   | tmp t2 =>
    have a:=oI h''
    simp_all [fr,fd,asAddr]
   | cell a2 t2 =>
    obtain⟨c,a,d⟩:=oq h''
    simp_all [fr,fd,asAddr]
theorem pX{r r' r'':ResultVar}{v v' v'':Value}(hr:fn.results = #[r,r',r''])(h:RV P n l w r v)(h':RV P n l w r' v')(h'':RV P n l w r'' v'')(hR:R (.returned (.tuple #[v,v',v''])) w):bodyPost P fn R .ret (fr n l) w:=⟨rfl,_,Dw hr h h' h'',hR⟩
end
end
section
variable {ds:List Deferred}
section
variable {P:Program} {Q:Exit→Act→World→Prop} {s:List Kf} {X:List Nat} {W w w':World} {r0 rd:Rd} {bx bx':List je} {ow ow':List h7} {n:Nat} {l m:Ov} {c:Code}
theorem DS(m:Ov)(h:rv n l m)(k:∀ j,c.wp P (gZ P Q s) (fd ds n (m++j)) w):c.wp P (gZ P Q s) (fd ds n l) w:=by rw [zx h];exact k l
theorem St.call'(S:St X W r0 rd bx ow w)(k:Below w.heap.size w w'):∃ rd',St X W r0 rd' bx ow w'∧Rd.le rd rd'∧Rd.le (newer w' w.heap.size) rd'∧Rd.le (ext rd w w') rd' :=
 ⟨_,S.call k,oC S.le,si,Rd.le_refl _⟩
theorem St.frz'(S:St X W r0 rd bx ow w){i g:Nat}{T:TypeId}{cs:Array Value}(hi:bx[i]? = some (g,T,cs))(hX:X=[]):∃ rd',St X W r0 rd' (bx.eraseIdx i) ow w∧Rd.le rd rd' ∧
  ∀ {α:Type} {size:Nat} {R:CR α} {xs:List α} {n c:Nat},n=xs.length→xs.length≤c→c≤maxLen→fQ size R rd' cs.toList xs→fN size R rd' (.slice (some ⟨g,0,none⟩) n c) xs :=
 ⟨_,S.frz hi (by subst hX;simp),S.frz_le hi,fun h1 h2 h3 h4=>S.frz_sl hi h1 h2 h3 h4⟩
theorem St.frzo'(S:St X W r0 rd bx ow w){i:Nat}{q:h7}(hi:ow[i]? = some q)(hX:X=[]):∃ rd',St X W r0 rd' bx (ow.eraseIdx i) w∧Rd.le rd rd' ∧
  ∀ {α:Type} {R:CR α} {xs:List α},q.n=xs.length→fQ q.size R rd' q.xs xs→fN q.size R rd' q.v xs :=
 ⟨_,S.frzo hi hX,S.frzo_le hi,fun h1 h2=>S.frzo_sl hi rfl rfl h1 rfl h2⟩
theorem St.out(S:St X W r0 rd bx ow w):Rd.le rd (ext r0 W w):=fun b o v e=>by
 unfold ext;split
 ·rename_i h;exact S.sub b o v h e
 ·exact S.le b o v e
theorem St.tk(S:St X W r0 rd bx ow w)(a b:Nat)(h1:bx.take a=bx')(h2:ow.take b=ow'):St X W r0 rd bx' ow' w:=by
 subst h1 h2
 exact⟨S.fr,S.sub,S.sup,S.le,fun p c=>S.box p (List.mem_of_mem_take c),fun q d=>S.own q (List.mem_of_mem_take d),S.d1.sublist (List.take_sublist _ _),S.d2.sublist (List.take_sublist _ _),fun p c q d=>S.d3 p (List.mem_of_mem_take c) q (List.mem_of_mem_take d)⟩
theorem St.tt(S:St X W r0 rd bx ow w)(a b:Nat):St X W r0 rd (bx.take a) (ow.take b) w:=S.tk a b rfl rfl
theorem St.rw'(S:St X W r0 rd bx ow w)(h1:bx=bx')(h2:ow=ow'):St X W r0 rd bx' ow' w:=by subst h1 h2;exact S
theorem fm{α:Type}{size:Nat}{R:CR α}[i9 R]{rd rd':Rd}{v:Value}{l:List α}(h:fN size R rd v l)(k:Rd.le rd rd'):fN size R rd' v l:=h.mono i9.mono k
theorem rm{α:Type}{size:Nat}{R:CR α}[i9 R]{rd rd':Rd}{v:List Value}{l:List α}(h:fQ size R rd v l)(k:Rd.le rd rd'):fQ size R rd' v l:=h.mono i9.mono k
theorem gm{α:Type}{R:CR α}[i9 R]{rd rd':Rd}{v:List Value}{x:α}(h:R rd v x)(k:Rd.le rd rd'):R rd' v x:=i9.mono _ _ _ _ k h
theorem am{α:Type}{R:CR α}[i9 R]{rd rd':Rd}{v:Value}{x:α}(h:fW R rd v x)(k:Rd.le rd rd'):fW R rd' v x:=by
 obtain⟨cs,e,h⟩:=h;exact⟨cs,e,gm h k⟩
theorem yT{k:IntKind}{a b:Int}(h:a=b):Value.int k a=Value.int k b:=by rw [h]
theorem im{a b:Bool}(h:a=b):Ending.returned (.bool a) = .returned (.bool b):=by rw [h]
theorem iy{k:IntKind}{a b:Int}(h:a=b):Ending.returned (.int k a) = .returned (.int k b):=by rw [h]
theorem gX{α:Type}{l:List α}{k:Nat}(h:k<l.length):∃ z,l[k]? = some z:=⟨l[k],List.getElem?_eq_getElem h⟩
theorem St.ownB(S:St [] W r0 rd bx ow w){i:Nat}{q:h7}(hi:ow[i]? = some q):w.ownsRow W.heap.size q.e q.size q.v q.n q.xs:=by
 have h:=S.own _ (List.mem_of_getElem? hi)
 refine⟨h.1.1,?_⟩
 rcases h.1.2 with c | ⟨g,cap,cur,a,b,r⟩
 ·exact .inl c
 ·exact .inr ⟨g,cap,cur,a,(h.2 g (by rw [a];rfl)).1.elim id (fun h=>by cases h),r⟩
theorem St.rowS{α:Type}{R:CR α}[i9 R]{xs:List α}(S:St X W r0 rd bx ow w){i size n:Nat}{q:h7}{v:Value}(hi:ow[i]? = some q)(hv:q.v=v)(hn:q.n=xs.length)(hs:q.size=size)(hr:fQ size R rd q.xs xs):fN size R (fX w) v xs:=by
 subst hv hs
 have a:=(S.own _ (List.mem_of_getElem? hi)).1
 have hr:=rm hr S.le
 rcases a.2 with⟨h1,h2⟩ | ⟨g,cap,cur,h1,_,hh,hc,hm',_⟩
 ·rw [h1]
  have:xs=[]:=List.eq_nil_of_length_eq_zero (by omega)
  subst this
  exact fN.nil_ _
 ·rw [h1]
  refine⟨some ⟨g,0,none⟩,cap,q.xs,by rw [hn],by omega,hm',hr,fun _=>⟨g,0,rfl,fun j u b => ?_⟩⟩
  rw [h1] at a
  have:=a.cells (g:=g) rfl j u b
  rw [Addr.add_mid,Nat.zero_add] at this
  rw [Nat.zero_add]
  exact this
theorem i8(S:St X W r0 rd bx ow w){i:Nat}{q:h7}(hi:ow[i]? = some q):∃ A c,q.v = .slice A q.n c∧q.n≤c∧c≤maxLen:=by
 rcases(S.own _ (List.mem_of_getElem? hi)).1.2 with⟨h1,h2⟩ | ⟨g,cap,cur,h1,_,_,h4,h5,_⟩
 ·exact⟨none,0,by rw [h1,h2],by omega,by simp [maxLen]⟩
 ·exact⟨_,cap,h1,h4,h5⟩
variable {C:World→Prop} {e:Operand→Value} {d:Option Tmp} {t ty yt:TypeId} {pos:String} {af:Array Edge} {g:Option (Nat × Bool)} {x y:Operand} {a b r:Bool}
theorem xt(ht:P.underlying t=some .bool)(w:World):(Op.equalIn Op.maxDepth t (.bool a) (.bool b)).run P w = .ok (a == b) w:=by
 show(Op.equalIn (9999+1) t (.bool a) (.bool b)).run P w=_
 unfold Op.equalIn
 simp [run_underlying ht]
theorem pV(ht:P.underlying t=some .bool)(h1:e x = .bool a)(h2:e y = .bool b)(h:(a == b)=r):Yv P C e ⟨d,.binOp .eql t x y yt,ty,pos,af,g⟩ (.bool r):=fun w _=>by
 subst h;simp [execOp,h1,h2,eqGuard,binOp,Op.equal,xt ht]
theorem pE(ht:P.underlying t=some .bool)(h1:e x = .bool a)(h2:e y = .bool b)(h:(a != b)=r):Yv P C e ⟨d,.binOp .neq t x y yt,ty,pos,af,g⟩ (.bool r):=fun w _=>by
 subst h;simp [execOp,h1,h2,eqGuard,binOp,Op.equal,xt ht];cases a <;> cases b <;> rfl
end
theorem pH{P:Program}{C:World→Prop}{e:Operand→Value}{d:Option Tmp}{t ty yt:TypeId}{pos:String}{af:Array Edge}{g:Option (Nat × Bool)}{x y:Operand}{op:BinOp}{u u' v:Value}(G:∀ x y w,(eqGuard op t x y u u').run P w = .ok () w)(hb:∀ w,(binOp op t u u').run P w = .ok v w)(h:e x=u)(h':e y=u'):Yv P C e ⟨d,.binOp op t x y yt,ty,pos,af,g⟩ v:=fun w _=>by
 subst h h'
 simp only [execOp,Sem.run_bind,G,hb,Result.andThen_ok,Sem.run_pure]
theorem jA{P:Program}{C:World→Prop}{e:Operand→Value}{o:Oper}{a b:Bool}(Y:Yv P C e o (.bool a))(h:a=b):Yv P C e o (.bool b):=h ▸ Y
theorem C6{P:Program}{C:World→Prop}{e:Operand→Value}{d:Option Tmp}{t ty:TypeId}{pos:String}{af:Array Edge}{g:Option (Nat × Bool)}{x:Operand}{k:IntKind}{p r:Int}(h:e x = .int k p)(hr:k.wrap (0 - p)=r):Yv P C e ⟨d,.unOp .neg t x,ty,pos,af,g⟩ (.int k r):=fun w _=>by
 subst hr;simp [execOp,h,Op.unary,Op.intArith]
theorem ud{P:Program}{s t:TypeId}{k k1 k2:IntKind}{p r:Int}(hs:P.underlying s=some (.int k1))(hd:P.underlying t=some (.int k2))(h:k2.wrap p=r):∀ w,(convert s t (.int k p)).run P w = .ok (.int k2 r) w:=fun w=>by
 subst h;simp [convert,run_underlying hs,run_underlying hd,Conv.intToInt]
theorem zt{P:Program}{C:World→Prop}{e:Operand→Value}{d:Option Tmp}{t ty yt:TypeId}{pos:String}{af:Array Edge}{g:Option (Nat × Bool)}{x y:Operand}{k kk:IntKind}{p r:Int}{n:Nat}(h1:e x = .int k p)(h2:e y = .int kk n)(hn:n≤k.bits)(h:p / (2 ^ n:Int)=r):Yv P C e ⟨d,.binOp .shr t x y yt,ty,pos,af,g⟩ (.int k r):=fun w _=>by
 subst h
 have e1:min n k.bits=n:=Nat.min_eq_left hn
 have e2:¬ ((n:Int)<0):=by omega
 simp [execOp,h1,h2,eqGuard,binOp,Op.shift,e1,e2]
 rw [Int.fdiv_eq_ediv_of_nonneg _ (by exact Int.le_of_lt (Int.pow_pos (by decide)))]
theorem oH{P:Program}{t e:TypeId}{z:Value}{size bytes:Nat}(hu:P.underlying t=some (.slice e))(h:(P.info? e).map (fun i=>(i.zero,i.size,i.bytes))=some (some z,size,bytes))(hz:z.cells.size=size)(hs:0<size) :
  li P t e size bytes:=by
 obtain⟨i,a,b,c,d⟩:=info_parts h
 exact⟨i,z,hu,a,b,c,d,hz,hs⟩
theorem j2.nc{P:Program}{rd:Rd}{p:Value}{cs:List Value}(h:j2 rd p cs){C:World→Prop}{e:Operand→Value}{d:Option Tmp}{ty:TypeId}{pos:String}{af:Array Edge}{g:Option (Nat × Bool)}{x:Operand}(hx:e x=p):Yv P C e ⟨d,.nilCheck x,ty,pos,af,g⟩ p:=by
 obtain⟨b,o,rfl,_⟩:=h
 exact wV hx
end
section
variable {ds:List Deferred}
section
variable {P:Program} {Q:Exit→Act→World→Prop} {s:List Kf} {w:World} {n:Nat} {l:Ov} {ops:Array Oper} {C:World→Prop}
structure AL (P:Program) (ops:Array Oper) (Q:Exit→Act→World→Prop) (C:World→Prop) (fuel:Nat) (listed:Array Bool) (a:Act) (w:World):Prop where
 out:wpAnyH P .any ops Q C fuel listed a w
theorem iV{id k:Nat}{a:Act}(C:World→Prop)(hm:P.follows .mixedOrders=true)(hk:ops.toList.length=k)(h:AL P ops (gZ P Q s) C k (Array.replicate k false) a w.drew):(Code.region id ops true).wp P (gZ P Q s) a w :=
 wp_region_held hm (by subst hk;simpa using h.out)
theorem pP(hQ:∀ c a d v w,Q (.panic c) (a.put d v) w→Q (.panic c) a w):∀ (s:List Kf) c a d v w,gZ P Q s (.panic c) (a.put d v) w→gZ P Q s (.panic c) a w
 | [],c,a,d,v,w,h=>hQ c a d v w h
 | .seq _ :: s,c,a,d,v,w,h=>pP hQ s c a d v w h
 | .blk _ :: s,c,a,d,v,w,h=>pP hQ s c a d v w h
 | .lp _ :: s,c,a,d,v,w,h=>pP hQ s c a d v w h
class NP (Q:Exit→Act→World→Prop):Prop where
 put:∀ c a d v w,Q (.panic c) (Act.put a d v) w→Q (.panic c) a w
theorem DF{fn:Func}{R:Ending→World→Prop}:∀ c a d v w,bodyPost P fn R (.panic c) (Act.put a d v) w→bodyPost P fn R (.panic c) a w:=fun c a d v w h=>by
 cases d <;> exact h
instance {fn:Func} {R:Ending→World→Prop}:NP (bodyPost P fn R):=⟨DF⟩
theorem Bx[NP Q]{fuel:Nat}{listed:Array Bool}{o:Oper}{d:Nat}{v:Value}(i:Nat)(hi:ops.toList[i]? = some o)(hd:o.dst=some d)(hs:Region.noSelect ops=true)(hf:Region.free .any ops listed i=true)(hr:(Region.ready .any ops listed).contains i=true)
  (S:C w) (hg:o.guard=none) (Y:Yv P C (ev n l) o v) (h:AL P ops (gZ P Q s) C fuel (listed.setIfInBounds i true) (fd ds n ((d,v) :: l)) w):AL P ops (gZ P Q s) C (fuel+1) listed (fd ds n l) w :=
 ⟨wpAnyH_take (by rw [← Array.getElem?_toList];exact hi) hs hf hr (fun c a w=>pP NP.put s c a _ _ w) (.inl ⟨by unfold Region.wanted;rw [hg],fun w hS=>by rw [no];exact Y w hS⟩) S (by rw [n9,hd];exact h.out)⟩
theorem Ay[NP Q]{fuel:Nat}{listed:Array Bool}{o:Oper}{d j d':Nat}{b:Bool}{v:Value}(i:Nat)(hi:ops.toList[i]? = some o)(hd:o.dst=some d)(hs:Region.noSelect ops=true)(hf:Region.free .any ops listed i=true)(hr:(Region.ready .any ops listed).contains i=true)
  (S:C w) (hg:o.guard=some (j,b)) (hj:(ops.toList[j]?).bind (·.dst)=some d') (hb:lk n l d' = .bool b) (Y:Yv P C (ev n l) o v) (h:AL P ops (gZ P Q s) C fuel (listed.setIfInBounds i true) (fd ds n ((d,v) :: l)) w):AL P ops (gZ P Q s) C (fuel+1) listed (fd ds n l) w :=
 ⟨wpAnyH_take (by rw [← Array.getElem?_toList];exact hi) hs hf hr (fun c a w=>pP NP.put s c a _ _ w) (.inl ⟨by
  unfold Region.wanted;rw [hg];show(yielded ops (ll n l) j == some b)=true
  rw [pz (by rw [← Array.getElem?_toList];exact hj) hb];simp,fun w hS=>by rw [no];exact Y w hS⟩) S (by rw [n9,hd];exact h.out)⟩
theorem A9[NP Q]{fuel:Nat}{listed:Array Bool}{o:Oper}{d j d':Nat}{b:Bool}(i:Nat)(hi:ops.toList[i]? = some o)(hd:o.dst=some d)(hs:Region.noSelect ops=true)(hf:Region.free .any ops listed i=true)(hr:(Region.ready .any ops listed).contains i=true)
  (S:C w) (hg:o.guard=some (j,b)) (hj:(ops.toList[j]?).bind (·.dst)=some d') (hb:lk n l d' = .bool (!b)) (h:AL P ops (gZ P Q s) C fuel (listed.setIfInBounds i true) (fd ds n ((d,undef) :: l)) w):AL P ops (gZ P Q s) C (fuel+1) listed (fd ds n l) w :=
 ⟨wpAnyH_take (by rw [← Array.getElem?_toList];exact hi) hs hf hr (fun c a w=>pP NP.put s c a _ _ w) (.inr ⟨by
  unfold Region.wanted;rw [hg];show(yielded ops (ll n l) j == some b)=false
  rw [pz (by rw [← Array.getElem?_toList];exact hj) hb];cases b <;> rfl,rfl⟩) S (by rw [n9,hd];exact h.out)⟩
theorem jC[NP Q]{fuel:Nat}{listed:Array Bool}{o:Oper}{d j d':Nat}{b:Bool}{v:Value}(i:Nat)(hi:ops.toList[i]? = some o)(hd:o.dst=some d)
  (S:C w) (hg:o.guard=some (j,b)) (hj:(ops.toList[j]?).bind (·.dst)=some d') (hb:lk n l d' = .bool b) (Y:Yv P C (ev n l) o v) (h:AL P ops (gZ P Q s) C fuel (listed.setIfInBounds i true) (fd ds n ((d,v) :: l)) w) (hs:Region.noSelect ops=true:=by kernel_rfl) (hf:Region.free .any ops listed i=true:=by kernel_rfl) (hr:(Region.ready .any ops listed).contains i=true:=by kernel_rfl):AL P ops (gZ P Q s) C (fuel+1) listed (fd ds n l) w:=Ay i hi hd hs hf hr S hg hj hb Y h
theorem kO[NP Q]{fuel:Nat}{listed:Array Bool}{o:Oper}{d j d':Nat}{b:Bool}(i:Nat)(hi:ops.toList[i]? = some o)(hd:o.dst=some d)
  (S:C w) (hg:o.guard=some (j,b)) (hj:(ops.toList[j]?).bind (·.dst)=some d') (hb:lk n l d' = .bool (!b)) (h:AL P ops (gZ P Q s) C fuel (listed.setIfInBounds i true) (fd ds n ((d,undef) :: l)) w) (hs:Region.noSelect ops=true:=by kernel_rfl) (hf:Region.free .any ops listed i=true:=by kernel_rfl) (hr:(Region.ready .any ops listed).contains i=true:=by kernel_rfl):AL P ops (gZ P Q s) C (fuel+1) listed (fd ds n l) w:=A9 i hi hd hs hf hr S hg hj hb h
theorem gE{fuel:Nat}{listed:Array Bool}{a:Act}(hr:Region.ready .any ops listed=[])(h:gZ P Q s .normal a w):AL P ops (gZ P Q s) C fuel listed a w:=⟨wpAnyH_done hr h fuel⟩
theorem x7{i:Nat}{o:Oper}{a:Act}{K:Act→World→Prop}{Q:Exit→Act→World→Prop}(hi:ops[i]? = some o)(h:wpList P ops (Exit.then K Q) [o] a w):wpOp P ops Q i K a w:=by
 unfold wpOp
 simp only [hi]
 unfold wpList at h
 split
 ·rename_i b
  rw [if_pos b] at h
  rcases h with h | ⟨h1,h2⟩
  ·left
   unfold Oper.wp at h ⊢
   unfold Oper.upon at h ⊢
   split at h
   ·exact h
   ·exact h
   ·exact h
   ·refine h.mono fun e _ c => ?_
    cases e <;> exact c
   ·exact h
   ·exact h
   ·exact h
  ·right
   exact⟨h1,h2⟩
 ·rename_i b
  rw [if_neg b] at h
  exact h
def Ak(P:Program)(ops:Array Oper)(Q:Exit→Act→World→Prop)(C:World→Prop)(fuel:Nat)(listed:Array Bool)(a:Act)(w:World):Prop:=C w∧wpAnyH P .any ops Q C fuel listed a w
theorem ak{fuel:Nat}{listed:Array Bool}{a:Act}(hC:C w)(h:AL P ops Q C fuel listed a w):Ak P ops Q C fuel listed a w:=⟨hC,h.out⟩
def AA(P:Program)(ops:Array Oper)(Q:Exit→Act→World→Prop)(C:World→Prop)(s:List Kf)(fuel:Nat)(listed:Array Bool)(a:Act)(w:World)(rs:List Nat):Prop :=
 ∀ i∈rs,wpOp P ops (gZ P Q s) i (fun a' w'=>C w'∧wpAnyH P .any ops (gZ P Q s) C fuel (listed.setIfInBounds i true) a' w') a w
theorem ji{fuel:Nat}{listed:Array Bool}{a:Act}{rs:List Nat}(hr:Region.ready .any ops listed=rs)(hne:rs.isEmpty=false)(h:AA P ops Q C s fuel listed a w rs):AL P ops (gZ P Q s) C (fuel+1) listed a w :=
 ⟨wpAnyH_all hr (by intro e;subst e;cases hne) h⟩
theorem jk{fuel:Nat}{listed:Array Bool}{a:Act}:AA P ops Q C s fuel listed a w []:=fun i hi=>by cases hi
theorem iA{fuel i:Nat}{listed:Array Bool}{a:Act}{rs:List Nat}{o:Oper}(hi:ops.toList[i]? = some o)(h:WL P ops (gZ P Q (.lp (Ak P ops (gZ P Q s) C fuel (listed.setIfInBounds i true)) :: s)) [o] a w)
  (h2:AA P ops Q C s fuel listed a w rs):AA P ops Q C s fuel listed a w (i :: rs):=fun j hj=>by
 rcases List.mem_cons.1 hj with rfl | hj
 ·exact x7 (by rw [← Array.getElem?_toList];exact hi) h.out
 ·exact h2 j hj
end
section
variable {X:List Nat} {W w w':World} {r0 rd rd':Rd} {bx bx':List je} {ow ow':List h7}
theorem St.del(S:St X W r0 rd bx ow w)(i:Nat):St X W r0 rd (bx.eraseIdx i) ow w :=
 ⟨S.fr,S.sub,S.sup,S.le,fun p hp=>S.box p (List.mem_of_mem_eraseIdx hp),S.own,qj S.d1,S.d2,fun p hp=>S.d3 p (List.mem_of_mem_eraseIdx hp)⟩
theorem St.delo(S:St X W r0 rd bx ow w)(i:Nat):St X W r0 rd bx (ow.eraseIdx i) w :=
 ⟨S.fr,S.sub,S.sup,S.le,S.box,fun p hp=>S.own p (List.mem_of_mem_eraseIdx hp),S.d1,qj S.d2,fun p hp q hq=>S.d3 p hp q (List.mem_of_mem_eraseIdx hq)⟩
theorem tM{r r':Rd}(h:Rd.le r r'){b o:Nat}(k:r' b o=none):r b o=none:=by
 cases e:r b o with
 | none=>rfl
 | some v=>rw [h _ _ _ e] at k;cases k
theorem St.weak(S:St X W r0 rd' bx ow w)(h0:Rd.le r0 rd)(h:Rd.le rd rd'):St X W r0 rd bx ow w :=
 ⟨S.fr,fun b o v hb e=>S.sub b o v hb (h _ _ _ e),h0,fY h S.le,fun p hp=>⟨(S.box p hp).1,(S.box p hp).2.1,fun o=>tM h ((S.box p hp).2.2 o)⟩,
  fun q hq=>⟨(S.own q hq).1,fun g hg=>⟨((S.own q hq).2 g hg).1,fun o=>tM h (((S.own q hq).2 g hg).2 o)⟩⟩,S.d1,S.d2,S.d3⟩
def me(B:Nat)(w:World)(l:List h7):Prop:=(∀ q∈l,w.ownsRow B q.e q.size q.v q.n q.xs)∧l.Pairwise fun p q=>p.v.ownBlock=none∨p.v.ownBlock ≠ q.v.ownBlock
theorem St.ownsL(S:St [] W r0 rd bx ow w):me W.heap.size w ow:=⟨fun q hq=>by
 obtain⟨i,hi⟩:=List.getElem?_of_mem hq
 exact S.ownB hi,S.d2⟩
theorem St.ownAddL(S:St X W r0 rd bx ow w)(k:Below w.heap.size w w'){l:List h7}(h:me w.heap.size w' l):St X W r0 rd bx (ow++l) w':=by
 have S':=S.callq k
 have d:∀ q∈l,∀ g,q.v.ownBlock=some g→w.heap.size≤g:=fun q c g f=>((h.1 q c).lt g f).1
 refine⟨S'.fr,S'.sub,S'.sup,S'.le,S'.box,fun q c => ?_,S'.d1,?_,fun p i q c => ?_⟩
 ·rcases List.mem_append.1 c with c | c
  ·exact S'.own q c
  ·have j:=h.1 q c
   refine⟨⟨j.1,?_⟩,fun g f=>⟨.inl (Nat.le_trans S.base_le (d q c g f)),fun o=>S.free (d q c g f) o⟩⟩
   rcases j.2 with m | ⟨g,cap,cur,a,b,r⟩
   ·exact .inl m
   ·exact .inr ⟨g,cap,cur,a,Nat.zero_le _,r⟩
 ·rw [List.pairwise_append]
  refine⟨S.d2,h.2,fun p i q c => ?_⟩
  cases n:p.v.ownBlock with
  | none=>exact .inl rfl
  | some k=>exact .inr fun e=>by have:=((S.own p i).1.lt k n).2;have:=d q c k e.symm;omega
 ·rcases List.mem_append.1 c with c | c
  ·exact S'.d3 p i q c
  ·intro e
   have:=d q c _ e
   have:=S.lt_box i
   omega
theorem St.boxOwn(S:St X W r0 rd bx ow w){i g:Nat}{T:TypeId}{cs:Array Value}(hi:bx[i]? = some (g,T,cs))(size n c:Nat)(hs:cs.size=n * size)(hc:c=n)(hm:n≤maxLen) :
  St X W r0 rd (bx.eraseIdx i) (ow++[⟨T,size,.slice (some ⟨g,0,none⟩) n c,n,cs.toList⟩]) w:=by
 subst hc
 have S':=S.del i
 have l:=List.mem_of_getElem? hi
 have f:=S.box _ l
 refine⟨S'.fr,S'.sub,S'.sup,S'.le,S'.box,fun q a => ?_,S'.d1,?_,fun p b q a => ?_⟩
 ·rcases List.mem_append.1 a with h | h
  ·exact S.own q h
  ·obtain rfl:=List.mem_singleton.1 h
   refine⟨⟨by simpa using hs,.inr ⟨g,c,cs,rfl,Nat.zero_le _,f.2.1,Nat.le_refl _,hm,hs,?_⟩⟩,fun k d => ?_⟩
   ·rw [← hs];exact List.take_of_length_le (by simp)
   ·simp only [Value.ownBlock] at d;injection d with d;subst d;exact⟨f.1,f.2.2⟩
 ·rw [List.pairwise_append]
  refine⟨S.d2,List.pairwise_singleton _ _,fun p b q a => ?_⟩
  obtain rfl:=List.mem_singleton.1 a
  exact .inr (fun e=>S.d3 _ l p b (by rw [e];rfl))
 ·rcases List.mem_append.1 a with h | h
  ·exact S'.d3 p b q h
  ·obtain rfl:=List.mem_singleton.1 h
   obtain⟨j,m,o⟩:=mq b
   have:=oK S hi o m
   simp only [Value.ownBlock]
   intro e;injection e with e;exact this e.symm
end
section
variable {P:Program} {C:World→Prop} {e:Operand→Value} {d:Option Tmp} {t ty yt el:TypeId} {pos:String} {af:Array Edge} {g:Option (Nat × Bool)} {x y:Operand} {A:Option Addr} {n c:Nat} {v:Value}
theorem Ec(ht:P.underlying t=some (.slice el))(w:World):(Op.equalIn Op.maxDepth t (.slice A n c) (.slice none 0 0)).run P w = .ok A.isNone w:=by
 show(Op.equalIn (9999+1) t (.slice A n c) (.slice none 0 0)).run P w=_
 unfold Op.equalIn
 cases A <;> simp [run_underlying ht]
theorem pF(ht:P.underlying t=some (.slice el))(h1:e x = .slice A n c)(h2:e y = .slice none 0 0){r:Bool}(h:A.isNone=r):Yv P C e ⟨d,.binOp .eql t x y yt,ty,pos,af,g⟩ (.bool r):=fun w _=>by
 subst h;simp [execOp,h1,h2,eqGuard,binOp,Op.equal,Ec ht]
end
section
variable {P:Program} {Q:Exit→Act→World→Prop} {X:List Nat} {W w w':World} {r0 rd:Rd} {bx:List je} {ow:List h7} {n d:Nat} {l:Ov} {t ty el:TypeId} {pos:String} {af:Array Edge} {x y:Operand} {rest:List Oper} {ops:Array Oper}
theorem mm{m bytes size:Nat}{p q:Int}{z:Value}(S:St X W r0 rd bx ow w)(K:li P t el size bytes)(hz:∀ w,(zeroValue el).run P w = .ok z w)(hx:ev n l x = .int .i64 p)(hy:ev n l y = .int .i64 q)(h1:p=m)(h2:q=m)(hb:m * bytes≤140737488355328)(hm:m≤maxLen)
  (h:∀ g w',St X W r0 rd bx (ow++[⟨el,size,.slice (some ⟨g,0,none⟩) m m,m,(madeCells z.cells (m * size)).toList⟩]) w'→WL P ops Q rest (fd ds n ((d,.slice (some ⟨g,0,none⟩) m m) :: l)) w'):WL P ops Q (⟨some d,.makeSlice t x y,ty,pos,af,none⟩ :: rest) (fd ds n l) w:=by
 subst h1 h2
 obtain⟨i,z',e,b,c,f,j,_,_⟩:=K.ex
 have o:z'=z:=by
  have h1:=hz w
  unfold zeroValue typeInfo at h1
  simp [b,c] at h1
  exact h1
 subst o
 obtain⟨w',r,s,a⟩:=run_make_full (P:=P) w w.heap.size t el i z' size e b c f .i64 .i64 m (by rw [j,Nat.mul_comm];omega) hm (Nat.le_refl _)
 refine mz (.inl ?_) (h w.heap.size w' (S.ownAdd (q:=⟨el,size,_,m,_⟩) ⟨a.os,a.tape,a.output,a.size,fun k u=>a.block k u (by simp)⟩ s))
 simp [execOp,hx,hy,r]
end
end
section
variable {ds:List Deferred}
section
variable {X:List Nat} {W w w':World} {r0 rd:Rd} {bx:List je} {ow:List h7}
theorem jj.step{W0:World}(h:jj X W0 W)(k:Below W.heap.size W w):jj X W0 w :=
 ⟨k.os.trans h.os,k.tape.trans h.tape,k.output.trans h.output,Nat.le_trans h.size k.size,fun b hb hX=>(k.block b (Nat.lt_of_lt_of_le hb h.size)).trans (h.block b hb hX)⟩
theorem St.boxSl{α:Type}{size:Nat}{R:CR α}[i9 R]{l:List α}(S:St X W r0 rd bx ow w){i g n cap:Nat}{T:TypeId}{cs:Array Value}(hi:bx[i]? = some (g,T,cs))(hn:n=l.length)(hc:n≤cap)(hm:cap≤maxLen)(hr:fQ size R rd (cs.toList.take (n * size)) l):fN size R (fX w) (.slice (some ⟨g,0,none⟩) n cap) l:=by
 subst hn
 refine⟨_,_,_,rfl,hc,hm,rm hr S.le,fun _=>⟨g,0,rfl,fun j u a => ?_⟩⟩
 show w.cell? ⟨g,0+j,none⟩=some u
 rw [Nat.zero_add,S.cell hi]
 rw [List.getElem?_take] at a
 split at a
 ·simpa using a
 ·cases a
theorem xz{α:Type}{size:Nat}{R:CR α}{rd:Rd}{n k:Nat}{cs:Array Value}{l:List α}{z:α}(hr:fQ size R rd (cs.toList.take (n * size)) l)(hz:l[k]? = some z):∃ vs,vs.length=size∧R rd vs z ∧ ∀ m u,vs[m]? = some u→cs[k * size+m]? = some u:=by
 obtain⟨vs,a,b,c⟩:=hr.get k hz
 refine⟨vs,a,b,fun m u d => ?_⟩
 have:=c m u d
 rw [List.getElem?_take] at this
 split at this
 ·simpa using this
 ·cases this
theorem St.startX(h:Rd.le r0 (fX W)){bx:List je}(hb:∀ p∈bx,p.1∈X∧W.heap[p.1]? = some (.cells p.2.2 p.2.1 (0,0)) ∧ ∀ o,r0 p.1 o=none)(hd:bx.Pairwise fun p q=>p.1 ≠ q.1):St X W r0 r0 bx [] W :=
 ⟨jj.refl _ _,fun _ _ _ _ h=>h,Rd.le_refl _,h,fun p hp=>⟨.inr (hb p hp).1,(hb p hp).2⟩,by simp,hd,.nil,by simp⟩
theorem St.boxOwn2(S:St X W r0 rd bx ow w){i g:Nat}{T:TypeId}{cs:Array Value}(hi:bx[i]? = some (g,T,cs))(size n c:Nat)(xs:List Value)(hs:cs.size=c * size)(hn:n≤c)(hx:cs.toList.take (n * size)=xs)(hm:c≤maxLen) :
  St X W r0 rd (bx.eraseIdx i) (ow++[⟨T,size,.slice (some ⟨g,0,none⟩) n c,n,xs⟩]) w:=by
 subst hx
 have S':=S.del i
 have l:=List.mem_of_getElem? hi
 have f:=S.box _ l
 refine⟨S'.fr,S'.sub,S'.sup,S'.le,S'.box,fun q a => ?_,S'.d1,?_,fun p b q a => ?_⟩
 ·rcases List.mem_append.1 a with h | h
  ·exact S.own q h
  ·obtain rfl:=List.mem_singleton.1 h
   refine⟨⟨?_,.inr ⟨g,c,cs,rfl,Nat.zero_le _,f.2.1,hn,hm,hs,rfl⟩⟩,fun k d => ?_⟩
   ·have:n * size≤c * size:=Nat.mul_le_mul_right _ hn
    rw [List.length_take,Array.length_toList,hs];dsimp only;omega
   ·simp only [Value.ownBlock] at d;injection d with d;subst d;exact⟨f.1,f.2.2⟩
 ·rw [List.pairwise_append]
  refine⟨S.d2,List.pairwise_singleton _ _,fun p b q a => ?_⟩
  obtain rfl:=List.mem_singleton.1 a
  exact .inr (fun e=>S.d3 _ l p b (by rw [e];rfl))
 ·rcases List.mem_append.1 a with h | h
  ·exact S'.d3 p b q h
  ·obtain rfl:=List.mem_singleton.1 h
   obtain⟨j,hn,m⟩:=mq b
   have:=oK S hi m hn
   simp only [Value.ownBlock]
   intro e;injection e with e;exact this e.symm
end
section
variable {P:Program} {C:World→Prop} {X:List Nat} {W w w':World} {r0 rd:Rd} {bx:List je} {ow:List h7} {t ty el:TypeId} {g o n c lo hi size k:Nat} {T:TypeId} {cs cs':Array Value}
theorem lR(hu:P.underlying t=some (.slice el))(hs:∀ w,(sizeOf el).run P w = .ok size w)(h1:lo≤hi)(h2:hi≤c) :
  ∃ o',(lo<c→o'=o+lo * size) ∧ ∀ {C:World→Prop} {e:Operand→Value} {d:Option Tmp} {ty:TypeId} {pos:String} {af:Array Edge} {gd:Option (Nat × Bool)} {x:Operand} {ol oh:Option Operand},e x = .slice (some ⟨g,o,none⟩) n c →
   (ol=none∧lo=0 ∨ ∃ y k q,ol=some y∧e y = .int k q∧q=lo)→(oh=none∧hi=n ∨ ∃ y k q,oh=some y∧e y = .int k q∧q=hi)→Yv P C e ⟨d,.slice t x ol oh none,ty,pos,af,gd⟩ (.slice (some ⟨g,o',none⟩) (hi - lo) (c - lo)):=by
 refine⟨if c=lo then o else o+lo * size,fun h=>by rw [if_neg (by omega)],fun {C e d ty pos af gd x ol oh} a i j w _ => ?_⟩
 have b:(Instr.sliceBounds true n c (ol.map e) (oh.map e) none).run P w = .ok (lo,hi,c) w:=by
  unfold Instr.sliceBounds
  rcases i with⟨rfl,rfl⟩ | ⟨y,k,q,rfl,hy,rfl⟩ <;> rcases j with⟨rfl,rfl⟩ | ⟨y',k',q',rfl,hy',rfl⟩
  ·simp
  ·simp [hy',Instr.sliceBound,asIntOf,show hi≤c by omega]
  ·simp [hy,Instr.sliceBound,asIntOf,h1]
  ·simp [hy,hy',Instr.sliceBound,asIntOf,show hi≤c by omega,h1]
 by_cases f:c=lo
 ·subst f
  simp [execOp,a,Instr.sliceAt,Instr.slice,run_underlying hu,b,hs]
 ·simp [execOp,a,Instr.sliceAt,Instr.slice,run_underlying hu,b,hs,f,Addr.add_mid]
theorem rx{e:Operand→Value}{d:Option Tmp}{pos:String}{af:Array Edge}{gd:Option (Nat × Bool)}{x:Operand}{oh:Option Operand}(hu:P.underlying t=some (.slice el))(hs:∀ w,(sizeOf el).run P w = .ok size w)(h2:hi≤c)(hx:e x = .slice (some ⟨g,o,none⟩) n c)
  (hoh:oh=none∧hi=n ∨ ∃ y k q,oh=some y∧e y = .int k q∧q=hi):Yv P C e ⟨d,.slice t x none oh none,ty,pos,af,gd⟩ (.slice (some ⟨g,o,none⟩) hi c):=fun w _=>by
 have e2:(Instr.sliceBounds true n c none (oh.map e) none).run P w = .ok (0,hi,c) w:=by
  unfold Instr.sliceBounds
  rcases hoh with⟨rfl,rfl⟩ | ⟨y',k',q',rfl,hy',rfl⟩
  ·simp
  ·simp [hy',Instr.sliceBound,asIntOf,show hi≤c by omega]
 simp [execOp,hx,Instr.sliceAt,Instr.slice,run_underlying hu,e2,hs]
 intro _;simp [Addr.add]
theorem CC{A:Option Addr}{mx:Nat}(hu:P.underlying t=some (.slice el))(hs:∀ w,(sizeOf el).run P w = .ok size w)(h1:lo≤hi)(h2:hi≤mx)(h3:mx≤c) :
  ∃ v,∀ {C:World→Prop} {e:Operand→Value} {d:Option Tmp} {ty:TypeId} {pos:String} {af:Array Edge} {gd:Option (Nat × Bool)} {x yl yh ym:Operand} {kl kh km:IntKind} {ql qh qm:Int},e x = .slice A n c→e yl = .int kl ql→ql=lo→e yh = .int kh qh→qh=hi→e ym = .int km qm→qm=mx→Yv P C e ⟨d,.slice t x (some yl) (some yh) (some ym),ty,pos,af,gd⟩ v:=by
 refine⟨.slice (if mx=lo then A else A.map (·.add (lo * size))) (hi - lo) (mx - lo),fun {C e d ty pos af gd x yl yh ym kl kh km ql qh qm} a b el' f eh g em w _ => ?_⟩
 subst el' eh em
 have h:(Instr.sliceBounds true n c (some (e yl)) (some (e yh)) (some (e ym))).run P w = .ok (lo,hi,mx) w:=by
  simp [Instr.sliceBounds,b,f,g,Instr.sliceBound,asIntOf,h1,h2,h3]
 simp [execOp,a,Instr.sliceAt,Instr.slice,run_underlying hu,h,hs]
theorem xh{e:Operand→Value}{d:Option Tmp}{pos:String}{af:Array Edge}{gd:Option (Nat × Bool)}{x:Operand}{A:Option Addr}{ts:Array TypeId}(ht:P.underlying t=some (.slice el))(hts:ts[0]? = some t)(h:e x = .slice A n c):Yv P C e ⟨d,.call ⟨.builtin .cap,#[x],ts⟩,ty,pos,af,gd⟩ (.int .i64 c):=fun w _=>by
 simp [execOp,resolve,invoke,builtin,h,hts,Builtin.cap_,goInt,run_underlying ht]
theorem j9{e:Operand→Value}{d:Option Tmp}{pos:String}{af:Array Edge}{gd:Option (Nat × Bool)}{x y:Operand}{kk:IntKind}{q:Int}{o':Nat}(hu:P.underlying t=some (.slice el))(hs:∀ w,(sizeOf el).run P w = .ok size w)(hk:k<n)(ho:o+k * size=o')
  (hx:e x = .slice (some ⟨g,o,none⟩) n c) (hy:e y = .int kk q) (hq:q=k):Yv P C e ⟨d,.indexAddr t x y,ty,pos,af,gd⟩ (.pointer (some ⟨g,o',none⟩)):=fun w _=>by
 subst hq ho
 simp [execOp,hx,hy,Instr.indexAt,asIntOf,run_underlying hu,hs,hk,Addr.add_mid]
theorem Aj{i j kz:Nat}{vs:List Value}(S:St X W r0 rd bx ow w)(hi:bx[i]? = some (g,T,cs))(ht:mE P t kz)(hk:vs.length=kz)(hv:∀ m u,vs[m]? = some u→cs[j+m]? = some u):Ld P w t (.pointer (some ⟨g,j,none⟩)) (.agg vs.toArray) :=
 rX ht hk fun m u hu=>by rw [S.cell hi];exact hv m u hu
theorem zG{i j:Nat}{v:Value}(S:St X W r0 rd bx ow w)(hi:bx[i]? = some (g,T,cs))(ht:lM P t)(hv:cs[j]? = some v):Ld P w t (.pointer (some ⟨g,j,none⟩)) v:=rL ht (by rw [S.cell hi];exact hv)
end
section
variable {P:Program} {Q:Exit→Act→World→Prop} {X:List Nat} {W w w':World} {r0 rd:Rd} {bx:List je} {ow:List h7} {n d:Nat} {l:Ov} {t ty:TypeId} {pos:String} {af:Array Edge} {v:Value} {x y:Operand} {g i j:Nat} {T:TypeId} {cs:Array Value} {rest:List Oper} {ops:Array Oper}
theorem nA{cs:Array Value}{j:Nat}{vs:List Value}(h:j+vs.length≤cs.size):(jb cs j vs).size=cs.size:=by
 unfold jb;simp;omega
theorem zD{u:Value}(S:St X W r0 rd bx ow w)(hx:ev n l x = .pointer (some ⟨g,j,none⟩))(hy:ev n l y=u)(hi:bx[i]? = some (g,T,cs))(hs:∀ w,(sizeOf t).run P w = .ok u.cells.size w)(hj:j+u.cells.size≤cs.size)
  (h1:u.cells.toList.all Value.oneCell'=true) (h:∀ w',St X W r0 rd (bx.set i (g,T,jb cs j u.cells.toList)) ow w'→WL P ops Q rest (fd ds n l) w'):WL P ops Q (⟨none,.store t x y,ty,pos,af,none⟩ :: rest) (fd ds n l) w:=by
 have a:=(S.box _ (List.mem_of_getElem? hi)).2.1
 have b:=vH (P:=P) (t:=t) a hs (Nat.ble_eq_true_of_le hj) (fun c d=>List.all_eq_true.1 h1 c (by simpa using d))
 refine rU (w':=w.setRow g (jb cs j u.cells.toList)) (.inr ⟨rfl,?_⟩) (h _ (S.wrote hi (qp w g _) (setRow_heap w g cs _ T _ a)))
 simp [execOp,hx,hy,b]
theorem E6{el:TypeId}{size bytes m k c cx i' gx ox:Nat}{Tx:TypeId}{csx:Array Value}{s:Operand}{news:List Value}(S:St X W r0 rd bx ow w)(K:li P t el size bytes)(hs:ev n l s = .slice (some ⟨g,0,none⟩) k c)(hx:ev n l x = .slice (some ⟨gx,ox,none⟩) m cx)(hi:bx[i]? = some (g,el,cs))(hix:bx[i']? = some (gx,Tx,csx))
  (hn:news.length=m * size) (hnews:∀ j u,news[j]? = some u→csx[ox+j]? = some u) (h1:∀ u∈news,u.oneCell'=true) (hr:k+m≤c) (hf:k * size+m * size≤cs.size)
  (h:∀ w',St X W r0 rd (bx.set i (g,el,jb cs (k * size) news)) ow w'→WL P ops Q rest (fd ds n ((d,.slice (some ⟨g,0,none⟩) (k+m) c) :: l)) w'):WL P ops Q (⟨some d,.call ⟨.builtin .append,#[s,x],#[t,t]⟩,ty,pos,af,none⟩ :: rest) (fd ds n l) w:=by
 obtain⟨inf,z,b,e,_,f,_,_,_⟩:=K.ex
 subst f
 have a:=(S.box _ (List.mem_of_getElem? hi)).2.1
 have o:=run_append_room (P:=P) w t ty el inf b e g k c cs a ⟨gx,ox,none⟩ m cx news hn (fun j u p=>by rw [Addr.add_mid,S.cell hix];exact hnews j u p) h1 hr (by omega)
 refine mz (.inl ?_) (h _ (S.wrote hi (qp w g _) (setRow_heap w g cs _ el _ a)))
 simp [execOp,resolve,invoke,builtin,hs,hx,o,jb]
theorem xW{el:TypeId}{size bytes m c o:Nat}{z:Value}(S:St X W r0 rd bx ow w)(K:li P t el size bytes)(hz:∀ w,(zeroValue el).run P w = .ok z w)(hzz:z.cells.toList.all Value.oneCell'=true)(hx:ev n l x = .slice (some ⟨g,o,none⟩) m c)(hi:bx[i]? = some (g,T,cs))(hf:0<m→o+m * size≤cs.size)
  (h:∀ w' zs,zs.length=m * size→St X W r0 rd (bx.set i (g,T,if m=0 then cs else jb cs o zs)) ow w'→WL P ops Q rest (fd ds n l) w'):WL P ops Q (⟨none,.call ⟨.builtin .clear,#[x],#[t]⟩,ty,pos,af,none⟩ :: rest) (fd ds n l) w:=by
 obtain⟨_,z',d,s,u,_,_,y,_⟩:=K.ex
 have A:z'=z:=by
  have b:=hz w
  unfold zeroValue typeInfo at b
  simp [s,u] at b
  exact b
 subst A
 have f:=(S.box _ (List.mem_of_getElem? hi)).2.1
 by_cases k:m=0
 ·subst k
  refine rU (w':=w) (v:=.tuple #[]) (.inl ?_) (h _ [] (by simp) (by
   rw [if_pos rfl]
   have:bx.set i (g,T,cs)=bx:=by
    apply List.ext_getElem?
    intro j
    rw [List.getElem?_set]
    split
    ·rename_i e;subst e;rw [hi];rw [if_pos (List.getElem?_eq_some_iff.1 hi).1]
    ·rfl
   rw [this];exact S))
  simp [execOp,resolve,invoke,builtin,hx,Builtin.clear_,run_underlying d]
 ·have p:(Builtin.zeroCells z'.cells m).toList.length=m * size:=by simp [Builtin.zeroCells,y]
  have q:=run_storeCells_at (P:=P) g o T (Builtin.zeroCells z'.cells m).toList 0 cs w f (by simp only [Nat.add_zero];rw [p];exact hf (by omega)) (fun v r=>by
   simp only [Builtin.zeroCells,Array.toList_map,List.mem_map] at r
   obtain⟨a,_,rfl⟩:=r
   have B:a % z'.cells.size<z'.cells.size:=Nat.mod_lt _ (by omega)
   rw [getElem!_pos z'.cells (a % z'.cells.size) B]
   exact List.all_eq_true.1 hzz _ (by simp))
  simp only [Nat.add_zero] at q
  refine rU (w':=w.setRow g (jb cs o (Builtin.zeroCells z'.cells m).toList)) (v:=.tuple #[]) (.inl ?_) (h _ _ p (by rw [if_neg k];exact S.wrote hi (qp w g _) (setRow_heap w g cs _ T _ f)))
  obtain⟨m',rfl⟩:∃ m',m=m'+1:=⟨m - 1,by omega⟩
  simp [execOp,resolve,invoke,builtin,hx,Builtin.clear_,run_underlying d,hz,q,jb]
end
end
end Go.Proofs.YtkjknlnhffmkkacGreat
