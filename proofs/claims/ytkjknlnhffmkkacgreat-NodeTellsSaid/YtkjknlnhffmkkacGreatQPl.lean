/- Plain laws: clocks, updates, logs, states. No program in sight. -/
import Derived.WalkKit
import Derived.Maps.AppendAt
import Derived.Deep.AppendLies
import Derived.Deep.Draws
namespace Go.Proofs.YtkjknlnhffmkkacGreat
open Go.RowKit
set_option linter.unusedVariables false

theorem hid {p:Prop} (h:p):Hid p:=h
theorem ret_i {k:IntKind} {a b:Int} (h:a = b):Ending.returned (.int k a) = .returned (.int k b):=by rw [h]
theorem ret_b {a b:Bool} (h:a = b):Ending.returned (.bool a) = .returned (.bool b):=by rw [h]

/-- a reading of memory: block, place -/
abbrev Rd:=Nat → Nat → Option Value
def wrd (w:World):Rd:=fun b o => w.cell? ⟨b,o,none⟩
/-- without one block -/
def but (w:World) (g:Option Nat):Rd:=fun b o => if some b = g then none else w.cell? ⟨b,o,none⟩
/-- below a block -/
def upto (w:World) (B:Nat):Rd:=fun b o => if b < B then w.cell? ⟨b,o,none⟩ else none
def Rd.le (r s:Rd):Prop:=∀ b o v,r b o = some v → s b o = some v

theorem Rd.le_refl (r:Rd):Rd.le r r:=fun _ _ _ h => h
theorem Rd.le_trans {r s t:Rd} (h:Rd.le r s) (k:Rd.le s t):Rd.le r t:=fun b o v e => k b o v (h b o v e)
theorem below_drewN (B:Nat) (w:World) (n:Nat):Below B w (w.drewN n):=⟨rfl,rfl,rfl,Nat.le_refl _,fun _ _ => rfl⟩
theorem blk_lt {w:World} {b o:Nat} {v:Value} (h:w.cell? ⟨b,o,none⟩ = some v):b < w.heap.size:=World.block_lt_of_cell? w ⟨b,o,none⟩ h
theorem le_below {w w':World} {B:Nat} (hb:Below B w w') (hB:w.heap.size ≤ B):Rd.le (wrd w) (wrd w'):=fun b o v h => by
  have:=blk_lt h
  exact (hb.cell (p:=⟨b,o,none⟩) (by show b < B;omega)).trans h
theorem le_alloc (w:World) (o:Obj):Rd.le (wrd w) (wrd (w.alloc o)):=le_below ((Below.refl _ _).alloc (Nat.le_refl _) o) (Nat.le_refl _)
theorem upto_top (w:World):Rd.le (wrd w) (upto w w.heap.size):=fun b o v h => by
  unfold upto
  rw [if_pos (blk_lt h)]
  exact h
theorem upto_le {w0 w:World} {B:Nat} (hb:Below B w0 w):Rd.le (upto w0 B) (wrd w):=fun b o v h => by
  unfold upto at h
  split at h
  · rename_i hlt
    exact (hb.cell (p:=⟨b,o,none⟩) hlt).trans h
  · cases h
/-- one thing of some cells -/
abbrev CR (α:Type):=Rd → List Value → α → Prop
def MonoR {α:Type} (R:CR α):Prop:=∀ r s cs x,Rd.le r s → R r cs x → R s cs x

def RowR {α:Type} (size:Nat) (R:CR α) (rd:Rd):List Value → List α → Prop
  | xs,[] => xs = []
  | xs,x :: l => ∃ cs rest,xs = cs ++ rest ∧ cs.length = size ∧ R rd cs x ∧ RowR size R rd rest l

section
variable {α:Type} {size:Nat} {R:CR α} {rd:Rd}
theorem RowR.len:∀ {l:List α} {xs:List Value},RowR size R rd xs l → xs.length = l.length * size
  | [],_,h => by cases h;simp
  | x :: l,_,⟨cs,rest,e,h1,_,h3⟩ => by
    subst e
    have:=h3.len
    simp [h1,this,Nat.add_mul,Nat.add_comm]
theorem RowR.mono {rd':Rd} (hm:MonoR R) (hle:Rd.le rd rd'):∀ {l:List α} {xs:List Value},RowR size R rd xs l → RowR size R rd' xs l
  | [],_,h => h
  | _ :: _,_,⟨cs,rest,e,h1,h2,h3⟩ => ⟨cs,rest,e,h1,hm _ _ _ _ hle h2,h3.mono hm hle⟩
theorem RowR.append:∀ {l m:List α} {xs ys:List Value},RowR size R rd xs l → RowR size R rd ys m → RowR size R rd (xs ++ ys) (l ++ m)
  | [],_,_,_,h,k => by cases h;exact k
  | _ :: _,_,_,_,⟨cs,rest,e,h1,h2,h3⟩,k => ⟨cs,rest ++ _,by rw [e,List.append_assoc],h1,h2,h3.append k⟩
theorem RowR.one {cs:List Value} {x:α} (h1:cs.length = size) (h:R rd cs x):RowR size R rd cs [x]:=⟨cs,[],by simp,h1,h,rfl⟩
theorem RowR.push {l:List α} {xs cs:List Value} {x:α} (h:RowR size R rd xs l) (h1:cs.length = size) (hx:R rd cs x):RowR size R rd (xs ++ cs) (l ++ [x]):=h.append (RowR.one h1 hx)
/-- a row's cells, place by place -/
theorem RowR.get:∀ {l:List α} {xs:List Value} (k:Nat) {x:α},RowR size R rd xs l → l[k]? = some x →
    ∃ cs,cs.length = size ∧ R rd cs x ∧ ∀ j u,cs[j]? = some u → xs[k * size + j]? = some u
  | [],_,k,x,_,hk => by simp at hk
  | y :: l,_,0,x,⟨cs,rest,e,h1,h2,h3⟩,hk => by
    simp at hk;subst hk;subst e
    refine ⟨cs,h1,h2,fun j u hu => ?_⟩
    have hj:j < cs.length:=(List.getElem?_eq_some_iff.1 hu).1
    rw [Nat.zero_mul,Nat.zero_add,List.getElem?_append_left hj]
    exact hu
  | y :: l,_,k + 1,x,⟨cs,rest,e,h1,h2,h3⟩,hk => by
    subst e
    obtain ⟨cs',a,b,c⟩:=h3.get k (by simpa using hk)
    refine ⟨cs',a,b,fun j u hu => ?_⟩
    rw [List.getElem?_append_right (by rw [h1,Nat.add_mul];omega)]
    rw [← c j u hu]
    congr 1
    rw [h1,Nat.add_mul]
    omega
theorem RowR.drop:∀ {l:List α} {xs:List Value} (k:Nat),k ≤ l.length → RowR size R rd xs l → RowR size R rd (xs.drop (k * size)) (l.drop k)
  | _,_,0,_,h => by simpa using h
  | [],_,k + 1,hk,h => by simp at hk
  | y :: l,_,k + 1,hk,⟨cs,rest,e,h1,h2,h3⟩ => by
    subst e
    have:=h3.drop k (by simpa using hk)
    rw [List.drop_succ_cons,Nat.add_mul,Nat.add_comm (k * size),Nat.one_mul,← List.drop_drop]
    rw [show (cs ++ rest).drop size = rest by rw [← h1];simp]
    exact this
theorem RowR.take:∀ {l:List α} {xs:List Value} (k:Nat),RowR size R rd xs l → RowR size R rd (xs.take (k * size)) (l.take k)
  | _,_,0,h => by simp [RowR]
  | [],_,k + 1,h => by cases h;simp [RowR]
  | y :: l,_,k + 1,⟨cs,rest,e,h1,h2,h3⟩ => by
    subst e
    have:=h3.take k
    refine ⟨cs,rest.take (k * size),?_,h1,h2,this⟩
    rw [Nat.add_mul,Nat.add_comm (k * size),Nat.one_mul,List.take_append,List.take_of_length_le (by omega),h1]
    simp
end

/-- a slice's value reads as a list -/
def SliceR {α:Type} (size:Nat) (R:CR α) (rd:Rd) (v:Value) (l:List α):Prop :=
  ∃ A c xs,v = .slice A l.length c ∧ l.length ≤ c ∧ c ≤ maxLen ∧ RowR size R rd xs l ∧
    (l ≠ [] → ∃ b o,A = some ⟨b,o,none⟩ ∧ ∀ j u,xs[j]? = some u → rd b (o + j) = some u)

section
variable {α:Type} {size:Nat} {R:CR α} {rd:Rd}
theorem SliceR.mono {rd':Rd} {v:Value} {l:List α} (h:SliceR size R rd v l) (hm:MonoR R) (hle:Rd.le rd rd'):SliceR size R rd' v l:=by
  obtain ⟨A,c,xs,e,h1,h2,h3,h4⟩:=h
  refine ⟨A,c,xs,e,h1,h2,h3.mono hm hle,fun hl => ?_⟩
  obtain ⟨b,o,eA,hc⟩:=h4 hl
  exact ⟨b,o,eA,fun j u hu => hle _ _ _ (hc j u hu)⟩
theorem SliceR.len {A:Option Addr} {n c:Nat} {l:List α} (h:SliceR size R rd (.slice A n c) l):n = l.length ∧ n ≤ c ∧ c ≤ maxLen:=by
  obtain ⟨A',c',xs,e,h1,h2,_⟩:=h
  injection e with e1 e2 e3
  subst e2 e3
  exact ⟨rfl,h1,h2⟩
theorem SliceR.val {v:Value} {l:List α} (h:SliceR size R rd v l):∃ A c,v = .slice A l.length c ∧ l.length ≤ c ∧ c ≤ maxLen:=by
  obtain ⟨A,c,xs,e,h1,h2,_⟩:=h
  exact ⟨A,c,e,h1,h2⟩
/-- element k: its address, its cells -/
theorem SliceR.get {A:Option Addr} {n c:Nat} {l:List α} {k:Nat} {x:α} (h:SliceR size R rd (.slice A n c) l) (hk:l[k]? = some x) :
    ∃ b o cs,A = some ⟨b,o,none⟩ ∧ cs.length = size ∧ R rd cs x ∧ ∀ j u,cs[j]? = some u → rd b (o + k * size + j) = some u:=by
  obtain ⟨A',c',xs,e,h1,h2,h3,h4⟩:=h
  injection e with e1 e2 e3
  subst e1
  obtain ⟨b,o,eA,hc⟩:=h4 (by intro e;subst e;simp at hk)
  obtain ⟨cs,a1,a2,a3⟩:=h3.get k hk
  exact ⟨b,o,cs,eA,a1,a2,fun j u hu => by have:=hc _ _ (a3 j u hu);rwa [← Nat.add_assoc] at this⟩
theorem SliceR.nil_ (rd:Rd):SliceR size R rd (.slice none 0 0) ([]:List α):=⟨none,0,[],rfl,Nat.le_refl _,by simp [maxLen],rfl,fun h => absurd rfl h⟩
theorem SliceR.empty_ (rd:Rd) (A:Option Addr) (c:Nat) (hc:c ≤ maxLen):SliceR size R rd (.slice A 0 c) ([]:List α):=⟨A,c,[],rfl,Nat.zero_le _,hc,rfl,fun h => absurd rfl h⟩
end

def IntR:CR Int:=fun _ cs n => cs = [.int .i64 n]
def BoolR:CR Bool:=fun _ cs b => cs = [.bool b]
/-- one cell that holds a slice -/
def SlC {α:Type} (size:Nat) (R:CR α):CR (List α):=fun rd cs l => ∃ v,cs = [v] ∧ SliceR size R rd v l
theorem mono_int:MonoR IntR:=fun _ _ _ _ _ h => h
theorem mono_sl {α:Type} {size:Nat} {R:CR α} (hm:MonoR R):MonoR (SlC size R):=fun _ _ _ _ hle ⟨v,e,h⟩ => ⟨v,e,h.mono hm hle⟩
/-- a struct by value -/
def AggR {α:Type} (R:CR α):Rd → Value → α → Prop:=fun rd v x => ∃ cs,v = .agg cs.toArray ∧ R rd cs x

abbrev IntsR:=SliceR 1 IntR
theorem IntsR.mono {rd rd':Rd} {v:Value} {l:List Int} (h:IntsR rd v l) (hle:Rd.le rd rd'):IntsR rd' v l:=SliceR.mono h mono_int hle
theorem IntsR.at_ {rd:Rd} {A:Option Addr} {n c:Nat} {l:List Int} (h:IntsR rd (.slice A n c) l) {k:Nat} (hk:k < l.length) :
    ∃ b o,A = some ⟨b,o,none⟩ ∧ rd b (o + k) = some (.int .i64 l[k]):=by
  obtain ⟨b,o,cs,e,h1,h2,h3⟩:=SliceR.get h (k:=k) (x:=l[k]) (by simp [hk])
  cases h2
  exact ⟨b,o,e,by simpa using h3 0 _ rfl⟩

theorem IntsR.cell {rd:Rd} {b o n c:Nat} {l:List Int} (h:IntsR rd (.slice (some ⟨b,o,none⟩) n c) l) {w:World} (hle:Rd.le rd (wrd w)) {k:Nat} (hk:k < l.length):w.cell? ⟨b,o + k,none⟩ = some (.int .i64 l[k]):=by
  obtain ⟨b',o',e,hc⟩:=h.at_ hk
  cases e
  exact hle _ _ _ hc

/-- what the call owns and lets grow -/
def OwnR {α:Type} (size:Nat) (R:CR α) (base:Nat) (e:TypeId) (w:World) (rd:Rd) (v:Value) (l:List α):Prop :=
  ∃ xs,w.ownsRow base e size v l.length xs ∧ RowR size R rd xs l

section
variable {α:Type} {size base:Nat} {R:CR α} {rd:Rd} {e:TypeId} {w:World} {v:Value} {l:List α}
theorem OwnR.nil_:OwnR size R base e w rd (.slice none 0 0) ([]:List α):=⟨[],World.ownsRow_nil w base e size,rfl⟩
theorem OwnR.block (h:OwnR size R base e w rd v l):∀ k,v.ownBlock = some k → base ≤ k ∧ k < w.heap.size:=by
  obtain ⟨xs,h1,_⟩:=h
  exact h1.lt
theorem OwnR.mono {rd':Rd} (h:OwnR size R base e w rd v l) (hm:MonoR R) (hle:Rd.le rd rd'):OwnR size R base e w rd' v l:=by
  obtain ⟨xs,h1,h2⟩:=h
  exact ⟨xs,h1,h2.mono hm hle⟩
theorem OwnR.below {w':World} (h:OwnR size R base e w rd v l) (hb:Below w.heap.size w w'):OwnR size R base e w' rd v l:=by
  obtain ⟨xs,h1,h2⟩:=h
  exact ⟨xs,h1.kept (row:=none) ⟨hb.os,hb.tape,hb.output,hb.size,fun k hk _ => hb.block k hk⟩ (by cases hv:v.ownBlock <;> simp),h2⟩
theorem OwnR.alloc (h:OwnR size R base e w rd v l) (o:Obj):OwnR size R base e (w.alloc o) rd v l:=h.below ((Below.refl _ _).alloc (Nat.le_refl _) o)
theorem OwnR.slice (h:OwnR size R base e w rd v l) (hm:MonoR R) (hle:Rd.le rd (wrd w)):SliceR size R (wrd w) v l:=by
  obtain ⟨xs,h1,h2⟩:=h
  have hx:=h1
  rcases h1.2 with ⟨rfl,hn⟩ | ⟨g,cap,cur,rfl,_,hh,hc,hm',_⟩
  · have:l = []:=List.eq_nil_of_length_eq_zero hn
    subst this
    exact SliceR.nil_ _
  · refine ⟨some ⟨g,0,none⟩,cap,xs,rfl,hc,hm',h2.mono hm hle,fun _ => ⟨g,0,rfl,fun j u hu => ?_⟩⟩
    have:=hx.cells (g:=g) rfl j u hu
    have e:(⟨g,0,none⟩:Addr).add j = ⟨g,j,none⟩:=by unfold Addr.add;split <;> simp_all
    rw [e] at this
    simpa [wrd] using this
theorem OwnR.val (h:OwnR size R base e w rd v l):∃ A c,v = .slice A l.length c ∧ l.length ≤ c ∧ c ≤ maxLen:=by
  obtain ⟨xs,h1,h2⟩:=h
  rcases h1.2 with ⟨rfl,hn⟩ | ⟨g,cap,cur,rfl,_,hh,hc,hm',_⟩
  · exact ⟨none,0,by rw [hn],by omega,by simp [maxLen]⟩
  · exact ⟨_,_,rfl,hc,hm'⟩
end

theorem below_grown {w w':World} {base:Nat} {row:Option Nat} (hg:w.grownBy w' row) (hB:base ≤ w.heap.size) (hr:∀ k,row = some k → base ≤ k):Below base w w' :=
  (Below.refl _ _).grown hg hB hr

theorem alloc_cells (w:World) (cs:List Value) (e:TypeId) (f:Nat × Nat):∀ (j:Nat) (u:Value),cs[j]? = some u → (w.alloc (.cells cs.toArray e f)).cell? ⟨w.heap.size,j,none⟩ = some u:=by
  intro j u hu
  rw [cell_of_row _ w.heap.size j cs.toArray e f (heap_alloc_new w _)]
  simpa using hu

/-- what append asks of a slice type t over e -/
structure ElemOk (P:Program) (t e:TypeId) (size bytes:Nat):Prop where
  ex:∃ (i:TypeInfo) (z:Value),P.underlying t = some (.slice e) ∧ P.info? e = some i ∧ i.zero = some z ∧ i.size = size ∧ i.bytes = bytes ∧ z.cells.size = size ∧ 0 < size

/-- append of one thing onto what the call owns -/
theorem wpList_push {α:Type} {P:Program} (w:World) {ops:Array Oper} {rest:List Oper} {o:Oper} {a:Act} {Q:Exit → Act → World → Prop} (hgd:o.guard = none) (s x:Operand) (t:TypeId)
    (ho:o.op = .call { callee:=.builtin .append,args:=#[s,x],argTypes:=#[t,t] })
    {size:Nat} {R:CR α} (base:Nat) (e:TypeId) (bytes:Nat) (K:ElemOk P t e size bytes) (rd:Rd) (v:Value) (l:List α) (hs:a.eval s = v) (hown:OwnR size R base e w rd v l)
    (b:Nat) (c:Nat) (news:List Value) (y:α) (hx:a.eval x = .slice (some ⟨b,0,none⟩) 1 c) (hl:news.length = size) (hnews:∀ j u,news[j]? = some u → w.cell? ⟨b,j,none⟩ = some u) (h1:∀ u ∈ news,u.oneCell' = true)
    (hR:R rd news y) (hbytes:(l.length + 1) * bytes ≤ 140737488355328 ∧ l.length + 1 ≤ maxLen) (hbase:base ≤ w.heap.size)
    (h:∀ v' w',OwnR size R base e w' rd v' (l ++ [y]) → Below base w w' → w.grownBy w' v.ownBlock → (v'.ownBlock = v.ownBlock ∨ v'.ownBlock = some w.heap.size) → wpList P ops Q rest (a.put o.dst v') w'):wpList P ops Q (o :: rest) a w:=by
  obtain ⟨i,z,ht,hi,hz,hsize,hby,hzs,hsz⟩:=K.ex
  obtain ⟨xs,hrow,hrr⟩:=hown
  refine wpList_plain hgd fun _ hK => ?_
  obtain ⟨v',w',hrun,h2,h3,_,h4⟩:=run_append_own_at (P:=P) w base t o.type e i z size bytes ht hi hz hsize hby hzs hsz v l.length xs hrow ⟨b,0,none⟩ 1 c news (by simp [hl])
    (fun j u hu => by have:=hnews j u hu;rw [show (⟨b,0,none⟩:Addr).add j = ⟨b,j,none⟩ by unfold Addr.add;split <;> simp_all];exact this) h1 (by omega) hbytes.1 hbase
  unfold Oper.wp execOp
  simp only [ho,resolve,invoke,builtin,Sem.run_bind,Sem.run_pure,Result.andThen_ok,List.map_toArray,List.map_cons,List.map_nil,hs,hx,hrun]
  exact hK _ _ (h v' w' ⟨xs ++ news,by simpa using h2,hrr.push hl hR⟩ (below_grown h3 hbase fun k hk => (hrow.lt k hk).1) h3 h4)

def OneR {α:Type} (R:CR α):Prop:=∀ rd cs x,R rd cs x → ∀ u ∈ cs,u.oneCell' = true
theorem one_int:OneR IntR:=fun _ cs x h u hu => by cases h;rw [List.mem_singleton.1 hu];rfl
theorem one_sl {α:Type} {size:Nat} {R:CR α}:OneR (SlC size R):=fun _ cs x ⟨v,e,A,c,xs,ev,_⟩ u hu => by
  subst e ev;rw [List.mem_singleton.1 hu];rfl
theorem RowR.one_ {α:Type} {size:Nat} {R:CR α} {rd:Rd} (h1:OneR R):∀ {l:List α} {xs:List Value},RowR size R rd xs l → ∀ u ∈ xs,u.oneCell' = true
  | [],_,h,u,hu => by cases h;cases hu
  | _ :: _,_,⟨cs,rest,e,_,h2,h3⟩,u,hu => by
    subst e
    rcases List.mem_append.1 hu with h | h
    · exact h1 _ _ _ h2 u h
    · exact h3.one_ h1 u h

theorem run_append_of_nil {P:Program} (w:World) (base:Nat) (t ty e:TypeId) (i:TypeInfo) (size:Nat) (ht:P.underlying t = some (.slice e)) (hi:P.info? e = some i)
    (v:Value) (n:Nat) (xs:List Value) (hown:w.ownsRow base e size v n xs) (c:Nat):(Builtin.append_ #[t,t] ty #[v,.slice none 0 c]).run P w = .ok v w:=by
  rcases hown.2 with ⟨rfl,rfl⟩ | ⟨g,cap,cur,rfl,_,_,hnc,_⟩
  · simp [Builtin.append_,run_underlying ht,sizeOf,typeInfo,hi,Builtin.lenOf,Builtin.firstCells]
  · simp [Builtin.append_,run_underlying ht,sizeOf,typeInfo,hi,Builtin.lenOf,Builtin.firstCells,hnc,storeCells]

/-- append of a whole slice onto what the call owns -/
theorem run_cat {α:Type} {P:Program} (w:World) (t ty:TypeId) {size:Nat} {R:CR α} (base:Nat) (e:TypeId) (bytes:Nat) (K:ElemOk P t e size bytes) (rd:Rd) (hle:Rd.le rd (wrd w)) (h1:OneR R)
    (v u:Value) (l m:List α) (hown:OwnR size R base e w rd v l) (hu:SliceR size R rd u m) (hbytes:(l.length + m.length) * bytes ≤ 140737488355328 ∧ l.length + m.length ≤ maxLen) (hbase:base ≤ w.heap.size) :
    ∃ v' w',(Builtin.append_ #[t,t] ty #[v,u]).run P w = .ok v' w' ∧ OwnR size R base e w' rd v' (l ++ m) ∧ Below base w w' ∧ w.grownBy w' v.ownBlock ∧ (v'.ownBlock = v.ownBlock ∨ v'.ownBlock = some w.heap.size):=by
  obtain ⟨i,z,ht,hi,hz,hsize,hby,hzs,hsz⟩:=K.ex
  obtain ⟨xs,hrow,hrr⟩:=hown
  obtain ⟨A,c,ys,rfl,hc1,hc2,hys,hcell⟩:=hu
  rcases m with _ | ⟨y,m⟩
  · have hy0:ys = []:=by simpa [RowR] using hys
    subst hy0
    rcases A with _ | ad
    · exact ⟨v,w,run_append_of_nil w base t ty e i size ht hi v _ xs hrow c,⟨xs,by simpa using hrow,by simpa using hrr⟩,Below.refl _ _,World.grownBy.refl w _,.inl rfl⟩
    · obtain ⟨v',w',hrun,h2,h3,_,h4⟩:=run_append_own_at (P:=P) w base t ty e i z size bytes ht hi hz hsize hby hzs hsz v l.length xs hrow ad 0 c [] (by simp) (by simp) (by simp) (by simpa using hbytes.2) (by simpa using hbytes.1) hbase
      exact ⟨v',w',hrun,⟨xs,by simpa using h2,by simpa using hrr⟩,below_grown h3 hbase fun k hk => (hrow.lt k hk).1,h3,h4⟩
  · obtain ⟨b,o,rfl,hcl⟩:=hcell (by simp)
    obtain ⟨v',w',hrun,h2,h3,_,h4⟩:=run_append_own_at (P:=P) w base t ty e i z size bytes ht hi hz hsize hby hzs hsz v l.length xs hrow ⟨b,o,none⟩ (y :: m).length c ys hys.len
      (fun j u hu => by have:=hle _ _ _ (hcl j u hu);rw [show (⟨b,o,none⟩:Addr).add j = ⟨b,o + j,none⟩ by unfold Addr.add;split <;> simp_all];exact this) (hys.one_ h1) hbytes.2 hbytes.1 hbase
    exact ⟨v',w',hrun,⟨xs ++ ys,by simpa using h2,hrr.append hys⟩,below_grown h3 hbase fun k hk => (hrow.lt k hk).1,h3,h4⟩

theorem append_types {P:Program} (w:World) {t t' ty e e':TypeId} {i:TypeInfo} (ht:P.underlying t = some (.slice e)) (ht':P.underlying t' = some (.slice e')) (hi:P.info? e = some i) (A:Option Addr) (n c:Nat) (u:Value) :
    (Builtin.append_ #[t,t'] ty #[.slice A n c,u]).run P w = (Builtin.append_ #[t,t] ty #[.slice A n c,u]).run P w:=by
  simp [Builtin.append_,run_underlying ht,run_underlying ht',sizeOf,typeInfo,hi]

theorem wpList_cat {α:Type} {P:Program} (w:World) {ops:Array Oper} {rest:List Oper} {o:Oper} {a:Act} {Q:Exit → Act → World → Prop} (hgd:o.guard = none) (s x:Operand) (t:TypeId)
    (ho:o.op = .call { callee:=.builtin .append,args:=#[s,x],argTypes:=#[t,t] })
    {size:Nat} {R:CR α} (base:Nat) (e:TypeId) (bytes:Nat) (K:ElemOk P t e size bytes) (rd:Rd) (hle:Rd.le rd (wrd w)) (h1:OneR R)
    (v u:Value) (l m:List α) (hs:a.eval s = v) (hx:a.eval x = u) (hown:OwnR size R base e w rd v l) (hu:SliceR size R rd u m) (hbytes:(l.length + m.length) * bytes ≤ 140737488355328 ∧ l.length + m.length ≤ maxLen) (hbase:base ≤ w.heap.size)
    (h:∀ v' w',OwnR size R base e w' rd v' (l ++ m) → Below base w w' → w.grownBy w' v.ownBlock → (v'.ownBlock = v.ownBlock ∨ v'.ownBlock = some w.heap.size) → wpList P ops Q rest (a.put o.dst v') w'):wpList P ops Q (o :: rest) a w:=by
  refine wpList_plain hgd fun _ hK => ?_
  obtain ⟨v',w',hrun,h2,h3,h4,h5⟩:=run_cat (P:=P) w t o.type base e bytes K rd hle h1 v u l m hown hu hbytes hbase
  unfold Oper.wp execOp
  simp only [ho,resolve,invoke,builtin,Sem.run_bind,Sem.run_pure,Result.andThen_ok,List.map_toArray,List.map_cons,List.map_nil,hs,hx,hrun]
  exact hK _ _ (h v' w' h2 h3 h4 h5)

/-- a new block without cells is owned -/
theorem own_empty {α:Type} {size:Nat} {R:CR α} {base:Nat} {e:TypeId} (w:World) (rd:Rd) (hb:base ≤ w.heap.size):OwnR size R base e (w.alloc (.cells #[] e)) rd (.slice (some ⟨w.heap.size,0,none⟩) 0 0) ([]:List α) :=
  ⟨[],World.ownsRow_made w #[] 0 hb (by simp [maxLen]) (by simp),rfl⟩

theorem RowR.set_ {α:Type} {size:Nat} {R:CR α} {rd:Rd} {j:Nat} {u:Value} (hj:j < size):∀ {l:List α} {xs:List Value} (k:Nat) {x y:α},RowR size R rd xs l → l[k]? = some x →
    (∀ cs,cs.length = size → R rd cs x → R rd (cs.set j u) y) → RowR size R rd (xs.set (k * size + j) u) (l.set k y)
  | [],_,k,x,y,_,hk,_ => by simp at hk
  | z :: l,_,0,x,y,⟨cs,rest,e,h1,h2,h3⟩,hk,hR => by
    simp at hk;subst hk;subst e
    refine ⟨cs.set j u,rest,?_,by simpa using h1,hR cs h1 h2,h3⟩
    rw [Nat.zero_mul,Nat.zero_add,List.set_append_left _ _ (by omega)]
  | z :: l,_,k + 1,x,y,⟨cs,rest,e,h1,h2,h3⟩,hk,hR => by
    subst e
    refine ⟨cs,rest.set (k * size + j) u,?_,h1,h2,h3.set_ hj k (by simpa using hk) hR⟩
    rw [List.set_append_right _ _ (by rw [h1,Nat.add_mul];omega)]
    congr 2
    rw [h1,Nat.add_mul]
    omega

section
variable {α:Type} {size base:Nat} {R:CR α} {rd:Rd} {e:TypeId} {w:World} {v:Value} {l:List α}
/-- the block of what the call owns, where it has an entry -/
theorem OwnR.blk (h:OwnR size R base e w rd v l) {k:Nat} (hk:k < l.length):∃ g cap,v = .slice (some ⟨g,0,none⟩) l.length cap ∧ base ≤ g ∧ g < w.heap.size ∧ l.length ≤ cap ∧ cap ≤ maxLen ∧ (∀ o,w.frozen? ⟨g,o,none⟩ = false) ∧
    ∃ cs,cs.length = size ∧ R rd cs l[k] ∧ ∀ j u,cs[j]? = some u → w.cell? ⟨g,k * size + j,none⟩ = some u:=by
  obtain ⟨xs,h1,h2⟩:=h
  have hx:=h1
  rcases h1.2 with ⟨rfl,hn⟩ | ⟨g,cap,cur,rfl,hb,hh,hc,hm',_⟩
  · omega
  · refine ⟨g,cap,rfl,hb,(hx.lt g rfl).2,hc,hm',fun o => by simp only [World.frozen?,hh];simp,?_⟩
    obtain ⟨cs,a1,a2,a3⟩:=h2.get k (x:=l[k]) (by simp [hk])
    refine ⟨cs,a1,a2,fun j u hu => ?_⟩
    have:=hx.cells (g:=g) rfl _ u (a3 j u hu)
    rwa [show (⟨g,0,none⟩:Addr).add (k * size + j) = ⟨g,k * size + j,none⟩ by unfold Addr.add;split <;> simp_all] at this
theorem OwnR.set_ {g n cap k j:Nat} {u:Value} {x y:α} (h:OwnR size R base e w rd (.slice (some ⟨g,0,none⟩) n cap) l) (hj:j < size) (hk:l[k]? = some x)
    (hR:∀ cs,cs.length = size → R rd cs x → R rd (cs.set j u) y):OwnR size R base e (w.setCell ⟨g,k * size + j,none⟩ u) rd (.slice (some ⟨g,0,none⟩) n cap) (l.set k y):=by
  obtain ⟨xs,h1,h2⟩:=h
  refine ⟨xs.set (k * size + j) u,⟨?_,?_⟩,h2.set_ hj k hk hR⟩
  · simpa using h1.1
  · rcases h1.2 with ⟨e,_⟩ | ⟨g',cap',cur,e,hb,hh,hc,hm',hs,ht⟩
    · cases e
    · injection e with e1 e2 e3
      injection e1 with e1
      injection e1 with e1
      subst e1 e2 e3
      have hlt:k * size + j < l.length * size:=by
        have h1:=(List.getElem?_eq_some_iff.1 hk).1
        have:(k + 1) * size ≤ l.length * size:=Nat.mul_le_mul_right _ h1
        rw [Nat.add_mul] at this
        omega
      refine .inr ⟨g,cap,cur.setIfInBounds (k * size + j) u,by simp,hb,by simp [World.setCell,Array.getElem?_modify,hh],by simpa using hc,hm',by simpa using hs,?_⟩
      rw [List.length_set,Array.toList_setIfInBounds,List.take_set,ht]
end

theorem below_next {W w w':World} (h:Below W.heap.size W w) (k:Below w.heap.size w w'):Below W.heap.size W w':=h.trans (k.mono h.size)
theorem rowInts (rd:Rd):∀ l:List Int,RowR 1 IntR rd (l.map (Value.int .i64)) l
  | [] => rfl
  | x :: l => ⟨[.int .i64 x],l.map (Value.int .i64),rfl,rfl,rfl,rowInts rd l⟩
/-- what the words ask of one thing's cells -/
class GoodR {α:Type} (R:CR α):Prop where
  mono:MonoR R
  one:OneR R
instance:GoodR IntR:=⟨mono_int,one_int⟩
instance {α:Type} {size:Nat} {R:CR α} [GoodR R]:GoodR (SlC size R):=⟨mono_sl GoodR.mono,one_sl⟩
theorem SliceR.up {α:Type} {size:Nat} {R:CR α} [GoodR R] {w w':World} {v:Value} {l:List α} (h:SliceR size R (wrd w) v l) (k:Below w.heap.size w w'):SliceR size R (wrd w') v l :=
  h.mono GoodR.mono (le_below k (Nat.le_refl _))
theorem SliceR.top {α:Type} {size:Nat} {R:CR α} [GoodR R] {W:World} {v:Value} {l:List α} (h:SliceR size R (wrd W) v l):SliceR size R (upto W W.heap.size) v l:=h.mono GoodR.mono (upto_top W)
theorem SliceR.of_top {α:Type} {size:Nat} {R:CR α} [GoodR R] {W w:World} {v:Value} {l:List α} (h:SliceR size R (upto W W.heap.size) v l) (k:Below W.heap.size W w):SliceR size R (wrd w) v l:=h.mono GoodR.mono (upto_le k)
theorem AggR.up {α:Type} {R:CR α} [GoodR R] {w w':World} {v:Value} {x:α} (h:AggR R (wrd w) v x) (k:Below w.heap.size w w'):AggR R (wrd w') v x:=by
  obtain ⟨cs,e,h⟩:=h
  exact ⟨cs,e,GoodR.mono _ _ _ _ (le_below k (Nat.le_refl _)) h⟩
theorem below_alloc1 (w:World) (o:Obj):Below w.heap.size w (w.alloc o):=(Below.refl _ _).alloc (Nat.le_refl _) o
theorem below_alloc2 (w:World) (o o':Obj):Below w.heap.size w ((w.alloc o).alloc o'):=(below_alloc1 w o).trans ((below_alloc1 _ o').mono (by simp))
/-- the step, told from the world ahead of a new block or a draw -/
theorem below_of_alloc {w w':World} {o:Obj} (k:Below (w.alloc o).heap.size (w.alloc o) w'):Below w.heap.size w w':=(below_alloc1 w o).trans (k.mono (by simp))
theorem below_of_drewN {w w':World} {n:Nat} (k:Below (w.drewN n).heap.size (w.drewN n) w'):Below w.heap.size w w':=(below_drewN _ w n).trans k

/-- a new block, later -/
theorem cells_of_new {w w1:World} {cs:Array Value} {t:TypeId} {g:Nat} (hg:g = w.heap.size) (k:Below (g + 1) (w.alloc (.cells cs t)) w1):∀ j,w1.cell? ⟨g,j,none⟩ = cs[j]?:=fun j => by
  subst hg
  rw [k.cell (p:=⟨w.heap.size,j,none⟩) (by show w.heap.size < _;omega),cell_of_row _ w.heap.size j cs t (0,0) (heap_alloc_new w _)]
theorem free_of_new {w w1:World} {cs:Array Value} {t:TypeId} {g:Nat} (hg:g = w.heap.size) (k:Below (g + 1) (w.alloc (.cells cs t)) w1):∀ j,w1.frozen? ⟨g,j,none⟩ = false:=fun j => by
  subst hg
  rw [k.frozen (p:=⟨w.heap.size,j,none⟩) (by show w.heap.size < _;omega)]
  unfold World.frozen?
  rw [heap_alloc_new w (.cells cs t)]
  show (decide (0 ≤ j) && decide (j < 0)) = false
  simp

/-- a block that is known whole -/
def Blk (w:World) (g:Nat) (t:TypeId) (cs:Array Value):Prop:=w.heap[g]? = some (.cells cs t (0,0))
theorem Blk.lt {w:World} {g:Nat} {t:TypeId} {cs:Array Value} (h:Blk w g t cs):g < w.heap.size:=by
  rcases Nat.lt_or_ge g w.heap.size with hlt | hge
  · exact hlt
  · unfold Blk at h;rw [Array.getElem?_eq_none hge] at h;cases h
theorem Blk.cell {w:World} {g:Nat} {t:TypeId} {cs:Array Value} (h:Blk w g t cs) (i:Nat):w.cell? ⟨g,i,none⟩ = cs[i]?:=cell_of_row w g i cs t (0,0) h
theorem Blk.frozen {w:World} {g:Nat} {t:TypeId} {cs:Array Value} (h:Blk w g t cs) (i:Nat):w.frozen? ⟨g,i,none⟩ = false:=by
  unfold World.frozen?
  rw [show w.heap[(⟨g,i,none⟩:Addr).block]? = some (.cells cs t (0,0)) from h]
  show (decide (0 ≤ i) && decide (i < 0)) = false
  simp
theorem Blk.new_ (w:World) (t:TypeId) (cs:Array Value):Blk (w.alloc (.cells cs t)) w.heap.size t cs:=heap_alloc_new w _
theorem Blk.up {w w':World} {g:Nat} {t:TypeId} {cs:Array Value} (h:Blk w g t cs) (k:Below w.heap.size w w'):Blk w' g t cs:=(k.block g h.lt).trans h
theorem Blk.upB {w w':World} {g B:Nat} {t:TypeId} {cs:Array Value} (h:Blk w g t cs) (k:Below B w w') (hg:g < B):Blk w' g t cs:=(k.block g hg).trans h
theorem Blk.c2 {w:World} {g:Nat} {t:TypeId} {a0 a1:Value} (h:Blk w g t #[a0,a1]):w.cell? ⟨g,0,none⟩ = some a0 ∧ w.cell? ⟨g,1,none⟩ = some a1 ∧ w.frozen? ⟨g,0,none⟩ = false ∧ w.frozen? ⟨g,1,none⟩ = false :=
  ⟨h.cell 0,h.cell 1,h.frozen 0,h.frozen 1⟩
theorem Blk.c5 {w:World} {g:Nat} {t:TypeId} {a0 a1 a2 a3 a4:Value} (h:Blk w g t #[a0,a1,a2,a3,a4]):w.cell? ⟨g,0,none⟩ = some a0 ∧ w.cell? ⟨g,1,none⟩ = some a1 ∧ w.cell? ⟨g,2,none⟩ = some a2 ∧ w.cell? ⟨g,3,none⟩ = some a3 ∧ w.cell? ⟨g,4,none⟩ = some a4 ∧ w.frozen? ⟨g,0,none⟩ = false ∧ w.frozen? ⟨g,1,none⟩ = false ∧ w.frozen? ⟨g,2,none⟩ = false ∧ w.frozen? ⟨g,3,none⟩ = false ∧ w.frozen? ⟨g,4,none⟩ = false :=
  ⟨h.cell 0,h.cell 1,h.cell 2,h.cell 3,h.cell 4,h.frozen 0,h.frozen 1,h.frozen 2,h.frozen 3,h.frozen 4⟩
/-- what was made from block B on -/
def newer (w:World) (B:Nat):Rd:=fun b o => if B ≤ b then w.cell? ⟨b,o,none⟩ else none
theorem newer_weak {w:World} {B B':Nat} (h:B' ≤ B):Rd.le (newer w B) (newer w B'):=fun b o v e => by
  unfold newer at e ⊢;split at e
  · rw [if_pos (by omega)];exact e
  · cases e
theorem newer_set {w:World} {B:Nat} {p:Addr} (hp:p.block < B) (u:Value):Rd.le (newer w B) (newer (w.setCell p u) B):=fun b o v e => by
  unfold newer at e ⊢;split at e
  · rename_i hb
    rw [if_pos hb,World.cell?_setCell_other w p ⟨b,o,none⟩ u (fun e => by subst e;exact absurd hp (by show ¬ b < B;omega))];exact e
  · cases e
theorem newer_le (w:World) (B:Nat):Rd.le (newer w B) (wrd w):=fun b o v h => by
  unfold newer at h;split at h
  · exact h
  · cases h
theorem OwnR.newer {α:Type} {size base:Nat} {R:CR α} {rd:Rd} {e:TypeId} {w:World} {v:Value} {l:List α} (h:OwnR size R base e w rd v l) (hm:MonoR R) (hle:Rd.le rd (newer w base)):SliceR size R (newer w base) v l:=by
  obtain ⟨xs,h1,h2⟩:=h
  have hx:=h1
  rcases h1.2 with ⟨rfl,hn⟩ | ⟨g,cap,cur,rfl,hg,hh,hc,hm',_⟩
  · have:l = []:=List.eq_nil_of_length_eq_zero hn
    subst this
    exact SliceR.nil_ _
  · refine ⟨some ⟨g,0,none⟩,cap,xs,rfl,hc,hm',h2.mono hm hle,fun _ => ⟨g,0,rfl,fun j u hu => ?_⟩⟩
    have:=hx.cells (g:=g) rfl j u hu
    have e:(⟨g,0,none⟩:Addr).add j = ⟨g,j,none⟩:=by unfold Addr.add;split <;> simp_all
    rw [e] at this
    unfold Proofs.YtkjknlnhffmkkacGreat.newer
    rw [if_pos hg,Nat.zero_add]
    exact this
theorem OwnR.ints_newer {base:Nat} {rd:Rd} {e:TypeId} {w:World} {v:Value} {l:List Int} (h:OwnR 1 IntR base e w rd v l):IntsR (Proofs.YtkjknlnhffmkkacGreat.newer w base) v l:=by
  obtain ⟨xs,h1,h2⟩:=h
  refine OwnR.newer (rd:=fun _ _ => none) ⟨xs,h1,?_⟩ mono_int (fun _ _ _ h => by cases h)
  clear h1
  induction l generalizing xs with
  | nil => exact h2
  | cons x l ih => obtain ⟨cs,rest,a,b,c,d⟩:=h2;exact ⟨cs,rest,a,b,c,ih _ d⟩
/-- what was made from block B on, without one block -/
def newb (w:World) (B:Nat) (g:Option Nat):Rd:=fun b o => if B ≤ b ∧ some b ≠ g then w.cell? ⟨b,o,none⟩ else none
theorem newb_newer (w:World) (B:Nat) (g:Option Nat):Rd.le (newb w B g) (newer w B):=fun b o v h => by
  unfold newb at h;split at h
  · rename_i hb;unfold newer;rw [if_pos hb.1];exact h
  · cases h
theorem newb_below {w w':World} {B:Nat} {g:Option Nat} (k:Below w.heap.size w w'):Rd.le (newb w B g) (newb w' B g):=fun b o v h => by
  unfold newb at h ⊢;split at h
  · rename_i hb
    rw [if_pos hb]
    exact (k.cell (p:=⟨b,o,none⟩) (blk_lt h)).trans h
  · cases h
theorem newb_grown {w w':World} {B:Nat} {g g':Option Nat} (hg:w.grownBy w' g) (h':g' = g ∨ g' = some w.heap.size):Rd.le (newb w B g) (newb w' B g'):=fun b o v h => by
  unfold newb at h ⊢;split at h
  · rename_i hb
    have hlt:=blk_lt h
    have hn':some b ≠ g':=by
      rcases h' with e | e
      · rw [e];exact hb.2
      · rw [e];intro e2;injection e2 with e2;omega
    rw [if_pos ⟨hb.1,hn'⟩]
    exact (World.cell?_of_block (w:=w) (a:=⟨b,o,none⟩) (hg.block b hlt hb.2)).trans h
  · cases h
theorem newer_newb {w:World} {B B':Nat} {g:Option Nat} (hB:B ≤ B') (hg:∀ k,g = some k → k < B'):Rd.le (newer w B') (newb w B g):=fun b o v h => by
  unfold newer at h;split at h
  · rename_i hb
    unfold newb
    rw [if_pos ⟨by omega,fun e => by have:=hg b e.symm;omega⟩]
    exact h
  · cases h
theorem OwnR.newer_ {α:Type} {size base:Nat} {R:CR α} [GoodR R] {e:TypeId} {w:World} {g:Option Nat} {v:Value} {l:List α} (h:OwnR size R base e w (newb w base g) v l):SliceR size R (Proofs.YtkjknlnhffmkkacGreat.newer w base) v l:=h.newer GoodR.mono (newb_newer w base g)
theorem OwnR.up {α:Type} {size base:Nat} {R:CR α} [GoodR R] {e:TypeId} {w w':World} {B:Nat} {g:Option Nat} {v:Value} {l:List α} (h:OwnR size R base e w (newb w B g) v l) (k:Below w.heap.size w w'):OwnR size R base e w' (newb w' B g) v l:=(h.below k).mono GoodR.mono (newb_below k)
theorem OwnR.next {α:Type} {size base:Nat} {R:CR α} [GoodR R] {e:TypeId} {w w':World} {B:Nat} {g g':Option Nat} {v:Value} {l:List α} (h:OwnR size R base e w' (newb w B g) v l) (hg:w.grownBy w' g) (h':g' = g ∨ g' = some w.heap.size):OwnR size R base e w' (newb w' B g') v l:=h.mono GoodR.mono (newb_grown hg h')
theorem OwnR.lt {α:Type} {size base:Nat} {R:CR α} {e:TypeId} {w:World} {rd:Rd} {v:Value} {l:List α} (h:OwnR size R base e w rd v l):∀ k,v.ownBlock = some k → k < w.heap.size:=fun k hk => (h.block k hk).2

/-- a slice from k on -/
theorem SliceR.cut {α:Type} {size:Nat} {R:CR α} {rd:Rd} {b o n c k:Nat} {l:List α} (h:SliceR size R rd (.slice (some ⟨b,o,none⟩) n c) l) (hk:k ≤ l.length):SliceR size R rd (.slice (some ⟨b,o + k * size,none⟩) (n - k) (c - k)) (l.drop k):=by
  obtain ⟨A,c',xs,e,h1,h2,h3,h4⟩:=h
  injection e with e1 e2 e3
  subst e1 e2 e3
  refine ⟨some ⟨b,o + k * size,none⟩,c - k,xs.drop (k * size),by simp,by simp;omega,by omega,h3.drop k hk,fun hne => ⟨b,o + k * size,rfl,fun j u hu => ?_⟩⟩
  obtain ⟨b',o',e,hc⟩:=h4 (by intro e;subst e;simp at hne)
  cases e
  rw [List.getElem?_drop] at hu
  have:=hc _ _ hu
  rwa [← Nat.add_assoc] at this
/-- the first k of a slice -/
theorem SliceR.head_ {α:Type} {size:Nat} {R:CR α} {rd:Rd} {A:Option Addr} {n c k:Nat} {l:List α} (h:SliceR size R rd (.slice A n c) l) (hk:k ≤ l.length):SliceR size R rd (.slice A k c) (l.take k):=by
  obtain ⟨A',c',xs,e,h1,h2,h3,h4⟩:=h
  injection e with e1 e2 e3
  subst e1 e2 e3
  refine ⟨A,c,xs.take (k * size),by simp;omega,by simp;omega,h2,h3.take k,fun hne => ?_⟩
  obtain ⟨b,o,e,hc⟩:=h4 (by intro e;subst e;simp at hne)
  refine ⟨b,o,e,fun j u hu => hc j u ?_⟩
  rw [List.getElem?_take] at hu
  split at hu
  · exact hu
  · cases hu

theorem SliceR.nil_of {α:Type} {size:Nat} {R:CR α} {rd:Rd} {n c:Nat} {l:List α} (h:SliceR size R rd (.slice none n c) l):l = []:=by
  obtain ⟨A',c',xs,e,h1,h2,h3,h4⟩:=h
  injection e with e1 e2 e3
  subst e1 e2 e3
  rcases l with _ | ⟨x,l⟩
  · rfl
  · obtain ⟨b,o,e,_⟩:=h4 (by simp)
    cases e
/-- a slice from k on, whatever its address -/
theorem SliceR.cutA {α:Type} {size:Nat} {R:CR α} {rd:Rd} {ad:Addr} {n c k:Nat} {l:List α} (h:SliceR size R rd (.slice (some ad) n c) l) (hk:k ≤ l.length):SliceR size R rd (.slice (some (ad.add (k * size))) (n - k) (c - k)) (l.drop k):=by
  rcases Nat.eq_zero_or_pos l.length with h0 | h0
  · have:l = []:=List.eq_nil_of_length_eq_zero h0
    subst this
    obtain ⟨e1,e2,e3⟩:=h.len
    simp only [List.length_nil] at e1 hk
    have hk0:k = 0:=by omega
    subst hk0 e1
    simpa using SliceR.empty_ rd (some (ad.add (0 * size))) (c - 0) (by omega)
  · have h':=h
    obtain ⟨A',c',xs,e,h1,h2,h3,h4⟩:=h'
    injection e with e1 e2 e3
    subst e1
    obtain ⟨b,o,e,hc⟩:=h4 (by intro e;subst e;simp at h0)
    injection e with e
    subst e
    have:=SliceR.cut h hk
    rcases Nat.eq_zero_or_pos (k * size) with hz | hz
    · rw [hz] at this ⊢
      simpa [Addr.add] using this
    · rw [show (⟨b,o,none⟩:Addr).add (k * size) = ⟨b,o + k * size,none⟩ by unfold Addr.add;rw [if_neg (by omega)]]
      exact this

/-- a pointer to a thing -/
def PtrR {α:Type} (R:CR α) (rd:Rd) (v:Value) (x:α):Prop:=∃ b o cs,v = .pointer (some ⟨b,o,none⟩) ∧ R rd cs x ∧ ∀ j u,cs[j]? = some u → rd b (o + j) = some u

end Go.Proofs.YtkjknlnhffmkkacGreat

namespace Go.Proofs.YtkjknlnhffmkkacGreat

def atI (l:List Int) (i:Nat):Int:=l.getD i 0
theorem atI_lt {l:List Int} {i:Nat} (h:i < l.length):atI l i = l[i]:=by simp [atI,h]
theorem atI_ge {l:List Int} {i:Nat} (h:l.length ≤ i):atI l i = 0:=by simp [atI,List.getElem?_eq_none h]

def zipC (f:Int → Int → Int) (a b:List Int):List Int:=(List.range (max a.length b.length)).map fun i => f (atI a i) (atI b i)
theorem zipC_len (f:Int → Int → Int) (a b:List Int):(zipC f a b).length = max a.length b.length:=by simp [zipC]
theorem zipC_get (f:Int → Int → Int) (a b:List Int) {k:Nat} (hk:k < max a.length b.length):(zipC f a b)[k]? = some (f (atI a k) (atI b k)):=by
  simp only [zipC,List.getElem?_map,List.getElem?_range hk,Option.map_some]
theorem take_snoc {α:Type} {l:List α} {k:Nat} {x:α} (h:l[k]? = some x):l.take (k + 1) = l.take k ++ [x]:=by rw [List.take_add_one,h];rfl
def joinC (a b:List Int):List Int:=zipC max a b
def meetC (a b:List Int):List Int:=zipC min a b
def seesC (a b:List Int):Bool:=(List.range (max a.length b.length)).all fun i => decide (atI b i ≤ atI a i)
def okK (k:Int):Bool:=decide (0 ≤ k) && decide (k ≤ 1000)
/-- 5: too many, 3: out of range -/
def wrongC (c:List Int) (n:Int):Int:=if n < 1 ∨ 6 < n ∨ (c.length:Int) ≠ n then 5 else if c.all okK then 0 else 3
def hasC (c:List Int) (author seq:Int):Bool:=decide (0 ≤ author) && decide (author < c.length) && decide (seq ≤ atI c author.toNat)
def tickC (c:List Int) (author:Int):List Int:=if 0 ≤ author ∧ author < c.length then c.set author.toNat (RowKit.wrap64 (atI c author.toNat + 1)) else c

theorem seesC_iff {a b:List Int}:seesC a b = true ↔ ∀ k,atI b k ≤ atI a k:=by
  unfold seesC
  rw [List.all_eq_true]
  constructor
  · intro h k
    rcases Nat.lt_or_ge k (max a.length b.length) with hk | hk
    · simpa using h k (List.mem_range.2 hk)
    · rw [atI_ge (show b.length ≤ k by omega),atI_ge (show a.length ≤ k by omega)];exact Int.le_refl _
  · intro h k _
    simpa using h k
theorem seesC_refl (a:List Int):seesC a a = true:=seesC_iff.2 fun _ => Int.le_refl _
theorem seesC_trans {a b c:List Int} (h:seesC a b = true) (k:seesC b c = true):seesC a c = true :=
  seesC_iff.2 fun i => Int.le_trans (seesC_iff.1 k i) (seesC_iff.1 h i)
theorem seesC_anti {a b:List Int} (hl:a.length = b.length) (h:seesC a b = true) (k:seesC b a = true):a = b:=by
  refine List.ext_getElem hl fun i h1 h2 => ?_
  have e1:=seesC_iff.1 h i
  have e2:=seesC_iff.1 k i
  rw [atI_lt h1,atI_lt h2] at e1 e2
  omega
theorem joinC_len (a b:List Int):(joinC a b).length = max a.length b.length:=zipC_len _ _ _
theorem meetC_len (a b:List Int):(meetC a b).length = max a.length b.length:=zipC_len _ _ _
theorem zipC_at {f:Int → Int → Int} (hf:f 0 0 = 0) (a b:List Int) (k:Nat):atI (zipC f a b) k = f (atI a k) (atI b k):=by
  rcases Nat.lt_or_ge k (max a.length b.length) with h | h
  · have:=zipC_get f a b h
    unfold atI at this ⊢
    rw [List.getD,this];rfl
  · rw [atI_ge (show (zipC f a b).length ≤ k by rw [zipC_len];exact h),atI_ge (show a.length ≤ k by omega),atI_ge (show b.length ≤ k by omega),hf]
theorem joinC_at (a b:List Int) (k:Nat):atI (joinC a b) k = max (atI a k) (atI b k):=zipC_at rfl a b k
theorem meetC_at (a b:List Int) (k:Nat):atI (meetC a b) k = min (atI a k) (atI b k):=zipC_at rfl a b k
theorem atI_ext {a b:List Int} (hl:a.length = b.length) (h:∀ k,atI a k = atI b k):a = b:=by
  refine List.ext_getElem hl fun i h1 h2 => ?_
  have:=h i
  rwa [atI_lt h1,atI_lt h2] at this
theorem sees_joinl (a b:List Int):seesC (joinC a b) a = true:=seesC_iff.2 fun k => by rw [joinC_at];omega
theorem tickC_in {a:List Int} {k:Nat} (hk:k < a.length):tickC a k = a.set k (RowKit.wrap64 (a[k] + 1)):=by
  unfold tickC;rw [if_pos (by omega),Int.toNat_natCast,atI_lt hk]
theorem tickC_len (a:List Int) (n:Int):(tickC a n).length = a.length:=by unfold tickC;split <;> simp
theorem wrap_small {x:Int} (h:0 ≤ x) (h':x ≤ 1000000):RowKit.wrap64 x = x:=by
  simp only [RowKit.wrap64];omega
theorem set_at {a:List Int} {k:Nat} {x:Int} (hk:k < a.length) (j:Nat):atI (a.set k x) j = if j = k then x else atI a j:=by
  unfold atI
  rw [List.getD,List.getD,List.getElem?_set]
  by_cases e:j = k
  · subst e;simp [hk]
  · rw [if_neg (fun h => e h.symm),if_neg e]
theorem wrongC_ok {l:List Int} {n:Int} (h:wrongC l n = 0):1 ≤ n ∧ n ≤ 6 ∧ (l.length:Int) = n ∧ ∀ x ∈ l,0 ≤ x ∧ x ≤ 1000:=by
  unfold wrongC at h
  split at h
  · cases h
  · rename_i hn
    split at h
    · rename_i ha
      refine ⟨by omega,by omega,by omega,fun x hx => ?_⟩
      have:=List.all_eq_true.1 ha x hx
      simpa [okK] using this
    · cases h
theorem ne_b {x y:Int} (h:x ≠ y):(x != y) = true ∧ (x == y) = false:=by simp [h]
theorem eq_b {x y:Int} (h:x = y):(x != y) = false ∧ (x == y) = true:=by simp [h]

/-- the first place where p holds, or -1 -/
def idxF {α:Type} (p:α → Bool) (l:List α):Int:=match l.findIdx? p with | some i => (i:Int) | none => -1
theorem idxF_hit {α:Type} {p:α → Bool} {l:List α} {k:Nat} {x:α} (hk:l[k]? = some x) (hp:p x = true) (hb:∀ (j:Nat) (y:α),j < k → l[j]? = some y → p y = false):idxF p l = k:=by
  unfold idxF
  have:l.findIdx? p = some k:=by
    rw [List.findIdx?_eq_some_iff_getElem]
    obtain ⟨hl,e⟩:=List.getElem?_eq_some_iff.1 hk
    refine ⟨hl,by rw [e];exact hp,fun j hj => ?_⟩
    have:=hb j l[j] hj (List.getElem?_eq_getElem (by omega))
    simp [this]
  rw [this]
theorem idxF_none {α:Type} {p:α → Bool} {l:List α} (hb:∀ (j:Nat) (y:α),l[j]? = some y → p y = false):idxF p l = -1:=by
  unfold idxF
  have:l.findIdx? p = none:=by
    rw [List.findIdx?_eq_none_iff]
    intro x hx
    obtain ⟨j,hj⟩:=List.getElem?_of_mem hx
    exact hb j x hj
  rw [this]
theorem idxF_any {α:Type} (p:α → Bool) (l:List α):decide (0 ≤ idxF p l) = l.any p:=by
  unfold idxF
  cases h:l.findIdx? p with
  | none =>
    have:=List.findIdx?_eq_none_iff.1 h
    have h':l.any p = false:=by
      rw [List.any_eq_false]
      intro x hx;simp [this x hx]
    simp [h']
  | some i =>
    obtain ⟨hl,e,_⟩:=List.findIdx?_eq_some_iff_getElem.1 h
    have h':l.any p = true:=List.any_eq_true.2 ⟨l[i],List.getElem_mem hl,e⟩
    simp [h']
theorem idxF_bd {α:Type} (p:α → Bool) (l:List α):-1 ≤ idxF p l ∧ idxF p l < max 1 l.length:=by
  unfold idxF
  cases h:l.findIdx? p with
  | none => constructor <;> simp;omega
  | some i =>
    obtain ⟨hl,_⟩:=List.findIdx?_eq_some_iff_getElem.1 h
    simp;omega
end Go.Proofs.YtkjknlnhffmkkacGreat

namespace Go.Proofs.YtkjknlnhffmkkacGreat
set_option linter.unusedVariables false

structure Upd where
  author:Int
  seen:List Int
  kind:Int
  key:Int
  item:Int
deriving DecidableEq

def UpdR:CR Upd:=fun rd cs u => ∃ sv,cs = [.int .i64 u.author,sv,.int .i64 u.kind,.int .i64 u.key,.int .i64 u.item] ∧ IntsR rd sv u.seen
instance:GoodR UpdR:=⟨fun _ _ _ _ hle ⟨sv,e,h⟩ => ⟨sv,e,IntsR.mono h hle⟩,fun _ _ _ ⟨sv,e,h⟩ u hu => by
  obtain ⟨A,c,e2,_⟩:=h.val
  subst e e2
  simp only [List.mem_cons,List.not_mem_nil,or_false] at hu
  rcases hu with h | h | h | h | h <;> subst h <;> rfl⟩
abbrev UpdsR:=SliceR 5 UpdR
/-- the cells of update k -/
theorem upds_at {rd:Rd} {A:Option Addr} {m c k:Nat} {l:List Upd} (h:SliceR 5 UpdR rd (.slice A m c) l) (hk:k < l.length):∃ b o sv,A = some ⟨b,o,none⟩ ∧ IntsR rd sv l[k].seen ∧
    ∀ w:World,Rd.le rd (wrd w) → w.cell? ⟨b,o + k * 5,none⟩ = some (.int .i64 l[k].author) ∧ w.cell? ⟨b,o + k * 5 + 1,none⟩ = some sv ∧ w.cell? ⟨b,o + k * 5 + 2,none⟩ = some (.int .i64 l[k].kind) ∧
      w.cell? ⟨b,o + k * 5 + 3,none⟩ = some (.int .i64 l[k].key) ∧ w.cell? ⟨b,o + k * 5 + 4,none⟩ = some (.int .i64 l[k].item):=by
  obtain ⟨b,o,cs,e,h1,⟨sv,h2,h3⟩,h4⟩:=SliceR.get h (k:=k) (x:=l[k]) (by simp [hk])
  subst h2
  refine ⟨b,o,sv,e,h3,fun w hle => ⟨hle _ _ _ (h4 0 _ rfl),hle _ _ _ (h4 1 _ rfl),hle _ _ _ (h4 2 _ rfl),hle _ _ _ (h4 3 _ rfl),hle _ _ _ (h4 4 _ rfl)⟩⟩
theorem upd_agg {rd:Rd} {sv:Value} {u:Upd} (h:IntsR rd sv u.seen):AggR UpdR rd (.agg #[.int .i64 u.author,sv,.int .i64 u.kind,.int .i64 u.key,.int .i64 u.item]) u:=⟨_,rfl,sv,rfl,h⟩
theorem upd_ptr {w:World} {g:Nat} {t:TypeId} {sv:Value} {u:Upd} (hb:Blk w g t #[.int .i64 u.author,sv,.int .i64 u.kind,.int .i64 u.key,.int .i64 u.item]) (h:IntsR (wrd w) sv u.seen):PtrR UpdR (wrd w) (.pointer (some ⟨g,0,none⟩)) u :=
  ⟨g,0,_,rfl,⟨sv,rfl,h⟩,fun j x hx => by
    show w.cell? ⟨g,0 + j,none⟩ = some x
    rw [Nat.zero_add,hb.cell j];simpa using hx⟩
/-- what is wrong with an update -/
def wrongU (u:Upd) (n:Int):Int :=
  if wrongC u.seen n ≠ 0 then wrongC u.seen n
  else if u.author < 0 ∨ n ≤ u.author ∨ 1000 ≤ atI u.seen u.author.toNat then 3
  else if u.kind < 1 ∨ 5 < u.kind then 1
  else if u.key < 0 ∨ 15 < u.key ∨ u.item < -1000 ∨ 1000 < u.item then 3
  else if u.kind = 2 ∧ u.item ≠ 0 then 2
  else 0

structure RightU (u:Upd) (n:Int):Prop where
  c:wrongC u.seen n = 0
  a0:0 ≤ u.author
  a1:u.author < n
  s:atI u.seen u.author.toNat < 1000
  k0:1 ≤ u.kind
  k1:u.kind ≤ 5
  y0:0 ≤ u.key
  y1:u.key ≤ 15
  i0:-1000 ≤ u.item
  i1:u.item ≤ 1000
  f:u.kind = 2 → u.item = 0
theorem wrongU_iff {u:Upd} {n:Int}:wrongU u n = 0 ↔ RightU u n:=by
  unfold wrongU
  constructor
  · intro h
    split at h
    · exact absurd h ‹_›
    · split at h
      · cases h
      · split at h
        · cases h
        · split at h
          · cases h
          · split at h
            · cases h
            · exact ⟨by omega,by omega,by omega,by omega,by omega,by omega,by omega,by omega,by omega,by omega,by omega⟩
  · rintro ⟨c,a0,a1,s,k0,k1,y0,y1,i0,i1,f⟩
    rw [if_neg (by omega),if_neg (by omega),if_neg (by omega),if_neg (by omega),if_neg (by omega)]
theorem RightU.len {u:Upd} {n:Int} (h:RightU u n):1 ≤ n ∧ n ≤ 6 ∧ (u.seen.length:Int) = n:=by have:=wrongC_ok h.c;omega
theorem RightU.at_ {u:Upd} {n:Int} (h:RightU u n):u.author.toNat < u.seen.length:=by have:=h.len;have:=h.a0;have:=h.a1;omega

/-- which one of its author's -/
def seqU (u:Upd):Int:=RowKit.wrap64 (atI u.seen u.author.toNat + 1)
/-- does a clock have it? -/
def hasU (c:List Int) (u:Upd):Bool:=decide (0 ≤ u.author) && decide (u.author < c.length) && decide (u.author < u.seen.length) && decide (atI u.seen u.author.toNat < atI c u.author.toNat)
def sameU (a b:Upd):Bool:=decide (a = b)
theorem hasU_in {c se:List Int} {k:Nat} {ki ke it:Int} (h1:k < c.length) (h2:k < se.length):hasU c ⟨k,se,ki,ke,it⟩ = decide (se[k] < c[k]):=by
  unfold hasU;simp only;rw [Int.toNat_natCast,atI_lt h1,atI_lt h2];simp [h1,h2]
end Go.Proofs.YtkjknlnhffmkkacGreat

namespace Go.Proofs.YtkjknlnhffmkkacGreat

/-- what a log's next update is refused for -/
def stepE (c:List Int) (u:Upd) (n:Int):Int:=if wrongU u n ≠ 0 then wrongU u n else if hasU c u = true then 7 else if seesC c u.seen = false then 8 else 0
def logC (n:Int):List Int → List Upd → Nat → List Int × Int × Int
  | c,[],_ => (c,0,0)
  | c,u :: l,i => if stepE c u n ≠ 0 then ([],stepE c u n,(i:Int)) else logC n (tickC c u.author) l (i + 1)
/-- what a log comes to: the clock, the error, its place -/
def clockL (base:List Int) (l:List Upd) (n:Int):List Int × Int × Int :=
  if wrongC base n ≠ 0 then ([],wrongC base n,0) else if 300 < l.length then ([],5,0) else logC n base l 0

theorem drop_cons {α:Type} {l:List α} {k:Nat} (hk:k < l.length):l.drop k = l[k] :: l.drop (k + 1):=List.drop_eq_getElem_cons hk
theorem logC_bad {n:Int} {c:List Int} {l:List Upd} {k:Nat} {e:Int} (hk:k < l.length) (he:stepE c l[k] n = e) (h0:e ≠ 0):logC n c (l.drop k) k = ([],e,(k:Int)):=by
  rw [drop_cons hk];unfold logC;rw [he,if_pos h0]
theorem logC_good {n:Int} {c:List Int} {l:List Upd} {k:Nat} (hk:k < l.length) (he:stepE c l[k] n = 0):logC n c (l.drop k) k = logC n (tickC c l[k].author) (l.drop (k + 1)) (k + 1):=by
  rw [drop_cons hk];rw [logC.eq_2,he,if_neg (by simp)]
theorem logC_end {n:Int} {c:List Int} {l:List Upd} {k:Nat} (hk:l.length ≤ k):logC n c (l.drop k) k = (c,0,0):=by
  rw [List.drop_eq_nil_of_le hk];rfl

/-- what a clock lacks of a log -/
def lacksU (l:List Upd) (c:List Int):List Upd:=l.filter fun u => !hasU c u
theorem lacksU_len (l:List Upd) (c:List Int):(lacksU l c).length ≤ l.length:=List.length_filter_le _ _
theorem lacksU_has {l:List Upd} {c:List Int} {k:Nat} (hk:k < l.length) (h:hasU c l[k] = true):lacksU (l.take (k + 1)) c = lacksU (l.take k) c:=by
  unfold lacksU;rw [take_snoc (List.getElem?_eq_getElem hk),List.filter_append];simp [h]
theorem lacksU_not {l:List Upd} {c:List Int} {k:Nat} (hk:k < l.length) (h:hasU c l[k] = false):lacksU (l.take (k + 1)) c = lacksU (l.take k) c ++ [l[k]]:=by
  unfold lacksU;rw [take_snoc (List.getElem?_eq_getElem hk),List.filter_append];simp [h]

end Go.Proofs.YtkjknlnhffmkkacGreat

namespace Go.Proofs.YtkjknlnhffmkkacGreat

structure Live where
  set:Bool
  key:Int
  item:Int
  author:Int
  seq:Int
deriving DecidableEq
structure Tally where
  key:Int
  author:Int
  sum:Int
deriving DecidableEq
structure State where
  clock:List Int
  lives:List Live
  tallies:List Tally
deriving DecidableEq

def LiveR:CR Live:=fun _ cs x => cs = [.bool x.set,.int .i64 x.key,.int .i64 x.item,.int .i64 x.author,.int .i64 x.seq]
def TallyR:CR Tally:=fun _ cs x => cs = [.int .i64 x.key,.int .i64 x.author,.int .i64 x.sum]
instance:GoodR LiveR:=⟨fun _ _ _ _ _ h => h,fun _ _ _ h u hu => by
  cases h;simp only [List.mem_cons,List.not_mem_nil,or_false] at hu;rcases hu with h | h | h | h | h <;> subst h <;> rfl⟩
instance:GoodR TallyR:=⟨fun _ _ _ _ _ h => h,fun _ _ _ h u hu => by
  cases h;simp only [List.mem_cons,List.not_mem_nil,or_false] at hu;rcases hu with h | h | h <;> subst h <;> rfl⟩
def StateR:CR State:=fun rd cs x => ∃ a b c,cs = [a,b,c] ∧ SliceR 1 IntR rd a x.clock ∧ SliceR 5 LiveR rd b x.lives ∧ SliceR 3 TallyR rd c x.tallies
instance:GoodR StateR:=⟨fun _ _ _ _ hle ⟨a,b,c,e,h1,h2,h3⟩ => ⟨a,b,c,e,h1.mono GoodR.mono hle,h2.mono GoodR.mono hle,h3.mono GoodR.mono hle⟩,fun _ _ _ ⟨a,b,c,e,h1,h2,h3⟩ u hu => by
  obtain ⟨A1,c1,e1,_⟩:=h1.val
  obtain ⟨A2,c2,e2,_⟩:=h2.val
  obtain ⟨A3,c3,e3,_⟩:=h3.val
  subst e e1 e2 e3
  simp only [List.mem_cons,List.not_mem_nil,or_false] at hu
  rcases hu with h | h | h <;> subst h <;> rfl⟩

def cmpI (x y:Int):Int:=if x < y then -1 else if y < x then 1 else 0
def orI:List Int → Int
  | [] => 0
  | x :: l => if x = 0 then orI l else x
def ordL (a b:Live):Int:=orI [if b.set = true ∧ a.set = false then -1 else if a.set = true ∧ b.set = false then 1 else 0,cmpI a.key b.key,cmpI a.item b.item,cmpI a.author b.author,cmpI a.seq b.seq]
def ordT (a b:Tally):Int:=orI [cmpI a.key b.key,cmpI a.author b.author]
theorem orI_drop {l:List Int} {k:Nat} {z:Int} (hz:l[k]? = some z):orI (l.drop k) = if z = 0 then orI (l.drop (k + 1)) else z:=by
  obtain ⟨hk,e⟩:=List.getElem?_eq_some_iff.1 hz
  rw [List.drop_eq_getElem_cons hk,e];rfl

/-- what stays: the first that is wrong -/
def wrongL (c:List Int) (n:Int):Option Live → List Live → Nat → Int × Int
  | _,[],_ => (0,0)
  | p,l :: ls,i =>
    if l.author < 0 ∨ n ≤ l.author ∨ l.seq < 1 ∨ l.key < 0 ∨ 15 < l.key ∨ l.item < -1000 ∨ 1000 < l.item then (3,(i:Int))
    else if atI c l.author.toNat < l.seq then (8,(i:Int))
    else if (match p with | some q => decide (0 ≤ ordL q l) | none => false) = true then (2,(i:Int))
    else wrongL c n (some l) ls (i + 1)
def mostT (c:List Int) (n:Int) (t:Tally):Int:=if 0 ≤ t.author ∧ t.author < n then 1000 * atI c t.author.toNat else 0
def wrongT (c:List Int) (n:Int):Option Tally → List Tally → Nat → Int × Int
  | _,[],_ => (0,0)
  | p,t :: ts,i =>
    if t.author < 0 ∨ n ≤ t.author ∨ t.key < 0 ∨ 15 < t.key ∨ t.sum < -(mostT c n t) ∨ mostT c n t < t.sum ∨ t.sum = 0 then (3,(i:Int))
    else if (match p with | some q => decide (0 ≤ ordT q t) | none => false) = true then (2,(i:Int))
    else wrongT c n (some t) ts (i + 1)
/-- what is wrong with a state: the error, its place -/
def wrongS (s:State) (n:Int):Int × Int :=
  if wrongC s.clock n ≠ 0 then (wrongC s.clock n,0)
  else if (wrongL s.clock n none s.lives 0).1 ≠ 0 then wrongL s.clock n none s.lives 0
  else wrongT s.clock n none s.tallies 0
end Go.Proofs.YtkjknlnhffmkkacGreat

namespace Go.Proofs.YtkjknlnhffmkkacGreat

def prevO {α:Type} (l:List α) (k:Nat):Option α:=if k = 0 then none else l[k - 1]?
theorem prevO_succ {α:Type} (l:List α) (k:Nat):prevO l (k + 1) = l[k]?:=rfl
theorem prevO_pos {α:Type} {l:List α} {k:Nat} (h:0 < k) {z:α} (hz:l[k - 1]? = some z):prevO l k = some z:=by unfold prevO;rw [if_neg (by omega),hz]
theorem wrongL_step {c:List Int} {n:Int} {p:Option Live} {l:List Live} {k:Nat} {z:Live} (hz:l[k]? = some z):wrongL c n p (l.drop k) k =
    if z.author < 0 ∨ n ≤ z.author ∨ z.seq < 1 ∨ z.key < 0 ∨ 15 < z.key ∨ z.item < -1000 ∨ 1000 < z.item then (3,(k:Int))
    else if atI c z.author.toNat < z.seq then (8,(k:Int))
    else if (match p with | some q => decide (0 ≤ ordL q z) | none => false) = true then (2,(k:Int))
    else wrongL c n (some z) (l.drop (k + 1)) (k + 1):=by
  obtain ⟨hk,e⟩:=List.getElem?_eq_some_iff.1 hz
  rw [List.drop_eq_getElem_cons hk,e];rfl
theorem wrongL_end {c:List Int} {n:Int} {p:Option Live} {l:List Live} {k:Nat} (h:l.length ≤ k):wrongL c n p (l.drop k) k = (0,0):=by rw [List.drop_eq_nil_of_le h];rfl
theorem wrongT_step {c:List Int} {n:Int} {p:Option Tally} {l:List Tally} {k:Nat} {z:Tally} (hz:l[k]? = some z):wrongT c n p (l.drop k) k =
    if z.author < 0 ∨ n ≤ z.author ∨ z.key < 0 ∨ 15 < z.key ∨ z.sum < -(mostT c n z) ∨ mostT c n z < z.sum ∨ z.sum = 0 then (3,(k:Int))
    else if (match p with | some q => decide (0 ≤ ordT q z) | none => false) = true then (2,(k:Int))
    else wrongT c n (some z) (l.drop (k + 1)) (k + 1):=by
  obtain ⟨hk,e⟩:=List.getElem?_eq_some_iff.1 hz
  rw [List.drop_eq_getElem_cons hk,e];rfl
theorem wrongT_end {c:List Int} {n:Int} {p:Option Tally} {l:List Tally} {k:Nat} (h:l.length ≤ k):wrongT c n p (l.drop k) k = (0,0):=by rw [List.drop_eq_nil_of_le h];rfl
theorem wrongS_C {s:State} {n:Int} (h:¬ wrongC s.clock n = 0):wrongS s n = (wrongC s.clock n,0):=by unfold wrongS;rw [if_pos h]
theorem wrongS_L {s:State} {n:Int} {r:Int × Int} (h:wrongC s.clock n = 0) (hl:wrongL s.clock n none s.lives 0 = r) (hr:r.1 ≠ 0):wrongS s n = r:=by
  unfold wrongS;rw [if_neg (by omega),hl,if_pos hr]
theorem wrongS_T {s:State} {n:Int} {r:Int × Int} (h:wrongC s.clock n = 0) (hl:(wrongL s.clock n none s.lives 0).1 = 0) (ht:wrongT s.clock n none s.tallies 0 = r):wrongS s n = r:=by
  unfold wrongS;rw [if_neg (by omega),if_neg (by omega),ht]
theorem rfault {r:Int × Int} {a b:Int} (h:r = (a,b)):Ending.returned (.agg #[.int .i64 a,.int .i64 b]) = .returned (.agg #[.int .i64 r.1,.int .i64 r.2]):=by rw [h]
end Go.Proofs.YtkjknlnhffmkkacGreat

namespace Go.Proofs.YtkjknlnhffmkkacGreat

/-- the order, as one of lists of numbers -/
def lexI:List Int → List Int → Int
  | x :: xs,y :: ys => if cmpI x y = 0 then lexI xs ys else cmpI x y
  | _,_ => 0
theorem cmpI_zero {x y:Int}:cmpI x y = 0 ↔ x = y:=by unfold cmpI;split <;> (try split) <;> omega
theorem cmpI_neg {x y:Int}:cmpI x y < 0 ↔ x < y:=by unfold cmpI;split <;> (try split) <;> omega
theorem lexI_cons {x y:Int} {xs ys:List Int}:lexI (x :: xs) (y :: ys) < 0 ↔ x < y ∨ (x = y ∧ lexI xs ys < 0):=by
  show (if cmpI x y = 0 then lexI xs ys else cmpI x y) < 0 ↔ _
  split
  · rename_i h;have:=cmpI_zero.1 h
    constructor
    · intro h2;exact .inr ⟨this,h2⟩
    · intro h2;rcases h2 with h2 | h2
      · omega
      · exact h2.2
  · rename_i h
    have h':¬ x = y:=fun e => h (cmpI_zero.2 e)
    rw [cmpI_neg]
    constructor
    · exact .inl
    · intro h2;rcases h2 with h2 | h2
      · exact h2
      · exact absurd h2.1 h'
theorem lexI_cons0 {x y:Int} {xs ys:List Int}:lexI (x :: xs) (y :: ys) = 0 ↔ x = y ∧ lexI xs ys = 0:=by
  show (if cmpI x y = 0 then lexI xs ys else cmpI x y) = 0 ↔ _
  split
  · rename_i h;have:=cmpI_zero.1 h;simp [this]
  · rename_i h;have h':¬ x = y:=fun e => h (cmpI_zero.2 e)
    simp [h,h']
theorem lexI_trans:∀ {a b c:List Int},lexI a b < 0 → lexI b c < 0 → lexI a c < 0
  | x :: xs,y :: ys,z :: zs,h1,h2 => by
    rw [lexI_cons] at *
    rcases h1 with h1 | ⟨rfl,h1⟩ <;> rcases h2 with h2 | ⟨rfl,h2⟩
    · exact .inl (by omega)
    · exact .inl h1
    · exact .inl h2
    · exact .inr ⟨rfl,lexI_trans h1 h2⟩
  | [],_,_,h1,_ => by cases h1
  | _ :: _,[],_,h1,_ => by cases h1
  | _ :: _,_ :: _,[],_,h2 => by cases h2
theorem lexI_swap : ∀ {a b : List Int}, lexI b a = - lexI a b
  | x :: xs,y :: ys => by
    show (if cmpI y x = 0 then lexI ys xs else cmpI y x) = - (if cmpI x y = 0 then lexI xs ys else cmpI x y)
    have e : cmpI y x = - cmpI x y := by unfold cmpI;repeat' split
                                         all_goals omega
    rw [lexI_swap (a:=xs) (b:=ys),e]
    split <;> split <;> omega
  | [],[] => rfl
  | [],_ :: _ => rfl
  | _ :: _,[] => rfl
theorem lexI_eq:∀ {a b:List Int},a.length = b.length → lexI a b = 0 → a = b
  | x :: xs,y :: ys,hl,h => by
    rw [lexI_cons0] at h
    rw [h.1,lexI_eq (by simpa using hl) h.2]
  | [],[],_,_ => rfl
  | [],_ :: _,hl,_ => by simp at hl
  | _ :: _,[],hl,_ => by simp at hl
def codeL (a:Live):List Int:=[if a.set = true then 1 else 0,a.key,a.item,a.author,a.seq]
def codeT (a:Tally):List Int:=[a.key,a.author]
theorem ordL_code (a b:Live):ordL a b = lexI (codeL a) (codeL b):=by
  obtain ⟨s1,k1,i1,a1,q1⟩:=a
  obtain ⟨s2,k2,i2,a2,q2⟩:=b
  unfold ordL codeL
  cases s1 <;> cases s2 <;> simp [orI,lexI,cmpI]
theorem ordT_code (a b:Tally):ordT a b = lexI (codeT a) (codeT b):=by
  unfold ordT codeT
  simp only [lexI,orI]
def SortedL (l:List Live):Prop:=l.Pairwise fun a b => ordL a b < 0
def SortedT (l:List Tally):Prop:=l.Pairwise fun a b => ordT a b < 0
theorem ordL_trans {a b c:Live} (h1:ordL a b < 0) (h2:ordL b c < 0):ordL a c < 0:=by rw [ordL_code] at *;exact lexI_trans h1 h2
theorem ordT_trans {a b c:Tally} (h1:ordT a b < 0) (h2:ordT b c < 0):ordT a c < 0:=by rw [ordT_code] at *;exact lexI_trans h1 h2
theorem mono_of {α:Type} {f:α → α → Int} (ht:∀ {a b c},f a b < 0 → f b c < 0 → f a c < 0) {l:List α} (h:l.Pairwise fun a b => f a b < 0) (t:α):∀ (a b:Nat) y z,a ≤ b → l[a]? = some y → l[b]? = some z → f z t < 0 → f y t < 0:=fun a b y z hab hy hz hlt => by
  obtain ⟨ha,rfl⟩:=List.getElem?_eq_some_iff.1 hy
  obtain ⟨hb,rfl⟩:=List.getElem?_eq_some_iff.1 hz
  rcases Nat.lt_or_eq_of_le hab with h' | rfl
  · exact ht (List.pairwise_iff_getElem.1 h a b ha hb h') hlt
  · exact hlt
theorem mono_L {l:List Live} (h:SortedL l) (t:Live):∀ (a b:Nat) y z,a ≤ b → l[a]? = some y → l[b]? = some z → ordL z t < 0 → ordL y t < 0:=mono_of (f:=ordL) ordL_trans h t
theorem mono_T {l:List Tally} (h:SortedT l) (t:Tally):∀ (a b:Nat) y z,a ≤ b → l[a]? = some y → l[b]? = some z → ordT z t < 0 → ordT y t < 0:=mono_of (f:=ordT) ordT_trans h t
/-- does u end l -/
def endsC (set:Bool) (u:Upd) (l:Live):Bool:=(l.set == set) && (l.key == u.key) && (!set || l.item == u.item) && hasC u.seen l.author l.seq
/-- the first place that is not behind -/
def idxO {α:Type} (f:α → Int) (l:List α):Nat:=l.findIdx fun y => decide (0 ≤ f y)
theorem idxO_eq {α:Type} {f:α → Int} {l:List α} {i:Nat} (hi:i ≤ l.length) (ha:∀ (a:Nat) y,a < i → l[a]? = some y → f y < 0) (hb:∀ (a:Nat) y,i ≤ a → l[a]? = some y → 0 ≤ f y):i = idxO f l:=by
  unfold idxO
  symm
  rcases Nat.lt_or_ge i l.length with h | h
  · rw [List.findIdx_eq h]
    refine ⟨?_,fun j hj => ?_⟩
    · simpa using hb i l[i] (Nat.le_refl _) (List.getElem?_eq_getElem h)
    · have:=ha j l[j] hj (List.getElem?_eq_getElem (by omega))
      simp;omega
  · have e:i = l.length:=by omega
    rw [e,List.findIdx_eq_length]
    intro y hy
    obtain ⟨j,hj,rfl⟩:=List.getElem_of_mem hy
    have:=ha j l[j] (by omega) (List.getElem?_eq_getElem hj)
    simp;omega
def insO {α:Type} (f:α → α → Int) (l:List α) (x:α):List α:=l.take (idxO (fun y => f y x) l) ++ [x] ++ l.drop (idxO (fun y => f y x) l)
theorem insO_len {α:Type} (f:α → α → Int) (l:List α) (x:α):(insO f l x).length = l.length + 1:=by
  have:idxO (fun y => f y x) l ≤ l.length:=List.findIdx_le_length
  unfold insO;simp;omega
def countL (l:List Tally) (t:Tally):List Tally :=
  match l[idxO (fun y => ordT y t) l]? with
  | some z => if ordT z t = 0 then (if z.sum + t.sum = 0 then l.eraseIdx (idxO (fun y => ordT y t) l) else l.set (idxO (fun y => ordT y t) l) { z with sum:=z.sum + t.sum }) else if t.sum = 0 then l else insO ordT l t
  | none => if t.sum = 0 then l else insO ordT l t
section
variable {l:List Tally} {t z:Tally} {i:Nat} (hi:i ≤ l.length) (ha:∀ (a:Nat) y,a < i → l[a]? = some y → ordT y t < 0) (hb:∀ (a:Nat) y,i ≤ a → l[a]? = some y → 0 ≤ ordT y t)
include hi ha hb
theorem count_del (hz:l[i]? = some z) (h0:ordT z t = 0) (hs:z.sum + t.sum = 0):l.eraseIdx i = countL l t:=by
  have e:=idxO_eq (f:=fun y => ordT y t) hi ha hb
  unfold countL
  rw [← e,hz];simp [h0,hs]
theorem count_set (hz:l[i]? = some z) (h0:ordT z t = 0) (hs:¬ z.sum + t.sum = 0):l.set i { z with sum:=z.sum + t.sum } = countL l t:=by
  have e:=idxO_eq (f:=fun y => ordT y t) hi ha hb
  unfold countL
  rw [← e,hz];simp [h0,hs]
theorem count_same (hf:∀ z,l[i]? = some z → ordT z t ≠ 0) (hs:t.sum = 0):l = countL l t:=by
  have e:=idxO_eq (f:=fun y => ordT y t) hi ha hb
  unfold countL
  rw [← e]
  split
  · rename_i z hz;rw [if_neg (hf z hz),if_pos hs]
  · rw [if_pos hs]
theorem count_ins (hf:∀ z,l[i]? = some z → ordT z t ≠ 0) (hs:¬ t.sum = 0):l.take i ++ [t] ++ l.drop i = countL l t:=by
  have e:=idxO_eq (f:=fun y => ordT y t) hi ha hb
  unfold countL
  rw [← e]
  split
  · rename_i z hz;rw [if_neg (hf z hz),if_neg hs];unfold insO;rw [← e]
  · rw [if_neg hs];unfold insO;rw [← e]
end
/-- what u does to s -/
def newL (set:Bool) (u:Upd) (seq:Int):Live:=⟨set,u.key,u.item,u.author,seq⟩
def applyS (s:State) (u:Upd):State :=
  let set:=decide (u.kind = 3 ∨ u.kind = 4)
  let ls:=if u.kind ≠ 5 ∧ u.kind ≠ 3 then s.lives.filter fun l => !endsC set u l else s.lives
  ⟨tickC s.clock u.author,if u.kind = 1 ∨ u.kind = 3 then insO ordL ls (newL set u (seqU u)) else ls,if u.kind = 5 then countL s.tallies ⟨u.key,u.author,u.item⟩ else s.tallies⟩
end Go.Proofs.YtkjknlnhffmkkacGreat

namespace Go.Proofs.YtkjknlnhffmkkacGreat
set_option linter.unusedVariables false

theorem wrongC_of {l:List Int} {n:Int} (h1:1 ≤ n) (h2:n ≤ 6) (h3:(l.length:Int) = n) (h4:∀ x ∈ l,0 ≤ x ∧ x ≤ 1000):wrongC l n = 0:=by
  unfold wrongC
  rw [if_neg (by omega),if_pos]
  rw [List.all_eq_true]
  intro x hx
  have:=h4 x hx
  simp [okK,this.1,this.2]
theorem atI_bd {c:List Int} {n:Int} (h:wrongC c n = 0) (k:Nat):0 ≤ atI c k ∧ atI c k ≤ 1000:=by
  rcases Nat.lt_or_ge k c.length with hk | hk
  · rw [atI_lt hk];exact (wrongC_ok h).2.2.2 _ (List.getElem_mem hk)
  · rw [atI_ge hk];omega

/-- what a step that is not refused tells -/
structure StepOk (c:List Int) (u:Upd) (n:Int):Prop where
  r:RightU u n
  eq:atI u.seen u.author.toNat = atI c u.author.toNat
  sees:seesC c u.seen = true
theorem stepE_ok {c:List Int} {u:Upd} {n:Int} (hc:wrongC c n = 0) (h:stepE c u n = 0):StepOk c u n:=by
  unfold stepE at h
  split at h
  · rename_i h1;exact absurd h h1
  · rename_i h1
    have hr:=wrongU_iff.1 (Classical.not_not.1 h1)
    split at h
    · cases h
    · rename_i h2
      split at h
      · cases h
      · rename_i h3
        have hs:seesC c u.seen = true:=by simpa using h3
        refine ⟨hr,?_,hs⟩
        have e1:=seesC_iff.1 hs u.author.toNat
        have hl:=hr.len
        have hcl:=wrongC_ok hc
        have ha:=hr.a0
        have hb:=hr.a1
        have e2:¬ atI u.seen u.author.toNat < atI c u.author.toNat:=by
          intro hlt
          refine h2 ?_
          unfold hasU
          simp only [Bool.and_eq_true,decide_eq_true_eq]
          omega
        omega
theorem stepE_of {c:List Int} {u:Upd} {n:Int} (h:StepOk c u n):stepE c u n = 0:=by
  unfold stepE
  have h1:=wrongU_iff.2 h.r
  have h2:hasU c u = false:=by
    rw [Bool.eq_false_iff];intro hh
    unfold hasU at hh
    simp only [Bool.and_eq_true,decide_eq_true_eq] at hh
    have:=h.eq
    omega
  rw [if_neg (by omega),if_neg (by simp [h2]),if_neg (by simp [h.sees])]
theorem tick_at {c:List Int} {u:Upd} {n:Int} (hc:wrongC c n = 0) (h:StepOk c u n) (j:Nat):atI (tickC c u.author) j = if j = u.author.toNat then atI c u.author.toNat + 1 else atI c j:=by
  have hl:=h.r.len
  have hcl:=wrongC_ok hc
  have ha:=h.r.a0
  have hb:=h.r.a1
  obtain ⟨k,hk⟩:=Int.eq_ofNat_of_zero_le ha
  rw [hk] at hb ⊢
  rw [tickC_in (by omega),set_at (by omega),Int.toNat_natCast]
  have:=atI_bd hc k
  rw [wrap_small (by rw [← atI_lt (by omega)];omega) (by rw [← atI_lt (by omega)];omega),← atI_lt (by omega)]
theorem tick_ok {c:List Int} {u:Upd} {n:Int} (hc:wrongC c n = 0) (h:StepOk c u n):wrongC (tickC c u.author) n = 0:=by
  have hcl:=wrongC_ok hc
  refine wrongC_of hcl.1 hcl.2.1 (by rw [tickC_len];exact hcl.2.2.1) fun x hx => ?_
  obtain ⟨j,hj,e⟩:=List.getElem_of_mem hx
  rw [← e,← atI_lt hj,tick_at hc h j]
  have b1:=atI_bd hc j
  have b2:=atI_bd hc u.author.toNat
  have:=h.eq
  have:=h.r.s
  split <;> omega
theorem tick_sees {c:List Int} {u:Upd} {n:Int} (hc:wrongC c n = 0) (h:StepOk c u n):seesC (tickC c u.author) c = true:=seesC_iff.2 fun k => by
  rw [tick_at hc h k];split
  · rename_i e;subst e;omega
  · omega

theorem logC_app {n:Int}:∀ (l1:List Upd) (c:List Int) (i:Nat) (l2:List Upd),(logC n c l1 i).2.1 = 0 → logC n c (l1 ++ l2) i = logC n (logC n c l1 i).1 l2 (i + l1.length)
  | [],c,i,l2,_ => by simp [logC]
  | u :: l1,c,i,l2,h => by
    rw [List.cons_append,logC.eq_2,logC.eq_2]
    rw [logC.eq_2] at h
    by_cases he:stepE c u n = 0
    · rw [if_neg (by omega)] at h ⊢
      rw [if_neg (by omega),logC_app l1 _ _ _ h]
      congr 1
      simp only [List.length_cons];omega
    · rw [if_pos he] at h;exact absurd h he
/-- a log that is taken: a right clock that sees the base; each of its updates is behind the base -/
theorem logC_ok {n:Int}:∀ (l:List Upd) (c:List Int) (i:Nat),wrongC c n = 0 → (logC n c l i).2.1 = 0 →
    wrongC (logC n c l i).1 n = 0 ∧ seesC (logC n c l i).1 c = true ∧ ∀ u ∈ l,RightU u n ∧ atI c u.author.toNat ≤ atI u.seen u.author.toNat
  | [],c,i,hc,_ => ⟨hc,seesC_refl c,by simp⟩
  | u :: l,c,i,hc,h => by
    rw [logC.eq_2] at h ⊢
    by_cases he:stepE c u n = 0
    · rw [if_neg (by omega)] at h ⊢
      have hs:=stepE_ok hc he
      obtain ⟨a1,a2,a3⟩:=logC_ok l (tickC c u.author) (i + 1) (tick_ok hc hs) h
      refine ⟨a1,seesC_trans a2 (tick_sees hc hs),fun v hv => ?_⟩
      rcases List.mem_cons.1 hv with e | hv
      · subst e;exact ⟨hs.r,by rw [hs.eq];exact Int.le_refl _⟩
      · refine ⟨(a3 v hv).1,Int.le_trans ?_ (a3 v hv).2⟩
        exact seesC_iff.1 (tick_sees hc hs) _
    · rw [if_pos he] at h;exact absurd h he

theorem clockL_log {base:List Int} {l:List Upd} {n:Int} (h:wrongC base n = 0) (hl:l.length ≤ 300):clockL base l n = logC n base l 0:=by
  unfold clockL;rw [if_neg (by omega),if_neg (by omega)]
theorem clockL_ok {base:List Int} {l:List Upd} {n:Int} (h:(clockL base l n).2.1 = 0):wrongC base n = 0 ∧ l.length ≤ 300 ∧ clockL base l n = logC n base l 0:=by
  unfold clockL at h ⊢
  split at h
  · rename_i h1;exact absurd h h1
  · rename_i h1
    split at h
    · cases h
    · rename_i h2
      exact ⟨by omega,by omega,by rw [if_neg h1,if_neg h2]⟩
end Go.Proofs.YtkjknlnhffmkkacGreat

namespace Go.Proofs.YtkjknlnhffmkkacGreat
set_option linter.unusedVariables false

/-! ## orders -/
theorem codeL_inj {a b:Live} (h:codeL a = codeL b):a = b:=by
  obtain ⟨s1,k1,i1,a1,q1⟩:=a
  obtain ⟨s2,k2,i2,a2,q2⟩:=b
  cases s1 <;> cases s2 <;> simp [codeL] at h <;> simp [h]
theorem ordL_zero {a b:Live}:ordL a b = 0 ↔ a = b:=by
  rw [ordL_code]
  constructor
  · intro h;exact codeL_inj (lexI_eq rfl h)
  · rintro rfl;simp [codeL,lexI,cmpI]
theorem ordT_zero {a b:Tally}:ordT a b = 0 ↔ a.key = b.key ∧ a.author = b.author:=by
  rw [ordT_code];unfold codeT
  rw [lexI_cons0,lexI_cons0];simp [lexI]
theorem ordL_swap {a b:Live}:ordL b a = - ordL a b:=by rw [ordL_code,ordL_code];exact lexI_swap
theorem ordT_swap {a b:Tally}:ordT b a = - ordT a b:=by rw [ordT_code,ordT_code];exact lexI_swap
theorem sorted_ext {α:Type} {r:α → α → Prop} (hi:∀ a,¬ r a a) (hs:∀ a b,r a b → r b a → False):∀ {l1 l2:List α},l1.Pairwise r → l2.Pairwise r → (∀ x,x ∈ l1 ↔ x ∈ l2) → l1 = l2
  | [],[],_,_,_ => rfl
  | [],b :: l2,_,_,h => by have:=(h b).2 (by simp);cases this
  | a :: l1,[],_,_,h => by have:=(h a).1 (by simp);cases this
  | a :: l1,b :: l2,h1,h2,h => by
    rw [List.pairwise_cons] at h1 h2
    have e:a = b:=by
      have ha:=(h a).1 (by simp)
      have hb:=(h b).2 (by simp)
      rcases List.mem_cons.1 ha with e | ha
      · exact e
      · rcases List.mem_cons.1 hb with e | hb
        · exact e.symm
        · exact absurd (h1.1 b hb) (fun k => hs _ _ k (h2.1 a ha))
    subst e
    rw [sorted_ext hi hs h1.2 h2.2 fun x => ?_]
    have k:=h x
    simp only [List.mem_cons] at k
    constructor
    · intro hx
      rcases k.1 (.inr hx) with e | hx'
      · subst e;exact absurd (h1.1 _ hx) (hi _)
      · exact hx'
    · intro hx
      rcases k.2 (.inr hx) with e | hx'
      · subst e;exact absurd (h2.1 _ hx) (hi _)
      · exact hx'
theorem sortedL_ext {l1 l2:List Live} (h1:SortedL l1) (h2:SortedL l2) (h:∀ x,x ∈ l1 ↔ x ∈ l2):l1 = l2 :=
  sorted_ext (fun a h => by rw [ordL_zero.2 rfl] at h;omega) (fun a b h k => by rw [ordL_swap] at k;omega) h1 h2 h
theorem sortedT_ext {l1 l2:List Tally} (h1:SortedT l1) (h2:SortedT l2) (h:∀ x,x ∈ l1 ↔ x ∈ l2):l1 = l2 :=
  sorted_ext (fun a h => by rw [ordT_zero.2 ⟨rfl,rfl⟩] at h;omega) (fun a b h k => by rw [ordT_swap] at k;omega) h1 h2 h
theorem incr_len {α:Type} {f:α → Nat} {N:Nat}:∀ {l:List α} {m:Nat},l.Pairwise (fun a b => f a < f b) → (∀ x ∈ l,m ≤ f x ∧ f x < N) → m ≤ N → m + l.length ≤ N
  | [],m,_,_,h => h
  | a :: l,m,hp,hb,hm => by
    rw [List.pairwise_cons] at hp
    have ha:=hb a (by simp)
    have:=incr_len (l:=l) (m:=f a + 1) hp.2 (fun x hx => ⟨hp.1 x hx,(hb x (by simp [hx])).2⟩) (by omega)
    simp only [List.length_cons];omega
/-! ## the first place that is not behind -/
section
variable {α:Type} {f:α → Int} {l:List α}
theorem idxO_take {y:α} (h:y ∈ l.take (idxO f l)):f y < 0:=by
  obtain ⟨j,hj,e⟩:=List.getElem_of_mem h
  rw [List.length_take] at hj
  have h2:=List.not_of_lt_findIdx (p:=fun y => decide (0 ≤ f y)) (xs:=l) (i:=j) (by unfold idxO at hj;omega)
  rw [List.getElem_take] at e
  rw [e] at h2
  simp at h2
  omega
theorem idxO_drop {y:α} (hm:∀ (a b:Nat) y z,a ≤ b → l[a]? = some y → l[b]? = some z → f z < 0 → f y < 0) (h:y ∈ l.drop (idxO f l)):0 ≤ f y:=by
  obtain ⟨j,hj,e⟩:=List.getElem_of_mem h
  rw [List.length_drop] at hj
  rw [List.getElem_drop] at e
  have hi:idxO f l < l.length:=by omega
  have h2:=List.findIdx_getElem (p:=fun y => decide (0 ≤ f y)) (xs:=l) (w:=hi)
  have h2:0 ≤ f l[idxO f l]:=of_decide_eq_true h2
  rcases Int.lt_or_le (f y) 0 with hlt | hle
  · have:=hm (idxO f l) (idxO f l + j) l[idxO f l] y (by omega) (List.getElem?_eq_getElem hi) (by rw [List.getElem?_eq_getElem (by omega),e]) hlt
    omega
  · exact hle
end
theorem insO_mem {α:Type} {f:α → α → Int} {l:List α} {x y:α}:y ∈ insO f l x ↔ y ∈ l ∨ y = x:=by
  unfold insO
  conv => rhs;rw [← List.take_append_drop (idxO (fun y => f y x) l) l]
  simp only [List.mem_append,List.mem_singleton]
  constructor
  · rintro ((h | h) | h)
    · exact .inl (.inl h)
    · exact .inr h
    · exact .inl (.inr h)
  · rintro ((h | h) | h)
    · exact .inl (.inl h)
    · exact .inr h
    · exact .inl (.inr h)
theorem insO_sorted {α:Type} {f:α → α → Int} (hs:∀ a b,f b a = - f a b) (ht:∀ {a b c},f a b < 0 → f b c < 0 → f a c < 0) {l:List α} {x:α} (h:l.Pairwise fun a b => f a b < 0) (hn:∀ y ∈ l,f y x ≠ 0):(insO f l x).Pairwise fun a b => f a b < 0:=by
  have hm:=mono_of (f:=f) ht h x
  have h1:∀ y ∈ l.take (idxO (fun y => f y x) l),f y x < 0:=fun y hy => idxO_take (f:=fun y => f y x) hy
  have h2:∀ y ∈ l.drop (idxO (fun y => f y x) l),f x y < 0:=fun y hy => by
    have:=idxO_drop (f:=fun y => f y x) hm hy
    have:=hn y (List.mem_of_mem_drop hy)
    rw [hs];omega
  unfold insO
  rw [← List.take_append_drop (idxO (fun y => f y x) l) l,List.pairwise_append] at h
  rw [List.append_assoc,List.pairwise_append,List.singleton_append,List.pairwise_cons]
  refine ⟨h.1,⟨h2,h.2.1⟩,fun a ha b hb => ?_⟩
  rcases List.mem_cons.1 hb with e | hb
  · subst e;exact h1 a ha
  · exact h.2.2 a ha b hb
/-! ## right states -/
structure LiveOk (c:List Int) (n:Int) (x:Live):Prop where
  a0:0 ≤ x.author
  a1:x.author < n
  q0:1 ≤ x.seq
  q1:x.seq ≤ atI c x.author.toNat
  k0:0 ≤ x.key
  k1:x.key ≤ 15
  i0:-1000 ≤ x.item
  i1:x.item ≤ 1000
structure TallyOk (c:List Int) (n:Int) (x:Tally):Prop where
  a0:0 ≤ x.author
  a1:x.author < n
  k0:0 ≤ x.key
  k1:x.key ≤ 15
  s0:-(1000 * atI c x.author.toNat) ≤ x.sum
  s1:x.sum ≤ 1000 * atI c x.author.toNat
  ne:x.sum ≠ 0
structure RightS (s:State) (n:Int):Prop where
  c:wrongC s.clock n = 0
  l:∀ x ∈ s.lives,LiveOk s.clock n x
  ls:SortedL s.lives
  t:∀ x ∈ s.tallies,TallyOk s.clock n x
  ts:SortedT s.tallies
theorem chain_cons {α:Type} {f:α → α → Int} (ht:∀ {a b c},f a b < 0 → f b c < 0 → f a c < 0) {p:Option α} {x:α} {l:List α}:(p.toList ++ x :: l).Pairwise (fun a b => f a b < 0) ↔ (∀ q ∈ p,f q x < 0) ∧ (x :: l).Pairwise fun a b => f a b < 0:=by
  cases p with
  | none => simp
  | some q =>
    simp only [Option.toList_some,List.singleton_append,Option.mem_def,Option.some.injEq,forall_eq']
    rw [List.pairwise_cons]
    constructor
    · rintro ⟨h1,h2⟩;exact ⟨h1 x (by simp),h2⟩
    · rintro ⟨h1,h2⟩
      refine ⟨fun y hy => ?_,h2⟩
      rcases List.mem_cons.1 hy with e | hy
      · subst e;exact h1
      · exact ht h1 ((List.pairwise_cons.1 h2).1 y hy)
theorem wrongL_cons {c:List Int} {n:Int} {x:Live} {l:List Live} {p:Option Live} {i:Nat}:(wrongL c n p (x :: l) i).1 = 0 ↔ (¬ (x.author < 0 ∨ n ≤ x.author ∨ x.seq < 1 ∨ x.key < 0 ∨ 15 < x.key ∨ x.item < -1000 ∨ 1000 < x.item) ∧ ¬ atI c x.author.toNat < x.seq) ∧ (∀ q ∈ p,ordL q x < 0) ∧ (wrongL c n (some x) l (i + 1)).1 = 0:=by
  have e:wrongL c n p (x :: l) i = if x.author < 0 ∨ n ≤ x.author ∨ x.seq < 1 ∨ x.key < 0 ∨ 15 < x.key ∨ x.item < -1000 ∨ 1000 < x.item then (3,(i:Int))
    else if atI c x.author.toNat < x.seq then (8,(i:Int))
    else if (match p with | some q => decide (0 ≤ ordL q x) | none => false) = true then (2,(i:Int))
    else wrongL c n (some x) l (i + 1):=rfl
  rw [e]
  by_cases h1:x.author < 0 ∨ n ≤ x.author ∨ x.seq < 1 ∨ x.key < 0 ∨ 15 < x.key ∨ x.item < -1000 ∨ 1000 < x.item
  · rw [if_pos h1];constructor
    · intro h;cases h
    · intro h;exact absurd h1 h.1.1
  · rw [if_neg h1]
    by_cases h2:atI c x.author.toNat < x.seq
    · rw [if_pos h2];constructor
      · intro h;cases h
      · intro h;exact absurd h2 h.1.2
    · rw [if_neg h2]
      cases p with
      | none => simp [h1,h2]
      | some q =>
        by_cases h3:0 ≤ ordL q x
        · rw [if_pos (decide_eq_true h3)];constructor
          · intro h;cases h
          · intro h;have:=h.2.1 q rfl;omega
        · rw [if_neg (by simpa using h3)]
          exact ⟨fun h => ⟨⟨h1,h2⟩,fun q' hq => by injection hq with hq;subst hq;omega,h⟩,fun h => h.2.2⟩
theorem wrongT_cons {c:List Int} {n:Int} {x:Tally} {l:List Tally} {p:Option Tally} {i:Nat}:(wrongT c n p (x :: l) i).1 = 0 ↔ ¬ (x.author < 0 ∨ n ≤ x.author ∨ x.key < 0 ∨ 15 < x.key ∨ x.sum < -(mostT c n x) ∨ mostT c n x < x.sum ∨ x.sum = 0) ∧ (∀ q ∈ p,ordT q x < 0) ∧ (wrongT c n (some x) l (i + 1)).1 = 0:=by
  have e:wrongT c n p (x :: l) i = if x.author < 0 ∨ n ≤ x.author ∨ x.key < 0 ∨ 15 < x.key ∨ x.sum < -(mostT c n x) ∨ mostT c n x < x.sum ∨ x.sum = 0 then (3,(i:Int))
    else if (match p with | some q => decide (0 ≤ ordT q x) | none => false) = true then (2,(i:Int))
    else wrongT c n (some x) l (i + 1):=rfl
  rw [e]
  by_cases h1:x.author < 0 ∨ n ≤ x.author ∨ x.key < 0 ∨ 15 < x.key ∨ x.sum < -(mostT c n x) ∨ mostT c n x < x.sum ∨ x.sum = 0
  · rw [if_pos h1];constructor
    · intro h;cases h
    · intro h;exact absurd h1 h.1
  · rw [if_neg h1]
    cases p with
    | none => simp [h1]
    | some q =>
      by_cases h3:0 ≤ ordT q x
      · rw [if_pos (decide_eq_true h3)];constructor
        · intro h;cases h
        · intro h;have:=h.2.1 q rfl;omega
      · rw [if_neg (by simpa using h3)]
        exact ⟨fun h => ⟨h1,fun q' hq => by injection hq with hq;subst hq;omega,h⟩,fun h => h.2.2⟩
theorem wrongL_iff {c:List Int} {n:Int}:∀ {l:List Live} {p:Option Live} {i:Nat},(wrongL c n p l i).1 = 0 ↔ (∀ x ∈ l,LiveOk c n x) ∧ (l ≠ [] → SortedL (p.toList ++ l))
  | [],p,i => by simp [wrongL]
  | x :: l,p,i => by
    have ih:=wrongL_iff (c:=c) (n:=n) (l:=l) (p:=some x) (i:=i + 1)
    unfold SortedL at ih ⊢
    rw [wrongL_cons,chain_cons (f:=ordL) ordL_trans,ih]
    constructor
    · rintro ⟨⟨h1,h2⟩,h3,a,b⟩
      refine ⟨fun y hy => ?_,fun _ => ⟨h3,?_⟩⟩
      · rcases List.mem_cons.1 hy with e | hy
        · subst e;exact ⟨by omega,by omega,by omega,by omega,by omega,by omega,by omega,by omega⟩
        · exact a y hy
      · cases l with
        | nil => simp
        | cons z l => exact b (by simp)
    · rintro ⟨a,b⟩
      have hx:=a x (by simp)
      obtain ⟨b1,b2⟩:=b (by simp)
      exact ⟨⟨by have:=hx.a0;have:=hx.a1;have:=hx.q0;have:=hx.k0;have:=hx.k1;have:=hx.i0;have:=hx.i1;omega,by have:=hx.q1;omega⟩,b1,fun y hy => a y (by simp [hy]),fun _ => b2⟩
theorem wrongT_iff {c:List Int} {n:Int}:∀ {l:List Tally} {p:Option Tally} {i:Nat},(wrongT c n p l i).1 = 0 ↔ (∀ x ∈ l,TallyOk c n x) ∧ (l ≠ [] → SortedT (p.toList ++ l))
  | [],p,i => by simp [wrongT]
  | x :: l,p,i => by
    have ih:=wrongT_iff (c:=c) (n:=n) (l:=l) (p:=some x) (i:=i + 1)
    unfold SortedT at ih ⊢
    rw [wrongT_cons,chain_cons (f:=ordT) ordT_trans,ih]
    constructor
    · rintro ⟨h1,h3,a,b⟩
      refine ⟨fun y hy => ?_,fun _ => ⟨h3,?_⟩⟩
      · rcases List.mem_cons.1 hy with e | hy
        · subst e
          have e:mostT c n y = 1000 * atI c y.author.toNat:=by unfold mostT;rw [if_pos (by omega)]
          rw [e] at h1
          exact ⟨by omega,by omega,by omega,by omega,by omega,by omega,by omega⟩
        · exact a y hy
      · cases l with
        | nil => simp
        | cons z l => exact b (by simp)
    · rintro ⟨a,b⟩
      have hx:=a x (by simp)
      obtain ⟨b1,b2⟩:=b (by simp)
      have e:mostT c n x = 1000 * atI c x.author.toNat:=by unfold mostT;rw [if_pos ⟨hx.a0,hx.a1⟩]
      exact ⟨by rw [e];have:=hx.a0;have:=hx.a1;have:=hx.k0;have:=hx.k1;have:=hx.s0;have:=hx.s1;have:=hx.ne;omega,b1,fun y hy => a y (by simp [hy]),fun _ => b2⟩
theorem sorted_nil_or {α:Type} {l:List α} {r:α → α → Prop} (h:l ≠ [] → l.Pairwise r):l.Pairwise r:=by
  cases l with
  | nil => simp
  | cons x l => exact h (by simp)
theorem wrongS_iff {s:State} {n:Int}:(wrongS s n).1 = 0 ↔ RightS s n:=by
  unfold wrongS
  constructor
  · intro h
    split at h
    · rename_i h1;exact absurd h h1
    · rename_i h1
      split at h
      · rename_i h2;exact absurd h h2
      · rename_i h2
        have e2:=wrongL_iff.1 (Classical.not_not.1 h2)
        have e3:=wrongT_iff.1 h
        exact ⟨Classical.not_not.1 h1,e2.1,sorted_nil_or e2.2,e3.1,sorted_nil_or e3.2⟩
  · intro h
    have e2:=wrongL_iff (i:=0) (p:=none).2 ⟨h.l,fun _ => h.ls⟩
    have e3:=wrongT_iff (i:=0) (p:=none).2 ⟨h.t,fun _ => h.ts⟩
    rw [if_neg (fun k => k h.c),if_neg (fun k => k e2),e3]
/-- how long a right state's lists may be -/
def numL (x:Live):Nat:=((((if x.set then 1 else 0) * 16 + x.key.toNat) * 2001 + (x.item + 1000).toNat) * 6 + x.author.toNat) * 1001 + x.seq.toNat
theorem numL_lt {c:List Int} {n:Int} (hc:wrongC c n = 0) {a b:Live} (ha:LiveOk c n a) (hb:LiveOk c n b) (h:ordL a b < 0):numL a < numL b:=by
  have hn:=wrongC_ok hc
  have q1:=atI_bd hc a.author.toNat
  have q2:=atI_bd hc b.author.toNat
  obtain ⟨a1,a2,a3,a4,a5,a6,a7,a8⟩:=ha
  obtain ⟨b1,b2,b3,b4,b5,b6,b7,b8⟩:=hb
  rw [ordL_code] at h
  unfold codeL at h
  simp only [lexI_cons] at h
  unfold numL
  obtain ⟨s1,k1,i1,u1,r1⟩:=a
  obtain ⟨s2,k2,i2,u2,r2⟩:=b
  dsimp only at *
  rcases h with h | ⟨h0,h | ⟨h1,h | ⟨h2,h | ⟨h3,h | ⟨h4,h⟩⟩⟩⟩⟩
  · cases s1 <;> cases s2 <;> simp at h ⊢ <;> omega
  · cases s1 <;> cases s2 <;> simp at h0 ⊢ <;> omega
  · subst h1;cases s1 <;> cases s2 <;> simp at h0 ⊢ <;> omega
  · subst h1 h2;cases s1 <;> cases s2 <;> simp at h0 ⊢ <;> omega
  · subst h1 h2 h3;cases s1 <;> cases s2 <;> simp at h0 ⊢ <;> omega
  · simp [lexI] at h
theorem numL_bd {c:List Int} {n:Int} (hc:wrongC c n = 0) {a:Live} (ha:LiveOk c n a):numL a < 400000000:=by
  have hn:=wrongC_ok hc
  have q1:=atI_bd hc a.author.toNat
  obtain ⟨a1,a2,a3,a4,a5,a6,a7,a8⟩:=ha
  unfold numL
  split <;> omega
def numT (x:Tally):Nat:=x.key.toNat * 6 + x.author.toNat
theorem RightS.lives_len {s:State} {n:Int} (h:RightS s n):s.lives.length ≤ 400000000:=by
  have:=incr_len (f:=numL) (N:=400000000) (l:=s.lives) (m:=0) (List.Pairwise.imp_of_mem (fun {a b} ha hb hab => numL_lt h.c (h.l a ha) (h.l b hb) hab) h.ls) (fun x hx => ⟨Nat.zero_le _,numL_bd h.c (h.l x hx)⟩) (by omega)
  omega
theorem RightS.tallies_len {s:State} {n:Int} (h:RightS s n):s.tallies.length ≤ 96:=by
  have hn:=wrongC_ok h.c
  have:=incr_len (f:=numT) (N:=96) (l:=s.tallies) (m:=0) (List.Pairwise.imp_of_mem (fun {a b} ha hb hab => by
    have ⟨a1,a2,a3,a4,_,_,_⟩:=h.t a ha
    have ⟨b1,b2,b3,b4,_,_,_⟩:=h.t b hb
    rw [ordT_code] at hab
    unfold codeT at hab
    simp only [lexI_cons] at hab
    unfold numT
    rcases hab with h | ⟨h1,h | ⟨h2,h⟩⟩
    · omega
    · omega
    · simp [lexI] at h) h.ts) (fun x hx => ⟨Nat.zero_le _,by
      have ⟨a1,a2,a3,a4,_,_,_⟩:=h.t x hx
      unfold numT;omega⟩) (by omega)
  omega
theorem RightS.clock_len {s:State} {n:Int} (h:RightS s n):s.clock.length ≤ 6:=by have:=wrongC_ok h.c;omega
/-! ## what stays -/
def ends (u:Upd) (x:Live):Bool:=decide (u.kind ≠ 5) && decide (u.kind ≠ 3) && endsC (decide (u.kind = 3 ∨ u.kind = 4)) u x
def liveOf (u:Upd):Live:=⟨decide (u.kind = 3),u.key,u.item,u.author,atI u.seen u.author.toNat + 1⟩
def makes (u:Upd):Bool:=decide (u.kind = 1) || decide (u.kind = 3)
theorem seqU_right {u:Upd} {n:Int} (h:RightU u n):seqU u = atI u.seen u.author.toNat + 1:=by
  unfold seqU
  have:=atI_bd h.c u.author.toNat
  exact wrap_small (by omega) (by omega)
theorem newL_liveOf {u:Upd} {n:Int} (h:RightU u n) (hm:makes u = true):newL (decide (u.kind = 3 ∨ u.kind = 4)) u (seqU u) = liveOf u:=by
  unfold newL liveOf
  rw [seqU_right h]
  unfold makes at hm
  simp only [Bool.or_eq_true,decide_eq_true_eq] at hm
  rcases hm with e | e <;> rw [e] <;> rfl
theorem applyS_lives {s:State} {u:Upd} {n:Int} (h:RightU u n):(applyS s u).lives = if makes u = true then insO ordL (s.lives.filter fun x => !ends u x) (liveOf u) else s.lives.filter fun x => !ends u x:=by
  have e1:(if u.kind ≠ 5 ∧ u.kind ≠ 3 then s.lives.filter fun l => !endsC (decide (u.kind = 3 ∨ u.kind = 4)) u l else s.lives) = s.lives.filter fun x => !ends u x:=by
    unfold ends
    split
    · rename_i h1;simp [h1]
    · rename_i h1
      symm;rw [List.filter_eq_self]
      intro x _
      by_cases h5:u.kind = 5 <;> by_cases h3:u.kind = 3 <;> simp_all
  show (if u.kind = 1 ∨ u.kind = 3 then insO ordL (if u.kind ≠ 5 ∧ u.kind ≠ 3 then s.lives.filter fun l => !endsC (decide (u.kind = 3 ∨ u.kind = 4)) u l else s.lives) (newL (decide (u.kind = 3 ∨ u.kind = 4)) u (seqU u)) else (if u.kind ≠ 5 ∧ u.kind ≠ 3 then s.lives.filter fun l => !endsC (decide (u.kind = 3 ∨ u.kind = 4)) u l else s.lives)) = _
  rw [e1]
  by_cases hm:makes u = true
  · rw [if_pos hm,newL_liveOf h hm,if_pos (by unfold makes at hm;simpa using hm)]
  · rw [if_neg hm,if_neg (by unfold makes at hm;simpa using hm)]
theorem applyS_mem {s:State} {u:Upd} {n:Int} (h:RightU u n) {x:Live}:x ∈ (applyS s u).lives ↔ (x ∈ s.lives ∧ ends u x = false) ∨ (makes u = true ∧ x = liveOf u):=by
  rw [applyS_lives h]
  split
  · rename_i hm;rw [insO_mem];simp [hm]
  · rename_i hm;simp [hm]
theorem ends_has {u:Upd} {x:Live} (h:ends u x = true):hasC u.seen x.author x.seq = true:=by
  unfold ends endsC at h
  simp only [Bool.and_eq_true] at h
  exact h.2.2
theorem has_le {c:List Int} {a q:Int} (h:hasC c a q = true):0 ≤ a ∧ a < c.length ∧ q ≤ atI c a.toNat:=by
  unfold hasC at h
  simp only [Bool.and_eq_true,decide_eq_true_eq] at h
  exact ⟨h.1.1,h.1.2,h.2⟩
/-- who has not seen it does not end it -/
theorem ends_not {u:Upd} {x:Live} (h:atI u.seen x.author.toNat < x.seq):ends u x = false:=by
  rw [Bool.eq_false_iff];intro k
  have:=(has_le (ends_has k)).2.2
  omega
/-! ## tallies -/
def hitT (k a:Int) (t:Tally):Bool:=decide (t.key = k) && decide (t.author = a)
def sumT (k a:Int):List Tally → Int
  | [] => 0
  | t :: l => (if hitT k a t = true then t.sum else 0) + sumT k a l
theorem sumT_app (k a:Int):∀ l1 l2:List Tally,sumT k a (l1 ++ l2) = sumT k a l1 + sumT k a l2
  | [],l2 => by simp [sumT]
  | t :: l1,l2 => by simp only [List.cons_append,sumT,sumT_app k a l1 l2];omega
theorem hitT_iff {k a:Int} {t:Tally}:hitT k a t = true ↔ t.key = k ∧ t.author = a:=by unfold hitT;simp
theorem sumT_none {k a:Int}:∀ {l:List Tally},(∀ t ∈ l,hitT k a t = false) → sumT k a l = 0
  | [],_ => rfl
  | t :: l,h => by
    have h1:=h t (by simp)
    have:=sumT_none (k:=k) (a:=a) (l:=l) fun t ht => h t (by simp [ht])
    simp only [sumT,this,h1];simp
theorem split_at {α:Type} {l:List α} {i:Nat} {z:α} (h:l[i]? = some z):l = l.take i ++ z :: l.drop (i + 1):=by
  obtain ⟨hi,e⟩:=List.getElem?_eq_some_iff.1 h
  conv => lhs;rw [← List.take_append_drop i l,List.drop_eq_getElem_cons hi,e]
theorem sumT_mem {l:List Tally} (h:SortedT l) {t:Tally} (ht:t ∈ l):sumT t.key t.author l = t.sum:=by
  obtain ⟨i,hi⟩:=List.getElem?_of_mem ht
  have e:=split_at hi
  unfold SortedT at h
  rw [e,List.pairwise_append,List.pairwise_cons] at h
  rw [e,sumT_app]
  simp only [sumT]
  rw [sumT_none (l:=l.take i) fun y hy => ?_,sumT_none (l:=l.drop (i + 1)) fun y hy => ?_,if_pos (hitT_iff.2 ⟨rfl,rfl⟩)]
  · omega
  · rw [Bool.eq_false_iff];intro k
    obtain ⟨k1,k2⟩:=hitT_iff.1 k
    have:=h.2.1.1 y hy
    rw [ordT_zero.2 ⟨k1.symm,k2.symm⟩] at this;omega
  · rw [Bool.eq_false_iff];intro k
    obtain ⟨k1,k2⟩:=hitT_iff.1 k
    have:=h.2.2 y hy t (by simp)
    rw [ordT_zero.2 ⟨k1,k2⟩] at this;omega
theorem sumT_find {k a:Int} {l:List Tally} (h:SortedT l) (hne:sumT k a l ≠ 0):(⟨k,a,sumT k a l⟩:Tally) ∈ l:=by
  by_cases hx:∃ t ∈ l,hitT k a t = true
  · obtain ⟨t,ht,hh⟩:=hx
    obtain ⟨rfl,rfl⟩:=hitT_iff.1 hh
    rw [sumT_mem h ht];exact ht
  · exact absurd (sumT_none fun t ht => by rw [Bool.eq_false_iff];exact fun k => hx ⟨t,ht,k⟩) hne
theorem sumT_ins (k a:Int) (l:List Tally) (t:Tally):sumT k a (insO ordT l t) = sumT k a l + (if hitT k a t = true then t.sum else 0):=by
  unfold insO
  rw [sumT_app,sumT_app]
  conv => rhs;rw [← List.take_append_drop (idxO (fun y => ordT y t) l) l,sumT_app]
  simp only [sumT];omega
theorem hit_same {k a:Int} {z t:Tally} (h:ordT z t = 0):hitT k a z = hitT k a t:=by
  obtain ⟨h1,h2⟩:=ordT_zero.1 h
  unfold hitT;rw [h1,h2]
theorem sumT_count (k a:Int) (l:List Tally) (t:Tally):sumT k a (countL l t) = sumT k a l + (if hitT k a t = true then t.sum else 0):=by
  unfold countL
  split
  · rename_i z hz
    split
    · rename_i h0
      have e:=split_at hz
      have hh:=hit_same (k:=k) (a:=a) h0
      split
      · rename_i hs
        have e2:l.eraseIdx (idxO (fun y => ordT y t) l) = l.take (idxO (fun y => ordT y t) l) ++ l.drop (idxO (fun y => ordT y t) l + 1):=List.eraseIdx_eq_take_drop_succ ..
        rw [e2,sumT_app]
        conv => rhs;rw [e,sumT_app]
        simp only [sumT,hh]
        split <;> omega
      · have hi:=(List.getElem?_eq_some_iff.1 hz).1
        have e2:l.set (idxO (fun y => ordT y t) l) { z with sum:=z.sum + t.sum } = l.take (idxO (fun y => ordT y t) l) ++ { z with sum:=z.sum + t.sum } :: l.drop (idxO (fun y => ordT y t) l + 1):=List.set_eq_take_append_cons_drop .. |>.trans (if_pos hi)
        rw [e2,sumT_app]
        conv => rhs;rw [e,sumT_app]
        have hh2:hitT k a { z with sum:=z.sum + t.sum } = hitT k a t:=hh
        simp only [sumT,hh,hh2]
        split <;> omega
    · split
      · rename_i h;rw [h];simp
      · exact sumT_ins k a l t
  · split
    · rename_i h;rw [h];simp
    · exact sumT_ins k a l t
theorem countL_ne {l:List Tally} {t:Tally} (h:∀ z ∈ l,z.sum ≠ 0):∀ z ∈ countL l t,z.sum ≠ 0:=by
  unfold countL
  intro y hy
  split at hy
  · rename_i z hz
    split at hy
    · split at hy
      · exact h y (List.mem_of_mem_eraseIdx hy)
      · rename_i hs
        rcases List.mem_or_eq_of_mem_set hy with hy | e
        · exact h y hy
        · subst e;exact hs
    · split at hy
      · exact h y hy
      · rename_i hs
        rcases insO_mem.1 hy with hy | e
        · exact h y hy
        · subst e;exact hs
  · split at hy
    · exact h y hy
    · rename_i hs
      rcases insO_mem.1 hy with hy | e
      · exact h y hy
      · subst e;exact hs
theorem countL_sorted {l:List Tally} {t:Tally} (h:SortedT l):SortedT (countL l t):=by
  have hm:=mono_T h t
  have hins:(∀ z,l[idxO (fun y => ordT y t) l]? = some z → ordT z t ≠ 0) → SortedT (insO ordT l t):=fun hz => by
    refine insO_sorted (f:=ordT) (fun a b => ordT_swap) ordT_trans h fun y hy e => ?_
    have hy':=hy
    rw [← List.take_append_drop (idxO (fun y => ordT y t) l) l] at hy'
    rcases List.mem_append.1 hy' with hy' | hy'
    · have:=idxO_take (f:=fun y => ordT y t) hy';omega
    · obtain ⟨j,hj,ej⟩:=List.getElem_of_mem hy'
      rw [List.length_drop] at hj
      rw [List.getElem_drop] at ej
      have hi:idxO (fun y => ordT y t) l < l.length:=by omega
      have h0:=hz _ (List.getElem?_eq_getElem hi)
      have h1:0 ≤ ordT l[idxO (fun y => ordT y t) l] t:=idxO_drop (f:=fun y => ordT y t) hm (by rw [List.drop_eq_getElem_cons hi];exact List.mem_cons_self)
      cases j with
      | zero => simp only [Nat.add_zero] at ej;rw [ej] at h0;exact h0 e
      | succ j =>
        have h2:=List.pairwise_iff_getElem.1 h _ _ hi (by omega) (show idxO (fun y => ordT y t) l < idxO (fun y => ordT y t) l + (j + 1) by omega)
        rw [ej] at h2
        have h3:ordT t l[idxO (fun y => ordT y t) l] < 0:=by rw [ordT_swap];omega
        have h4:=ordT_trans h3 h2
        rw [ordT_swap] at h4;omega
  unfold countL
  split
  · rename_i z hz
    split
    · rename_i h0
      split
      · exact List.Pairwise.sublist (List.eraseIdx_sublist ..) h
      · exact pairwise_set2 h hz (fun y h => h) (fun y h => h)
    · rename_i h0
      split
      · exact h
      · exact hins fun y hy => by rw [hz] at hy;injection hy with hy;subst hy;exact h0
  · rename_i hz
    split
    · exact h
    · exact hins fun y hy => by rw [hz] at hy;cases hy
where
  pairwise_set2 {l:List Tally} {i:Nat} {z y:Tally} (h:SortedT l) (hz:l[i]? = some z) (h1:∀ x,ordT z x < 0 → ordT y x < 0) (h2:∀ x,ordT x z < 0 → ordT x y < 0):SortedT (l.set i y):=by
    have hi:=(List.getElem?_eq_some_iff.1 hz).1
    have e:=split_at hz
    have e2:l.set i y = l.take i ++ y :: l.drop (i + 1):=List.set_eq_take_append_cons_drop .. |>.trans (if_pos hi)
    unfold SortedT at h ⊢
    rw [e2]
    rw [e,List.pairwise_append,List.pairwise_cons] at h
    rw [List.pairwise_append,List.pairwise_cons]
    refine ⟨h.1,⟨fun x hx => h1 x (h.2.1.1 x hx),h.2.1.2⟩,fun a ha b hb => ?_⟩
    rcases List.mem_cons.1 hb with e | hb
    · subst e;exact h2 a (h.2.2 a ha z (by simp))
    · exact h.2.2 a ha b (by simp [hb])
theorem applyS_tallies {s:State} {u:Upd}:(applyS s u).tallies = if u.kind = 5 then countL s.tallies ⟨u.key,u.author,u.item⟩ else s.tallies:=rfl
theorem applyS_sum {s:State} {u:Upd} (k a:Int):sumT k a (applyS s u).tallies = sumT k a s.tallies + (if u.kind = 5 ∧ u.key = k ∧ u.author = a then u.item else 0):=by
  rw [applyS_tallies]
  split
  · rename_i h;rw [sumT_count]
    by_cases h2:u.key = k ∧ u.author = a
    · rw [if_pos (hitT_iff.2 h2),if_pos ⟨h,h2⟩]
    · rw [if_neg (fun k => h2 (hitT_iff.1 k)),if_neg (fun k => h2 k.2)]
  · rename_i h;rw [if_neg (fun k => h k.1)];omega
theorem applyS_clock {s:State} {u:Upd}:(applyS s u).clock = tickC s.clock u.author:=rfl
/-- a right state stays right -/
theorem applyS_right {s:State} {u:Upd} {n:Int} (h:RightS s n) (k:StepOk s.clock u n):RightS (applyS s u) n:=by
  have hn:=wrongC_ok h.c
  have hr:=k.r
  have tk:=tick_at h.c k
  have up:∀ j,atI s.clock j ≤ atI (tickC s.clock u.author) j:=fun j => by rw [tk];split <;> (try subst_vars) <;> omega
  have hnew:LiveOk (tickC s.clock u.author) n (liveOf u):=by
    have:=atI_bd hr.c u.author.toNat
    refine ⟨hr.a0,hr.a1,?_,?_,hr.y0,hr.y1,hr.i0,hr.i1⟩
    · show 1 ≤ atI u.seen u.author.toNat + 1;omega
    · show atI u.seen u.author.toNat + 1 ≤ atI (tickC s.clock u.author) u.author.toNat
      rw [tk,if_pos rfl,k.eq];exact Int.le_refl _
  refine ⟨tick_ok h.c k,fun x hx => ?_,?_,fun x hx => ?_,?_⟩
  · rcases (applyS_mem hr).1 hx with ⟨hx,_⟩ | ⟨_,rfl⟩
    · obtain ⟨a1,a2,a3,a4,a5,a6,a7,a8⟩:=h.l x hx
      exact ⟨a1,a2,a3,Int.le_trans a4 (up _),a5,a6,a7,a8⟩
    · exact hnew
  · rw [applyS_lives hr]
    have hf:SortedL (s.lives.filter fun x => !ends u x):=List.Pairwise.filter _ h.ls
    split
    · refine insO_sorted (f:=ordL) (fun a b => ordL_swap) ordL_trans hf fun y hy e => ?_
      have e:=ordL_zero.1 e
      subst e
      have:=(h.l _ (List.mem_filter.1 hy).1).q1
      have:atI u.seen u.author.toNat + 1 ≤ atI s.clock u.author.toNat:=this
      have:=k.eq
      omega
    · exact hf
  · have hs:SortedT (applyS s u).tallies:=by rw [applyS_tallies];split;exact countL_sorted h.ts;exact h.ts
    have hne:∀ z ∈ (applyS s u).tallies,z.sum ≠ 0:=by rw [applyS_tallies];split;exact countL_ne fun z hz => (h.t z hz).ne;exact fun z hz => (h.t z hz).ne
    have e1:=sumT_mem hs hx
    rw [applyS_sum] at e1
    have hx0:=hne x hx
    by_cases hold:sumT x.key x.author s.tallies = 0
    · rw [hold] at e1
      split at e1
      · rename_i hk
        obtain ⟨k5,kk,ka⟩:=hk
        have:=hr.a0;have:=hr.a1;have:=hr.y0;have:=hr.y1;have:=hr.i0;have:=hr.i1
        have b:=atI_bd h.c x.author.toNat
        refine ⟨by omega,by omega,by omega,by omega,?_,?_,hx0⟩ <;> (show _ ≤ _;rw [applyS_clock,tk,if_pos (by rw [ka])];rw [← ka] at b;omega)
      · omega
    · have hf:=h.t _ (sumT_find h.ts hold)
      obtain ⟨a1,a2,a3,a4,a5,a6,a7⟩:=hf
      dsimp only at a1 a2 a3 a4 a5 a6 a7
      refine ⟨a1,a2,a3,a4,?_,?_,hx0⟩
      · rw [applyS_clock,tk]
        split at e1
        · rename_i hk;have:=hr.i0;have:=hr.i1;rw [if_pos (by rw [hk.2.2]),hk.2.2];omega
        · have:=up x.author.toNat;rw [tk] at this;omega
      · rw [applyS_clock,tk]
        split at e1
        · rename_i hk;have:=hr.i0;have:=hr.i1;rw [if_pos (by rw [hk.2.2]),hk.2.2];omega
        · have:=up x.author.toNat;rw [tk] at this;omega
  · rw [applyS_tallies];split
    · exact countL_sorted h.ts
    · exact h.ts
end Go.Proofs.YtkjknlnhffmkkacGreat

namespace Go.Proofs.YtkjknlnhffmkkacGreat
set_option linter.unusedVariables false

def playS (s:State) (l:List Upd):State:=l.foldl applyS s
theorem playS_cons (s:State) (u:Upd) (l:List Upd):playS s (u :: l) = playS (applyS s u) l:=rfl
def sumU (k a:Int):List Upd → Int
  | [] => 0
  | u :: l => (if u.kind = 5 ∧ u.key = k ∧ u.author = a then u.item else 0) + sumU k a l
theorem logC_cons {n:Int} {c:List Int} {u:Upd} {l:List Upd} {i:Nat} (hc:wrongC c n = 0) (h:(logC n c (u :: l) i).2.1 = 0):StepOk c u n ∧ logC n c (u :: l) i = logC n (tickC c u.author) l (i + 1) ∧ (logC n (tickC c u.author) l (i + 1)).2.1 = 0:=by
  rw [logC.eq_2] at h ⊢
  by_cases he:stepE c u n = 0
  · rw [if_neg (by omega)] at h ⊢
    exact ⟨stepE_ok hc he,rfl,h⟩
  · rw [if_pos he] at h;exact absurd h he
structure Played (s t:State) (l:List Upd) (n:Int):Prop where
  r:RightS t n
  m:∀ x,x ∈ t.lives ↔ (x ∈ s.lives ∨ ∃ u ∈ l,makes u = true ∧ x = liveOf u) ∧ ∀ v ∈ l,ends v x = false
  s:∀ k a,sumT k a t.tallies = sumT k a s.tallies + sumU k a l
theorem play_ok {n:Int}:∀ (l:List Upd) (s:State) (i:Nat),RightS s n → (logC n s.clock l i).2.1 = 0 → Played s (playS s l) l n ∧ (playS s l).clock = (logC n s.clock l i).1
  | [],s,i,hs,h => ⟨⟨hs,fun x => by simp [playS],fun k a => by simp [playS,sumU]⟩,rfl⟩
  | u :: l,s,i,hs,h => by
    obtain ⟨h1,h2,h3⟩:=logC_cons hs.c h
    have hr:=applyS_right hs h1
    obtain ⟨⟨r,m,t⟩,cc⟩:=play_ok l (applyS s u) (i + 1) hr h3
    rw [playS_cons,h2]
    refine ⟨⟨r,fun x => ?_,fun k a => ?_⟩,cc⟩
    · rw [m,applyS_mem h1.r]
      have hlater:∀ w ∈ l,ends u (liveOf w) = false:=fun w hw => by
        have e1:=(logC_ok l _ (i + 1) (tick_ok hs.c h1) h3).2.2 w hw
        refine ends_not ?_
        show atI u.seen w.author.toNat < atI w.seen w.author.toNat + 1
        have e2:=seesC_iff.1 h1.sees w.author.toNat
        have e3:=seesC_iff.1 (tick_sees hs.c h1) w.author.toNat
        have:=e1.2
        omega
      have hself:ends u (liveOf u) = false:=ends_not (by show atI u.seen u.author.toNat < atI u.seen u.author.toNat + 1;omega)
      simp only [List.mem_cons,forall_eq_or_imp]
      constructor
      · rintro ⟨(⟨a,b⟩ | ⟨a,b⟩) | ⟨w,a,b,c⟩,hv⟩
        · exact ⟨.inl a,b,hv⟩
        · subst b;exact ⟨.inr ⟨u,.inl rfl,a,rfl⟩,hself,hv⟩
        · subst c;exact ⟨.inr ⟨w,.inr a,b,rfl⟩,hlater w a,hv⟩
      · rintro ⟨a | ⟨w,a | a,b,c⟩,hu,hv⟩
        · exact ⟨.inl (.inl ⟨a,hu⟩),hv⟩
        · subst a;exact ⟨.inl (.inr ⟨b,c⟩),hv⟩
        · exact ⟨.inr ⟨w,a,b,c⟩,hv⟩
    · rw [t,applyS_sum];simp only [sumU];omega
end Go.Proofs.YtkjknlnhffmkkacGreat

namespace Go.Proofs.YtkjknlnhffmkkacGreat
set_option linter.unusedVariables false

def zeroS:State:=⟨[],[],[]⟩
def lenI {α:Type} (l:List α):Int:=(l.length:Int)
/-- Apply: the state, the error -/
def ApplyS (s:State) (u:Upd):State × Int :=
  if (wrongS s (lenI s.clock)).1 ≠ 0 then (zeroS,(wrongS s (lenI s.clock)).1)
  else if (clockL s.clock [u] (lenI s.clock)).2.1 ≠ 0 then (zeroS,(clockL s.clock [u] (lenI s.clock)).2.1)
  else (applyS s u,0)
/-- Play: the state, the error, its place -/
def PlayS (s:State) (l:List Upd):State × Int × Int :=
  if (wrongS s (lenI s.clock)).1 ≠ 0 then (zeroS,(wrongS s (lenI s.clock)).1,0)
  else if (clockL s.clock l (lenI s.clock)).2.1 ≠ 0 then (zeroS,(clockL s.clock l (lenI s.clock)).2)
  else (playS s l,0,0)
theorem ApplyS_1 {s:State} {u:Upd} (h:(wrongS s (lenI s.clock)).1 ≠ 0):ApplyS s u = (zeroS,(wrongS s (lenI s.clock)).1):=by unfold ApplyS;rw [if_pos h]
theorem ApplyS_2 {s:State} {u:Upd} (h:(wrongS s (lenI s.clock)).1 = 0) (k:(clockL s.clock [u] (lenI s.clock)).2.1 ≠ 0):ApplyS s u = (zeroS,(clockL s.clock [u] (lenI s.clock)).2.1):=by unfold ApplyS;rw [if_neg (fun e => e h),if_pos k]
theorem ApplyS_3 {s:State} {u:Upd} (h:(wrongS s (lenI s.clock)).1 = 0) (k:(clockL s.clock [u] (lenI s.clock)).2.1 = 0):ApplyS s u = (applyS s u,0):=by unfold ApplyS;rw [if_neg (fun e => e h),if_neg (fun e => e k)]
theorem PlayS_1 {s:State} {l:List Upd} (h:(wrongS s (lenI s.clock)).1 ≠ 0):PlayS s l = (zeroS,(wrongS s (lenI s.clock)).1,0):=by unfold PlayS;rw [if_pos h]
theorem PlayS_2 {s:State} {l:List Upd} (h:(wrongS s (lenI s.clock)).1 = 0) (k:(clockL s.clock l (lenI s.clock)).2.1 ≠ 0):PlayS s l = (zeroS,(clockL s.clock l (lenI s.clock)).2):=by unfold PlayS;rw [if_neg (fun e => e h),if_pos k]
theorem PlayS_3 {s:State} {l:List Upd} (h:(wrongS s (lenI s.clock)).1 = 0) (k:(clockL s.clock l (lenI s.clock)).2.1 = 0):PlayS s l = (playS s l,0,0):=by unfold PlayS;rw [if_neg (fun e => e h),if_neg (fun e => e k)]
theorem PlayS_of {s:State} {l:List Upd} {n:Int} (h1:RightS s n) (h2:(logC n s.clock l 0).2.1 = 0) (h3:l.length ≤ 300):PlayS s l = (playS s l,0,0):=by
  have e:=(wrongC_ok h1.c).2.2.1
  have e':lenI s.clock = n:=e
  exact PlayS_3 (by rw [e'];exact wrongS_iff.2 h1) (by rw [e',clockL_log h1.c h3];exact h2)
theorem ApplyS_ok {s:State} {u:Upd} (h:(ApplyS s u).2 = 0):RightS s (lenI s.clock) ∧ StepOk s.clock u (lenI s.clock) ∧ ApplyS s u = (applyS s u,0):=by
  by_cases h1:(wrongS s (lenI s.clock)).1 = 0
  · by_cases h2:(clockL s.clock [u] (lenI s.clock)).2.1 = 0
    · obtain ⟨a,b,c⟩:=clockL_ok h2
      exact ⟨wrongS_iff.1 h1,(logC_cons a (c ▸ h2)).1,ApplyS_3 h1 h2⟩
    · rw [ApplyS_2 h1 h2] at h;exact absurd h h2
  · rw [ApplyS_1 h1] at h;exact absurd h h1
theorem clock1_ok {s:State} {u:Upd} {n:Int} (h1:(wrongS s n).1 = 0) (h2:(clockL s.clock [u] n).2.1 = 0):RightS s n ∧ StepOk s.clock u n:=by
  obtain ⟨a,b,c⟩:=clockL_ok h2
  exact ⟨wrongS_iff.1 h1,(logC_cons a (c ▸ h2)).1⟩
/-- the beginning, of so many -/
def startG (n:Int):State:=⟨List.replicate (min (max n 0) 6).toNat 0,[],[]⟩
/-! ## the laws -/
end Go.Proofs.YtkjknlnhffmkkacGreat

namespace Go.Proofs.YtkjknlnhffmkkacGreat
set_option linter.unusedVariables false

structure Cell where
  key:Int
  items:List Int
deriving DecidableEq
structure Pair where
  key:Int
  sum:Int
deriving DecidableEq
def PairR:CR Pair:=fun _ cs x => cs = [.int .i64 x.key,.int .i64 x.sum]
instance:GoodR PairR:=⟨fun _ _ _ _ _ h => h,fun _ _ _ h u hu => by
  cases h;simp only [List.mem_cons,List.not_mem_nil,or_false] at hu;rcases hu with h | h <;> subst h <;> rfl⟩
section
variable {set:Bool} {out F:List Cell} {x:Live} {key:Int} {its:List Int} {y:Int}
end
theorem foldl_take {α β:Type} {f:β → α → β} {b:β} {l:List α} {k:Nat} {x:α} (h:l[k]? = some x):(l.take (k + 1)).foldl f b = f ((l.take k).foldl f b) x:=by
  rw [take_snoc h,List.foldl_append];rfl
section
variable {F:List Pair} {t:Tally} {key sum:Int}
end
end Go.Proofs.YtkjknlnhffmkkacGreat

namespace Go.Proofs.YtkjknlnhffmkkacGreat
set_option linter.unusedVariables false

end Go.Proofs.YtkjknlnhffmkkacGreat

namespace Go.Proofs.YtkjknlnhffmkkacGreat
set_option linter.unusedVariables false

def Fits (n:Int):List Int → List Upd → Prop
  | _,[] => True
  | c,u :: l => StepOk c u n ∧ Fits n (tickC c u.author) l
theorem fits_iff {n:Int}:∀ {l:List Upd} {c:List Int} {i:Nat},wrongC c n = 0 → ((logC n c l i).2.1 = 0 ↔ Fits n c l)
  | [],c,i,hc => by simp [logC,Fits]
  | u :: l,c,i,hc => by
    rw [logC.eq_2]
    unfold Fits
    by_cases he:stepE c u n = 0
    · have h:=stepE_ok hc he
      rw [if_neg (by omega),fits_iff (l:=l) (tick_ok hc h)]
      exact ⟨fun k => ⟨h,k⟩,fun k => k.2⟩
    · rw [if_pos he]
      exact ⟨fun k => absurd k he,fun k => absurd (stepE_of k.1) he⟩
theorem fits_later {n:Int} {l:List Upd} {c:List Int} (hc:wrongC c n = 0) (h:Fits n c l) {u:Upd} (hu:u ∈ l):RightU u n ∧ atI c u.author.toNat ≤ atI u.seen u.author.toNat :=
  (logC_ok l c 0 hc ((fits_iff (i:=0) hc).2 h)).2.2 u hu
end Go.Proofs.YtkjknlnhffmkkacGreat

namespace Go.Proofs.YtkjknlnhffmkkacGreat
set_option linter.unusedVariables false

/-! ## sorting -/
def sortL (l:List Live):List Live:=l.foldl (insO ordL) []
def sortT (l:List Tally):List Tally:=l.foldl (insO ordT) []
theorem sortL_aux:∀ (l o:List Live),SortedL o → l.Nodup → (∀ x ∈ l,x ∉ o) → SortedL (l.foldl (insO ordL) o) ∧ ∀ x,x ∈ l.foldl (insO ordL) o ↔ x ∈ o ∨ x ∈ l
  | [],o,h,_,_ => ⟨h,by simp⟩
  | y :: l,o,h,hn,hd => by
    rw [List.nodup_cons] at hn
    have h1:SortedL (insO ordL o y):=insO_sorted (f:=ordL) (fun a b => ordL_swap) ordL_trans h fun z hz e => by
      rw [ordL_zero] at e;subst e;exact hd z (by simp) hz
    obtain ⟨a,b⟩:=sortL_aux l (insO ordL o y) h1 hn.2 fun x hx hx' => by
      rcases insO_mem.1 hx' with k | k
      · exact hd x (by simp [hx]) k
      · subst k;exact hn.1 hx
    refine ⟨a,fun x => ?_⟩
    rw [List.foldl_cons,b,insO_mem,List.mem_cons,or_assoc]
theorem sortL_ok {l:List Live} (h:l.Nodup):SortedL (sortL l) ∧ ∀ x,x ∈ sortL l ↔ x ∈ l:=by
  obtain ⟨a,b⟩:=sortL_aux l [] .nil h (by simp)
  exact ⟨a,fun x => by rw [sortL,b];simp⟩
theorem sortL_eq {l r:List Live} (h:l.Nodup) (p:r.Perm l) (hs:r.Pairwise fun a b => ordL a b ≤ 0):r = sortL l:=by
  obtain ⟨a,b⟩:=sortL_ok h
  refine sortedL_ext ?_ a fun x => by rw [b,p.mem_iff]
  have hn:r.Nodup:=p.symm.nodup h
  exact (List.pairwise_and_iff.2 ⟨hs,hn⟩).imp fun {x y} ⟨h1,h2⟩ => by
    have:ordL x y ≠ 0:=fun e => h2 (ordL_zero.1 e)
    omega
abbrev DistT (l:List Tally):Prop:=l.Pairwise fun a b => ordT a b ≠ 0
theorem sortT_aux:∀ (l o:List Tally),SortedT o → DistT l → (∀ x ∈ l,∀ y ∈ o,ordT y x ≠ 0) → SortedT (l.foldl (insO ordT) o) ∧ ∀ x,x ∈ l.foldl (insO ordT) o ↔ x ∈ o ∨ x ∈ l
  | [],o,h,_,_ => ⟨h,by simp⟩
  | y :: l,o,h,hn,hd => by
    unfold DistT at hn
    rw [List.pairwise_cons] at hn
    have h1:SortedT (insO ordT o y):=insO_sorted (f:=ordT) (fun a b => ordT_swap) ordT_trans h fun z hz => hd y (by simp) z hz
    obtain ⟨a,b⟩:=sortT_aux l (insO ordT o y) h1 hn.2 fun x hx z hz => by
      rcases insO_mem.1 hz with k | k
      · exact hd x (by simp [hx]) z k
      · subst k;exact hn.1 x hx
    refine ⟨a,fun x => ?_⟩
    rw [List.foldl_cons,b,insO_mem,List.mem_cons,or_assoc]
theorem sortT_ok {l:List Tally} (h:DistT l):SortedT (sortT l) ∧ ∀ x,x ∈ sortT l ↔ x ∈ l:=by
  obtain ⟨a,b⟩:=sortT_aux l [] .nil h (by simp)
  exact ⟨a,fun x => by rw [sortT,b];simp⟩
theorem ordT_ne_swap {a b:Tally} (h:ordT a b ≠ 0):ordT b a ≠ 0:=by rw [ordT_swap];omega
theorem sortT_eq {l r:List Tally} (h:DistT l) (p:r.Perm l) (hs:r.Pairwise fun a b => ordT a b ≤ 0):r = sortT l:=by
  obtain ⟨a,b⟩:=sortT_ok h
  refine sortedT_ext ?_ a fun x => by rw [b,p.mem_iff]
  have hn:DistT r:=(p.symm.pairwise_iff (fun {x y} => ordT_ne_swap)).1 h
  exact (List.pairwise_and_iff.2 ⟨hs,hn⟩).imp fun {x y} ⟨h1,h2⟩ => by omega
/-! ## joined -/
def staysL (o:State) (x:Live):Bool:=o.lives.contains x || !hasC o.clock x.author x.seq
def joinL (a b:State):List Live:=b.lives.foldl (fun out x => if (staysL a x && !out.contains x) = true then out ++ [x] else out) (a.lives.filter (staysL b))
def joinT (a b:State):List Tally:=(a.tallies.filter fun t => decide (atI b.clock t.author.toNat ≤ atI a.clock t.author.toNat)) ++ b.tallies.filter fun t => decide (atI a.clock t.author.toNat < atI b.clock t.author.toNat)
def joinS (a b:State):State:=⟨joinC a.clock b.clock,sortL (joinL a b),sortT (joinT a b)⟩
def JoinS (a b:State):State × Int :=
  if (wrongS a (lenI a.clock)).1 ≠ 0 then (zeroS,(wrongS a (lenI a.clock)).1)
  else if (wrongS b (lenI a.clock)).1 ≠ 0 then (zeroS,(wrongS b (lenI a.clock)).1)
  else (joinS a b,0)
theorem joinL_aux {a:State}:∀ (l o:List Live),o.Nodup → (l.foldl (fun out x => if (staysL a x && !out.contains x) = true then out ++ [x] else out) o).Nodup ∧ ∀ x,x ∈ l.foldl (fun out x => if (staysL a x && !out.contains x) = true then out ++ [x] else out) o ↔ x ∈ o ∨ (x ∈ l ∧ staysL a x = true)
  | [],o,h => ⟨h,by simp⟩
  | y :: l,o,h => by
    rw [List.foldl_cons]
    by_cases hy:(staysL a y && !o.contains y) = true
    · rw [if_pos hy]
      rw [Bool.and_eq_true,Bool.not_eq_true',List.contains_eq_mem,decide_eq_false_iff_not] at hy
      obtain ⟨p,q⟩:=joinL_aux l (o ++ [y]) (by
        rw [List.nodup_append]
        refine ⟨h,by simp,fun z hz w hw e => ?_⟩
        rw [List.mem_singleton] at hw;subst hw e;exact hy.2 hz)
      refine ⟨p,fun x => ?_⟩
      rw [q,List.mem_append,List.mem_singleton,List.mem_cons]
      constructor
      · rintro ((k | k) | k)
        · exact .inl k
        · subst k;exact .inr ⟨.inl rfl,hy.1⟩
        · exact .inr ⟨.inr k.1,k.2⟩
      · rintro (k | ⟨k | k,k2⟩)
        · exact .inl (.inl k)
        · exact .inl (.inr k)
        · exact .inr ⟨k,k2⟩
    · rw [if_neg hy]
      rw [Bool.and_eq_true,Bool.not_eq_true',List.contains_eq_mem,decide_eq_false_iff_not] at hy
      obtain ⟨p,q⟩:=joinL_aux l o h
      refine ⟨p,fun x => ?_⟩
      rw [q,List.mem_cons]
      constructor
      · rintro (k | k)
        · exact .inl k
        · exact .inr ⟨.inr k.1,k.2⟩
      · rintro (k | ⟨k | k,k2⟩)
        · exact .inl k
        · subst k;left;exact Classical.byContradiction fun hn => hy ⟨k2,hn⟩
        · exact .inr ⟨k,k2⟩
theorem sortedL_nodup {l:List Live} (h:SortedL l):l.Nodup:=h.imp fun {a b} h e => by subst e;rw [ordL_zero.2 rfl] at h;omega
theorem joinL_ok {a b:State} {n:Int} (ha:RightS a n) (hb:RightS b n):(joinL a b).Nodup ∧ ∀ x,x ∈ joinL a b ↔ (x ∈ a.lives ∧ staysL b x = true) ∨ (x ∈ b.lives ∧ staysL a x = true):=by
  obtain ⟨p,q⟩:=joinL_aux (a:=a) b.lives (a.lives.filter (staysL b)) ((sortedL_nodup ha.ls).filter _)
  exact ⟨p,fun x => by rw [joinL,q,List.mem_filter]⟩
theorem joinT_dist {a b:State} {n:Int} (ha:RightS a n) (hb:RightS b n):DistT (joinT a b):=by
  unfold joinT DistT
  rw [List.pairwise_append]
  have key:∀ {l:List Tally},SortedT l → l.Pairwise fun a b => ordT a b ≠ 0:=fun h => h.imp fun h => by omega
  refine ⟨key (List.Pairwise.filter _ ha.ts),key (List.Pairwise.filter _ hb.ts),fun x hx y hy e => ?_⟩
  rw [List.mem_filter,decide_eq_true_eq] at hx hy
  have:=(ordT_zero.1 e).2
  rw [this] at hx
  omega
theorem foldl_ins_perm {α:Type} {f:α → α → Int}:∀ (l o:List α),(l.foldl (insO f) o).Perm (o ++ l)
  | [],o => by simp
  | y :: l,o => by
    rw [List.foldl_cons]
    refine (foldl_ins_perm l _).trans ?_
    have p1:(insO f o y).Perm (o ++ [y]):=by
      unfold insO
      rw [List.append_assoc]
      have:(List.take (idxO (fun z => f z y) o) o ++ ([y] ++ List.drop (idxO (fun z => f z y) o) o)).Perm (List.take (idxO (fun z => f z y) o) o ++ (List.drop (idxO (fun z => f z y) o) o ++ [y])):=List.Perm.append_left _ List.perm_append_comm
      have e2:List.take (idxO (fun z => f z y) o) o ++ (List.drop (idxO (fun z => f z y) o) o ++ [y]) = o ++ [y]:=by rw [← List.append_assoc,List.take_append_drop]
      rw [e2] at this
      exact this
    have:=p1.append_right l
    simpa using this
theorem joinS_mem {a b:State} {n:Int} (ha:RightS a n) (hb:RightS b n) {x:Live}:x ∈ (joinS a b).lives ↔ (x ∈ a.lives ∧ staysL b x = true) ∨ (x ∈ b.lives ∧ staysL a x = true):=by
  obtain ⟨p,q⟩:=joinL_ok ha hb
  show x ∈ sortL (joinL a b) ↔ _
  rw [(sortL_ok p).2,q]
theorem wrongC_at {c:List Int} {n:Int} (h1:1 ≤ n) (h2:n ≤ 6) (h3:(c.length:Int) = n) (h4:∀ k,0 ≤ atI c k ∧ atI c k ≤ 1000):wrongC c n = 0 :=
  wrongC_of h1 h2 h3 fun x hx => by
    obtain ⟨j,hj,e⟩:=List.getElem_of_mem hx
    rw [← e,← atI_lt hj];exact h4 j
theorem joinC_ok {a b:List Int} {n:Int} (ha:wrongC a n = 0) (hb:wrongC b n = 0):wrongC (joinC a b) n = 0:=by
  have h1:=wrongC_ok ha;have h2:=wrongC_ok hb
  refine wrongC_at h1.1 h1.2.1 (by rw [joinC_len];omega) fun k => ?_
  have:=atI_bd ha k;have:=atI_bd hb k
  rw [joinC_at];omega
theorem meetC_ok {a b:List Int} {n:Int} (ha:wrongC a n = 0) (hb:wrongC b n = 0):wrongC (meetC a b) n = 0:=by
  have h1:=wrongC_ok ha;have h2:=wrongC_ok hb
  refine wrongC_at h1.1 h1.2.1 (by rw [meetC_len];omega) fun k => ?_
  have:=atI_bd ha k;have:=atI_bd hb k
  rw [meetC_at];omega
theorem joinS_right {a b:State} {n:Int} (ha:RightS a n) (hb:RightS b n):RightS (joinS a b) n:=by
  obtain ⟨p,q⟩:=joinL_ok ha hb
  have d:=joinT_dist ha hb
  refine ⟨joinC_ok ha.c hb.c,fun x hx => ?_,(sortL_ok p).1,fun x hx => ?_,(sortT_ok d).1⟩
  · rcases (joinS_mem ha hb).1 hx with ⟨h,_⟩ | ⟨h,_⟩
    · obtain ⟨a1,a2,a3,a4,a5,a6,a7,a8⟩:=ha.l x h
      exact ⟨a1,a2,a3,by show _ ≤ atI (joinC _ _) _;rw [joinC_at];omega,a5,a6,a7,a8⟩
    · obtain ⟨a1,a2,a3,a4,a5,a6,a7,a8⟩:=hb.l x h
      exact ⟨a1,a2,a3,by show _ ≤ atI (joinC _ _) _;rw [joinC_at];omega,a5,a6,a7,a8⟩
  · have hx:x ∈ sortT (joinT a b):=hx
    rw [(sortT_ok d).2] at hx
    unfold joinT at hx
    rw [List.mem_append,List.mem_filter,List.mem_filter,decide_eq_true_eq,decide_eq_true_eq] at hx
    rcases hx with ⟨h,k⟩ | ⟨h,k⟩
    · obtain ⟨a1,a2,a3,a4,a5,a6,a7⟩:=ha.t x h
      exact ⟨a1,a2,a3,a4,by show _ ≤ _;show -(1000 * atI (joinC _ _) _) ≤ _;rw [joinC_at];omega,by show _ ≤ 1000 * atI (joinC _ _) _;rw [joinC_at];omega,a7⟩
    · obtain ⟨a1,a2,a3,a4,a5,a6,a7⟩:=hb.t x h
      exact ⟨a1,a2,a3,a4,by show -(1000 * atI (joinC _ _) _) ≤ _;rw [joinC_at];omega,by show _ ≤ 1000 * atI (joinC _ _) _;rw [joinC_at];omega,a7⟩
/-! ## the state of those updates that a clock has -/
def startS (n:Nat):State:=⟨List.replicate n 0,[],[]⟩
def mineU (A:List Int) (l:List Upd):List Upd:=l.filter (hasU A)
def ofS (n:Nat) (l:List Upd) (A:List Int):State:=playS (startS n) (mineU A l)
def Closed (A:List Int) (l:List Upd):Prop:=∀ u ∈ l,hasU A u = true → seesC A u.seen = true
theorem hasU_right {A:List Int} {u:Upd} {n:Int} (hA:wrongC A n = 0) (h:RightU u n):hasU A u = true ↔ atI u.seen u.author.toNat < atI A u.author.toNat:=by
  have:=wrongC_ok hA;have:=h.len;have:=h.a0;have:=h.a1
  unfold hasU
  simp only [Bool.and_eq_true,decide_eq_true_eq]
  omega
/-- a log from the beginning, and a clock that is closed over it -/
structure Part (n:Nat) (l:List Upd) (A:List Int):Prop where
  n1:1 ≤ n
  n6:n ≤ 6
  f:Fits n (List.replicate n 0) l
  a:wrongC A n = 0
  c:Closed A l
end Go.Proofs.YtkjknlnhffmkkacGreat

namespace Go.Proofs.YtkjknlnhffmkkacGreat
set_option linter.unusedVariables false

theorem JoinS_of {a b:State} {n:Int} (ha:RightS a n) (hb:RightS b n):JoinS a b = (joinS a b,0):=by
  have e:lenI a.clock = n:=(wrongC_ok ha.c).2.2.1
  unfold JoinS
  rw [e,if_neg (fun k => k (wrongS_iff.2 ha)),if_neg (fun k => k (wrongS_iff.2 hb))]
end Go.Proofs.YtkjknlnhffmkkacGreat

namespace Go.Proofs.YtkjknlnhffmkkacGreat
set_option linter.unusedVariables false

def aheadL (a b:Live):Bool:=decide (ordL a b < 0)
def putStep (x:Live) (p:List Live × Bool) (y:Live):List Live × Bool:=if p.2 = false ∧ aheadL x y = true then (p.1 ++ [x] ++ [y],true) else (p.1 ++ [y],p.2)
def putEnd (x:Live) (p:List Live × Bool):List Live:=if p.2 = false then p.1 ++ [x] else p.1
def putL (l:List Live) (x:Live):List Live:=putEnd x (l.foldl (putStep x) ([],false))
theorem put_true (x:Live):∀ (l o:List Live),l.foldl (putStep x) (o,true) = (o ++ l,true)
  | [],o => by simp
  | y :: l,o => by
    rw [List.foldl_cons]
    have:putStep x (o,true) y = (o ++ [y],true):=by unfold putStep;rw [if_neg (by simp)]
    rw [this,put_true x l];simp
theorem put_false {x:Live}:∀ {l:List Live} {o:List Live},x ∉ l → putEnd x (l.foldl (putStep x) (o,false)) = o ++ insO ordL l x
  | [],o,_ => by simp [putEnd,insO,idxO]
  | y :: l,o,h => by
    rw [List.foldl_cons]
    have hne:¬ x = y:=fun e => h (by simp [e])
    by_cases ha:aheadL x y = true
    · have e1:putStep x (o,false) y = (o ++ [x] ++ [y],true):=by unfold putStep;rw [if_pos ⟨rfl,ha⟩]
      rw [e1,put_true]
      have h1:=of_decide_eq_true ha
      have h2:=ordL_swap (a:=x) (b:=y)
      have e2:idxO (fun z => ordL z x) (y :: l) = 0:=by unfold idxO;rw [List.findIdx_cons,decide_eq_true (show 0 ≤ ordL y x by omega)];rfl
      unfold putEnd insO
      rw [e2,if_neg (by simp)];simp
    · have e1:putStep x (o,false) y = (o ++ [y],false):=by unfold putStep;rw [if_neg (fun k => ha k.2)]
      rw [e1,put_false (fun k => h (List.mem_cons_of_mem _ k))]
      have h1:¬ ordL x y < 0:=fun k => ha (decide_eq_true k)
      have h2:=ordL_swap (a:=x) (b:=y)
      have h3:ordL x y ≠ 0:=fun k => hne (ordL_zero.1 k)
      have e2:idxO (fun z => ordL z x) (y :: l) = idxO (fun z => ordL z x) l + 1:=by unfold idxO;rw [List.findIdx_cons,decide_eq_false (show ¬ 0 ≤ ordL y x by omega)];rfl
      unfold insO
      rw [e2];simp
theorem put_ins {l:List Live} {x:Live} (h:x ∉ l):putL l x = insO ordL l x:=by unfold putL;rw [put_false h];simp
theorem ins_sorted {l:List Live} {x:Live} (h:SortedL l) (hn:x ∉ l):SortedL (insO ordL l x) :=
  insO_sorted (f:=ordL) (fun a b => ordL_swap) ordL_trans h fun y hy e => hn (by rw [← ordL_zero.1 e];exact hy)

/-! ## playing -/
def staysR (x:Live) (l:List Upd):Bool:=l.all fun v => !ends v x
theorem staysR_iff {x:Live} {l:List Upd}:staysR x l = true ↔ ∀ v ∈ l,ends v x = false:=by simp [staysR]
def oldStep (l:List Upd) (o:List Live) (x:Live):List Live:=if staysR x l = true then putL o x else o
def newStep (l:List Upd) (o:List Live) (i:Nat) (u:Upd):List Live:=if makes u = true ∧ staysR (liveOf u) (l.drop (i + 1)) = true then putL o (liveOf u) else o
def newsR:List Live → List Upd → List Live
  | o,[] => o
  | o,u :: r => newsR (if makes u = true ∧ staysR (liveOf u) r = true then putL o (liveOf u) else o) r
def livesR (s:State) (l:List Upd):List Live:=newsR (s.lives.foldl (oldStep l) []) l
theorem news_drop {l:List Upd} {o:List Live} {k:Nat} {u:Upd} (h:l[k]? = some u):newsR o (l.drop k) = newsR (newStep l o k u) (l.drop (k + 1)):=by
  obtain ⟨hk,e⟩:=List.getElem?_eq_some_iff.1 h
  rw [List.drop_eq_getElem_cons hk,e];rfl
theorem olds_ok {l:List Upd}:∀ {ls o:List Live},SortedL o → ls.Nodup → (∀ x ∈ ls,x ∉ o) → SortedL (ls.foldl (oldStep l) o) ∧ ∀ x,x ∈ ls.foldl (oldStep l) o ↔ x ∈ o ∨ (x ∈ ls ∧ staysR x l = true)
  | [],o,h,_,_ => ⟨h,by simp⟩
  | y :: ls,o,h,hn,hd => by
    rw [List.foldl_cons]
    obtain ⟨n1,n2⟩:=List.nodup_cons.1 hn
    by_cases hs:staysR y l = true
    · have e:oldStep l o y = insO ordL o y:=by unfold oldStep;rw [if_pos hs,put_ins (hd y (by simp))]
      rw [e]
      obtain ⟨a,b⟩:=olds_ok (l:=l) (ins_sorted h (hd y (by simp))) n2 (fun x hx k => by
        rcases insO_mem.1 k with k | k
        · exact hd x (by simp [hx]) k
        · exact n1 (k ▸ hx))
      refine ⟨a,fun x => ?_⟩
      rw [b,insO_mem]
      constructor
      · rintro ((k | rfl) | k)
        · exact .inl k
        · exact .inr ⟨by simp,hs⟩
        · exact .inr ⟨by simp [k.1],k.2⟩
      · rintro (k | ⟨k,k2⟩)
        · exact .inl (.inl k)
        · rcases List.mem_cons.1 k with k | k
          · exact .inl (.inr k)
          · exact .inr ⟨k,k2⟩
    · have e:oldStep l o y = o:=by unfold oldStep;rw [if_neg hs]
      rw [e]
      obtain ⟨a,b⟩:=olds_ok (l:=l) h n2 (fun x hx => hd x (by simp [hx]))
      refine ⟨a,fun x => ?_⟩
      rw [b]
      constructor
      · rintro (k | k)
        · exact .inl k
        · exact .inr ⟨by simp [k.1],k.2⟩
      · rintro (k | ⟨k,k2⟩)
        · exact .inl k
        · rcases List.mem_cons.1 k with rfl | k
          · exact absurd k2 hs
          · exact .inr ⟨k,k2⟩
theorem ends_self {u:Upd}:ends u (liveOf u) = false:=ends_not (by show atI u.seen u.author.toNat < atI u.seen u.author.toNat + 1;omega)
theorem news_ok {n:Int}:∀ {r:List Upd} {c:List Int} {o:List Live},wrongC c n = 0 → Fits n c r → SortedL o → (∀ x ∈ o,x.seq ≤ atI c x.author.toNat) →
    SortedL (newsR o r) ∧ ∀ x,x ∈ newsR o r ↔ x ∈ o ∨ ((∃ u ∈ r,makes u = true ∧ x = liveOf u) ∧ ∀ v ∈ r,ends v x = false)
  | [],c,o,_,_,h,_ => ⟨h,by simp [newsR]⟩
  | u :: r,c,o,hc,hf,h,hq => by
    obtain ⟨h1,h2⟩:=hf
    have hct:=tick_ok hc h1
    have hta:=tick_at hc h1
    have early:∀ v ∈ r,ends u (liveOf v) = false:=fun v hv => by
      obtain ⟨a,b⟩:=fits_later hct h2 hv
      refine ends_not ?_
      show atI u.seen v.author.toNat < atI v.seen v.author.toNat + 1
      have:=seesC_iff.1 h1.sees v.author.toNat
      rw [hta] at b
      have:=h1.eq
      split at b
      · rename_i e;rw [e] at *;omega
      · omega
    have hsq:(liveOf u).seq = atI c u.author.toNat + 1:=by show atI u.seen u.author.toNat + 1 = _;rw [h1.eq]
    have hq2:∀ x ∈ o,x.seq ≤ atI (tickC c u.author) x.author.toNat:=fun x hx => by
      rw [hta]
      have:=hq x hx
      split
      · rename_i e;rw [e] at this;omega
      · exact this
    by_cases hm:makes u = true ∧ staysR (liveOf u) r = true
    · have hno:liveOf u ∉ o:=fun k => by have:=hq _ k;rw [hsq] at this;change atI c u.author.toNat + 1 ≤ atI c u.author.toNat at this;omega
      have e:newsR o (u :: r) = newsR (insO ordL o (liveOf u)) r:=by show newsR (if _ then _ else _) r = _;rw [if_pos hm,put_ins hno]
      obtain ⟨a,b⟩:=news_ok (r:=r) hct h2 (ins_sorted h hno) (fun x hx => by
        rcases insO_mem.1 hx with k | k
        · exact hq2 x k
        · subst k
          rw [hsq,hta]
          show _ ≤ if u.author.toNat = u.author.toNat then _ else _
          rw [if_pos rfl];omega)
      rw [e]
      refine ⟨a,fun x => ?_⟩
      rw [b,insO_mem]
      constructor
      · rintro ((k | rfl) | ⟨⟨v,k1,k2,k3⟩,k4⟩)
        · exact .inl k
        · refine .inr ⟨⟨u,by simp,hm.1,rfl⟩,fun v hv => ?_⟩
          rcases List.mem_cons.1 hv with rfl | hv
          · exact ends_self
          · exact staysR_iff.1 hm.2 v hv
        · refine .inr ⟨⟨v,by simp [k1],k2,k3⟩,fun z hz => ?_⟩
          rcases List.mem_cons.1 hz with rfl | hz
          · rw [k3];exact early v k1
          · exact k4 z hz
      · rintro (k | ⟨⟨v,k1,k2,k3⟩,k4⟩)
        · exact .inl (.inl k)
        · rcases List.mem_cons.1 k1 with rfl | k1
          · exact .inl (.inr k3)
          · exact .inr ⟨⟨v,k1,k2,k3⟩,fun z hz => k4 z (by simp [hz])⟩
    · have e:newsR o (u :: r) = newsR o r:=by show newsR (if _ then _ else _) r = _;rw [if_neg hm]
      obtain ⟨a,b⟩:=news_ok (r:=r) hct h2 h hq2
      rw [e]
      refine ⟨a,fun x => ?_⟩
      rw [b]
      constructor
      · rintro (k | ⟨⟨v,k1,k2,k3⟩,k4⟩)
        · exact .inl k
        · refine .inr ⟨⟨v,by simp [k1],k2,k3⟩,fun z hz => ?_⟩
          rcases List.mem_cons.1 hz with rfl | hz
          · rw [k3];exact early v k1
          · exact k4 z hz
      · rintro (k | ⟨⟨v,k1,k2,k3⟩,k4⟩)
        · exact .inl k
        · rcases List.mem_cons.1 k1 with rfl | k1
          · exact absurd ⟨k2,staysR_iff.2 fun z hz => by rw [← k3];exact k4 z (by simp [hz])⟩ hm
          · exact .inr ⟨⟨v,k1,k2,k3⟩,fun z hz => k4 z (by simp [hz])⟩
def sumR (s:State) (l:List Upd) (key a:Int):Int:=sumT key a s.tallies + sumU key a l
def tallyR (s:State) (l:List Upd) (key a:Nat):List Tally:=if sumR s l key a ≠ 0 then [⟨key,a,sumR s l key a⟩] else []
def talliesR (s:State) (l:List Upd) (n:Nat):List Tally:=(List.range 16).flatMap fun key => (List.range n).flatMap fun a => tallyR s l key a
theorem ordT_lt {a b:Tally}:ordT a b < 0 ↔ a.key < b.key ∨ (a.key = b.key ∧ a.author < b.author):=by
  rw [ordT_code];unfold codeT
  rw [lexI_cons,lexI_cons]
  simp [lexI]
theorem grid_sorted {n:Nat} {f:Nat → Nat → List Tally} (h1:∀ k a,∀ t ∈ f k a,t.key = k ∧ t.author = a) (h2:∀ k a,SortedT (f k a)):SortedT ((List.range 16).flatMap fun key => (List.range n).flatMap fun a => f key a):=by
  refine List.pairwise_flatMap.2 ⟨fun k _ => List.pairwise_flatMap.2 ⟨fun a _ => h2 k a,?_⟩,?_⟩
  · refine List.pairwise_lt_range.imp fun {a b} hab x hx y hy => ordT_lt.2 ?_
    have:=h1 _ _ x hx;have:=h1 _ _ y hy;omega
  · refine List.pairwise_lt_range.imp fun {a b} hab x hx y hy => ordT_lt.2 ?_
    obtain ⟨i,_,hx⟩:=List.mem_flatMap.1 hx
    obtain ⟨j,_,hy⟩:=List.mem_flatMap.1 hy
    have:=h1 _ _ x hx;have:=h1 _ _ y hy;omega
theorem grid_mem {n:Nat} {f:Nat → Nat → List Tally} {t:Tally}:t ∈ ((List.range 16).flatMap fun key => (List.range n).flatMap fun a => f key a) ↔ ∃ k a,k < 16 ∧ a < n ∧ t ∈ f k a:=by
  simp only [List.mem_flatMap,List.mem_range]
  constructor
  · rintro ⟨k,hk,a,ha,h⟩;exact ⟨k,a,hk,ha,h⟩
  · rintro ⟨k,a,hk,ha,h⟩;exact ⟨k,hk,a,ha,h⟩
theorem talliesR_ok {s t:State} {l:List Upd} {n:Int} (hP:Played s t l n):talliesR s l n.toNat = t.tallies:=by
  have h2:∀ k a,SortedT (tallyR s l k a):=fun k a => by unfold tallyR;split <;> simp [SortedT]
  refine sortedT_ext (grid_sorted (fun k a t ht => by unfold tallyR at ht;split at ht <;> simp at ht;subst ht;exact ⟨rfl,rfl⟩) h2) hP.r.ts fun x => ?_
  unfold talliesR
  rw [grid_mem]
  constructor
  · rintro ⟨k,a,hk,ha,h⟩
    unfold tallyR at h
    split at h
    · rename_i h0
      rw [List.mem_singleton] at h
      have e:sumR s l k a = sumT k a t.tallies:=(hP.s k a).symm
      rw [e] at h h0
      subst h
      exact sumT_find hP.r.ts h0
    · cases h
  · intro h
    have ok:=hP.r.t x h
    have e:=sumT_mem hP.r.ts h
    have e2:=hP.s x.key x.author
    rw [e] at e2
    have:=ok.a0;have:=ok.a1;have:=ok.k0;have:=ok.k1
    refine ⟨x.key.toNat,x.author.toNat,by omega,by omega,?_⟩
    unfold tallyR
    have e3:sumR s l ((x.key.toNat:Nat):Int) ((x.author.toNat:Nat):Int) = x.sum:=by unfold sumR;rw [Int.toNat_of_nonneg (by omega),Int.toNat_of_nonneg (by omega)];exact e2.symm
    rw [e3,if_pos ok.ne,List.mem_singleton]
    obtain ⟨k,a,v⟩:=x
    dsimp only at *
    rw [Int.toNat_of_nonneg (by omega),Int.toNat_of_nonneg (by omega)]
theorem livesR_ok {s:State} {l:List Upd} {n:Int} (hs:RightS s n) (hf:Fits n s.clock l) {t:State} (hP:Played s t l n):livesR s l = t.lives:=by
  obtain ⟨a,b⟩:=olds_ok (l:=l) (ls:=s.lives) (o:=[]) .nil (sortedL_nodup hs.ls) (by simp)
  obtain ⟨c,d⟩:=news_ok (o:=s.lives.foldl (oldStep l) []) hs.c hf a (fun x hx => by
    rcases (b x).1 hx with k | k
    · cases k
    · exact (hs.l x k.1).q1)
  refine sortedL_ext c hP.r.ls fun x => ?_
  unfold livesR
  rw [d,hP.m,b]
  constructor
  · rintro ((k | ⟨k1,k2⟩) | ⟨k1,k2⟩)
    · cases k
    · exact ⟨.inl k1,staysR_iff.1 k2⟩
    · exact ⟨.inr k1,k2⟩
  · rintro ⟨k | k,k2⟩
    · exact .inl (.inr ⟨k,staysR_iff.2 k2⟩)
    · exact .inr ⟨k,k2⟩
theorem playR_ok {s:State} {l:List Upd} (h:(wrongS s (lenI s.clock)).1 = 0) (k:(clockL s.clock l (lenI s.clock)).2.1 = 0):PlayS s l = (⟨(clockL s.clock l (lenI s.clock)).1,livesR s l,talliesR s l s.clock.length⟩,0,0):=by
  have hs:=wrongS_iff.1 h
  obtain ⟨c1,c2,c3⟩:=clockL_ok k
  rw [c3] at k ⊢
  obtain ⟨p1,p2⟩:=play_ok l s 0 hs k
  rw [PlayS_of hs k c2,livesR_ok hs ((fits_iff c1).1 k) p1,← p2]
  have:=talliesR_ok p1
  rw [show (lenI s.clock).toNat = s.clock.length from by unfold lenI;omega] at this
  rw [this]

/-! ## reading -/
def keepsR (o:State) (x:Live):Bool:=o.lives.contains x || decide (atI o.clock x.author.toNat < x.seq)
def bothStep (o:State) (out:List Live) (x:Live):List Live:=if out.contains x = true then out else if keepsR o x = true then putL out x else out
def bothR (a b:State):List Live:=b.lives.foldl (bothStep a) (a.lives.foldl (bothStep b) [])
theorem keepsR_stays {o:State} {x:Live} (h0:0 ≤ x.author) (h1:x.author < o.clock.length):keepsR o x = staysL o x:=by
  unfold keepsR staysL hasC
  rw [decide_eq_true h0,decide_eq_true h1]
  simp only [Bool.true_and]
  congr 1
  rw [Bool.eq_iff_iff];simp
theorem both_ok {o:State}:∀ {ls out:List Live},SortedL out → SortedL (ls.foldl (bothStep o) out) ∧ ∀ x,x ∈ ls.foldl (bothStep o) out ↔ x ∈ out ∨ (x ∈ ls ∧ keepsR o x = true)
  | [],out,h => ⟨h,by simp⟩
  | y :: ls,out,h => by
    rw [List.foldl_cons]
    by_cases hc:out.contains y = true
    · have e:bothStep o out y = out:=by unfold bothStep;rw [if_pos hc]
      rw [e]
      obtain ⟨a,b⟩:=both_ok (o:=o) (ls:=ls) h
      refine ⟨a,fun x => ?_⟩
      rw [b]
      constructor
      · rintro (k | k)
        · exact .inl k
        · exact .inr ⟨by simp [k.1],k.2⟩
      · rintro (k | ⟨k,k2⟩)
        · exact .inl k
        · rcases List.mem_cons.1 k with rfl | k
          · exact .inl (List.contains_iff_mem.1 hc)
          · exact .inr ⟨k,k2⟩
    · by_cases hk:keepsR o y = true
      · have hno:y ∉ out:=fun k => hc (List.contains_iff_mem.2 k)
        have e:bothStep o out y = insO ordL out y:=by unfold bothStep;rw [if_neg hc,if_pos hk,put_ins hno]
        rw [e]
        obtain ⟨a,b⟩:=both_ok (o:=o) (ls:=ls) (ins_sorted h hno)
        refine ⟨a,fun x => ?_⟩
        rw [b,insO_mem]
        constructor
        · rintro ((k | rfl) | k)
          · exact .inl k
          · exact .inr ⟨by simp,hk⟩
          · exact .inr ⟨by simp [k.1],k.2⟩
        · rintro (k | ⟨k,k2⟩)
          · exact .inl (.inl k)
          · rcases List.mem_cons.1 k with rfl | k
            · exact .inl (.inr rfl)
            · exact .inr ⟨k,k2⟩
      · have e:bothStep o out y = out:=by unfold bothStep;rw [if_neg hc,if_neg hk]
        rw [e]
        obtain ⟨a,b⟩:=both_ok (o:=o) (ls:=ls) h
        refine ⟨a,fun x => ?_⟩
        rw [b]
        constructor
        · rintro (k | k)
          · exact .inl k
          · exact .inr ⟨by simp [k.1],k.2⟩
        · rintro (k | ⟨k,k2⟩)
          · exact .inl k
          · rcases List.mem_cons.1 k with rfl | k
            · exact absurd k2 hk
            · exact .inr ⟨k,k2⟩
def fromR (a b:State) (i:Nat):State:=if atI a.clock i < atI b.clock i then b else a
def joinTR (a b:State) (n:Nat):List Tally:=(List.range 16).flatMap fun (key:Nat) => (List.range n).flatMap fun (i:Nat) => (fromR a b i).tallies.filter (hitT (key:Nat) (i:Nat))
theorem joinR_ok {a b:State} {n:Int} (ha:RightS a n) (hb:RightS b n):JoinS a b = (⟨joinC a.clock b.clock,bothR a b,joinTR a b a.clock.length⟩,0):=by
  rw [JoinS_of ha hb]
  have hr:=joinS_right ha hb
  have hl:=wrongC_ok ha.c;have hl2:=wrongC_ok hb.c
  have e1:(joinS a b).lives = bothR a b:=by
    obtain ⟨s1,m1⟩:=both_ok (o:=b) (ls:=a.lives) (out:=[]) .nil
    obtain ⟨s2,m2⟩:=both_ok (o:=a) (ls:=b.lives) s1
    refine sortedL_ext hr.ls s2 fun x => ?_
    unfold bothR
    rw [joinS_mem ha hb,m2,m1]
    constructor
    · rintro (⟨k1,k2⟩ | ⟨k1,k2⟩)
      · exact .inl (.inr ⟨k1,by rw [keepsR_stays (ha.l x k1).a0 (by have:=(ha.l x k1).a1;omega)];exact k2⟩)
      · exact .inr ⟨k1,by rw [keepsR_stays (hb.l x k1).a0 (by have:=(hb.l x k1).a1;omega)];exact k2⟩
    · rintro ((k | ⟨k1,k2⟩) | ⟨k1,k2⟩)
      · cases k
      · exact .inl ⟨k1,by rw [← keepsR_stays (ha.l x k1).a0 (by have:=(ha.l x k1).a1;omega)];exact k2⟩
      · exact .inr ⟨k1,by rw [← keepsR_stays (hb.l x k1).a0 (by have:=(hb.l x k1).a1;omega)];exact k2⟩
  have e2 :(joinS a b).tallies = joinTR a b a.clock.length:=by
    refine sortedT_ext hr.ts (grid_sorted (f:=fun key i => (fromR a b i).tallies.filter (hitT (key:Nat) (i:Nat))) (fun k i t ht => ?_) (fun k i => ?_)) fun x => ?_
    · exact hitT_iff.1 (List.mem_filter.1 ht).2
    · unfold fromR;split
      · exact hb.ts.sublist List.filter_sublist
      · exact ha.ts.sublist List.filter_sublist
    · have hm:x ∈ (joinS a b).tallies ↔ x ∈ joinT a b:=(sortT_ok (joinT_dist ha hb)).2 x
      rw [hm]
      unfold joinTR
      rw [grid_mem]
      unfold joinT
      rw [List.mem_append,List.mem_filter,List.mem_filter]
      constructor
      · rintro (⟨k1,k2⟩ | ⟨k1,k2⟩)
        · have k2:=of_decide_eq_true k2
          have ok:=ha.t x k1;have:=ok.a0;have:=ok.a1;have:=ok.k0;have:=ok.k1
          refine ⟨x.key.toNat,x.author.toNat,by omega,by omega,List.mem_filter.2 ⟨?_,hitT_iff.2 ⟨by omega,by omega⟩⟩⟩
          unfold fromR;rw [if_neg (by omega)];exact k1
        · have k2:=of_decide_eq_true k2
          have ok:=hb.t x k1;have:=ok.a0;have:=ok.a1;have:=ok.k0;have:=ok.k1
          refine ⟨x.key.toNat,x.author.toNat,by omega,by omega,List.mem_filter.2 ⟨?_,hitT_iff.2 ⟨by omega,by omega⟩⟩⟩
          unfold fromR;rw [if_pos (by omega)];exact k1
      · rintro ⟨k,i,hk,hi,h⟩
        obtain ⟨h1,h2⟩:=List.mem_filter.1 h
        obtain ⟨h3,h4⟩:=hitT_iff.1 h2
        have h5:x.author.toNat = i:=by omega
        unfold fromR at h1
        split at h1
        · rename_i h6;exact .inr ⟨h1,decide_eq_true (by rw [h5];exact h6)⟩
        · rename_i h6;exact .inl ⟨h1,decide_eq_true (by rw [h5];omega)⟩
  rw [← e1,← e2]
  rfl
end Go.Proofs.YtkjknlnhffmkkacGreat

namespace Go.Proofs.YtkjknlnhffmkkacGreat
set_option linter.unusedVariables false

structure Node where
  self:Int
  state:State
  base:List Int
  log:List Upd
  known:List (List Int)
deriving DecidableEq
structure Parcel where
  whole:Bool
  state:State
  updates:List Upd
  clock:List Int
deriving DecidableEq
def zeroN:Node:=⟨0,zeroS,[],[],[]⟩
def zeroP:Parcel:=⟨false,zeroS,[],[]⟩
def nOf (d:Node):Int:=lenI d.state.clock
def atK (l:List (List Int)) (i:Nat):List Int:=l.getD i []
theorem atK_some {l:List (List Int)} {i:Nat} {k:List Int} (h:l[i]? = some k):atK l i = k:=by simp [atK,h]

def wrongK (d:Node) (n:Int):Nat → List (List Int) → Int
  | _,[] => 0
  | i,k :: ks => if wrongC k n ≠ 0 then wrongC k n else if ((i:Int) = d.self ∧ k ≠ d.state.clock) ∨ seesC d.state.clock k = false then 7 else wrongK d n (i + 1) ks
/-- what is wrong with a node -/
def wrongN (d:Node):Int :=
  if (wrongS d.state (nOf d)).1 ≠ 0 then (wrongS d.state (nOf d)).1
  else if d.self < 0 ∨ nOf d ≤ d.self then 3
  else if (clockL d.base d.log (nOf d)).2.1 ≠ 0 then (clockL d.base d.log (nOf d)).2.1
  else if (clockL d.base d.log (nOf d)).1 ≠ d.state.clock ∨ lenI d.known ≠ nOf d then 7
  else wrongK d (nOf d) 0 d.known
def upN (d:Node) (u:Upd):Upd:=⟨d.self,d.state.clock,u.kind,u.key,u.item⟩
def IssueN (d:Node) (u:Upd):Node × Int :=
  if wrongN d ≠ 0 then (zeroN,wrongN d)
  else if d.log.length = 300 then (zeroN,5)
  else if (ApplyS d.state (upN d u)).2 ≠ 0 then (zeroN,(ApplyS d.state (upN d u)).2)
  else (⟨d.self,(ApplyS d.state (upN d u)).1,d.base,d.log ++ [upN d u],d.known.set d.self.toNat (ApplyS d.state (upN d u)).1.clock⟩,0)
def SendN (d:Node) (to:Int):Parcel × Int :=
  if wrongN d ≠ 0 then (zeroP,wrongN d)
  else if to < 0 ∨ lenI d.known ≤ to then (zeroP,6)
  else if to = d.self then (zeroP,7)
  else if seesC (atK d.known to.toNat) d.base = false then (⟨true,d.state,[],d.state.clock⟩,0)
  else (⟨false,zeroS,lacksU d.log (atK d.known to.toNat),d.state.clock⟩,0)
/-- an update that isn't there -/
def takeN (d:Node) (u:Upd):Node × Int :=
  if wrongU u (nOf d) = 0 ∧ hasC d.state.clock u.author (seqU u) = true then (d,0)
  else if d.log.length = 300 then (d,5)
  else if (ApplyS d.state u).2 ≠ 0 then (d,(ApplyS d.state u).2)
  else (⟨d.self,(ApplyS d.state u).1,d.base,d.log ++ [u],d.known⟩,0)
def takesN:Node → List Upd → Node × Int
  | d,[] => (d,0)
  | d,u :: l => if (takeN d u).2 ≠ 0 then (zeroN,(takeN d u).2) else takesN (takeN d u).1 l
def wholeN (d:Node) (p:Parcel):Node:=if p.whole = true then ⟨d.self,(JoinS d.state p.state).1,joinC d.base p.state.clock,lacksU d.log (joinC d.base p.state.clock),d.known⟩ else d
def doneN (d:Node) (from_:Int) (p:Parcel):Node:=⟨d.self,d.state,d.base,d.log,(d.known.set from_.toNat (joinC (atK d.known from_.toNat) p.clock)).set d.self.toNat d.state.clock⟩
def TakeN (d:Node) (from_:Int) (p:Parcel):Node × Int :=
  if wrongN d ≠ 0 then (zeroN,wrongN d)
  else if from_ < 0 ∨ lenI d.known ≤ from_ then (zeroN,6)
  else if from_ = d.self then (zeroN,7)
  else if wrongC p.clock (lenI d.known) ≠ 0 then (zeroN,wrongC p.clock (lenI d.known))
  else if p.whole = true ∧ (JoinS d.state p.state).2 ≠ 0 then (zeroN,(JoinS d.state p.state).2)
  else if (takesN (wholeN d p) p.updates).2 ≠ 0 then (zeroN,(takesN (wholeN d p) p.updates).2)
  else if seesC (takesN (wholeN d p) p.updates).1.state.clock p.clock = false then (zeroN,8)
  else (doneN (takesN (wholeN d p) p.updates).1 from_ p,0)
def allN (d:Node):List Int:=d.known.foldl meetC d.state.clock
def PruneN (d:Node):Node × Int :=
  if wrongN d ≠ 0 then (zeroN,wrongN d)
  else (⟨d.self,d.state,joinC d.base (allN d),lacksU d.log (joinC d.base (allN d)),d.known⟩,0)
def startN (self n:Int):Node:=⟨self,startG n,List.replicate n.toNat 0,[],List.replicate n.toNat (List.replicate n.toNat 0)⟩
def StartN (self n:Int):Node × Int :=
  if n < 1 ∨ 6 < n then (zeroN,5) else if self < 0 ∨ n ≤ self then (zeroN,3) else (startN self n,0)

/-! ## a log's end -/
def foldC (c:List Int) (l:List Upd):List Int:=l.foldl (fun c u => tickC c u.author) c
theorem foldC_cons (c:List Int) (u:Upd) (l:List Upd):foldC c (u :: l) = foldC (tickC c u.author) l:=rfl
theorem foldC_app (c:List Int) (l m:List Upd):foldC c (l ++ m) = foldC (foldC c l) m:=List.foldl_append
theorem fits_log {n:Int}:∀ {l:List Upd} {c:List Int} {i:Nat},wrongC c n = 0 → Fits n c l → logC n c l i = (foldC c l,0,0)
  | [],c,i,hc,h => rfl
  | u :: l,c,i,hc,h => by
    rw [logC.eq_2,stepE_of h.1,if_neg (by simp),fits_log (tick_ok hc h.1) h.2];rfl
theorem fits_ok {n:Int} {l:List Upd} {c:List Int} (hc:wrongC c n = 0) (h:Fits n c l):wrongC (foldC c l) n = 0 ∧ seesC (foldC c l) c = true:=by
  have:=logC_ok l c 0 hc (by rw [fits_log hc h])
  rw [fits_log hc h] at this
  exact ⟨this.1,this.2.1⟩
theorem fits_app {n:Int}:∀ {l m:List Upd} {c:List Int},Fits n c (l ++ m) ↔ Fits n c l ∧ Fits n (foldC c l) m
  | [],m,c => by simp [Fits,foldC]
  | u :: l,m,c => by
    show (StepOk c u n ∧ Fits n (tickC c u.author) (l ++ m)) ↔ (StepOk c u n ∧ Fits n (tickC c u.author) l) ∧ _
    rw [fits_app (l:=l),foldC_cons,and_assoc]
theorem hasU_step {c b:List Int} {u:Upd} {n:Int} (hb:wrongC b n = 0) (h:StepOk b u n) (hc:wrongC c n = 0):hasU c u = true ↔ atI b u.author.toNat < atI c u.author.toNat:=by
  rw [hasU_right hc h.r,h.eq]
theorem sees_tick {c b:List Int} {u:Upd} {n:Int} (hb:wrongC b n = 0) (h:StepOk b u n) (hc:wrongC c n = 0) (hs:seesC c b = true) (hh:hasU c u = true):seesC c (tickC b u.author) = true:=seesC_iff.2 fun j => by
  rw [tick_at hb h]
  have h1:=(hasU_step hb h hc).1 hh
  have h2:=seesC_iff.1 hs j
  split
  · rename_i e;subst e;omega
  · exact h2
theorem step_up {c b:List Int} {u:Upd} {n:Int} (hb:wrongC b n = 0) (h:StepOk b u n) (hc:wrongC c n = 0) (hs:seesC c b = true) (hh:hasU c u = false):StepOk c u n:=by
  refine ⟨h.r,?_,seesC_trans hs h.sees⟩
  have h1:¬ atI b u.author.toNat < atI c u.author.toNat:=fun k => by rw [(hasU_step hb h hc).2 k] at hh;cases hh
  have h2:=seesC_iff.1 hs u.author.toNat
  have:=h.eq
  omega
theorem sees_ticks {c b:List Int} {u:Upd} {n:Int} (hb:wrongC b n = 0) (h:StepOk b u n) (hc:wrongC c n = 0) (k:StepOk c u n) (hs:seesC c b = true):seesC (tickC c u.author) (tickC b u.author) = true:=seesC_iff.2 fun j => by
  rw [tick_at hb h,tick_at hc k]
  have h2:=seesC_iff.1 hs j
  have:=h.eq;have:=k.eq
  split <;> omega
theorem join_tick {c b:List Int} {u:Upd} {n:Int} (hb:wrongC b n = 0) (h:StepOk b u n) (hc:wrongC c n = 0) (k:StepOk c u n) {e:List Int} (he:seesC e (tickC b u.author) = true) (hl:e.length = b.length):joinC (tickC c u.author) e = joinC c e:=by
  have hcl:=wrongC_ok hc;have hbl:=wrongC_ok hb
  refine atI_ext (by simp only [joinC_len,tickC_len]) fun j => ?_
  rw [joinC_at,joinC_at,tick_at hc k]
  split
  · rename_i e1;subst e1
    have:=seesC_iff.1 he u.author.toNat
    rw [tick_at hb h,if_pos rfl] at this
    have:=h.eq;have:=k.eq
    omega
  · rfl
/-- what a clock lacks fits behind it, and takes it to what both come to -/
theorem lacks_fits {n:Int}:∀ {l:List Upd} {base c:List Int},wrongC base n = 0 → wrongC c n = 0 → Fits n base l → seesC c base = true → Fits n c (lacksU l c) ∧ foldC c (lacksU l c) = joinC c (foldC base l)
  | [],base,c,hb,hc,_,hs => by
    refine ⟨trivial,?_⟩
    have hl1:=wrongC_ok hb;have hl2:=wrongC_ok hc
    exact atI_ext (by show c.length = (joinC c base).length;rw [joinC_len];omega) fun k => by show atI c k = atI (joinC c base) k;rw [joinC_at];have:=seesC_iff.1 hs k;omega
  | u :: l,base,c,hb,hc,h,hs => by
    obtain ⟨h1,h2⟩:=h
    have hbt:=tick_ok hb h1
    obtain ⟨w1,w2⟩:=fits_ok hbt h2
    cases hh:hasU c u
    · have e:lacksU (u :: l) c = u :: lacksU l c:=by unfold lacksU;rw [List.filter_cons];simp [hh]
      have hk:=step_up hb h1 hc hs hh
      have hct:=tick_ok hc hk
      have e2:lacksU l c = lacksU l (tickC c u.author):=by
        unfold lacksU
        refine List.filter_congr fun v hv => ?_
        obtain ⟨v1,v2⟩:=fits_later hbt h2 hv
        congr 1
        rw [Bool.eq_iff_iff,hasU_right hc v1,hasU_right hct v1,tick_at hc hk]
        split
        · rename_i ev
          rw [tick_at hb h1,if_pos ev] at v2
          have:=hk.eq;have:=h1.eq
          rw [ev] at v2 ⊢
          omega
        · exact Iff.rfl
      rw [e,e2,foldC_cons]
      obtain ⟨a,b⟩:=lacks_fits hbt hct h2 (sees_ticks hb h1 hc hk hs)
      refine ⟨⟨hk,a⟩,?_⟩
      rw [b]
      have k1:=wrongC_ok w1;have k2:=wrongC_ok hb
      exact join_tick hb h1 hc hk w2 (by omega)
    · have e:lacksU (u :: l) c = lacksU l c:=by unfold lacksU;rw [List.filter_cons];simp [hh]
      rw [e]
      exact lacks_fits hbt hc h2 (sees_tick hb h1 hc hs hh)
structure RightN (d:Node) (n:Int):Prop where
  s:RightS d.state n
  a0:0 ≤ d.self
  a1:d.self < n
  b:wrongC d.base n = 0
  f:Fits n d.base d.log
  l:d.log.length ≤ 300
  c:foldC d.base d.log = d.state.clock
  k:(d.known.length:Int) = n
  ks:∀ k ∈ d.known,wrongC k n = 0 ∧ seesC d.state.clock k = true
  own:d.known[d.self.toNat]? = some d.state.clock
theorem wrongK_iff {d:Node} {n:Int}:∀ {l:List (List Int)} {i:Nat},wrongK d n i l = 0 ↔ ∀ (j:Nat) k,l[j]? = some k → wrongC k n = 0 ∧ seesC d.state.clock k = true ∧ (((i + j:Nat):Int) = d.self → k = d.state.clock)
  | [],i => by simp [wrongK]
  | x :: l, i => by
    unfold wrongK
    constructor
    · intro h
      by_cases h1:wrongC x n = 0
      · rw [if_neg (fun e => e h1)] at h
        split at h
        · cases h
        · rename_i h2
          intro j k hj
          cases j with
          | zero =>
            simp at hj;subst hj
            refine ⟨h1,?_,fun e => ?_⟩
            · cases hs:seesC d.state.clock x
              · exact absurd (.inr hs) h2
              · rfl
            · exact Classical.not_not.1 fun h3 => h2 (.inl ⟨by simpa using e,h3⟩)
          | succ j =>
            have:=wrongK_iff.1 h j k (by simpa using hj)
            refine ⟨this.1,this.2.1,fun e => this.2.2 (by rw [← e];congr 1;omega)⟩
      · rw [if_pos h1] at h;exact absurd h h1
    · intro h
      have h0:=h 0 x rfl
      rw [if_neg (fun e => e h0.1),if_neg (fun e => by
        rcases e with ⟨e1,e2⟩ | e
        · exact e2 (h0.2.2 (by simpa using e1))
        · rw [h0.2.1] at e;cases e)]
      refine wrongK_iff.2 fun j k hj => ?_
      have:=h (j + 1) k (by simpa using hj)
      exact ⟨this.1,this.2.1,fun e => this.2.2 (by rw [← e];congr 1;omega)⟩
theorem RightN.n {d:Node} {n:Int} (h:RightN d n):nOf d = n:=(wrongC_ok h.s.c).2.2.1
theorem wrongN_iff {d:Node}:wrongN d = 0 ↔ RightN d (nOf d):=by
  unfold wrongN
  constructor
  · intro h
    split at h
    · rename_i h1;exact absurd h h1
    rename_i h1
    split at h
    · cases h
    rename_i h2
    split at h
    · rename_i h3;exact absurd h h3
    rename_i h3
    split at h
    · cases h
    rename_i h4
    have h3':=Classical.not_not.1 h3
    obtain ⟨c1,c2,c3⟩:=clockL_ok h3'
    rw [c3] at h3' h4
    have hf:=(fits_iff c1).1 h3'
    rw [fits_log c1 hf] at h4
    have hk:=wrongK_iff.1 h
    have e1:foldC d.base d.log = d.state.clock:=Classical.not_not.1 fun e => h4 (.inl e)
    have e2:lenI d.known = nOf d:=Classical.not_not.1 fun e => h4 (.inr e)
    have e3:d.self.toNat < d.known.length:=by unfold lenI at e2;omega
    refine ⟨wrongS_iff.1 (Classical.not_not.1 h1),by omega,by omega,c1,hf,c2,e1,e2,fun k hk' => ?_,?_⟩
    · obtain ⟨j,hj⟩:=List.getElem?_of_mem hk'
      exact ⟨(hk j k hj).1,(hk j k hj).2.1⟩
    · have:=hk d.self.toNat d.known[d.self.toNat] (List.getElem?_eq_getElem e3)
      rw [List.getElem?_eq_getElem e3,this.2.2 (by omega)]
  · intro h
    rw [if_neg (fun e => e (wrongS_iff.2 h.s)),if_neg (by have:=h.a0;have:=h.a1;omega)]
    have e:=clockL_log h.b h.l
    rw [fits_log h.b h.f] at e
    rw [e,if_neg (by simp),if_neg (by
      rintro (e1 | e1)
      · exact e1 h.c
      · exact e1 h.k)]
    refine wrongK_iff.2 fun j k hj => ⟨(h.ks k (List.mem_of_getElem? hj)).1,(h.ks k (List.mem_of_getElem? hj)).2,fun e => ?_⟩
    have:d.self.toNat = j:=by omega
    have h2:=h.own
    rw [this,hj] at h2
    injection h2
theorem RightN.len {d:Node} {n:Int} (h:RightN d n):1 ≤ n ∧ n ≤ 6 ∧ (d.state.clock.length:Int) = n ∧ (d.base.length:Int) = n:=by
  have:=wrongC_ok h.s.c;have:=wrongC_ok h.b;omega
end Go.Proofs.YtkjknlnhffmkkacGreat

namespace Go.Proofs.YtkjknlnhffmkkacGreat
set_option linter.unusedVariables false

/-- a right node, in the middle of a deed -/
structure MidN (d:Node) (n:Int):Prop where
  s:RightS d.state n
  a0:0 ≤ d.self
  a1:d.self < n
  b:wrongC d.base n = 0
  f:Fits n d.base d.log
  l:d.log.length ≤ 300
  c:foldC d.base d.log = d.state.clock
  k:(d.known.length:Int) = n
  ks:∀ k ∈ d.known,wrongC k n = 0 ∧ seesC d.state.clock k = true
theorem RightN.mid {d:Node} {n:Int} (h:RightN d n):MidN d n:=⟨h.s,h.a0,h.a1,h.b,h.f,h.l,h.c,h.k,h.ks⟩
theorem MidN.n {d:Node} {n:Int} (h:MidN d n):nOf d = n:=(wrongC_ok h.s.c).2.2.1
theorem has_seq {c:List Int} {u:Upd} {n:Int} (hc:wrongC c n = 0) (h:RightU u n):hasC c u.author (seqU u) = hasU c u:=by
  rw [seqU_right h]
  have hl:=h.len;have:=wrongC_ok hc;have:=h.a0;have:=h.a1
  unfold hasC hasU
  rw [Bool.eq_iff_iff]
  simp only [Bool.and_eq_true,decide_eq_true_eq]
  omega
def tookN (d:Node) (u:Upd):Node:=⟨d.self,applyS d.state u,d.base,d.log ++ [u],d.known⟩
/-- what a take that is not refused did -/
theorem take_ok {d:Node} {u:Upd} {n:Int} (h:RightS d.state n) (k:(takeN d u).2 = 0) :
    (RightU u n ∧ hasU d.state.clock u = true ∧ takeN d u = (d,0)) ∨ (StepOk d.state.clock u n ∧ d.log.length ≠ 300 ∧ takeN d u = (tookN d u,0)):=by
  have en:nOf d = n:=(wrongC_ok h.c).2.2.1
  unfold takeN at k ⊢
  rw [en] at k ⊢
  split
  · rename_i h1
    have hr:=wrongU_iff.1 h1.1
    left
    exact ⟨hr,by rw [← has_seq h.c hr];exact h1.2,rfl⟩
  · rename_i h1
    rw [if_neg h1] at k
    split
    · rename_i h2;rw [if_pos h2] at k;cases k
    · rename_i h2
      rw [if_neg h2] at k
      split
      · rename_i h3;rw [if_pos h3] at k;exact absurd k h3
      · rename_i h3
        obtain ⟨a,b,c⟩:=ApplyS_ok (Classical.not_not.1 h3)
        have e:lenI d.state.clock = n:=en
        rw [e] at b
        right
        exact ⟨b,h2,by rw [c];rfl⟩
theorem MidN.took {d:Node} {u:Upd} {n:Int} (h:MidN d n) (hs:StepOk d.state.clock u n) (hl:d.log.length ≠ 300):MidN (tookN d u) n ∧ seesC (tookN d u).state.clock d.state.clock = true:=by
  have hll:=h.l
  have ht:=tick_sees h.s.c hs
  refine ⟨⟨applyS_right h.s hs,h.a0,h.a1,h.b,fits_app.2 ⟨h.f,?_⟩,?_,?_,h.k,fun k hk => ⟨(h.ks k hk).1,seesC_trans ht (h.ks k hk).2⟩⟩,ht⟩
  · show Fits n (foldC d.base d.log) [u];rw [h.c];exact ⟨hs,trivial⟩
  · show (d.log ++ [u]).length ≤ 300;simp;omega
  · show foldC d.base (d.log ++ [u]) = _;rw [foldC_app,h.c];rfl
theorem rebase {d:Node} {n:Int} (h:RightS d.state n) (hb:wrongC d.base n = 0) (hf:Fits n d.base d.log) (hc:foldC d.base d.log = d.state.clock) {b:List Int} (hb':wrongC b n = 0) (hs:seesC b d.base = true) :
    Fits n b (lacksU d.log b) ∧ foldC b (lacksU d.log b) = joinC b d.state.clock ∧ (lacksU d.log b).length ≤ d.log.length:=by
  obtain ⟨a,e⟩:=lacks_fits hb hb' hf hs
  exact ⟨a,by rw [e,hc],lacksU_len _ _⟩
theorem MidN.whole {d:Node} {n:Int} {p:Parcel} (h:MidN d n) (hj:p.whole = true → (JoinS d.state p.state).2 = 0):MidN (wholeN d p) n ∧ seesC (wholeN d p).state.clock d.state.clock = true ∧ seesC (wholeN d p).base d.base = true ∧ (wholeN d p).self = d.self ∧ (wholeN d p).known = d.known:=by
  unfold wholeN
  split
  · rename_i hw
    have hj:=hj hw
    have en:lenI d.state.clock = n:=h.n
    have hp:RightS p.state n:=by
      unfold JoinS at hj
      rw [en,if_neg (fun k => k (wrongS_iff.2 h.s))] at hj
      split at hj
      · rename_i k;exact absurd hj k
      · rename_i k;exact wrongS_iff.1 (Classical.not_not.1 k)
    rw [JoinS_of h.s hp]
    have hb:=joinC_ok h.b hp.c
    obtain ⟨f1,f2,f3⟩:=rebase h.s h.b h.f h.c hb (sees_joinl _ _)
    have hsb:seesC d.state.clock d.base = true:=by rw [← h.c];exact (fits_ok h.b h.f).2
    have l1:=wrongC_ok h.s.c;have l2:=wrongC_ok hp.c;have l3:=wrongC_ok h.b
    refine ⟨⟨joinS_right h.s hp,h.a0,h.a1,hb,f1,?_,?_,h.k,fun k hk => ⟨(h.ks k hk).1,seesC_trans (sees_joinl _ _) (h.ks k hk).2⟩⟩,sees_joinl _ _,sees_joinl _ _,rfl,rfl⟩
    · have:=h.l;show (lacksU d.log _).length ≤ 300;omega
    · show foldC (joinC d.base p.state.clock) (lacksU d.log (joinC d.base p.state.clock)) = joinC d.state.clock p.state.clock
      rw [f2]
      refine atI_ext (by simp only [joinC_len];omega) fun j => ?_
      simp only [joinC_at]
      have:=seesC_iff.1 hsb j
      omega
  · exact ⟨h,seesC_refl _,seesC_refl _,rfl,rfl⟩
end Go.Proofs.YtkjknlnhffmkkacGreat

namespace Go.Proofs.YtkjknlnhffmkkacGreat
set_option linter.unusedVariables false

def zs (n:Nat):List Int:=List.replicate n 0
def full (n:Nat) (L:List Upd):List Int:=foldC (zs n) L
/-- a clock that is closed over a log, and has no more than that -/
structure Sub (n:Nat) (L:List Upd) (A:List Int):Prop where
  p:Part n L A
  le:seesC (full n L) A = true
inductive Bears (n:Nat) (L:List Upd) (e:Node) (p:Parcel):Prop
  | whole (h:p = ⟨true,ofS n L p.clock,[],p.clock⟩) (s:Sub n L p.clock)
  | part (K:List Int) (h:p = ⟨false,zeroS,p.updates,p.clock⟩) (k:wrongC K n = 0) (f:Fits n K p.updates) (c:foldC K p.updates = p.clock) (s:seesC e.state.clock K = true) (l:∀ u ∈ p.updates,u ∈ L)
structure ParI (n:Nat) (L:List Upd) (d e:Node) (p:Parcel):Prop where
  b:Bears n L e p
  w:wrongC p.clock n = 0
  s:seesC d.state.clock p.clock = true
theorem Bears.mono {n:Nat} {L:List Upd} {e e':Node} {p:Parcel} (h:Bears n L e p) (hs:seesC e'.state.clock e.state.clock = true):Bears n L e' p:=by
  cases h with
  | whole h s => exact .whole h s
  | part K h k f c s l => exact .part K h k f c (seesC_trans hs s) l
theorem ParI.mono {n:Nat} {L:List Upd} {d d' e e':Node} {p:Parcel} (h:ParI n L d e p) (h1:seesC d'.state.clock d.state.clock = true) (h2:seesC e'.state.clock e.state.clock = true):ParI n L d' e' p:=⟨h.b.mono h2,h.w,seesC_trans h1 h.s⟩
end Go.Proofs.YtkjknlnhffmkkacGreat
