/- A walk by explicit steps: the lemmas, one for each kind of operation. Plain theorems over any program; no condition. -/
import Derived.Test.YtkjknlnhffmkkaaQPl
import Derived.Deep.QuietTactic
import Derived.BigQuiet
import Derived.Deep.MidRow
import Derived.Laws.CopyRow
import Derived.OrdersHeld
import Derived.Lib.AppendZerosOnto
import Derived.Lib.Overlaps
import Derived.Laws.Externs
namespace Go.Proofs.Ytkjknlnhffmkkaa
open Go.RowKit
set_option linter.unusedVariables false

abbrev sc (A : Option Addr) (n c : Nat) : Value := .slice A n c
abbrev sb (g o n c : Nat) : Value := .slice (some ⟨g, o, none⟩) n c
abbrev sn : Value := .slice none 0 0
abbrev ni (n : Int) : Value := .int .i64 n
abbrev pa (g o : Nat) : Value := .pointer (some ⟨g, o, none⟩)
abbrev Ov := List (Nat × Value)
def lk (n : Nat) : Ov → Nat → Value
  | [], _ => undef
  | (d, v) :: l, t => bif d.beq t && Nat.blt d n then v else lk n l t
def bld (n : Nat) : Ov → Array Value
  | [] => Array.replicate n undef
  | (d, v) :: l => (bld n l).setIfInBounds d v
theorem bld_size (n : Nat) : ∀ l : Ov, (bld n l).size = n
  | [] => by simp [bld]
  | (d, v) :: l => by simp [bld, bld_size n l]
theorem bld_get (n : Nat) : ∀ (l : Ov) (t : Nat), (bld n l).getD t undef = lk n l t
  | [], t => by
    simp only [bld, lk, Array.getD_eq_getD_getElem?]
    by_cases h : t < n <;> simp [h]
  | (d, v) :: l, t => by
    have ih := bld_get n l t
    simp only [bld, lk, Array.getD_eq_getD_getElem?] at ih ⊢
    rw [Array.getElem?_setIfInBounds]
    by_cases h : d = t
    · subst h
      by_cases hd : d < n
      · simp [bld_size, hd, Nat.blt]
        have e : Nat.ble (d + 1) n = true := Nat.ble_eq_true_of_le hd
        rw [e]; rfl
      · have e : Nat.ble (d + 1) n = false := by
          rw [Bool.eq_false_iff]; intro e; exact hd (Nat.le_of_ble_eq_true e)
        simp only [bld_size, hd, Nat.blt, e]
        rw [← ih]
        simp [Array.getElem?_eq_none (show (bld n l).size ≤ d by rw [bld_size]; omega)]
    · have e : Nat.beq d t = false := by rw [Bool.eq_false_iff]; intro e; exact h (Nat.eq_of_beq_eq_true e)
      simp [h, e, ih]
def fd (ds : List Deferred) (n : Nat) (l : Ov) : Act := ⟨bld n l, ds⟩
abbrev fr (n : Nat) (l : Ov) : Act := fd [] n l
variable {ds : List Deferred}
def ev (n : Nat) (l : Ov) : Operand → Value
  | .tmp t => lk n l t
  | .const v => v
  | .global g => .pointer (some ⟨g, 0, none⟩)
  | .func f => .func (.func f) #[] #[]
theorem eval_fr (n : Nat) (l : Ov) : (fd ds n l).eval = ev n l := by
  funext x
  cases x with
  | tmp t => exact bld_get n l t
  | _ => rfl
def pt (l : Ov) : Option Tmp → Value → Ov
  | some d, v => (d, v) :: l
  | none, _ => l
theorem put_fr (n : Nat) (l : Ov) (d : Option Tmp) (v : Value) : (fd ds n l).put d v = fd ds n (pt l d v) := by cases d <;> rfl
def Agree (n : Nat) (l : Ov) : Ov → Prop
  | [] => True
  | (d, v) :: m => (lk n l d = v ∧ Nat.blt d n = true) ∧ Agree n l m
theorem lk_app (n : Nat) (l m : Ov) (t : Nat) : Agree n l m → lk n (m ++ l) t = lk n l t := by
  induction m with
  | nil => intro _; rfl
  | cons p m ih =>
    obtain ⟨d, v⟩ := p
    rintro ⟨⟨h1, h2⟩, h3⟩
    show (bif d.beq t && Nat.blt d n then v else lk n (m ++ l) t) = _
    rw [ih h3]
    by_cases hi : d = t
    · subst hi; rw [h1]; simp
    · have e : Nat.beq d t = false := by rw [Bool.eq_false_iff]; intro e; exact hi (Nat.eq_of_beq_eq_true e)
      simp [e]
theorem fr_keep {n : Nat} {l m : Ov} (h : Agree n l m) : fd ds n l = fd ds n (m ++ l) := by
  unfold fd
  congr 1
  refine Array.ext (by simp [bld_size]) fun i h1 h2 => ?_
  have e := bld_get n l i
  have e2 := bld_get n (m ++ l) i
  rw [Array.getD_eq_getD_getElem?, Array.getElem?_eq_getElem h1, Option.getD_some] at e
  rw [Array.getD_eq_getD_getElem?, Array.getElem?_eq_getElem h2, Option.getD_some] at e2
  rw [e, e2, lk_app n l m i h]

/-- the frame at the beginning -/
def ini : Nat → List Value → Ov
  | _, [] => []
  | k, v :: l => (k, v) :: ini (k + 1) l
theorem lk_ini (n : Nat) : ∀ (l : List Value) (k t : Nat), t < n → lk n (ini k l) t = if k ≤ t then l.getD (t - k) undef else undef
  | [], k, t, ht => by simp [ini, lk]
  | v :: l, k, t, ht => by
    show (bif k.beq t && Nat.blt k n then v else lk n (ini (k + 1) l) t) = _
    rw [lk_ini n l (k + 1) t ht]
    by_cases hi : k = t
    · subst hi
      have : Nat.ble (k + 1) n = true := Nat.ble_eq_true_of_le ht
      simp [Nat.blt, this]
    · have e : Nat.beq k t = false := by rw [Bool.eq_false_iff]; intro e; exact hi (Nat.eq_of_beq_eq_true e)
      simp only [e, Bool.false_and, cond_false]
      by_cases hk : k ≤ t
      · rw [if_pos (by omega), if_pos hk, show t - k = (t - (k + 1)) + 1 by omega]; rfl
      · rw [if_neg (by omega), if_neg hk]
theorem ini_eq (l : List Value) (n : Nat) (h : l.length ≤ n) : ({ tmps := l.toArray ++ Array.replicate (n - l.toArray.size) undef, defers := [] } : Act) = fr n (ini 0 l) := by
  unfold fr fd
  congr 1
  refine Array.ext (by simp [bld_size]; omega) fun i h1 h2 => ?_
  have e := bld_get n (ini 0 l) i
  rw [bld_size] at h2
  rw [lk_ini n l 0 i h2, if_pos (Nat.zero_le _), Nat.sub_zero, Array.getD_eq_getD_getElem?, Array.getElem?_eq_getElem (by rw [bld_size]; exact h2), Option.getD_some] at e
  rw [e, List.getD]
  by_cases hi : i < l.length
  · simp [Array.getElem_append, hi]
  · simp [Array.getElem_append, hi]
/-- a list of operations to be walked; it does not unfold by itself -/
structure WL (P : Program) (ops : Array Oper) (Q : Exit → Act → World → Prop) (l : List Oper) (a : Act) (w : World) : Prop where
  out : wpList P ops Q l a w
structure WQ (P : Program) (ops : Array Oper) (C : World → Prop) (Q : Act → Prop) (l : List Oper) (a : Act) : Prop where
  out : wpQuiet P ops C Q l a
/-! ## control -/
inductive Kf where
  | seq (c : Code)
  | blk (id : Nat)
  | lp (I : Act → World → Prop)
def stk (P : Program) (Q : Exit → Act → World → Prop) : List Kf → Exit → Act → World → Prop
  | [] => Q
  | .seq c :: s => Exit.then (c.wp P (stk P Q s)) (stk P Q s)
  | .blk id :: s => Exit.inBlock id (stk P Q s)
  | .lp I :: s => Exit.then I (stk P Q s)
section
variable {P : Program} {Q : Exit → Act → World → Prop} {s : List Kf} {a : Act} {w : World} {x y c : Code} {id i n : Nat}
theorem e_seq (h : x.wp P (stk P Q (.seq y :: s)) a w) : (Code.seq x y).wp P (stk P Q s) a w := wp_seq h
theorem e_blk (h : c.wp P (stk P Q (.blk id :: s)) a w) : (Code.block id c).wp P (stk P Q s) a w := wp_block h
theorem e_skip (h : stk P Q s .normal a w) : Code.skip.wp P (stk P Q s) a w := wp_skip h
theorem e_exit (h : stk P Q s (.exit id) a w) : (Code.exit id).wp P (stk P Q s) a w := wp_exit h
theorem stk_ret (h : Q .ret a w) : ∀ s : List Kf, stk P Q s .ret a w
  | [] => h
  | .seq _ :: s => stk_ret h s
  | .blk _ :: s => stk_ret h s
  | .lp _ :: s => stk_ret h s
theorem e_ret (h : Q .ret a w) : Code.ret.wp P (stk P Q s) a w := wp_ret (stk_ret h s)
theorem n_seq (h : y.wp P (stk P Q s) a w) : stk P Q (.seq y :: s) .normal a w := h
theorem n_blk (h : stk P Q s .normal a w) : stk P Q (.blk id :: s) .normal a w := h
theorem n_lp {I : Act → World → Prop} (h : I a w) : stk P Q (.lp I :: s) .normal a w := h
theorem x_seq (h : stk P Q s (.exit i) a w) : stk P Q (.seq y :: s) (.exit i) a w := h
theorem x_lp {I : Act → World → Prop} (h : stk P Q s (.exit i) a w) : stk P Q (.lp I :: s) (.exit i) a w := h
theorem x_hit (h : stk P Q s .normal a w) : stk P Q (.blk id :: s) (.exit id) a w := by
  show (if id = id then _ else _); rw [if_pos rfl]; exact h
theorem e_cT {l : Ov} {o : Operand} (hc : ev n l o = .bool true) (h : x.wp P (stk P Q s) (fd ds n l) w) : (Code.cond o x y).wp P (stk P Q s) (fd ds n l) w := wp_cond_true (by rw [eval_fr]; exact hc) h
theorem e_cF {l : Ov} {o : Operand} (hc : ev n l o = .bool false) (h : y.wp P (stk P Q s) (fd ds n l) w) : (Code.cond o x y).wp P (stk P Q s) (fd ds n l) w := wp_cond_false (by rw [eval_fr]; exact hc) h
theorem e_reg {l : List Oper} (h : WL P l.toArray (stk P Q s) l a w) : (Code.region id l.toArray false).wp P (stk P Q s) a w := wp_region_lit h.1
theorem e_q {l : List Oper} {C : World → Prop} (hm : P.follows .mixedOrders = true) (hB : Region.lexB .any l.toArray = true) (hC : C w.drew)
    (h : WQ P l.toArray C (fun a' => ∀ w', C w' → stk P Q s .normal a' w') l a) : (Code.region id l.toArray true).wp P (stk P Q s) a w :=
  wp_region_quiet hm hB hC (by simpa using h.1)
theorem l_nil {ops : Array Oper} (h : stk P Q s .normal a w) : WL P ops (stk P Q s) [] a w := ⟨h⟩
theorem q_nil {ops : Array Oper} {C : World → Prop} (h : ∀ w', C w' → stk P Q s .normal a w') : WQ P ops C (fun a' => ∀ w', C w' → stk P Q s .normal a' w') [] a := ⟨h⟩

theorem least {p : Nat → Prop} (h : ∃ m, p m) : ∃ m, p m ∧ ∀ k, p k → m ≤ k := by
  obtain ⟨m, hm⟩ := h
  induction m using Nat.strongRecOn with
  | _ m ih =>
    by_cases hk : ∃ k, k < m ∧ p k
    · obtain ⟨k, h1, h2⟩ := hk
      exact ih k h1 h2
    · exact ⟨m, hm, fun k hp => Nat.le_of_not_lt fun hlt => hk ⟨k, hlt, hp⟩⟩
def LpI {ι : Type} (ds : List Deferred) (n : Nat) (J : ι → Ov → World → Prop) (m : ι → Nat) (b : Nat) (a : Act) (w : World) : Prop := ∃ i ov, a = fd ds n ov ∧ J i ov w ∧ m i < b
open Classical in
theorem e_loop {ι : Type} (J : ι → Ov → World → Prop) (m : ι → Nat) (i0 : ι) {ov : Ov} (h0 : J i0 ov w)
    (round : ∀ i ov w, J i ov w → c.wp P (stk P Q (.lp (LpI ds n J m (m i)) :: s)) (fd ds n ov) w) : (Code.loop c).wp P (stk P Q s) (fd ds n ov) w := by
  let p : Act → World → Nat → Prop := fun a w k => ∃ i ov, a = fd ds n ov ∧ J i ov w ∧ m i = k
  let μ : Act → World → Nat := fun a w => if h : ∃ k, p a w k then Classical.choose (least h) else 0
  have hμ : ∀ a w, (∃ k, p a w k) → p a w (μ a w) ∧ ∀ k, p a w k → μ a w ≤ k := fun a w h => by
    show p a w (dite _ _ _) ∧ ∀ k, p a w k → (dite _ _ _) ≤ k
    rw [dif_pos h]
    exact Classical.choose_spec (least h)
  refine wp_loop (fun a w => ∃ k, p a w k) μ ⟨_, i0, ov, rfl, h0, rfl⟩ fun a w hI => ?_
  obtain ⟨⟨i, ov', ha, hJ, hm⟩, _⟩ := hμ a w hI
  subst ha
  refine wp_mono (round i ov' w hJ) fun e a' w' hq => ?_
  cases e <;> first | exact hq | skip
  obtain ⟨i', ov2, ha', hJ', hlt⟩ := hq
  have hI' : ∃ k, p a' w' k := ⟨_, i', ov2, ha', hJ', rfl⟩
  exact ⟨hI', by have := (hμ a' w' hI').2 (m i') ⟨i', ov2, ha', hJ', rfl⟩; omega⟩
/-- entering -/
theorem e_enter {f : FuncId} {fn : Func} {args : List Value} {R : Ending → World → Prop} (n : Nat) (hf : P.funcs[f]? = some fn) (hb : fn.body = some c) (hn : fn.ntmps = n) (hl : Nat.ble args.length n = true)
    (h : c.wp P (stk P (bodyPost P fn R) []) (fr n (ini 0 args)) w) : Calls P f args.toArray w R :=
  calls_of_wp hf hb (by
    subst hn
    rw [ini_eq args fn.ntmps (Nat.le_of_ble_eq_true hl)]
    exact h)
end

/-! ## operations that hand back a value -/
def Yv (P : Program) (C : World → Prop) (e : Operand → Value) (o : Oper) (v : Value) : Prop := ∀ w, C w → (execOp e o).run P w = .ok (.value v) w
section
variable {P : Program} {Q : Exit → Act → World → Prop} {w : World} {n : Nat} {l : Ov} {o : Oper} {rest : List Oper} {ops : Array Oper} {C : World → Prop} {v : Value} {Qa : Act → Prop}
theorem l_y0 (S : C w) (Y : Yv P C (ev n l) o v) (hg : o.guard = none) (h : wpList P ops Q rest (fd ds n (pt l o.dst v)) w) : wpList P ops Q (o :: rest) (fd ds n l) w := by
  refine wpList_plain hg fun K hK => ?_
  unfold Oper.wp
  rw [eval_fr, Y w S, Oper.upon_value, put_fr]
  exact hK _ _ h
theorem yielded_at {j d : Nat} {b : Bool} (hd : (ops[j]?).bind (·.dst) = some d) (hb : lk n l d = .bool b) : yielded ops (bld n l) j = some b := by
  unfold yielded
  rw [hd]
  have e := bld_get n l d
  rw [hb, Array.getD_eq_getD_getElem?] at e
  simp only [Option.bind_some]
  rcases h : (bld n l)[d]? with _ | x
  · rw [h] at e; cases e
  · rw [h] at e; simp only [Option.getD_some] at e; subst e; rfl
theorem l_g0 {j d : Nat} {b : Bool} (S : C w) (Y : Yv P C (ev n l) o v) (hg : o.guard = some (j, b)) (hd : (ops[j]?).bind (·.dst) = some d) (hb : lk n l d = .bool b)
    (h : wpList P ops Q rest (fd ds n (pt l o.dst v)) w) : wpList P ops Q (o :: rest) (fd ds n l) w := by
  refine wpList_step fun K hK => ?_
  have hw : Region.wanted o (yielded ops (fd ds n l).tmps) = true := by
    unfold Region.wanted; rw [hg]; show (yielded ops (bld n l) j == some b) = true
    rw [yielded_at hd hb]; simp
  rw [if_pos hw]
  unfold Oper.wp
  rw [eval_fr, Y w S, Oper.upon_value, put_fr]
  exact hK _ _ h
theorem l_s0 {j d : Nat} {b : Bool} (hg : o.guard = some (j, b)) (hd : (ops[j]?).bind (·.dst) = some d) (hb : lk n l d = .bool (!b))
    (h : wpList P ops Q rest (fd ds n (pt l o.dst undef)) w) : wpList P ops Q (o :: rest) (fd ds n l) w := by
  refine wpList_step fun K hK => ?_
  have hw : Region.wanted o (yielded ops (fd ds n l).tmps) = false := by
    unfold Region.wanted; rw [hg]; show (yielded ops (bld n l) j == some b) = false
    rw [yielded_at hd hb]; cases b <;> rfl
  rw [if_neg (by rw [hw]; simp), put_fr]
  exact hK _ _ h
theorem q_y0 (Y : Yv P C (ev n l) o v) (hg : o.guard = none) (h : wpQuiet P ops C Qa rest (fd ds n (pt l o.dst v))) : wpQuiet P ops C Qa (o :: rest) (fd ds n l) := by
  refine wpQuiet_step fun K hK => ?_
  have hw : Region.wanted o (yielded ops (fd ds n l).tmps) = true := by unfold Region.wanted; rw [hg]
  rw [if_pos hw]
  refine ⟨v, fun w S => ?_, ?_⟩
  · unfold Oper.quietAt; rw [eval_fr, Y w S]; exact ⟨rfl, rfl⟩
  · rw [put_fr]; exact hK _ h
/-- a call, in a list -/
def CK (ds : List Deferred) (P : Program) (ops : Array Oper) (Q : Exit → Act → World → Prop) (rest : List Oper) (n : Nat) (l : Ov) (d : Option Tmp) : Ending → World → Prop
  | .returned v, w => WL P ops Q rest (fd ds n (pt l d v)) w
  | _, _ => False
def En (P : Program) (e : Operand → Value) (o : Oper) (f : FuncId) (vs : Array Value) : Prop := ∀ w, (execOp e o).run P w = .ok (.enter f vs) w
theorem wp_enter {f : FuncId} {vs : Array Value} (E : En P (ev n l) o f vs) (h : Calls P f vs w (CK ds P ops Q rest n l o.dst)) (K : Act → World → Prop) (hK : ∀ a w, wpList P ops Q rest a w → K a w) : o.wp P (fd ds n l) w K Q := by
  unfold Oper.wp
  rw [eval_fr, E w, Oper.upon_enter]
  refine h.mono fun e w' he => ?_
  cases e with
  | returned v => show K _ _; rw [put_fr]; exact hK _ _ he.1
  | panicked _ => exact he.elim
  | outgrown => exact he.elim
theorem l_c0 {f : FuncId} {vs : Array Value} {R : Ending → World → Prop} (E : En P (ev n l) o f vs) (hg : o.guard = none) (c : Calls P f vs w R) (h : ∀ e w', R e w' → CK ds P ops Q rest n l o.dst e w') : wpList P ops Q (o :: rest) (fd ds n l) w :=
  wpList_plain hg (wp_enter E (c.mono h))
theorem l_cg0 {j d : Nat} {b : Bool} {f : FuncId} {vs : Array Value} {R : Ending → World → Prop} (E : En P (ev n l) o f vs) (hg : o.guard = some (j, b)) (hd : (ops[j]?).bind (·.dst) = some d) (hb : lk n l d = .bool b)
    (c : Calls P f vs w R) (h : ∀ e w', R e w' → CK ds P ops Q rest n l o.dst e w') : wpList P ops Q (o :: rest) (fd ds n l) w := by
  refine wpList_step fun K hK => ?_
  have hw : Region.wanted o (yielded ops (fd ds n l).tmps) = true := by
    unfold Region.wanted; rw [hg]; show (yielded ops (bld n l) j == some b) = true
    rw [yielded_at hd hb]; simp
  rw [if_pos hw]
  exact wp_enter E (c.mono h) K hK
theorem quiet_enter {f : FuncId} {vs : Array Value} (E : En P (ev n l) o f vs) (c : ∀ w, C w → Calls P f vs w (fun e w' => e = .returned v ∧ C w')) {K : Act → Prop} (h : K (fd ds n (pt l o.dst v))) : o.quiet P (fd ds n l) C K := by
  refine ⟨v, fun w S => ?_, by rw [put_fr]; exact h⟩
  unfold Oper.quietAt; rw [eval_fr, E w]; exact ⟨rfl, c w S⟩
theorem q_c0 {f : FuncId} {vs : Array Value} (E : En P (ev n l) o f vs) (hg : o.guard = none) (c : ∀ w, C w → Calls P f vs w (fun e w' => e = .returned v ∧ C w')) (h : wpQuiet P ops C Qa rest (fd ds n (pt l o.dst v))) : wpQuiet P ops C Qa (o :: rest) (fd ds n l) := by
  refine wpQuiet_step fun K hK => ?_
  have hw : Region.wanted o (yielded ops (fd ds n l).tmps) = true := by unfold Region.wanted; rw [hg]
  rw [if_pos hw]
  exact quiet_enter E c (hK _ h)
/-- an operation that turns the world -/
def Tw (P : Program) (e : Operand → Value) (o : Oper) (w : World) (v : Value) (w' : World) : Prop := (execOp e o).run P w = .ok (.value v) w' ∨ (v = undef ∧ (execOp e o).run P w = .ok .skip w')
theorem l_t0 {w' : World} (T : Tw P (ev n l) o w v w') (hg : o.guard = none) (h : wpList P ops Q rest (fd ds n (pt l o.dst v)) w') : wpList P ops Q (o :: rest) (fd ds n l) w := by
  refine wpList_plain hg fun K hK => ?_
  unfold Oper.wp
  rcases T with T | ⟨rfl, T⟩
  · rw [eval_fr, T, Oper.upon_value, put_fr]; exact hK _ _ h
  · rw [eval_fr, T, Oper.upon_skip, put_fr]; exact hK _ _ h
end

section
variable {P : Program} {Q : Exit → Act → World → Prop} {w : World} {n d j d' : Nat} {l : Ov} {b : Bool} {op : Op} {ty : TypeId} {pos : String} {af : Array Edge} {rest : List Oper} {ops : Array Oper} {C : World → Prop} {v : Value} {Qa : Act → Prop}
theorem l_y (S : C w) (Y : Yv P C (ev n l) ⟨some d, op, ty, pos, af, none⟩ v) (h : WL P ops Q rest (fd ds n ((d, v) :: l)) w) : WL P ops Q (⟨some d, op, ty, pos, af, none⟩ :: rest) (fd ds n l) w := ⟨l_y0 S Y rfl h.1⟩
theorem l_g (S : C w) (Y : Yv P C (ev n l) ⟨some d, op, ty, pos, af, some (j, b)⟩ v) (hd : (ops.toList[j]?).bind (·.dst) = some d') (hb : lk n l d' = .bool b) (h : WL P ops Q rest (fd ds n ((d, v) :: l)) w) : WL P ops Q (⟨some d, op, ty, pos, af, some (j, b)⟩ :: rest) (fd ds n l) w := ⟨l_g0 S Y rfl (by rwa [Array.getElem?_toList] at hd) hb h.1⟩
theorem l_s (hd : (ops.toList[j]?).bind (·.dst) = some d') (hb : lk n l d' = .bool (!b)) (h : WL P ops Q rest (fd ds n ((d, undef) :: l)) w) : WL P ops Q (⟨some d, op, ty, pos, af, some (j, b)⟩ :: rest) (fd ds n l) w := ⟨l_s0 rfl (by rwa [Array.getElem?_toList] at hd) hb h.1⟩
theorem q_y (Y : Yv P C (ev n l) ⟨some d, op, ty, pos, af, none⟩ v) (h : WQ P ops C Qa rest (fd ds n ((d, v) :: l))) : WQ P ops C Qa (⟨some d, op, ty, pos, af, none⟩ :: rest) (fd ds n l) := ⟨q_y0 Y rfl h.1⟩
theorem l_c {f : FuncId} {vs : Array Value} {R : Ending → World → Prop} (E : En P (ev n l) ⟨some d, op, ty, pos, af, none⟩ f vs) (c : Calls P f vs w R) (h : ∀ e w', R e w' → CK ds P ops Q rest n l (some d) e w') : WL P ops Q (⟨some d, op, ty, pos, af, none⟩ :: rest) (fd ds n l) w := ⟨l_c0 E rfl c h⟩
theorem l_cg {f : FuncId} {vs : Array Value} {R : Ending → World → Prop} (E : En P (ev n l) ⟨some d, op, ty, pos, af, some (j, b)⟩ f vs) (hd : (ops.toList[j]?).bind (·.dst) = some d') (hb : lk n l d' = .bool b) (c : Calls P f vs w R) (h : ∀ e w', R e w' → CK ds P ops Q rest n l (some d) e w') : WL P ops Q (⟨some d, op, ty, pos, af, some (j, b)⟩ :: rest) (fd ds n l) w := ⟨l_cg0 E rfl (by rwa [Array.getElem?_toList] at hd) hb c h⟩
theorem q_c {f : FuncId} {vs : Array Value} (E : En P (ev n l) ⟨some d, op, ty, pos, af, none⟩ f vs) (c : ∀ w, C w → Calls P f vs w (fun e w' => e = .returned v ∧ C w')) (h : WQ P ops C Qa rest (fd ds n ((d, v) :: l))) : WQ P ops C Qa (⟨some d, op, ty, pos, af, none⟩ :: rest) (fd ds n l) := ⟨q_c0 E rfl c h.1⟩
theorem l_t {w' : World} (T : Tw P (ev n l) ⟨some d, op, ty, pos, af, none⟩ w v w') (h : WL P ops Q rest (fd ds n ((d, v) :: l)) w') : WL P ops Q (⟨some d, op, ty, pos, af, none⟩ :: rest) (fd ds n l) w := ⟨l_t0 T rfl h.1⟩
theorem l_tn {w' : World} (T : Tw P (ev n l) ⟨none, op, ty, pos, af, none⟩ w v w') (h : WL P ops Q rest (fd ds n l) w') : WL P ops Q (⟨none, op, ty, pos, af, none⟩ :: rest) (fd ds n l) w := ⟨l_t0 T rfl h.1⟩
theorem ckd (h : WL P ops Q rest (fd ds n ((d, v) :: l)) w) : CK ds P ops Q rest n l (some d) (.returned v) w := h
end
theorem amap {α β : Type} {e : α → β} {as : Array α} {us : List β} (h : as.toList.map e = us) : as.map e = us.toArray := by subst h; cases as; simp
section
variable {P : Program} {C : World → Prop} {e : Operand → Value} {d : Option Tmp} {t ty : TypeId} {pos : String} {af : Array Edge} {g : Option (Nat × Bool)} {v : Value} {x y c : Operand}
theorem y_mv (h : e x = v) : Yv P C e ⟨d, .move x, ty, pos, af, g⟩ v := fun w _ => by subst h; rfl
theorem y_as (h : e x = v) : Yv P C e ⟨d, .assign x, ty, pos, af, g⟩ v := fun w _ => by subst h; rfl
theorem y_pT (hc : e c = .bool true) (h : e x = v) : Yv P C e ⟨d, .pick c x y, ty, pos, af, g⟩ v := fun w _ => by subst h; simp [execOp, hc, asBool]
theorem y_pF (hc : e c = .bool false) (h : e y = v) : Yv P C e ⟨d, .pick c x y, ty, pos, af, g⟩ v := fun w _ => by subst h; simp [execOp, hc, asBool]
theorem y_ex {i : Nat} {vs : Array Value} (h : e x = .tuple vs) (hi : vs[i]? = some v) : Yv P C e ⟨d, .extract x i, ty, pos, af, g⟩ v := fun w _ => by simp [execOp, h, Instr.extract, hi]
theorem y_not {b b' : Bool} (h : e x = .bool b) (hb : (!b) = b') : Yv P C e ⟨d, .unOp .not t x, ty, pos, af, g⟩ (.bool b') := fun w _ => by subst hb; simp [execOp, h, Op.unary]
theorem y_mf {f : Fn} {as bs : Array Operand} {as' bs' : List Value} (h1 : as.toList.map e = as') (h2 : bs.toList.map e = bs') : Yv P C e ⟨d, .makeFunc f as bs, ty, pos, af, g⟩ (.func f as'.toArray bs'.toArray) := fun w _ => by rw [← amap h1, ← amap h2]; rfl
section
variable {k : IntKind} {p q : Int} {yt : TypeId} {b : Bool}
theorem bo (op : BinOp) (h1 : e x = .int k p) (h2 : e y = .int k q) (w : World) (h : (binOp op t (.int k p) (.int k q)).run P w = .ok v w) : (execOp e ⟨d, .binOp op t x y yt, ty, pos, af, g⟩).run P w = .ok (.value v) w := by
  simp [execOp, h1, h2, eqGuard]
  rw [h]
  cases op <;> rfl
theorem cmp_run (op : BinOp) (hop : op = .eql ∨ op = .neq ∨ op = .lss ∨ op = .leq ∨ op = .gtr ∨ op = .geq) (w : World) : (binOp op t (.int k p) (.int k q)).run P w = (Op.intCmp op p q).run P w := by
  rcases hop with rfl | rfl | rfl | rfl | rfl | rfl <;> simp [binOp]
theorem y_ltT (h1 : e x = .int k p) (h2 : e y = .int k q) (h : p < q) : Yv P C e ⟨d, .binOp .lss t x y yt, ty, pos, af, g⟩ (.bool true) := fun w _ => bo _ h1 h2 w (by rw [cmp_run _ (by simp)]; simp [Op.intCmp, h])
theorem y_ltF (h1 : e x = .int k p) (h2 : e y = .int k q) (h : ¬ p < q) : Yv P C e ⟨d, .binOp .lss t x y yt, ty, pos, af, g⟩ (.bool false) := fun w _ => bo _ h1 h2 w (by rw [cmp_run _ (by simp)]; simp [Op.intCmp]; omega)
theorem y_gtT (h1 : e x = .int k p) (h2 : e y = .int k q) (h : q < p) : Yv P C e ⟨d, .binOp .gtr t x y yt, ty, pos, af, g⟩ (.bool true) := fun w _ => bo _ h1 h2 w (by rw [cmp_run _ (by simp)]; simp [Op.intCmp, h])
theorem y_gtF (h1 : e x = .int k p) (h2 : e y = .int k q) (h : ¬ q < p) : Yv P C e ⟨d, .binOp .gtr t x y yt, ty, pos, af, g⟩ (.bool false) := fun w _ => bo _ h1 h2 w (by rw [cmp_run _ (by simp)]; simp [Op.intCmp]; omega)
theorem y_geT (h1 : e x = .int k p) (h2 : e y = .int k q) (h : q ≤ p) : Yv P C e ⟨d, .binOp .geq t x y yt, ty, pos, af, g⟩ (.bool true) := fun w _ => bo _ h1 h2 w (by rw [cmp_run _ (by simp)]; simp [Op.intCmp, h])
theorem y_geF (h1 : e x = .int k p) (h2 : e y = .int k q) (h : ¬ q ≤ p) : Yv P C e ⟨d, .binOp .geq t x y yt, ty, pos, af, g⟩ (.bool false) := fun w _ => bo _ h1 h2 w (by rw [cmp_run _ (by simp)]; simp [Op.intCmp]; omega)
theorem y_eqT (h1 : e x = .int k p) (h2 : e y = .int k q) (h : p = q) : Yv P C e ⟨d, .binOp .eql t x y yt, ty, pos, af, g⟩ (.bool true) := fun w _ => bo _ h1 h2 w (by rw [cmp_run _ (by simp)]; simp [Op.intCmp, h])
theorem y_eqF (h1 : e x = .int k p) (h2 : e y = .int k q) (h : ¬ p = q) : Yv P C e ⟨d, .binOp .eql t x y yt, ty, pos, af, g⟩ (.bool false) := fun w _ => bo _ h1 h2 w (by rw [cmp_run _ (by simp)]; simp [Op.intCmp, h])
theorem y_neT (h1 : e x = .int k p) (h2 : e y = .int k q) (h : ¬ p = q) : Yv P C e ⟨d, .binOp .neq t x y yt, ty, pos, af, g⟩ (.bool true) := fun w _ => bo _ h1 h2 w (by rw [cmp_run _ (by simp)]; simp [Op.intCmp, h])
theorem y_neF (h1 : e x = .int k p) (h2 : e y = .int k q) (h : p = q) : Yv P C e ⟨d, .binOp .neq t x y yt, ty, pos, af, g⟩ (.bool false) := fun w _ => bo _ h1 h2 w (by rw [cmp_run _ (by simp)]; simp [Op.intCmp, h])
theorem y_add {r : Int} (h1 : e x = .int k p) (h2 : e y = .int k q) (h : k.wrap (p + q) = r) : Yv P C e ⟨d, .binOp .add t x y yt, ty, pos, af, g⟩ (.int k r) := fun w _ => bo _ h1 h2 w (by subst h; simp [binOp, Op.intArith])
theorem y_sub {r : Int} (h1 : e x = .int k p) (h2 : e y = .int k q) (h : k.wrap (p - q) = r) : Yv P C e ⟨d, .binOp .sub t x y yt, ty, pos, af, g⟩ (.int k r) := fun w _ => bo _ h1 h2 w (by subst h; simp [binOp, Op.intArith])
theorem y_mul {r : Int} (h1 : e x = .int k p) (h2 : e y = .int k q) (h : k.wrap (p * q) = r) : Yv P C e ⟨d, .binOp .mul t x y yt, ty, pos, af, g⟩ (.int k r) := fun w _ => bo _ h1 h2 w (by subst h; simp [binOp, Op.intArith])
end
theorem y_len {A : Option Addr} {m cp : Nat} {ts : Array TypeId} {el : TypeId} (ht : P.underlying t = some (.slice el)) (hts : ts[0]? = some t) (h : e x = .slice A m cp) : Yv P C e ⟨d, .call ⟨.builtin .len, #[x], ts⟩, ty, pos, af, g⟩ (.int .i64 m) := fun w _ => by
  simp [execOp, resolve, invoke, builtin, h, hts, Builtin.len_, goInt, run_underlying ht]
theorem y_min {k : IntKind} {p q : Int} {ts : Array TypeId} (h1 : e x = .int k p) (h2 : e y = .int k q) : Yv P C e ⟨d, .call ⟨.builtin .min, #[x, y], ts⟩, ty, pos, af, g⟩ (.int k (min p q)) := fun w _ => by
  simp [execOp, resolve, invoke, builtin, h1, h2, Builtin.min_, Builtin.min2]
  split <;> omega
theorem en_f {f : FuncId} {as : Array Operand} {vs : List Value} {ts : Array TypeId} (hf : ∀ w, (callFunc f vs.toArray).run P w = .ok (.enter f vs.toArray) w) (hx : e x = .func (.func f) #[] #[]) (h : as.toList.map e = vs) : En P e ⟨d, .call ⟨.value x, as, ts⟩, ty, pos, af, g⟩ f vs.toArray := fun w => by
  have := hf w
  have h := amap h
  simp [execOp, resolve, invoke, hx, Deferred.ofValue, h, this]
end
theorem w64 {x : Int} (h1 : -9223372036854775808 ≤ x) (h2 : x ≤ 9223372036854775807) : IntKind.i64.wrap x = x := IntWalk.i64_in _ (by omega)
end Go.Proofs.Ytkjknlnhffmkkaa

namespace Go.Proofs.Ytkjknlnhffmkkaa
open Go.RowKit
set_option linter.unusedVariables false

structure OwE where
  e : TypeId
  size : Nat
  v : Value
  n : Nat
  xs : List Value
abbrev BxE := Nat × TypeId × Array Value
/-- a reading, and what was made since -/
def ext (r : Rd) (w w' : World) : Rd := fun b o => if b < w.heap.size then r b o else w'.cell? ⟨b, o, none⟩
/-- a reading, and one block -/
def plus (r : Rd) (w : World) (g : Option Nat) : Rd := fun b o => if some b = g then w.cell? ⟨b, o, none⟩ else r b o
/-- what was there is as it was, but for the blocks X -/
structure Frm (X : List Nat) (w w' : World) : Prop where
  os : w'.os = w.os
  tape : w'.tape = w.tape
  output : w'.output = w.output
  size : w.heap.size ≤ w'.heap.size
  block : ∀ k, k < w.heap.size → k ∉ X → w'.heap[k]? = w.heap[k]?
theorem Frm.below {w w' : World} (h : Frm [] w w') : Below w.heap.size w w' := ⟨h.os, h.tape, h.output, h.size, fun k hk => h.block k hk (by simp)⟩
theorem Frm.refl (X : List Nat) (w : World) : Frm X w w := ⟨rfl, rfl, rfl, Nat.le_refl _, fun _ _ _ => rfl⟩
structure St (X : List Nat) (W : World) (r0 rd : Rd) (bx : List BxE) (ow : List OwE) (w : World) : Prop where
  fr : Frm X W w
  sub : ∀ b o v, b < W.heap.size → rd b o = some v → r0 b o = some v
  sup : Rd.le r0 rd
  le : Rd.le rd (wrd w)
  box : ∀ p ∈ bx, (W.heap.size ≤ p.1 ∨ p.1 ∈ X) ∧ w.heap[p.1]? = some (.cells p.2.2 p.2.1 (0, 0)) ∧ ∀ o, rd p.1 o = none
  own : ∀ q ∈ ow, w.ownsRow 0 q.e q.size q.v q.n q.xs ∧ ∀ g, q.v.ownBlock = some g → (W.heap.size ≤ g ∨ g ∈ X) ∧ ∀ o, rd g o = none
  d1 : bx.Pairwise fun p q => p.1 ≠ q.1
  d2 : ow.Pairwise fun p q => p.v.ownBlock = none ∨ p.v.ownBlock ≠ q.v.ownBlock
  d3 : ∀ p ∈ bx, ∀ q ∈ ow, q.v.ownBlock ≠ some p.1

section
variable {X : List Nat} {W w w' : World} {r0 rd : Rd} {bx : List BxE} {ow : List OwE}
theorem St.below (S : St [] W r0 rd bx ow w) : Below W.heap.size W w := S.fr.below
theorem St.start (h : Rd.le r0 (wrd W)) : St X W r0 r0 [] [] W :=
  ⟨Frm.refl _ _, fun _ _ _ _ h => h, Rd.le_refl _, h, by simp, by simp, .nil, .nil, by simp⟩
theorem St.base_le (S : St X W r0 rd bx ow w) : W.heap.size ≤ w.heap.size := S.fr.size
theorem St.lt_box (S : St X W r0 rd bx ow w) {p : BxE} (hp : p ∈ bx) : p.1 < w.heap.size := by
  have := (S.box p hp).2.1
  rcases Nat.lt_or_ge p.1 w.heap.size with h | h
  · exact h
  · rw [Array.getElem?_eq_none h] at this; cases this
theorem St.free (S : St X W r0 rd bx ow w) {k : Nat} (hk : w.heap.size ≤ k) (o : Nat) : rd k o = none := by
  cases h : rd k o with
  | none => rfl
  | some v => have := blk_lt (S.le _ _ _ h); omega
theorem grownBy_none {w w' : World} (k : Below w.heap.size w w') : w.grownBy w' none := ⟨k.os, k.tape, k.output, k.size, fun i hi _ => k.block i hi⟩
theorem le_grown {rd : Rd} {w w' : World} {row : Option Nat} (h : Rd.le rd (wrd w)) (hg : w.grownBy w' row) (hr : ∀ k, row = some k → ∀ o, rd k o = none) : Rd.le rd (wrd w') := fun b o v e => by
  have hlt := blk_lt (h _ _ _ e)
  have hne : some b ≠ row := fun e2 => by have := hr b e2.symm o; rw [e] at this; cases this
  exact (World.cell?_of_block (w := w) (a := ⟨b, o, none⟩) (hg.block b hlt hne)).trans (h _ _ _ e)
theorem St.fr_grown (S : St X W r0 rd bx ow w) {row : Option Nat} (hg : w.grownBy w' row) (hr : ∀ k, row = some k → W.heap.size ≤ k ∨ k ∈ X) : Frm X W w' :=
  ⟨hg.os.trans S.fr.os, hg.tape.trans S.fr.tape, hg.output.trans S.fr.output, Nat.le_trans S.fr.size hg.size, fun k hk hX => by
    rw [hg.block k (Nat.lt_of_lt_of_le hk S.fr.size) (fun e => (hr k e.symm).elim (fun h => by omega) hX)]
    exact S.fr.block k hk hX⟩
theorem keep_box (S : St X W r0 rd bx ow w) {row : Option Nat} (hg : w.grownBy w' row) {p : BxE} (hp : p ∈ bx) (hne : row ≠ some p.1) : w'.heap[p.1]? = some (.cells p.2.2 p.2.1 (0, 0)) :=
  (hg.block p.1 (S.lt_box hp) (fun e => hne e.symm)).trans (S.box p hp).2.1
theorem keep_own (S : St X W r0 rd bx ow w) {row : Option Nat} (hg : w.grownBy w' row) {q : OwE} (hq : q ∈ ow) (hne : q.v.ownBlock = none ∨ q.v.ownBlock ≠ row) : w'.ownsRow 0 q.e q.size q.v q.n q.xs :=
  (S.own q hq).1.kept hg hne
/-- nothing known was written -/
theorem St.grown0 (S : St X W r0 rd bx ow w) (hg : w.grownBy w' none) : St X W r0 rd bx ow w' :=
  ⟨S.fr_grown hg (fun _ h => by cases h), S.sub, S.sup, le_grown S.le hg (fun _ h => by cases h), fun p hp => ⟨(S.box p hp).1, keep_box S hg hp (by simp), (S.box p hp).2.2⟩,
    fun q hq => ⟨keep_own S hg hq (by cases h : q.v.ownBlock <;> simp), (S.own q hq).2⟩, S.d1, S.d2, S.d3⟩
theorem St.callq (S : St X W r0 rd bx ow w) (k : Below w.heap.size w w') : St X W r0 rd bx ow w' := S.grown0 (grownBy_none k)
theorem St.drew (S : St X W r0 rd bx ow w) : St X W r0 rd bx ow w.drew := S.callq ⟨rfl, rfl, rfl, Nat.le_refl _, fun _ _ => rfl⟩
theorem le_ext {r : Rd} {w w' : World} (h : Rd.le r (wrd w)) : Rd.le r (ext r w w') := fun b o v e => by
  unfold ext; rw [if_pos (blk_lt (h _ _ _ e))]; exact e
theorem newer_ext {r : Rd} {w w' : World} : Rd.le (newer w' w.heap.size) (ext r w w') := fun b o v e => by
  unfold newer at e; split at e
  · rename_i hb; unfold ext; rw [if_neg (by omega)]; exact e
  · cases e
theorem ext_wrd {r : Rd} {w w' : World} (h : Rd.le r (wrd w)) (k : Below w.heap.size w w') : Rd.le (ext r w w') (wrd w') := fun b o v e => by
  unfold ext at e; split at e
  · rename_i hb; exact (k.cell (p := ⟨b, o, none⟩) hb).trans (h _ _ _ e)
  · exact e
/-- behind a call: what it made is read, too -/
theorem St.call (S : St X W r0 rd bx ow w) (k : Below w.heap.size w w') : St X W r0 (ext rd w w') bx ow w' := by
  have S' := S.callq k
  refine ⟨S'.fr, fun b o v hb e => ?_, Rd.le_trans S.sup (le_ext S.le), ext_wrd S.le k, fun p hp => ⟨(S'.box p hp).1, (S'.box p hp).2.1, fun o => ?_⟩, fun q hq => ⟨(S'.own q hq).1, fun g hg => ⟨((S'.own q hq).2 g hg).1, fun o => ?_⟩⟩, S.d1, S.d2, S.d3⟩
  · have : b < w.heap.size := Nat.lt_of_lt_of_le hb S.base_le
    unfold ext at e; rw [if_pos this] at e
    exact S.sub b o v hb e
  · unfold ext; rw [if_pos (S.lt_box hp)]; exact (S.box p hp).2.2 o
  · unfold ext; rw [if_pos ((S.own q hq).1.lt g hg).2]; exact ((S.own q hq).2 g hg).2 o
theorem grownBy_alloc (w : World) (o : Obj) : w.grownBy (w.alloc o) none := grownBy_none ((Below.refl _ _).alloc (Nat.le_refl _) o)
theorem St.alloc (S : St X W r0 rd bx ow w) (T : TypeId) (cs : Array Value) : St X W r0 rd (bx ++ [(w.heap.size, T, cs)]) ow (w.alloc (.cells cs T)) := by
  have S' := S.grown0 (grownBy_alloc w (.cells cs T))
  refine ⟨S'.fr, S'.sub, S'.sup, S'.le, fun p hp => ?_, S'.own, ?_, S.d2, fun p hp q hq => ?_⟩
  · rcases List.mem_append.1 hp with h | h
    · exact S'.box p h
    · obtain rfl := List.mem_singleton.1 h
      exact ⟨.inl S.base_le, heap_alloc_new w _, fun o => S.free (Nat.le_refl _) o⟩
  · rw [List.pairwise_append]
    refine ⟨S.d1, List.pairwise_singleton _ _, fun p hp q hq => ?_⟩
    obtain rfl := List.mem_singleton.1 hq
    have := S.lt_box hp
    show p.1 ≠ w.heap.size
    omega
  · rcases List.mem_append.1 hp with h | h
    · exact S.d3 p h q hq
    · obtain rfl := List.mem_singleton.1 h
      intro e
      have := ((S.own q hq).1.lt _ e).2
      exact absurd this (Nat.lt_irrefl _)
theorem pairwise_set {α : Type} {R : α → α → Prop} {l : List α} {i : Nat} {x y : α} (h : l.Pairwise R) (hx : l[i]? = some x) (h1 : ∀ z, R x z → R y z) (h2 : ∀ z, R z x → R z y) : (l.set i y).Pairwise R := by
  induction l generalizing i with
  | nil => simp
  | cons a l ih =>
    rw [List.pairwise_cons] at h
    cases i with
    | zero =>
      simp at hx; subst hx
      rw [List.set_cons_zero, List.pairwise_cons]
      exact ⟨fun b hb => h1 _ (h.1 b hb), h.2⟩
    | succ i =>
      rw [List.set_cons_succ, List.pairwise_cons]
      refine ⟨fun b hb => ?_, ih h.2 (by simpa using hx)⟩
      rcases List.mem_or_eq_of_mem_set hb with hb | rfl
      · exact h.1 b hb
      · exact h2 _ (h.1 x (List.mem_of_getElem? (by simpa using hx)))
/-- a block of the call's own is written -/
theorem St.wrote (S : St X W r0 rd bx ow w) {i g : Nat} {T : TypeId} {cs cs' : Array Value} (hi : bx[i]? = some (g, T, cs)) (hg : w.grownBy w' (some g)) (hw : w'.heap[g]? = some (.cells cs' T (0, 0))) :
    St X W r0 rd (bx.set i (g, T, cs')) ow w' := by
  have hm := List.mem_of_getElem? hi
  have hb := S.box _ hm
  refine ⟨S.fr_grown hg (fun k e => by injection e with e; subst e; exact hb.1), S.sub, S.sup, le_grown S.le hg (fun k e => by injection e with e; subst e; exact hb.2.2), fun p hp => ?_, fun q hq => ?_, ?_, S.d2, fun p hp q hq => ?_⟩
  · obtain ⟨j, hj⟩ := List.getElem?_of_mem hp
    rw [List.getElem?_set] at hj
    split at hj
    · split at hj
      · injection hj with hj; subst hj; exact ⟨hb.1, hw, hb.2.2⟩
      · cases hj
    · rename_i hij
      have h := List.mem_of_getElem? hj
      have hne : p.1 ≠ g := by
        have h3 := (List.pairwise_iff_getElem.1 S.d1)
        obtain ⟨hi1, hi2⟩ := List.getElem?_eq_some_iff.1 hi
        obtain ⟨hj1, hj2⟩ := List.getElem?_eq_some_iff.1 hj
        rcases Nat.lt_or_gt_of_ne hij with hlt | hlt
        · have := h3 i j hi1 hj1 hlt; rw [hi2, hj2] at this; exact fun e => this e.symm
        · have := h3 j i hj1 hi1 hlt; rw [hi2, hj2] at this; exact this
      exact ⟨(S.box p h).1, keep_box S hg h (by simp; exact fun e => hne e.symm), (S.box p h).2.2⟩
  · refine ⟨keep_own S hg hq (.inr ?_), (S.own q hq).2⟩
    exact S.d3 _ hm q hq
  · exact pairwise_set S.d1 hi (fun z h => h) (fun z h => h)
  · rcases List.mem_or_eq_of_mem_set hp with h | rfl
    · exact S.d3 p h q hq
    · exact S.d3 _ hm q hq
end
end Go.Proofs.Ytkjknlnhffmkkaa

namespace Go.Proofs.Ytkjknlnhffmkkaa
open Go.RowKit
set_option linter.unusedVariables false

section
variable {X : List Nat} {W w w' : World} {r0 rd : Rd} {bx : List BxE} {ow : List OwE}
theorem le_plus {r : Rd} {w : World} {g : Option Nat} (h : ∀ k, g = some k → ∀ o, r k o = none) : Rd.le r (plus r w g) := fun b o v e => by
  unfold plus; rw [if_neg (fun e2 => by have := h b e2.symm o; rw [e] at this; cases this)]; exact e
theorem plus_wrd {r : Rd} {w : World} {g : Option Nat} (h : Rd.le r (wrd w)) : Rd.le (plus r w g) (wrd w) := fun b o v e => by
  unfold plus at e; split at e
  · exact e
  · exact h _ _ _ e
theorem pairwise_erase {α : Type} {R : α → α → Prop} {l : List α} {i : Nat} (h : l.Pairwise R) : (l.eraseIdx i).Pairwise R := h.sublist (List.eraseIdx_sublist l i)
theorem mem_erase {α : Type} {l : List α} {i : Nat} {x : α} (h : x ∈ l.eraseIdx i) : ∃ j, j ≠ i ∧ l[j]? = some x := by
  obtain ⟨j, hj⟩ := List.getElem?_of_mem h
  rw [List.getElem?_eraseIdx] at hj
  split at hj
  · exact ⟨j, by omega, hj⟩
  · exact ⟨j + 1, by omega, hj⟩
theorem box_ne (S : St X W r0 rd bx ow w) {i j : Nat} {p q : BxE} (hi : bx[i]? = some p) (hj : bx[j]? = some q) (hn : j ≠ i) : q.1 ≠ p.1 := by
  have h3 := (List.pairwise_iff_getElem.1 S.d1)
  obtain ⟨hi1, hi2⟩ := List.getElem?_eq_some_iff.1 hi
  obtain ⟨hj1, hj2⟩ := List.getElem?_eq_some_iff.1 hj
  rcases Nat.lt_or_gt_of_ne hn with hlt | hlt
  · have := h3 j i hj1 hi1 hlt; rw [hi2, hj2] at this; exact this
  · have := h3 i j hi1 hj1 hlt; rw [hi2, hj2] at this; exact fun e => this e.symm
theorem own_ne (S : St X W r0 rd bx ow w) {i j : Nat} {p q : OwE} (hi : ow[i]? = some p) (hj : ow[j]? = some q) (hn : j ≠ i) : q.v.ownBlock = none ∨ q.v.ownBlock ≠ p.v.ownBlock := by
  have h3 := (List.pairwise_iff_getElem.1 S.d2)
  obtain ⟨hi1, hi2⟩ := List.getElem?_eq_some_iff.1 hi
  obtain ⟨hj1, hj2⟩ := List.getElem?_eq_some_iff.1 hj
  rcases Nat.lt_or_gt_of_ne hn with hlt | hlt
  · have := h3 j i hj1 hi1 hlt; rw [hi2, hj2] at this; exact this
  · have := h3 i j hi1 hj1 hlt; rw [hi2, hj2] at this
    rcases this with h | h
    · cases hq : q.v.ownBlock with
      | none => exact .inl rfl
      | some k => exact .inr (by rw [h]; simp)
    · exact .inr fun e => h e.symm
/-- a block of the call's own is only read from here on -/
theorem St.frz (S : St X W r0 rd bx ow w) {i g : Nat} {T : TypeId} {cs : Array Value} (hi : bx[i]? = some (g, T, cs)) (hX : g ∉ X) : St X W r0 (plus rd w (some g)) (bx.eraseIdx i) ow w := by
  have hm := List.mem_of_getElem? hi
  have hb := S.box _ hm
  refine ⟨S.fr, fun b o v hlt e => ?_, Rd.le_trans S.sup (le_plus fun k e => by injection e with e; subst e; exact hb.2.2), plus_wrd S.le, fun p hp => ?_, fun q hq => ⟨(S.own q hq).1, fun k hk => ⟨((S.own q hq).2 k hk).1, fun o => ?_⟩⟩, pairwise_erase S.d1, S.d2, fun p hp => ?_⟩
  · unfold plus at e; split at e
    · rename_i h2; injection h2 with h2; subst h2; exact hb.1.elim (fun h => absurd hlt (by dsimp only at h; omega)) (fun h => absurd h hX)
    · exact S.sub b o v hlt e
  · obtain ⟨j, hn, hj⟩ := mem_erase hp
    have hp' := List.mem_of_getElem? hj
    refine ⟨(S.box p hp').1, (S.box p hp').2.1, fun o => ?_⟩
    unfold plus; rw [if_neg (fun e => box_ne S hi hj hn (by injection e))]; exact (S.box p hp').2.2 o
  · unfold plus; rw [if_neg (fun e => S.d3 _ hm q hq (by rw [hk, e]))]; exact ((S.own q hq).2 k hk).2 o
  · obtain ⟨j, hn, hj⟩ := mem_erase hp
    exact S.d3 p (List.mem_of_getElem? hj)
theorem St.frz_le (S : St X W r0 rd bx ow w) {i g : Nat} {T : TypeId} {cs : Array Value} (hi : bx[i]? = some (g, T, cs)) : Rd.le rd (plus rd w (some g)) := le_plus fun k e => by injection e with e; subst e; exact (S.box _ (List.mem_of_getElem? hi)).2.2
theorem St.frz_sl {α : Type} {size : Nat} {R : CR α} {xs : List α} (S : St X W r0 rd bx ow w) {i g : Nat} {T : TypeId} {cs : Array Value} (hi : bx[i]? = some (g, T, cs)) {n c : Nat} (hn : n = xs.length) (hc : xs.length ≤ c) (hm : c ≤ maxLen)
    (hr : RowR size R (plus rd w (some g)) cs.toList xs) : SliceR size R (plus rd w (some g)) (.slice (some ⟨g, 0, none⟩) n c) xs := by
  subst hn
  refine ⟨_, _, _, rfl, hc, hm, hr, fun _ => ⟨g, 0, rfl, fun j u hu => ?_⟩⟩
  unfold plus; rw [if_pos rfl, Nat.zero_add]
  rw [cell_of_row w g j cs T (0, 0) (S.box _ (List.mem_of_getElem? hi)).2.1]; simpa using hu
/-- a row of the call's own is only read from here on -/
theorem St.frzo (S : St X W r0 rd bx ow w) {i : Nat} {q : OwE} (hi : ow[i]? = some q) (hX : X = []) : St X W r0 (plus rd w q.v.ownBlock) bx (ow.eraseIdx i) w := by
  have hm := List.mem_of_getElem? hi
  have hb := S.own _ hm
  refine ⟨S.fr, fun b o v hlt e => ?_, Rd.le_trans S.sup (le_plus fun k hk => (hb.2 k hk).2), plus_wrd S.le, fun p hp => ⟨(S.box p hp).1, (S.box p hp).2.1, fun o => ?_⟩, fun p hp => ?_, S.d1, pairwise_erase S.d2, fun p hp r hr => ?_⟩
  · unfold plus at e; split at e
    · rename_i h2; exact (hb.2 b h2.symm).1.elim (fun h => absurd hlt (by omega)) (fun h => by subst hX; cases h)
    · exact S.sub b o v hlt e
  · unfold plus; rw [if_neg (fun e => S.d3 p hp q hm e.symm)]; exact (S.box p hp).2.2 o
  · obtain ⟨j, hn, hj⟩ := mem_erase hp
    have hp' := List.mem_of_getElem? hj
    refine ⟨(S.own p hp').1, fun k hk => ⟨((S.own p hp').2 k hk).1, fun o => ?_⟩⟩
    unfold plus
    rw [if_neg (fun e => by
      rcases own_ne S hi hj hn with h | h
      · rw [h] at hk; cases hk
      · exact h (by rw [hk, e]))]
    exact ((S.own p hp').2 k hk).2 o
  · obtain ⟨j, hn, hj⟩ := mem_erase hr
    exact S.d3 p hp r (List.mem_of_getElem? hj)
theorem St.frzo_le (S : St X W r0 rd bx ow w) {i : Nat} {q : OwE} (hi : ow[i]? = some q) : Rd.le rd (plus rd w q.v.ownBlock) := le_plus fun k hk => ((S.own _ (List.mem_of_getElem? hi)).2 k hk).2
theorem St.frzo_sl {α : Type} {size : Nat} {R : CR α} {xs : List α} (S : St X W r0 rd bx ow w) {i : Nat} {q : OwE} (hi : ow[i]? = some q) {v : Value} {n : Nat} (hv : q.v = v) (hn : q.n = n) (he : n = xs.length) (hs : q.size = size)
    (hr : RowR size R (plus rd w v.ownBlock) q.xs xs) : SliceR size R (plus rd w v.ownBlock) v xs := by
  subst hv hn hs
  have hx := (S.own _ (List.mem_of_getElem? hi)).1
  rcases hx.2 with ⟨h1, h2⟩ | ⟨g, cap, cur, h1, _, hh, hc, hm', _⟩
  · rw [h1] at hr ⊢
    have : xs = [] := List.eq_nil_of_length_eq_zero (by omega)
    subst this
    exact SliceR.nil_ _
  · rw [h1] at hr ⊢
    refine ⟨some ⟨g, 0, none⟩, cap, q.xs, by rw [he], by omega, hm', hr, fun _ => ⟨g, 0, rfl, fun j u hu => ?_⟩⟩
    rw [h1] at hx
    have := hx.cells (g := g) rfl j u hu
    rw [Addr.add_mid, Nat.zero_add] at this
    unfold plus
    rw [if_pos (by rfl), Nat.zero_add]
    exact this
/-- a row to let grow -/
theorem St.ownNil (S : St X W r0 rd bx ow w) (e : TypeId) (size : Nat) : St X W r0 rd bx (ow ++ [⟨e, size, .slice none 0 0, 0, []⟩]) w := by
  refine ⟨S.fr, S.sub, S.sup, S.le, S.box, fun q hq => ?_, S.d1, ?_, fun p hp q hq => ?_⟩
  · rcases List.mem_append.1 hq with h | h
    · exact S.own q h
    · obtain rfl := List.mem_singleton.1 h
      exact ⟨World.ownsRow_nil w _ e size, fun g hg => by cases hg⟩
  · rw [List.pairwise_append]
    refine ⟨S.d2, List.pairwise_singleton _ _, fun p hp q hq => ?_⟩
    obtain rfl := List.mem_singleton.1 hq
    cases h : p.v.ownBlock with
    | none => exact .inl rfl
    | some k => exact .inr (by simp [Value.ownBlock])
  · rcases List.mem_append.1 hq with h | h
    · exact S.d3 p hp q h
    · obtain rfl := List.mem_singleton.1 h
      simp [Value.ownBlock]
/-- a row of the call's own has grown, or was written -/
theorem St.grew (S : St X W r0 rd bx ow w) {i : Nat} {q q' : OwE} (hi : ow[i]? = some q) (hg : w.grownBy w' q.v.ownBlock) (hq : w'.ownsRow 0 q'.e q'.size q'.v q'.n q'.xs)
    (h' : q'.v.ownBlock = q.v.ownBlock ∨ q'.v.ownBlock = some w.heap.size) : St X W r0 rd bx (ow.set i q') w' := by
  have hm := List.mem_of_getElem? hi
  have hb := S.own _ hm
  have hfree : ∀ g, q'.v.ownBlock = some g → (W.heap.size ≤ g ∨ g ∈ X) ∧ ∀ o, rd g o = none := fun g e => by
    rcases h' with h | h
    · exact hb.2 g (h ▸ e)
    · rw [h] at e; injection e with e; subst e; exact ⟨.inl S.base_le, fun o => S.free (Nat.le_refl _) o⟩
  refine ⟨S.fr_grown hg (fun k e => (hb.2 k e).1), S.sub, S.sup, le_grown S.le hg (fun k hk => (hb.2 k hk).2), fun p hp => ⟨(S.box p hp).1, keep_box S hg hp (S.d3 p hp q hm), (S.box p hp).2.2⟩, fun p hp => ?_, S.d1, ?_, fun p hp r hr => ?_⟩
  · obtain ⟨j, hj⟩ := List.getElem?_of_mem hp
    rw [List.getElem?_set] at hj
    split at hj
    · split at hj
      · injection hj with hj; subst hj; exact ⟨hq, hfree⟩
      · cases hj
    · rename_i hij
      exact ⟨keep_own S hg (List.mem_of_getElem? hj) (own_ne S hi hj (fun e => hij e.symm)), (S.own p (List.mem_of_getElem? hj)).2⟩
  · rw [List.pairwise_iff_getElem]
    intro a b ha hb' hab
    rw [List.length_set] at ha hb'
    have h3 := (List.pairwise_iff_getElem.1 S.d2)
    have key : ∀ p : OwE, p ∈ ow → (p.v.ownBlock = none ∨ p.v.ownBlock ≠ q.v.ownBlock) → p.v.ownBlock = none ∨ p.v.ownBlock ≠ q'.v.ownBlock := fun p hp h => by
      rcases h with h | h
      · exact .inl h
      · rcases h' with e | e
        · exact .inr (by rw [e]; exact h)
        · cases hpb : p.v.ownBlock with
          | none => exact .inl rfl
          | some k => exact .inr (by rw [e]; intro e2; injection e2 with e2; have := ((S.own p hp).1.lt k hpb).2; omega)
    rw [List.getElem_set, List.getElem_set]
    split
    · rename_i e1
      rw [if_neg (by omega)]
      have e2 : ow[i]? = some ow[a] := by rw [e1]; exact List.getElem?_eq_getElem ha
      rw [hi] at e2; injection e2 with e2
      have h4 : ow[b].v.ownBlock = none ∨ ow[b].v.ownBlock ≠ q.v.ownBlock := own_ne S hi (List.getElem?_eq_getElem hb') (by omega)
      rcases key _ (List.getElem_mem hb') h4 with h | h
      · cases hq2 : q'.v.ownBlock with
        | none => exact .inl rfl
        | some k => exact .inr (by rw [h]; simp)
      · exact .inr fun e => h e.symm
    · split
      · exact key _ (List.getElem_mem ha) (own_ne S hi (List.getElem?_eq_getElem ha) (by omega))
      · exact h3 a b ha hb' hab
  · obtain ⟨j, hj⟩ := List.getElem?_of_mem hr
    rw [List.getElem?_set] at hj
    split at hj
    · split at hj
      · injection hj with hj; subst hj
        rcases h' with h | h
        · rw [h]; exact S.d3 p hp q hm
        · rw [h]; intro e; injection e with e; have := S.lt_box hp; omega
      · cases hj
    · exact S.d3 p hp r (List.mem_of_getElem? hj)
end
end Go.Proofs.Ytkjknlnhffmkkaa

namespace Go.Proofs.Ytkjknlnhffmkkaa
variable {ds : List Deferred}
open Go.RowKit
set_option linter.unusedVariables false

/-- a type of one cell; a struct of k cells -/
structure Ty1 (P : Program) (t : TypeId) : Prop where
  a : ∀ w, (isAgg t).run P w = .ok false w
  s : ∀ w, (sizeOf t).run P w = .ok 1 w
structure TyA (P : Program) (t : TypeId) (k : Nat) : Prop where
  a : ∀ w, (isAgg t).run P w = .ok true w
  s : ∀ w, (sizeOf t).run P w = .ok k w
/-- the cells behind a pointer -/
def PtrC (rd : Rd) (p : Value) (cs : List Value) : Prop := ∃ b o, p = .pointer (some ⟨b, o, none⟩) ∧ ∀ j u, cs[j]? = some u → rd b (o + j) = some u
theorem PtrC.mono {rd rd' : Rd} {p : Value} {cs : List Value} (h : PtrC rd p cs) (hle : Rd.le rd rd') : PtrC rd' p cs := by
  obtain ⟨b, o, e, h⟩ := h
  exact ⟨b, o, e, fun j u hu => hle _ _ _ (h j u hu)⟩
def Ld (P : Program) (w : World) (t : TypeId) (p v : Value) : Prop := (Instr.loadAt t p).run P w = .ok v w
section
variable {P : Program} {X : List Nat} {W w w' : World} {r0 rd : Rd} {bx : List BxE} {ow : List OwE} {C : World → Prop} {e : Operand → Value} {d : Option Tmp} {t ty : TypeId} {pos : String} {af : Array Edge} {gd : Option (Nat × Bool)} {v p : Value} {x y : Operand} {g i j : Nat} {T : TypeId} {cs : Array Value}
theorem ld_1 {a : Addr} (ht : Ty1 P t) (hc : w.cell? a = some v) : Ld P w t (.pointer (some a)) v := by
  unfold Ld Instr.loadAt Instr.sureAddr loadVar
  simp [Sem.run_bind, ht.a, hc]
theorem ld_A {b o k : Nat} {vs : List Value} (ht : TyA P t k) (hk : vs.length = k) (hc : ∀ j u, vs[j]? = some u → w.cell? ⟨b, o + j, none⟩ = some u) : Ld P w t (.pointer (some ⟨b, o, none⟩)) (.agg vs.toArray) := by
  subst hk
  have hl : (loadCells ⟨b, o, none⟩ vs.length).run P w = .ok vs.toArray w :=
    run_loadCells_list (P := P) w ⟨b, o, none⟩ vs (fun j v hv => by rw [Addr.add_mid]; exact hc j v hv)
  unfold Ld Instr.loadAt Instr.sureAddr loadVar
  simp [Sem.run_bind, ht.a, ht.s, hl]
theorem St.cell (S : St X W r0 rd bx ow w) (hi : bx[i]? = some (g, T, cs)) (j : Nat) : w.cell? ⟨g, j, none⟩ = cs[j]? := cell_of_row w g j cs T (0, 0) (S.box _ (List.mem_of_getElem? hi)).2.1
theorem ld_b1 (S : St X W r0 rd bx ow w) (hi : bx[i]? = some (g, T, cs)) (hj : cs[j]? = some v) (ht : Ty1 P t) : Ld P w t (.pointer (some ⟨g, j, none⟩)) v := ld_1 ht (by rw [S.cell hi]; exact hj)
theorem ld_bA {k : Nat} {vs : List Value} (S : St X W r0 rd bx ow w) (hi : bx[i]? = some (g, T, cs)) (ht : TyA P t k) (hk : vs.length = k) (hv : (cs.toList.drop j).take k = vs) : Ld P w t (.pointer (some ⟨g, j, none⟩)) (.agg vs.toArray) :=
  ld_A ht hk fun j' u hu => by
    rw [S.cell hi]
    rw [← hv, List.getElem?_take] at hu
    split at hu
    · rw [List.getElem?_drop] at hu; simpa using hu
    · cases hu
theorem ld_p1 {vs : List Value} (hle : Rd.le rd (wrd w)) (h : PtrC rd p vs) (hj : vs[0]? = some v) (ht : Ty1 P t) : Ld P w t p v := by
  obtain ⟨b, o, rfl, hc⟩ := h
  exact ld_1 ht (hle _ _ _ (hc 0 v hj))
theorem y_ld (hx : e x = p) (h : ∀ w, C w → Ld P w t p v) : Yv P C e ⟨d, .load t x, ty, pos, af, gd⟩ v := fun w S => by
  have := h w S
  unfold Ld at this
  simp [execOp, hx, this]
/-- field addresses -/
def FaOk (P : Program) (s : TypeId) (f off : Nat) : Prop := ∀ w b o, (Instr.fieldAt s (.pointer (some ⟨b, o, none⟩)) f).run P w = .ok (.pointer (some ⟨b, o + off, none⟩)) w
theorem faOk {s : TypeId} {f off k : Nat} {fs : Array Field} {fd : Field} (hu : P.underlying s = some (.struct fs)) (hf : fs[f]? = some fd) (hs : ∀ w, (sizeOf fd.type).run P w = .ok k w) (hk : k ≠ 0) (ho : fd.offset = off) : FaOk P s f off := fun w b o => by
  subst ho
  simp [Instr.fieldAt, run_underlying hu, hf, Instr.sureAddr, fieldPlace, hs, hk, Addr.add_mid]
theorem y_fb {s : TypeId} {f off : Nat} {o o' : Nat} (F : FaOk P s f off) (hx : e x = .pointer (some ⟨g, o, none⟩)) (ho : o + off = o') : Yv P C e ⟨d, .fieldAddr s x f, ty, pos, af, gd⟩ (.pointer (some ⟨g, o', none⟩)) := fun w _ => by
  subst ho; simp [execOp, hx, F w]
/-- an element's address -/
theorem y_ia {α : Type} {size n c k : Nat} {R : CR α} {l : List α} {A : Option Addr} {el : TypeId} {z : α} (hu : P.underlying t = some (.slice el)) (hs : ∀ w, (sizeOf el).run P w = .ok size w) (h : SliceR size R rd (.slice A n c) l) (hk : l[k]? = some z) :
    ∃ p vs, PtrC rd p vs ∧ vs.length = size ∧ R rd vs z ∧ ∀ {C : World → Prop} {e : Operand → Value} {d : Option Tmp} {ty : TypeId} {pos : String} {af : Array Edge} {gd : Option (Nat × Bool)} {x y : Operand} {kk : IntKind} {q : Int}, e x = .slice A n c → e y = .int kk q → q = k → Yv P C e ⟨d, .indexAddr t x y, ty, pos, af, gd⟩ p := by
  obtain ⟨b, o, cs, rfl, h1, h2, h3⟩ := h.get hk
  have hn := h.len.1
  have hlt := (List.getElem?_eq_some_iff.1 hk).1
  refine ⟨.pointer (some ⟨b, o + k * size, none⟩), cs, ⟨b, o + k * size, rfl, h3⟩, h1, h2, fun hx hy hq w _ => ?_⟩
  subst hq
  simp [execOp, hx, hy, Instr.indexAt, asIntOf, run_underlying hu, hs, show k < n by omega, Addr.add_mid]
/-- slicing what is read -/
theorem y_sl {α : Type} {size n c lo hi : Nat} {R : CR α} {l : List α} {A : Option Addr} {el : TypeId} (hu : P.underlying t = some (.slice el)) (hs : ∀ w, (sizeOf el).run P w = .ok size w) (h : SliceR size R rd (.slice A n c) l) (h1 : lo ≤ hi) (h2 : hi ≤ l.length) :
    ∃ A' c', SliceR size R rd (.slice A' (hi - lo) c') ((l.take hi).drop lo) ∧ ∀ {C : World → Prop} {e : Operand → Value} {d : Option Tmp} {ty : TypeId} {pos : String} {af : Array Edge} {gd : Option (Nat × Bool)} {x : Operand} {ol oh : Option Operand}, e x = .slice A n c →
      (ol = none ∧ lo = 0 ∨ ∃ y k q, ol = some y ∧ e y = .int k q ∧ q = lo) → (oh = none ∧ hi = n ∨ ∃ y k q, oh = some y ∧ e y = .int k q ∧ q = hi) → Yv P C e ⟨d, .slice t x ol oh none, ty, pos, af, gd⟩ (.slice A' (hi - lo) c') := by
  have hl := h.len
  refine ⟨if c = lo then A else A.map (·.add (lo * size)), c - lo, ?_, fun {C e d ty pos af gd x ol oh} hx hol hoh w _ => ?_⟩
  · have hh := SliceR.head_ h h2
    have hk : lo ≤ (l.take hi).length := by simp; omega
    split
    · rename_i e
      have e1 : (l.take hi).drop lo = [] := List.drop_eq_nil_of_le (by simp; omega)
      rw [e1, show hi - lo = 0 by omega]
      exact SliceR.empty_ _ _ _ (by omega)
    · cases A with
      | none =>
        have := SliceR.nil_of hh
        rw [this]
        have h0 : min hi l.length = 0 := by rw [← List.length_take, this]; rfl
        rw [show hi - lo = 0 by omega]
        simpa using SliceR.empty_ rd none (c - lo) (by omega)
      | some ad => exact SliceR.cutA hh hk
  · have e2 : (Instr.sliceBounds true n c (ol.map e) (oh.map e) none).run P w = .ok (lo, hi, c) w := by
      unfold Instr.sliceBounds
      rcases hol with ⟨rfl, rfl⟩ | ⟨y, k, q, rfl, hy, rfl⟩ <;> rcases hoh with ⟨rfl, rfl⟩ | ⟨y', k', q', rfl, hy', rfl⟩
      · simp
      · simp [hy', Instr.sliceBound, asIntOf, show hi ≤ c by omega]
      · simp [hy, Instr.sliceBound, asIntOf, h1]
      · simp [hy, hy', Instr.sliceBound, asIntOf, show hi ≤ c by omega, h1]
    simp [execOp, hx, Instr.sliceAt, Instr.slice, run_underlying hu, e2, hs]
/-- values built, converted, compared by their own run -/
theorem y_bd {parts : Array (Nat × Operand)} {ps : List (Nat × Value)} (h : parts.toList.map (fun q => (q.1, e q.2)) = ps) (hb : ∀ w, (Instr.build t ps.toArray).run P w = .ok v w) : Yv P C e ⟨d, .build t parts, ty, pos, af, gd⟩ v := fun w _ => by
  have h' : (parts.map fun (i, x) => (i, e x)) = ps.toArray := amap h
  simp only [execOp]
  rw [h', Sem.run_bind, hb w]
  rfl
theorem y_cv {s : TypeId} {u : Value} (h : e x = u) (hb : ∀ w, (convert s t u).run P w = .ok v w) : Yv P C e ⟨d, .convert s t x, ty, pos, af, gd⟩ v := fun w _ => by
  subst h; simp [execOp, hb w]
end
/-! ## steps that turn the world -/
section
variable {P : Program} {Q : Exit → Act → World → Prop} {X : List Nat} {W w w' : World} {r0 rd : Rd} {bx : List BxE} {ow : List OwE} {n d : Nat} {l : Ov} {t ty : TypeId} {pos : String} {af : Array Edge} {v p : Value} {x y : Operand} {g i j : Nat} {T : TypeId} {cs cs' : Array Value} {rest : List Oper} {ops : Array Oper}
theorem l_al {z : Value} (S : St X W r0 rd bx ow w) (hz : ∀ w, (zeroValue T).run P w = .ok z w) (hc : z.cells = cs)
    (h : ∀ g w', St X W r0 rd (bx ++ [(g, T, cs)]) ow w' → WL P ops Q rest (fd ds n ((d, (.pointer (some ⟨g, 0, none⟩))) :: l)) w') : WL P ops Q (⟨some d, .alloc T, ty, pos, af, none⟩ :: rest) (fd ds n l) w := by
  subst hc
  exact l_t (.inl (by simp [execOp, Instr.alloc, hz, newVar, newRow])) (h _ _ (S.alloc T z.cells))
theorem l_bx {u : Value} (S : St X W r0 rd bx ow w) (hx : ev n l x = u) (hc : u.cells = cs)
    (h : ∀ g w', St X W r0 rd (bx ++ [(g, T, cs)]) ow w' → WL P ops Q rest (fd ds n ((d, (.pointer (some ⟨g, 0, none⟩))) :: l)) w') : WL P ops Q (⟨some d, .box T x, ty, pos, af, none⟩ :: rest) (fd ds n l) w := by
  subst hc hx
  exact l_t (.inl (by simp [execOp, Instr.box, newVar, newRow])) (h _ _ (S.alloc T _))
theorem l_bs {el : TypeId} {len size : Nat} {z : Value} {parts : Array (Nat × Operand)} {ps : List (Nat × Value)} (S : St X W r0 rd bx ow w) (hu : P.underlying t = some (.slice el)) (hs : ∀ w, (sizeOf el).run P w = .ok size w) (hz : ∀ w, (zeroValue el).run P w = .ok z w)
    (hp : parts.toList.map (fun q => (q.1, ev n l q.2)) = ps) (hl : Nat.blt (2 ^ 24) (len * size) = false) (hl0 : Nat.beq (len * size) 0 = false)
    (hf : Instr.fill (fun i => some (i * size, size)) ((Array.range (len * size)).map (z.cells[· % z.cells.size]!)) ps = some cs)
    (h : ∀ g w', St X W r0 rd (bx ++ [(g, el, cs)]) ow w' → WL P ops Q rest (fd ds n ((d, (.slice (some ⟨g, 0, none⟩) len len)) :: l)) w') : WL P ops Q (⟨some d, .buildSlice t len parts, ty, pos, af, none⟩ :: rest) (fd ds n l) w := by
  have h1 : ¬ len * size > 2 ^ 24 := fun hgt => by
    have : Nat.blt (2 ^ 24) (len * size) = true := Nat.ble_eq_true_of_le hgt
    rw [this] at hl; cases hl
  have h2 : ¬ len * size = 0 := fun he => by rw [he] at hl0; cases hl0
  have hrun : (Instr.buildSlice t len ps.toArray).run P w = .ok (.slice (some ⟨w.heap.size, 0, none⟩) len len) (w.alloc (.cells cs el)) := by
    unfold Instr.buildSlice
    rw [Sem.run_bind, run_underlying hu]
    simp only [Result.andThen_ok, Sem.run_bind, hs]
    rw [if_neg h1, if_neg h2]
    simp only [Sem.run_bind, Sem.run_pure, Result.andThen_ok, hz]
    split
    · rename_i cells hc
      rw [hc] at hf; injection hf with hf; subst hf
      simp [newRow]
    · rename_i hn
      exact absurd hf (by intro hf; exact hn _ hf)
  refine l_t (.inl ?_) (h _ _ (S.alloc el cs))
  have hp' : (parts.map fun (i, x) => (i, ev n l x)) = ps.toArray := amap hp
  simp only [execOp]
  rw [hp', Sem.run_bind, hrun]
  rfl
theorem l_bs0 {el : TypeId} {size : Nat} (S : St X W r0 rd bx ow w) (hu : P.underlying t = some (.slice el)) (hs : ∀ w, (sizeOf el).run P w = .ok size w)
    (h : ∀ g w', St X W r0 rd (bx ++ [(g, el, #[])]) ow w' → WL P ops Q rest (fd ds n ((d, (.slice (some ⟨g, 0, none⟩) 0 0)) :: l)) w') : WL P ops Q (⟨some d, .buildSlice t 0 #[], ty, pos, af, none⟩ :: rest) (fd ds n l) w := by
  refine l_t (.inl ?_) (h _ _ (S.alloc el #[]))
  have hrun : (Instr.buildSlice t 0 #[]).run P w = .ok (.slice (some ⟨w.heap.size, 0, none⟩) 0 0) (w.alloc (.cells #[] el)) := by
    unfold Instr.buildSlice
    rw [Sem.run_bind, run_underlying hu]
    simp [hs, Instr.fill, newRow]
    rw [show Array.range 0 = (#[] : Array Nat) from by simp, Array.map_empty]
  simp only [execOp, Array.map_empty]
  rw [Sem.run_bind, hrun]
  rfl
/-- a store into a block of the call's own -/
def over (cs : Array Value) (j : Nat) (vs : List Value) : Array Value := (cs.toList.take j ++ vs ++ cs.toList.drop (j + vs.length)).toArray
theorem grownBy_setRow (w : World) (g : Nat) (cs : Array Value) : w.grownBy (w.setRow g cs) (some g) := by
  refine ⟨rfl, rfl, rfl, by simp [World.setRow], fun k _ hk => ?_⟩
  simp only [World.setRow, Array.getElem?_modify]
  rw [if_neg (fun e => hk (by rw [e]))]
theorem run_storeAt {u : Value} (hg : w.heap[g]? = some (.cells cs T (0, 0))) (hs : ∀ w, (sizeOf t).run P w = .ok u.cells.size w) (hj : Nat.ble (j + u.cells.size) cs.size = true) (h1 : ∀ c ∈ u.cells, c.oneCell' = true) :
    (Instr.storeAt t (.pointer (some ⟨g, j, none⟩)) u).run P w = .ok () (w.setRow g (over cs j u.cells.toList)) := by
  have h2 := run_storeCells_at (P := P) g j T u.cells.toList 0 cs w hg (by simpa using Nat.le_of_ble_eq_true hj) (fun v hv => h1 v (by simpa using hv))
  simp only [Nat.add_zero] at h2
  simp only [Instr.storeAt, Instr.sureAddr, storeVar, Sem.run_bind, Sem.run_pure, Result.andThen_ok, hs, ne_eq, not_true_eq_false, if_false, h2]
  rfl
theorem l_st {u : Value} (S : St X W r0 rd bx ow w) (hx : ev n l x = .pointer (some ⟨g, j, none⟩)) (hy : ev n l y = u) (hi : bx[i]? = some (g, T, cs)) (hs : ∀ w, (sizeOf t).run P w = .ok u.cells.size w) (hj : Nat.ble (j + u.cells.size) cs.size = true)
    (h1 : u.cells.toList.all Value.oneCell' = true) (ho : over cs j u.cells.toList = cs') (h : ∀ w', St X W r0 rd (bx.set i (g, T, cs')) ow w' → WL P ops Q rest (fd ds n l) w') : WL P ops Q (⟨none, .store t x y, ty, pos, af, none⟩ :: rest) (fd ds n l) w := by
  subst ho
  have hg := (S.box _ (List.mem_of_getElem? hi)).2.1
  have hr := run_storeAt (P := P) (t := t) hg hs hj (fun c hc => List.all_eq_true.1 h1 c (by simpa using hc))
  refine l_tn (w' := w.setRow g (over cs j u.cells.toList)) (.inr ⟨rfl, ?_⟩) (h _ (S.wrote hi (grownBy_setRow w g _) (setRow_heap w g cs _ T _ hg)))
  simp [execOp, hx, hy, hr]
/-- append onto a row of the call's own: what lies in a block of its own -/
theorem l_ap {e' : TypeId} {bytes m c size : Nat} {q : OwE} {s : Operand} (S : St X W r0 rd bx ow w) (K : ElemOk P t q.e size bytes) (hi : ow[i]? = some q) (hsz : q.size = size) (hs : ev n l s = q.v) (hx : ev n l x = .slice (some ⟨g, 0, none⟩) m c) {i' : Nat} (hb : bx[i']? = some (g, T, cs))
    (hm : cs.size = m * size) (h1 : cs.toList.all Value.oneCell' = true) (hlen : q.n + m ≤ maxLen) (hby : (q.n + m) * bytes ≤ 140737488355328)
    (h : ∀ v' w', St X W r0 rd bx (ow.set i ⟨q.e, size, v', q.n + m, q.xs ++ cs.toList⟩) w' → WL P ops Q rest (fd ds n ((d, v') :: l)) w') : WL P ops Q (⟨some d, .call ⟨.builtin .append, #[s, x], #[t, t]⟩, ty, pos, af, none⟩ :: rest) (fd ds n l) w := by
  subst hsz
  obtain ⟨inf, z, ht, hin, hz, hsize, hbyt, hzs, hsz⟩ := K.ex
  obtain ⟨v', w', hrun, h2, h3, _, h4⟩ := run_append_own_at (P := P) w 0 t ty q.e inf z q.size bytes ht hin hz hsize hbyt hzs hsz q.v q.n q.xs (S.own _ (List.mem_of_getElem? hi)).1 ⟨g, 0, none⟩ m c cs.toList (by simpa using hm)
    (fun j u hu => by rw [Addr.add_mid, Nat.zero_add, S.cell hb]; simpa using hu) (fun u hu => List.all_eq_true.1 h1 u hu) hlen hby (Nat.zero_le _)
  refine l_t (.inl ?_) (h v' w' (S.grew (q' := ⟨q.e, q.size, v', q.n + m, q.xs ++ cs.toList⟩) hi h3 h2 h4))
  simp [execOp, resolve, invoke, builtin, hs, hx, hrun]
/-- append of a slice that is read -/
theorem l_apS {α : Type} {R : CR α} {bytes size : Nat} {q : OwE} {s : Operand} {u : Value} {ys : List α} {t' e' : TypeId} (S : St X W r0 rd bx ow w) (K : ElemOk P t q.e size bytes) (ht' : P.underlying t' = some (.slice e')) (hone : OneR R) (hi : ow[i]? = some q) (hsz : q.size = size) (hs : ev n l s = q.v) (hx : ev n l x = u) (hu : SliceR size R rd u ys)
    (hlen : q.n + ys.length ≤ maxLen) (hby : (q.n + ys.length) * bytes ≤ 140737488355328)
    (h : ∀ v' w' us, RowR size R rd us ys → St X W r0 rd bx (ow.set i ⟨q.e, size, v', q.n + ys.length, q.xs ++ us⟩) w' → WL P ops Q rest (fd ds n ((d, v') :: l)) w') : WL P ops Q (⟨some d, .call ⟨.builtin .append, #[s, x], #[t, t']⟩, ty, pos, af, none⟩ :: rest) (fd ds n l) w := by
  subst hsz
  have hb := (S.own _ (List.mem_of_getElem? hi)).1
  obtain ⟨A, cq, ev', _⟩ : ∃ A cq, q.v = .slice A q.n cq ∧ True := by
    rcases hb.2 with ⟨h1, h2⟩ | ⟨g, cap, cur, h1, _⟩
    · exact ⟨none, 0, by rw [h1, h2], trivial⟩
    · exact ⟨_, cap, h1, trivial⟩
  have K' := K
  obtain ⟨inf, z, ht, hin, hz, hsize, hbyt, hzs, hsz⟩ := K.ex
  obtain ⟨A2, c2, us, rfl, hc1, hc2, hys, hcell⟩ := hu
  have hrun : ∃ v' w', (Builtin.append_ #[t, t] ty #[q.v, .slice A2 ys.length c2]).run P w = .ok v' w' ∧ w'.ownsRow 0 q.e q.size v' (q.n + ys.length) (q.xs ++ us) ∧ w.grownBy w' q.v.ownBlock ∧ (v'.ownBlock = q.v.ownBlock ∨ v'.ownBlock = some w.heap.size) := by
    rcases ys with _ | ⟨y0, ys⟩
    · have hu0 : us = [] := by simpa [RowR] using hys
      subst hu0
      rcases A2 with _ | ad
      · exact ⟨q.v, w, run_append_of_nil w 0 t ty q.e inf q.size ht hin q.v q.n q.xs hb c2, by simpa using hb, World.grownBy.refl w _, .inl rfl⟩
      · obtain ⟨v', w', hrun, h2, h3, _, h4⟩ := run_append_own_at (P := P) w 0 t ty q.e inf z q.size bytes ht hin hz hsize hbyt hzs hsz q.v q.n q.xs hb ad 0 c2 [] (by simp) (by simp) (by simp) (by simpa using hlen) (by simpa using hby) (Nat.zero_le _)
        exact ⟨v', w', hrun, h2, h3, h4⟩
    · obtain ⟨b, o, rfl, hcl⟩ := hcell (by simp)
      obtain ⟨v', w', hrun, h2, h3, _, h4⟩ := run_append_own_at (P := P) w 0 t ty q.e inf z q.size bytes ht hin hz hsize hbyt hzs hsz q.v q.n q.xs hb ⟨b, o, none⟩ (y0 :: ys).length c2 us hys.len
        (fun j u hu => by rw [Addr.add_mid]; exact S.le _ _ _ (hcl j u hu)) (hys.one_ hone) hlen hby (Nat.zero_le _)
      exact ⟨v', w', hrun, h2, h3, h4⟩
  obtain ⟨v', w', hrun, h2, h3, h4⟩ := hrun
  rw [ev', ← append_types w ht ht' hin, ← ev'] at hrun
  refine l_t (.inl ?_) (h v' w' us hys (S.grew (q' := ⟨q.e, q.size, v', q.n + ys.length, q.xs ++ us⟩) hi h3 h2 h4))
  simp [execOp, resolve, invoke, builtin, hs, hx, hrun]
end
/-! ## results -/
section
variable {P : Program} {X : List Nat} {W w : World} {r0 rd : Rd} {bx : List BxE} {ow : List OwE} {n : Nat} {l : Ov} {fn : Func} {R : Ending → World → Prop}
def RV (P : Program) (n : Nat) (l : Ov) (w : World) : ResultVar → Value → Prop
  | .tmp t, v => lk n l t = v
  | .cell a t, v => ∃ ad, lk n l a = .pointer (some ad) ∧ Ld P w t (.pointer (some ad)) v
theorem rv_t {t : Tmp} {v : Value} (h : RV P n l w (.tmp t) v) : (bld n l)[t]?.getD undef = v := by
  have := bld_get n l t
  rw [Array.getD_eq_getD_getElem?] at this
  rw [this]; exact h
theorem rv_c {a : Tmp} {t : TypeId} {v : Value} (h : RV P n l w (.cell a t) v) : ∃ ad, (bld n l)[a]?.getD undef = .pointer (some ad) ∧ (loadVar t ad).run P w = .ok v w := by
  obtain ⟨ad, h1, h2⟩ := h
  have := bld_get n l a
  rw [Array.getD_eq_getD_getElem?, h1] at this
  refine ⟨ad, this, ?_⟩
  unfold Ld Instr.loadAt Instr.sureAddr at h2
  simpa using h2
theorem ret1 {r : ResultVar} {v : Value} (hr : fn.results = #[r]) (h : RV P n l w r v) (hR : R (.returned v) w) : bodyPost P fn R .ret (fr n l) w := by
  refine ⟨rfl, _, ?_, hR⟩
  unfold results
  rw [hr]
  cases r with
  | tmp t0 =>
    have k0 := rv_t h; clear h
    simp_all [fr, fd, asAddr]
  | cell a0 t0 =>
    obtain ⟨ad0, k0, m0⟩ := rv_c h; clear h
    simp_all [fr, fd, asAddr]
theorem ret2 {r r' : ResultVar} {v v' : Value} (hr : fn.results = #[r, r']) (h : RV P n l w r v) (h' : RV P n l w r' v') (hR : R (.returned (.tuple #[v, v'])) w) : bodyPost P fn R .ret (fr n l) w := by
  refine ⟨rfl, _, ?_, hR⟩
  unfold results
  rw [hr]
  cases r with
  | tmp t0 =>
    have k0 := rv_t h; clear h
    cases r' with
    | tmp t1 =>
      have k1 := rv_t h'; clear h'
      simp_all [fr, fd, asAddr]
    | cell a1 t1 =>
      obtain ⟨ad1, k1, m1⟩ := rv_c h'; clear h'
      simp_all [fr, fd, asAddr]
  | cell a0 t0 =>
    obtain ⟨ad0, k0, m0⟩ := rv_c h; clear h
    cases r' with
    | tmp t1 =>
      have k1 := rv_t h'; clear h'
      simp_all [fr, fd, asAddr]
    | cell a1 t1 =>
      obtain ⟨ad1, k1, m1⟩ := rv_c h'; clear h'
      simp_all [fr, fd, asAddr]
theorem res3 {r r' r'' : ResultVar} {v v' v'' : Value} (hr : fn.results = #[r, r', r'']) (h : RV P n l w r v) (h' : RV P n l w r' v') (h'' : RV P n l w r'' v'') : (results fn (bld n l)).run P w = .ok (.tuple #[v, v', v'']) w := by
  unfold results
  rw [hr]
  cases r with
  | tmp t0 =>
    have k0 := rv_t h; clear h
    cases r' with
    | tmp t1 =>
      have k1 := rv_t h'; clear h'
      cases r'' with
      | tmp t2 =>
        have k2 := rv_t h''; clear h''
        simp_all [fr, fd, asAddr]
      | cell a2 t2 =>
        obtain ⟨ad2, k2, m2⟩ := rv_c h''; clear h''
        simp_all [fr, fd, asAddr]
    | cell a1 t1 =>
      obtain ⟨ad1, k1, m1⟩ := rv_c h'; clear h'
      cases r'' with
      | tmp t2 =>
        have k2 := rv_t h''; clear h''
        simp_all [fr, fd, asAddr]
      | cell a2 t2 =>
        obtain ⟨ad2, k2, m2⟩ := rv_c h''; clear h''
        simp_all [fr, fd, asAddr]
  | cell a0 t0 =>
    obtain ⟨ad0, k0, m0⟩ := rv_c h; clear h
    cases r' with
    | tmp t1 =>
      have k1 := rv_t h'; clear h'
      cases r'' with
      | tmp t2 =>
        have k2 := rv_t h''; clear h''
        simp_all [fr, fd, asAddr]
      | cell a2 t2 =>
        obtain ⟨ad2, k2, m2⟩ := rv_c h''; clear h''
        simp_all [fr, fd, asAddr]
    | cell a1 t1 =>
      obtain ⟨ad1, k1, m1⟩ := rv_c h'; clear h'
      cases r'' with
      | tmp t2 =>
        have k2 := rv_t h''; clear h''
        simp_all [fr, fd, asAddr]
      | cell a2 t2 =>
        obtain ⟨ad2, k2, m2⟩ := rv_c h''; clear h''
        simp_all [fr, fd, asAddr]
end
end Go.Proofs.Ytkjknlnhffmkkaa

namespace Go.Proofs.Ytkjknlnhffmkkaa
variable {ds : List Deferred}
open Go.RowKit
set_option linter.unusedVariables false
section
variable {P : Program} {Q : Exit → Act → World → Prop} {s : List Kf} {X : List Nat} {W w w' : World} {r0 rd : Rd} {bx bx' : List BxE} {ow ow' : List OwE} {n : Nat} {l m : Ov} {c : Code}
theorem e_trim (m : Ov) (h : Agree n l m) (k : ∀ j, c.wp P (stk P Q s) (fd ds n (m ++ j)) w) : c.wp P (stk P Q s) (fd ds n l) w := by rw [fr_keep h]; exact k l
theorem St.call' (S : St X W r0 rd bx ow w) (k : Below w.heap.size w w') : ∃ rd', St X W r0 rd' bx ow w' ∧ Rd.le rd rd' ∧ Rd.le (newer w' w.heap.size) rd' ∧ Rd.le (ext rd w w') rd' :=
  ⟨_, S.call k, le_ext S.le, newer_ext, Rd.le_refl _⟩
theorem St.frz' (S : St X W r0 rd bx ow w) {i g : Nat} {T : TypeId} {cs : Array Value} (hi : bx[i]? = some (g, T, cs)) (hX : X = []) : ∃ rd', St X W r0 rd' (bx.eraseIdx i) ow w ∧ Rd.le rd rd' ∧
    ∀ {α : Type} {size : Nat} {R : CR α} {xs : List α} {n c : Nat}, n = xs.length → xs.length ≤ c → c ≤ maxLen → RowR size R rd' cs.toList xs → SliceR size R rd' (.slice (some ⟨g, 0, none⟩) n c) xs :=
  ⟨_, S.frz hi (by subst hX; simp), S.frz_le hi, fun h1 h2 h3 h4 => S.frz_sl hi h1 h2 h3 h4⟩
theorem St.frzo' (S : St X W r0 rd bx ow w) {i : Nat} {q : OwE} (hi : ow[i]? = some q) (hX : X = []) : ∃ rd', St X W r0 rd' bx (ow.eraseIdx i) w ∧ Rd.le rd rd' ∧
    ∀ {α : Type} {R : CR α} {xs : List α}, q.n = xs.length → RowR q.size R rd' q.xs xs → SliceR q.size R rd' q.v xs :=
  ⟨_, S.frzo hi hX, S.frzo_le hi, fun h1 h2 => S.frzo_sl hi rfl rfl h1 rfl h2⟩
theorem St.out (S : St X W r0 rd bx ow w) : Rd.le rd (ext r0 W w) := fun b o v e => by
  unfold ext; split
  · rename_i h; exact S.sub b o v h e
  · exact S.le b o v e
theorem St.tk (S : St X W r0 rd bx ow w) (a b : Nat) (h1 : bx.take a = bx') (h2 : ow.take b = ow') : St X W r0 rd bx' ow' w := by
  subst h1 h2
  exact ⟨S.fr, S.sub, S.sup, S.le, fun p hp => S.box p (List.mem_of_mem_take hp), fun q hq => S.own q (List.mem_of_mem_take hq), S.d1.sublist (List.take_sublist _ _), S.d2.sublist (List.take_sublist _ _), fun p hp q hq => S.d3 p (List.mem_of_mem_take hp) q (List.mem_of_mem_take hq)⟩
theorem St.rw' (S : St X W r0 rd bx ow w) (h1 : bx = bx') (h2 : ow = ow') : St X W r0 rd bx' ow' w := by subst h1 h2; exact S
theorem fm {α : Type} {size : Nat} {R : CR α} [GoodR R] {rd rd' : Rd} {v : Value} {l : List α} (h : SliceR size R rd v l) (k : Rd.le rd rd') : SliceR size R rd' v l := h.mono GoodR.mono k
theorem rm {α : Type} {size : Nat} {R : CR α} [GoodR R] {rd rd' : Rd} {v : List Value} {l : List α} (h : RowR size R rd v l) (k : Rd.le rd rd') : RowR size R rd' v l := h.mono GoodR.mono k
theorem gm {α : Type} {R : CR α} [GoodR R] {rd rd' : Rd} {v : List Value} {x : α} (h : R rd v x) (k : Rd.le rd rd') : R rd' v x := GoodR.mono _ _ _ _ k h
theorem am {α : Type} {R : CR α} [GoodR R] {rd rd' : Rd} {v : Value} {x : α} (h : AggR R rd v x) (k : Rd.le rd rd') : AggR R rd' v x := by
  obtain ⟨cs, e, h⟩ := h; exact ⟨cs, e, gm h k⟩
theorem ival {k : IntKind} {a b : Int} (h : a = b) : Value.int k a = Value.int k b := by rw [h]
theorem rint {k : IntKind} {a b : Int} (h : a = b) : Ending.returned (.int k a) = .returned (.int k b) := by rw [h]
theorem nth_of {α : Type} {l : List α} {k : Nat} (h : k < l.length) : ∃ z, l[k]? = some z := ⟨l[k], List.getElem?_eq_getElem h⟩
theorem St.ownB (S : St [] W r0 rd bx ow w) {i : Nat} {q : OwE} (hi : ow[i]? = some q) : w.ownsRow W.heap.size q.e q.size q.v q.n q.xs := by
  have h := S.own _ (List.mem_of_getElem? hi)
  refine ⟨h.1.1, ?_⟩
  rcases h.1.2 with h1 | ⟨g, cap, cur, a, b, r⟩
  · exact .inl h1
  · exact .inr ⟨g, cap, cur, a, (h.2 g (by rw [a]; rfl)).1.elim id (fun h => by cases h), r⟩
theorem own_len (S : St X W r0 rd bx ow w) {i : Nat} {q : OwE} (hi : ow[i]? = some q) : ∃ A c, q.v = .slice A q.n c ∧ q.n ≤ c ∧ c ≤ maxLen := by
  rcases (S.own _ (List.mem_of_getElem? hi)).1.2 with ⟨h1, h2⟩ | ⟨g, cap, cur, h1, _, _, h4, h5, _⟩
  · exact ⟨none, 0, by rw [h1, h2], by omega, by simp [maxLen]⟩
  · exact ⟨_, cap, h1, h4, h5⟩
variable {C : World → Prop} {e : Operand → Value} {d : Option Tmp} {t ty yt : TypeId} {pos : String} {af : Array Edge} {g : Option (Nat × Bool)} {x y : Operand} {a b r : Bool}
end
theorem cv_int {P : Program} {s t : TypeId} {k k1 k2 : IntKind} {p r : Int} (hs : P.underlying s = some (.int k1)) (hd : P.underlying t = some (.int k2)) (h : k2.wrap p = r) : ∀ w, (convert s t (.int k p)).run P w = .ok (.int k2 r) w := fun w => by
  subst h; simp [convert, run_underlying hs, run_underlying hd, Conv.intToInt]
theorem y_shr {P : Program} {C : World → Prop} {e : Operand → Value} {d : Option Tmp} {t ty yt : TypeId} {pos : String} {af : Array Edge} {g : Option (Nat × Bool)} {x y : Operand} {k kk : IntKind} {p r : Int} {n : Nat} (h1 : e x = .int k p) (h2 : e y = .int kk n) (hn : n ≤ k.bits) (h : p / (2 ^ n : Int) = r) : Yv P C e ⟨d, .binOp .shr t x y yt, ty, pos, af, g⟩ (.int k r) := fun w _ => by
  subst h
  have e1 : min n k.bits = n := Nat.min_eq_left hn
  have e2 : ¬ ((n : Int) < 0) := by omega
  simp [execOp, h1, h2, eqGuard, binOp, Op.shift, e1, e2]
  rw [Int.fdiv_eq_ediv_of_nonneg _ (by exact Int.le_of_lt (Int.pow_pos (by decide)))]
theorem y_shl {P : Program} {C : World → Prop} {e : Operand → Value} {d : Option Tmp} {t ty yt : TypeId} {pos : String} {af : Array Edge} {g : Option (Nat × Bool)} {x y : Operand} {k kk : IntKind} {p r : Int} {n : Nat} (h1 : e x = .int k p) (h2 : e y = .int kk n) (hn : n ≤ k.bits) (h : k.wrap (p * (2 ^ n : Int)) = r) : Yv P C e ⟨d, .binOp .shl t x y yt, ty, pos, af, g⟩ (.int k r) := fun w _ => by
  subst h
  have e1 : min n k.bits = n := Nat.min_eq_left hn
  have e2 : ¬ ((n : Int) < 0) := by omega
  simp [execOp, h1, h2, eqGuard, binOp, Op.shift, e1, e2]
theorem ok_elemK {P : Program} {t e : TypeId} {z : Value} {size bytes : Nat} (hu : P.underlying t = some (.slice e)) (h : (P.info? e).map (fun i => (i.zero, i.size, i.bytes)) = some (some z, size, bytes)) (hz : z.cells.size = size) (hs : 0 < size) :
    ElemOk P t e size bytes := by
  obtain ⟨i, h1, h2, h3, h4⟩ := info_parts h
  exact ⟨i, z, hu, h1, h2, h3, h4, hz, hs⟩
end Go.Proofs.Ytkjknlnhffmkkaa

namespace Go.Proofs.Ytkjknlnhffmkkaa
variable {ds : List Deferred}
open Go.RowKit
set_option linter.unusedVariables false

section
variable {P : Program} {Q : Exit → Act → World → Prop} {s : List Kf} {w : World} {n : Nat} {l : Ov} {ops : Array Oper} {C : World → Prop}
structure AL (P : Program) (ops : Array Oper) (Q : Exit → Act → World → Prop) (C : World → Prop) (fuel : Nat) (listed : Array Bool) (a : Act) (w : World) : Prop where
  out : wpAnyH P .any ops Q C fuel listed a w
theorem e_a {id k : Nat} {a : Act} (C : World → Prop) (hm : P.follows .mixedOrders = true) (hk : ops.toList.length = k) (h : AL P ops (stk P Q s) C k (Array.replicate k false) a w.drew) : (Code.region id ops true).wp P (stk P Q s) a w :=
  wp_region_held hm (by subst hk; simpa using h.out)
theorem panic_put (hQ : ∀ c a d v w, Q (.panic c) (a.put d v) w → Q (.panic c) a w) : ∀ (s : List Kf) c a d v w, stk P Q s (.panic c) (a.put d v) w → stk P Q s (.panic c) a w
  | [], c, a, d, v, w, h => hQ c a d v w h
  | .seq _ :: s, c, a, d, v, w, h => panic_put hQ s c a d v w h
  | .blk _ :: s, c, a, d, v, w, h => panic_put hQ s c a d v w h
  | .lp _ :: s, c, a, d, v, w, h => panic_put hQ s c a d v w h
/-- what a way out by panic says asks nothing of the frame's slots -/
class NP (Q : Exit → Act → World → Prop) : Prop where
  put : ∀ c a d v w, Q (.panic c) (Act.put a d v) w → Q (.panic c) a w
theorem panic_body {fn : Func} {R : Ending → World → Prop} : ∀ c a d v w, bodyPost P fn R (.panic c) (Act.put a d v) w → bodyPost P fn R (.panic c) a w := fun c a d v w h => by
  cases d <;> exact h
instance {fn : Func} {R : Ending → World → Prop} : NP (bodyPost P fn R) := ⟨panic_body⟩
/-- an operation that only reads, taken first -/
theorem a_take [NP Q] {fuel : Nat} {listed : Array Bool} {o : Oper} {d : Nat} {v : Value} (i : Nat) (hi : ops.toList[i]? = some o) (hd : o.dst = some d) (hs : Region.noSelect ops = true) (hf : Region.free .any ops listed i = true) (hr : (Region.ready .any ops listed).contains i = true)
    (S : C w) (hg : o.guard = none) (Y : Yv P C (ev n l) o v) (h : AL P ops (stk P Q s) C fuel (listed.setIfInBounds i true) (fd ds n ((d, v) :: l)) w) : AL P ops (stk P Q s) C (fuel + 1) listed (fd ds n l) w :=
  ⟨wpAnyH_take (by rw [← Array.getElem?_toList]; exact hi) hs hf hr (fun c a w => panic_put NP.put s c a _ _ w) (.inl ⟨by unfold Region.wanted; rw [hg], fun w hS => by rw [eval_fr]; exact Y w hS⟩) S (by rw [put_fr, hd]; exact h.out)⟩
/-- all have come up -/
theorem a_done {fuel : Nat} {listed : Array Bool} {a : Act} (hr : Region.ready .any ops listed = []) (h : stk P Q s .normal a w) : AL P ops (stk P Q s) C fuel listed a w := ⟨wpAnyH_done hr h fuel⟩
/-- one that acts: as a list of one -/
theorem wpOp_of_list {i : Nat} {o : Oper} {a : Act} {K : Act → World → Prop} {Q : Exit → Act → World → Prop} (hi : ops[i]? = some o) (h : wpList P ops (Exit.then K Q) [o] a w) : wpOp P ops Q i K a w := by
  unfold wpOp
  simp only [hi]
  unfold wpList at h
  split
  · rename_i hw
    rw [if_pos hw] at h
    rcases h with h | ⟨h1, h2⟩
    · left
      unfold Oper.wp at h ⊢
      unfold Oper.upon at h ⊢
      split at h
      · exact h
      · exact h
      · exact h
      · refine h.mono fun e w' he => ?_
        cases e <;> exact he
      · exact h
      · exact h
      · exact h
    · right
      exact ⟨h1, h2⟩
  · rename_i hw
    rw [if_neg hw] at h
    exact h
def Ak (P : Program) (ops : Array Oper) (Q : Exit → Act → World → Prop) (C : World → Prop) (fuel : Nat) (listed : Array Bool) (a : Act) (w : World) : Prop := C w ∧ wpAnyH P .any ops Q C fuel listed a w
theorem ak {fuel : Nat} {listed : Array Bool} {a : Act} (hC : C w) (h : AL P ops Q C fuel listed a w) : Ak P ops Q C fuel listed a w := ⟨hC, h.out⟩
/-- the operations that may come up, one after another -/
def AA (P : Program) (ops : Array Oper) (Q : Exit → Act → World → Prop) (C : World → Prop) (s : List Kf) (fuel : Nat) (listed : Array Bool) (a : Act) (w : World) (rs : List Nat) : Prop :=
  ∀ i ∈ rs, wpOp P ops (stk P Q s) i (fun a' w' => C w' ∧ wpAnyH P .any ops (stk P Q s) C fuel (listed.setIfInBounds i true) a' w') a w
theorem a_all {fuel : Nat} {listed : Array Bool} {a : Act} {rs : List Nat} (hr : Region.ready .any ops listed = rs) (hne : rs.isEmpty = false) (h : AA P ops Q C s fuel listed a w rs) : AL P ops (stk P Q s) C (fuel + 1) listed a w :=
  ⟨wpAnyH_all hr (by intro e; subst e; cases hne) h⟩
theorem aa_nil {fuel : Nat} {listed : Array Bool} {a : Act} : AA P ops Q C s fuel listed a w [] := fun i hi => by cases hi
theorem aa_cons {fuel i : Nat} {listed : Array Bool} {a : Act} {rs : List Nat} {o : Oper} (hi : ops.toList[i]? = some o) (h : WL P ops (stk P Q (.lp (Ak P ops (stk P Q s) C fuel (listed.setIfInBounds i true)) :: s)) [o] a w)
    (h2 : AA P ops Q C s fuel listed a w rs) : AA P ops Q C s fuel listed a w (i :: rs) := fun j hj => by
  rcases List.mem_cons.1 hj with rfl | hj
  · exact wpOp_of_list (by rw [← Array.getElem?_toList]; exact hi) h.out
  · exact h2 j hj
end
section
variable {X : List Nat} {W w w' : World} {r0 rd rd' : Rd} {bx bx' : List BxE} {ow ow' : List OwE}
theorem St.del (S : St X W r0 rd bx ow w) (i : Nat) : St X W r0 rd (bx.eraseIdx i) ow w :=
  ⟨S.fr, S.sub, S.sup, S.le, fun p hp => S.box p (List.mem_of_mem_eraseIdx hp), S.own, pairwise_erase S.d1, S.d2, fun p hp => S.d3 p (List.mem_of_mem_eraseIdx hp)⟩
/-- a block that was built becomes a row that may grow -/
theorem St.boxOwn (S : St X W r0 rd bx ow w) {i g : Nat} {T : TypeId} {cs : Array Value} (hi : bx[i]? = some (g, T, cs)) (size n c : Nat) (hs : cs.size = n * size) (hc : c = n) (hm : n ≤ maxLen) :
    St X W r0 rd (bx.eraseIdx i) (ow ++ [⟨T, size, .slice (some ⟨g, 0, none⟩) n c, n, cs.toList⟩]) w := by
  subst hc
  have S' := S.del i
  have hm' := List.mem_of_getElem? hi
  have hb := S.box _ hm'
  refine ⟨S'.fr, S'.sub, S'.sup, S'.le, S'.box, fun q hq => ?_, S'.d1, ?_, fun p hp q hq => ?_⟩
  · rcases List.mem_append.1 hq with h | h
    · exact S.own q h
    · obtain rfl := List.mem_singleton.1 h
      refine ⟨⟨by simpa using hs, .inr ⟨g, c, cs, rfl, Nat.zero_le _, hb.2.1, Nat.le_refl _, hm, hs, ?_⟩⟩, fun k hk => ?_⟩
      · rw [← hs]; exact List.take_of_length_le (by simp)
      · simp only [Value.ownBlock] at hk; injection hk with hk; subst hk; exact ⟨hb.1, hb.2.2⟩
  · rw [List.pairwise_append]
    refine ⟨S.d2, List.pairwise_singleton _ _, fun p hp q hq => ?_⟩
    obtain rfl := List.mem_singleton.1 hq
    exact .inr (fun e => S.d3 _ hm' p hp (by rw [e]; rfl))
  · rcases List.mem_append.1 hq with h | h
    · exact S'.d3 p hp q h
    · obtain rfl := List.mem_singleton.1 h
      obtain ⟨j, hn, hj⟩ := mem_erase hp
      have := box_ne S hi hj hn
      simp only [Value.ownBlock]
      intro e; injection e with e; exact this e.symm
end
section
variable {P : Program} {C : World → Prop} {e : Operand → Value} {d : Option Tmp} {t ty yt el : TypeId} {pos : String} {af : Array Edge} {g : Option (Nat × Bool)} {x y : Operand} {A : Option Addr} {n c : Nat} {v : Value}
end
section
variable {P : Program} {Q : Exit → Act → World → Prop} {X : List Nat} {W w w' : World} {r0 rd : Rd} {bx : List BxE} {ow : List OwE} {n d : Nat} {l : Ov} {t ty el : TypeId} {pos : String} {af : Array Edge} {x y : Operand} {rest : List Oper} {ops : Array Oper}
end
end Go.Proofs.Ytkjknlnhffmkkaa

namespace Go.Proofs.Ytkjknlnhffmkkaa
variable {ds : List Deferred}
open Go.RowKit
set_option linter.unusedVariables false

section
variable {P : Program} {Q : Exit → Act → World → Prop} {s : List Kf} {w : World} {n : Nat} {l : Ov} {ops : Array Oper} {C1 C2 : World → Prop} {k : Nat}
/-- ahead of operation k C1 holds behind each; behind k C2 -/
def AH (P : Program) (ops : Array Oper) (Q : Exit → Act → World → Prop) (C1 C2 : World → Prop) (k : Nat) : Nat → Array Bool → Act → World → Prop
  | 0, L, a, w => Region.ready .any ops L = [] ∧ Q .normal a w
  | f + 1, L, a, w => (Region.ready .any ops L = [] → Q .normal a w) ∧ ∀ i ∈ Region.ready .any ops L, wpOp P ops Q i (fun a' w' => if i = k then C2 w' ∧ wpAnyH P .any ops Q C2 f (L.setIfInBounds i true) a' w' else C1 w' ∧ AH P ops Q C1 C2 k f (L.setIfInBounds i true) a' w') a w
theorem any_of_ah : ∀ (f : Nat) (L : Array Bool) (a : Act) (w : World), AH P ops Q C1 C2 k f L a w → wpAny P .any ops Q f L a w
  | 0, _, _, _, h => h
  | f + 1, L, a, w, h => ⟨h.1, fun i hi => wpOp_mono (fun a' w' h' => by
      split at h'
      · exact wpAny_of_held _ _ _ _ h'.2
      · exact any_of_ah f _ a' w' h'.2) (h.2 i hi)⟩
/-- each of Z waits for i, or for another one of Z -/
def waits (ops : Array Oper) (i : Nat) (Z : List Nat) : Bool := Z.all fun m => match ops[m]? with | some o => o.after.any fun e => Region.binds .any e && (e.on == i || Z.contains e.on) | none => false
theorem not_ready {i j : Nat} {Z : List Nat} {L : Array Bool} (hz : waits ops i Z = true) (hi : L.getD i true = false) (hZ : ∀ m ∈ Z, L.getD m true = false) (hj : j ∈ Region.ready .any ops L) : j ∉ Z := fun hm => by
  obtain ⟨_, o, ho, hall⟩ := mem_ready.1 hj
  have h := List.all_eq_true.1 hz j hm
  rw [ho] at h
  obtain ⟨e, he, h⟩ := Array.any_eq_true'.1 h
  rw [Bool.and_eq_true, Bool.or_eq_true] at h
  have hl := hall e he h.1
  have hu : L.getD e.on true = false := by
    rcases h.2 with h2 | h2
    · rw [eq_of_beq h2]; exact hi
    · exact hZ _ (List.contains_iff_mem.1 h2)
  rw [Array.getD_eq_getD_getElem?] at hl hu
  cases hx : L[e.on]? with
  | none => rw [hx] at hu; cases hu
  | some b => rw [hx] at hl hu; simp at hl hu; rw [hl] at hu; cases hu
theorem ah_first {i : Nat} {oi : Oper} {v : Value} {Z : List Nat} (hi : ops[i]? = some oi) (hk : k ∈ Z) (hz : waits ops i Z = true) (hiZ : i ∉ Z) (hsel : ∀ (j : Nat) (o : Oper) cs b, ops[j]? = some o → o.op ≠ .select cs b)
    (hQ : ∀ c a w, Q (.panic c) (a.put oi.dst v) w → Q (.panic c) a w) : ∀ (f : Nat) (L : Array Bool) (a : Act) (w : World),
      (∀ j oj, ops[j]? = some oj → j ≠ i → L.getD j true = false → (∀ e ∈ oj.after, Region.binds .any e = true → e.on ≠ i) → oi.apart ops oj = true) →
      (∀ m ∈ Z, L.getD m true = false) → i ∈ Region.ready .any ops L → YieldsIf P ops C1 oi v a → C1 w →
      AH P ops Q C1 C2 k f (L.setIfInBounds i true) (a.put oi.dst v) w → AH P ops Q C1 C2 k (f + 1) L a w
  | f, L, a, w, hfree, hZ, hr, hy, hS, H => by
    have hik : i ≠ k := fun e => hiZ (e ▸ hk)
    have hun : L.getD i true = false := (mem_ready.1 hr).1
    refine ⟨fun h => (by rw [h] at hr; cases hr), fun j hj => ?_⟩
    by_cases hji : j = i
    · subst hji
      refine hy.wpOp hi hS ?_
      rw [if_neg hik]; exact ⟨hS, H⟩
    · match f, H with
      | 0, H =>
        have := ready_mono hj hji
        rw [H.1] at this
        cases this
      | f + 1, H =>
        have hjZ := not_ready hz hun hZ hj
        have hjk : j ≠ k := fun e => hjZ (e ▸ hk)
        have h1 := H.2 j (ready_mono hj hji)
        obtain ⟨hjun, oj, hoj, hall⟩ := mem_ready.1 hj
        have hnot : ∀ e ∈ oj.after, Region.binds .any e = true → e.on ≠ i := fun e he hb heq => by
          have h1 := hall e he hb
          rw [heq, Array.getD_eq_getD_getElem?] at h1
          rw [Array.getD_eq_getD_getElem?] at hun
          cases hx : L[i]? with
          | none => rw [hx] at hun; cases hun
          | some b => rw [hx] at h1 hun; simp at h1 hun; rw [h1] at hun; cases hun
        have h2 := wpOp_putIf hoj (hfree j oj hoj hji hjun hnot) (fun cs b => hsel i oi cs b hi) (fun cs b => hsel j oj cs b hoj) hQ hy h1
        refine wpOp_mono (fun a' w' h3 => ?_) h2
        obtain ⟨hy', h3⟩ := h3
        rw [if_neg hjk] at h3 ⊢
        refine ⟨h3.1, ah_first hi hk hz hiZ hsel hQ f (L.setIfInBounds j true) a' w' (fun m om hm hmi hu hno => hfree m om hm hmi ?_ hno) (fun m hm => ?_) (ready_mono hr (Ne.symm hji)) hy' h3.1 ?_⟩
        · by_cases hjm : j = m
          · subst hjm; exact hjun
          · rw [getD_set_ne true hjm] at hu; exact hu
        · rw [getD_set_ne true (fun e : j = m => hjZ (e ▸ hm))]; exact hZ m hm
        · rw [Array.setIfInBounds_comm _ _ hji]; exact h3.2
end
section
variable {P : Program} {Q : Exit → Act → World → Prop} {s : List Kf} {w : World} {n : Nat} {l : Ov} {ops : Array Oper} {C1 C2 : World → Prop} {k : Nat}
structure BL (P : Program) (ops : Array Oper) (Q : Exit → Act → World → Prop) (C1 C2 : World → Prop) (k : Nat) (fuel : Nat) (listed : Array Bool) (a : Act) (w : World) : Prop where
  out : AH P ops Q C1 C2 k fuel listed a w
/-- read ahead of the first write -/
theorem tb [NP Q] {fuel : Nat} {listed : Array Bool} {o : Oper} {d : Nat} (v : Value) (i : Nat) (Z : List Nat) (hi : ops.toList[i]? = some o) (hd : o.dst = some d) (S : C1 w) (Y : Yv P C1 (ev n l) o v)
    (h : BL P ops (stk P Q s) C1 C2 k fuel (listed.setIfInBounds i true) (fd ds n ((d, v) :: l)) w) (hg : o.guard = none := by rfl) (hs : Region.noSelect ops = true := by kernel_rfl) (hf : Region.free .any ops listed i = true := by kernel_rfl) (hr : (Region.ready .any ops listed).contains i = true := by kernel_rfl)
    (hz : (Z.contains k && waits ops i Z && !Z.contains i && Z.all fun m => !listed.getD m true) = true := by kernel_rfl) : BL P ops (stk P Q s) C1 C2 k (fuel + 1) listed (fd ds n l) w := by
  simp only [Bool.and_eq_true, Bool.not_eq_true', List.all_eq_true] at hz
  obtain ⟨⟨⟨z1, z2⟩, z3⟩, z4⟩ := hz
  have hi' : ops[i]? = some o := by rw [← Array.getElem?_toList]; exact hi
  exact ⟨ah_first hi' (List.contains_iff_mem.1 z1) z2 (fun q => by rw [List.contains_iff_mem.2 q] at z3; cases z3) (Region.noSelect_spec hs) (fun c a w => panic_put NP.put s c a _ _ w) fuel listed _ w (Region.free_spec hi' hf) z4 (by simpa using hr)
    (.inl ⟨by unfold Region.wanted; rw [hg], fun w hS => by rw [eval_fr]; exact Y w hS⟩) S (by rw [put_fr, hd]; exact h.out)⟩
def Bk (P : Program) (ops : Array Oper) (Q : Exit → Act → World → Prop) (C1 C2 : World → Prop) (k i : Nat) (fuel : Nat) (listed : Array Bool) (a : Act) (w : World) : Prop := if i = k then C2 w ∧ wpAnyH P .any ops Q C2 fuel listed a w else C1 w ∧ AH P ops Q C1 C2 k fuel listed a w
/-- behind one that acts: still ahead of the first write; it was the first write -/
theorem bk {fuel i : Nat} {listed : Array Bool} {a : Act} (hC : C1 w) (h : BL P ops Q C1 C2 k fuel listed a w) (hik : i ≠ k := by decide) : Bk P ops Q C1 C2 k i fuel listed a w := by unfold Bk; rw [if_neg hik]; exact ⟨hC, h.out⟩
theorem bs {fuel i : Nat} {listed : Array Bool} {a : Act} (hC : C2 w) (h : AL P ops Q C2 fuel listed a w) (hik : i = k := by rfl) : Bk P ops Q C1 C2 k i fuel listed a w := by unfold Bk; rw [if_pos hik]; exact ⟨hC, h.out⟩
def BB (P : Program) (ops : Array Oper) (Q : Exit → Act → World → Prop) (C1 C2 : World → Prop) (k : Nat) (s : List Kf) (fuel : Nat) (listed : Array Bool) (a : Act) (w : World) (rs : List Nat) : Prop :=
  ∀ i ∈ rs, wpOp P ops (stk P Q s) i (fun a' w' => Bk P ops (stk P Q s) C1 C2 k i fuel (listed.setIfInBounds i true) a' w') a w
theorem b_all {fuel : Nat} {listed : Array Bool} {a : Act} {rs : List Nat} (hr : Region.ready .any ops listed = rs) (hne : rs.isEmpty = false) (h : BB P ops Q C1 C2 k s fuel listed a w rs) : BL P ops (stk P Q s) C1 C2 k (fuel + 1) listed a w := by
  refine ⟨?_⟩
  show (Region.ready .any ops listed = [] → _) ∧ ∀ i ∈ Region.ready .any ops listed, _
  rw [hr]
  exact ⟨fun h0 => (by subst h0; cases hne), h⟩
theorem bb_nil {fuel : Nat} {listed : Array Bool} {a : Act} : BB P ops Q C1 C2 k s fuel listed a w [] := fun i hi => by cases hi
theorem bb_cons {fuel i : Nat} {listed : Array Bool} {a : Act} {rs : List Nat} {o : Oper} (hi : ops.toList[i]? = some o) (h : WL P ops (stk P Q (.lp (Bk P ops (stk P Q s) C1 C2 k i fuel (listed.setIfInBounds i true)) :: s)) [o] a w)
    (h2 : BB P ops Q C1 C2 k s fuel listed a w rs) : BB P ops Q C1 C2 k s fuel listed a w (i :: rs) := fun j hj => by
  rcases List.mem_cons.1 hj with rfl | hj
  · exact wpOp_of_list (by rw [← Array.getElem?_toList]; exact hi) h.out
  · exact h2 j hj
theorem bO {fuel : Nat} {listed : Array Bool} {a : Act} {o : Oper} (i : Nat) (hi : ops.toList[i]? = some o) (hr : Region.ready .any ops listed = [i]) (h : WL P ops (stk P Q (.lp (Bk P ops (stk P Q s) C1 C2 k i fuel (listed.setIfInBounds i true)) :: s)) [o] a w) : BL P ops (stk P Q s) C1 C2 k (fuel + 1) listed a w := b_all hr rfl (bb_cons hi h bb_nil)
end
end Go.Proofs.Ytkjknlnhffmkkaa

namespace Go.Proofs.Ytkjknlnhffmkkaa
variable {ds : List Deferred}
open Go.RowKit
set_option linter.unusedVariables false

section
variable {X : List Nat} {W w w' : World} {r0 rd : Rd} {bx : List BxE} {ow : List OwE}
end
section
variable {P : Program} {C : World → Prop} {X : List Nat} {W w w' : World} {r0 rd : Rd} {bx : List BxE} {ow : List OwE} {t ty el : TypeId} {g o n c lo hi size k : Nat} {T : TypeId} {cs cs' : Array Value}
end
section
variable {P : Program} {Q : Exit → Act → World → Prop} {X : List Nat} {W w w' : World} {r0 rd : Rd} {bx : List BxE} {ow : List OwE} {n d : Nat} {l : Ov} {t ty : TypeId} {pos : String} {af : Array Edge} {v : Value} {x y : Operand} {g i j : Nat} {T : TypeId} {cs : Array Value} {rest : List Oper} {ops : Array Oper}
end
end Go.Proofs.Ytkjknlnhffmkkaa

namespace Go.Proofs.Ytkjknlnhffmkkaa
open Go.RowKit
set_option linter.unusedVariables false

section
variable {X : List Nat} {W w w' : World} {r0 rd : Rd} {bx : List BxE} {ow : List OwE}
/-- a row that a call made, as a slice that is read -/
theorem own_ext {α : Type} {size n : Nat} {R : CR α} {e : TypeId} {v : Value} {xs : List Value} {l : List α} (hx : w.ownsRow W.heap.size e size v n xs) (hn : n = l.length) (hr : RowR size R (ext r0 W w) xs l) : SliceR size R (ext r0 W w) v l := by
  subst hn
  rcases hx.2 with ⟨h1, h2⟩ | ⟨g, cap, cur, h1, hB, hh, hc, hm', _⟩
  · rw [h1]
    have : l = [] := List.eq_nil_of_length_eq_zero (by omega)
    subst this
    exact SliceR.nil_ _
  · rw [h1]
    refine ⟨some ⟨g, 0, none⟩, cap, xs, rfl, by omega, hm', hr, fun _ => ⟨g, 0, rfl, fun j u hu => ?_⟩⟩
    rw [h1] at hx
    have := hx.cells (g := g) rfl j u hu
    rw [Addr.add_mid, Nat.zero_add] at this
    rw [Nat.zero_add]
    show (if g < W.heap.size then _ else _) = _
    rw [if_neg (by omega)]
    exact this
theorem St.rowOut {α : Type} {R : CR α} [GoodR R] {l : List α} (S : St [] W r0 rd bx ow w) {i size : Nat} {q : OwE} {v : Value} (hi : ow[i]? = some q) (hv : q.v = v) (hn : q.n = l.length) (hs : q.size = size) (hr : RowR size R rd q.xs l) : SliceR size R (ext r0 W w) v l := by
  subst hv hs
  exact own_ext (S.ownB hi) hn (rm hr S.out)
end
end Go.Proofs.Ytkjknlnhffmkkaa

namespace Go.Proofs.Ytkjknlnhffmkkaa
open Go.RowKit
set_option linter.unusedVariables false

/-- the blocks of some boxes and rows -/
def blks (bx : List BxE) (ow : List OwE) : List Nat := bx.map (·.1) ++ ow.filterMap (·.v.ownBlock)
theorem blks_box {bx : List BxE} {ow : List OwE} {p : BxE} (h : p ∈ bx) : p.1 ∈ blks bx ow := List.mem_append_left _ (List.mem_map_of_mem h)
theorem blks_own {bx : List BxE} {ow : List OwE} {q : OwE} {g : Nat} (h : q ∈ ow) (hg : q.v.ownBlock = some g) : g ∈ blks bx ow := List.mem_append_right _ (List.mem_filterMap.2 ⟨q, h, hg⟩)
theorem blks_mem {bx : List BxE} {ow : List OwE} {g : Nat} (h : g ∈ blks bx ow) : (∃ p ∈ bx, p.1 = g) ∨ ∃ q ∈ ow, q.v.ownBlock = some g := by
  rcases List.mem_append.1 h with h | h
  · obtain ⟨p, a, b⟩ := List.mem_map.1 h; exact .inl ⟨p, a, b⟩
  · obtain ⟨q, a, b⟩ := List.mem_filterMap.1 h; exact .inr ⟨q, a, b⟩
section
variable {X : List Nat} {W w w' : World} {r0 rd rd' : Rd} {bx bxk bx0 bx2 : List BxE} {ow owk ow0 ow2 : List OwE}
/-- lent -/
theorem St.give (S : St X W r0 rd bx ow w) (hb : bx = bxk ++ bx0) (ho : ow = owk ++ ow0) : St (blks bx0 ow0) w rd rd bx0 ow0 w := by
  subst hb ho
  refine ⟨Frm.refl _ _, fun _ _ _ _ h => h, Rd.le_refl _, S.le, fun p hp => ⟨.inr (blks_box hp), (S.box p (List.mem_append_right _ hp)).2⟩, fun q hq => ⟨(S.own q (List.mem_append_right _ hq)).1, fun g hg => ⟨.inr (blks_own hq hg), ((S.own q (List.mem_append_right _ hq)).2 g hg).2⟩⟩,
    (List.pairwise_append.1 S.d1).2.1, (List.pairwise_append.1 S.d2).2.1, fun p hp q hq => S.d3 p (List.mem_append_right _ hp) q (List.mem_append_right _ hq)⟩
/-- taken back -/
theorem St.comp (S : St X W r0 rd bx ow w) (hb : bx = bxk ++ bx0) (ho : ow = owk ++ ow0) (k : St (blks bx0 ow0) w rd rd' bx2 ow2 w') : St X W r0 rd' (bxk ++ bx2) (owk ++ ow2) w' := by
  subst hb ho
  have hY : ∀ g ∈ blks bx0 ow0, W.heap.size ≤ g ∨ g ∈ X := fun g hg => by
    rcases blks_mem hg with ⟨p, hp, rfl⟩ | ⟨q, hq, e⟩
    · exact (S.box p (List.mem_append_right _ hp)).1
    · exact ((S.own q (List.mem_append_right _ hq)).2 g e).1
  have nB : ∀ p ∈ bxk, p.1 ∉ blks bx0 ow0 := fun p hp hg => by
    rcases blks_mem hg with ⟨p', hp', e⟩ | ⟨q, hq, e⟩
    · exact (List.pairwise_append.1 S.d1).2.2 p hp p' hp' e.symm
    · exact S.d3 p (List.mem_append_left _ hp) q (List.mem_append_right _ hq) e
  have nO : ∀ q ∈ owk, ∀ g, q.v.ownBlock = some g → g ∉ blks bx0 ow0 := fun q hq g hg hm => by
    rcases blks_mem hm with ⟨p, hp, e⟩ | ⟨q', hq', e⟩
    · exact S.d3 p (List.mem_append_right _ hp) q (List.mem_append_left _ hq) (by rw [hg, e])
    · rcases (List.pairwise_append.1 S.d2).2.2 q hq q' hq' with h | h
      · rw [hg] at h; cases h
      · exact h (by rw [hg, e])
  have ltB : ∀ p ∈ bxk, p.1 < w.heap.size := fun p hp => S.lt_box (List.mem_append_left _ hp)
  have ltO : ∀ q ∈ owk, ∀ g, q.v.ownBlock = some g → g < w.heap.size := fun q hq g hg => ((S.own q (List.mem_append_left _ hq)).1.lt g hg).2
  have nofree : ∀ g, g < w.heap.size → (∀ o, rd g o = none) → ∀ o, rd' g o = none := fun g hg h o => by
    cases e : rd' g o with
    | none => rfl
    | some v => have := k.sub g o v hg e; rw [h o] at this; cases this
  have split : ∀ {g : Nat}, (w.heap.size ≤ g ∨ g ∈ blks bx0 ow0) → W.heap.size ≤ g ∨ g ∈ X := fun {g} h => h.elim (fun h => .inl (Nat.le_trans S.base_le h)) (hY g)
  refine ⟨⟨k.fr.os.trans S.fr.os, k.fr.tape.trans S.fr.tape, k.fr.output.trans S.fr.output, Nat.le_trans S.fr.size k.fr.size, fun b hb hX => ?_⟩, fun b o v hb e => S.sub b o v hb (k.sub b o v (Nat.lt_of_lt_of_le hb S.base_le) e), Rd.le_trans S.sup k.sup, k.le, fun p hp => ?_, fun q hq => ?_, ?_, ?_, fun p hp q hq => ?_⟩
  · have hlt := Nat.lt_of_lt_of_le hb S.base_le
    rw [k.fr.block b hlt (fun h => (hY b h).elim (fun h => by omega) hX)]
    exact S.fr.block b hb hX
  · rcases List.mem_append.1 hp with hp | hp
    · obtain ⟨b1, b2, b3⟩ := S.box p (List.mem_append_left _ hp)
      exact ⟨b1, (k.fr.block p.1 (ltB p hp) (nB p hp)).trans b2, nofree _ (ltB p hp) b3⟩
    · obtain ⟨b1, b2, b3⟩ := k.box p hp
      exact ⟨split b1, b2, b3⟩
  · rcases List.mem_append.1 hq with hq | hq
    · obtain ⟨o1, o2⟩ := S.own q (List.mem_append_left _ hq)
      refine ⟨⟨o1.1, ?_⟩, fun g hg => ⟨(o2 g hg).1, nofree _ (ltO q hq g hg) (o2 g hg).2⟩⟩
      rcases o1.2 with h | ⟨g, cap, cur, e, b, hh, rest⟩
      · exact .inl h
      · exact .inr ⟨g, cap, cur, e, b, (k.fr.block g (ltO q hq g (by rw [e]; rfl)) (nO q hq g (by rw [e]; rfl))).trans hh, rest⟩
    · obtain ⟨o1, o2⟩ := k.own q hq
      exact ⟨o1, fun g hg => ⟨split (o2 g hg).1, (o2 g hg).2⟩⟩
  · rw [List.pairwise_append]
    refine ⟨(List.pairwise_append.1 S.d1).1, k.d1, fun p hp p' hp' e => ?_⟩
    rcases (k.box p' hp').1 with h | h
    · have := ltB p hp; omega
    · exact nB p hp (e ▸ h)
  · rw [List.pairwise_append]
    refine ⟨(List.pairwise_append.1 S.d2).1, k.d2, fun q hq q' hq' => ?_⟩
    cases hg : q.v.ownBlock with
    | none => exact .inl rfl
    | some g =>
      refine .inr fun e => ?_
      rcases ((k.own q' hq').2 g e.symm).1 with h | h
      · have := ltO q hq g hg; omega
      · exact nO q hq g hg h
  · rcases List.mem_append.1 hp with hp1 | hp1
    · rcases List.mem_append.1 hq with hq1 | hq1
      · exact S.d3 p (List.mem_append_left _ hp1) q (List.mem_append_left _ hq1)
      · intro e
        rcases ((k.own q hq1).2 _ e).1 with h | h
        · have := ltB p hp1; omega
        · exact nB p hp1 h
    · rcases List.mem_append.1 hq with hq1 | hq1
      · intro e
        rcases (k.box p hp1).1 with h | h
        · have := ltO q hq1 _ e; omega
        · exact nO q hq1 _ e h
      · exact k.d3 p hp1 q hq1
end
end Go.Proofs.Ytkjknlnhffmkkaa

namespace Go.Proofs.Ytkjknlnhffmkkaa
variable {ds : List Deferred}
open Go.RowKit
abbrev kU (z : Upd) (A : Option Addr) (a : Nat) : Array Value := #[ni z.author, .slice A z.seen.length a, ni z.kind, ni z.key, ni z.item]
section
variable {X : List Nat} {W w w' : World} {r0 rd rd' : Rd} {bx bx2 : List BxE} {ow ow2 : List OwE}
theorem St.giveN (S : St X W r0 rd bx ow w) (i j : Nat) : St (blks (bx.drop i) (ow.drop j)) w rd rd (bx.drop i) (ow.drop j) w := S.give (List.take_append_drop i bx).symm (List.take_append_drop j ow).symm
theorem St.compN (S : St X W r0 rd bx ow w) (i j : Nat) (k : St (blks (bx.drop i) (ow.drop j)) w rd rd' bx2 ow2 w') : St X W r0 rd' (bx.take i ++ bx2) (ow.take j ++ ow2) w' := S.comp (List.take_append_drop i bx).symm (List.take_append_drop j ow).symm k
end
section
variable {P : Program} {Q : Exit → Act → World → Prop} {w : World} {n d j : Nat} {l : Ov} {b : Bool} {op : Op} {ty : TypeId} {pos : String} {af : Array Edge} {rest : List Oper} {ops : Array Oper} {C : World → Prop} {Qa : Act → Prop} {s : List Kf}
theorem fk {m : Ov} (h : Agree n l m := by and_intros <;> first | rfl | trivial | exact ival (by omega)) : fd ds n l = fd ds n (m ++ l) := fr_keep h
theorem et {c : Code} {Q : Exit → Act → World → Prop} (m : Ov) (k : ∀ j, c.wp P (stk P Q s) (fd ds n (m ++ j)) w) (h : Agree n l m := by and_intros <;> first | rfl | trivial | exact ival (by omega)) : c.wp P (stk P Q s) (fd ds n l) w := e_trim m h k
theorem ly (v : Value) (S : C w) (Y : Yv P C (ev n l) ⟨some d, op, ty, pos, af, none⟩ v) (h : WL P ops Q rest (fd ds n ((d, v) :: l)) w) : WL P ops Q (⟨some d, op, ty, pos, af, none⟩ :: rest) (fd ds n l) w := l_y S Y h
theorem lg (d' : Nat) (v : Value) (S : C w) (Y : Yv P C (ev n l) ⟨some d, op, ty, pos, af, some (j, b)⟩ v) (h : WL P ops Q rest (fd ds n ((d, v) :: l)) w) (hd : (ops.toList[j]?).bind (·.dst) = some d' := by rfl) (hb : lk n l d' = .bool b := by rfl) : WL P ops Q (⟨some d, op, ty, pos, af, some (j, b)⟩ :: rest) (fd ds n l) w := l_g S Y hd hb h
theorem ls (d' : Nat) (h : WL P ops Q rest (fd ds n ((d, undef) :: l)) w) (hd : (ops.toList[j]?).bind (·.dst) = some d' := by rfl) (hb : lk n l d' = .bool (!b) := by rfl) : WL P ops Q (⟨some d, op, ty, pos, af, some (j, b)⟩ :: rest) (fd ds n l) w := l_s hd hb h
theorem qy (v : Value) (Y : Yv P C (ev n l) ⟨some d, op, ty, pos, af, none⟩ v) (h : WQ P ops C Qa rest (fd ds n ((d, v) :: l))) : WQ P ops C Qa (⟨some d, op, ty, pos, af, none⟩ :: rest) (fd ds n l) := q_y Y h
theorem tk [NP Q] {fuel : Nat} {listed : Array Bool} {o : Oper} {d : Nat} (v : Value) (i : Nat) (hi : ops.toList[i]? = some o) (hd : o.dst = some d)
    (S : C w) (Y : Yv P C (ev n l) o v) (h : AL P ops (stk P Q s) C fuel (listed.setIfInBounds i true) (fd ds n ((d, v) :: l)) w) (hg : o.guard = none := by rfl) (hs : Region.noSelect ops = true := by kernel_rfl) (hf : Region.free .any ops listed i = true := by kernel_rfl) (hr : (Region.ready .any ops listed).contains i = true := by kernel_rfl) : AL P ops (stk P Q s) C (fuel + 1) listed (fd ds n l) w := a_take i hi hd hs hf hr S hg Y h
end
section
variable {P : Program} {C : World → Prop} {e : Operand → Value} {d : Option Tmp} {ty : TypeId} {pos : String} {af : Array Edge} {gd : Option (Nat × Bool)} {x y c : Operand} {v : Value}
theorem Ym : Yv P C e ⟨d, .move x, ty, pos, af, gd⟩ (e x) := y_mv rfl
theorem Ya : Yv P C e ⟨d, .assign x, ty, pos, af, gd⟩ (e x) := y_as rfl
theorem Yt (hc : e c = .bool true := by rfl) : Yv P C e ⟨d, .pick c x y, ty, pos, af, gd⟩ (e x) := y_pT hc rfl
theorem Yf (hc : e c = .bool false := by rfl) : Yv P C e ⟨d, .pick c x y, ty, pos, af, gd⟩ (e y) := y_pF hc rfl
theorem Ye {i : Nat} {vs : Array Value} (h : e x = .tuple vs := by rfl) (hi : vs[i]? = some v := by rfl) : Yv P C e ⟨d, .extract x i, ty, pos, af, gd⟩ v := y_ex h hi
theorem Yb {s : TypeId} {f off g o o' : Nat} (F : FaOk P s f off) (hx : e x = .pointer (some ⟨g, o, none⟩) := by rfl) (ho : o + off = o' := by rfl) : Yv P C e ⟨d, .fieldAddr s x f, ty, pos, af, gd⟩ (.pointer (some ⟨g, o', none⟩)) := y_fb F hx ho
theorem Yl {t : TypeId} {A : Option Addr} {m cp : Nat} {ts : Array TypeId} {el : TypeId} (ht : P.underlying t = some (.slice el)) (hts : ts[0]? = some t := by rfl) (h : e x = .slice A m cp := by rfl) : Yv P C e ⟨d, .call ⟨.builtin .len, #[x], ts⟩, ty, pos, af, gd⟩ (.int .i64 m) := y_len ht hts h
end
section
variable {P : Program} {Q : Exit → Act → World → Prop} {R : Ending → World → Prop} {C : World → Prop} {s : List Kf} {w : World} {n : Nat} {l : Ov} {v : Value} {a : Act} {ops : Array Oper} {rest : List Oper} {y : Code}
theorem ln (h : y.wp P (stk P Q s) a w) : WL P ops (stk P Q (.seq y :: s)) [] a w := l_nil (n_seq h)
theorem er {o : List Oper} {i : Nat} (h : WL P o.toArray (stk P Q (.seq y :: s)) o a w) : (Code.seq (Code.region i o.toArray false) y).wp P (stk P Q s) a w := e_seq (e_reg h)
theorem nr {o : List Oper} {i : Nat} (h : WL P o.toArray (stk P Q s) o a w) : stk P Q (.seq (Code.region i o.toArray false) :: s) .normal a w := n_seq (e_reg h)
theorem kn {d : Tmp} (h : stk P Q s .normal (fd ds n ((d, v) :: l)) w) : CK ds P ops (stk P Q s) [] n l (some d) (.returned v) w := ckd (l_nil h)
theorem aO {fuel : Nat} {listed : Array Bool} {o : Oper} (i : Nat) (hi : ops.toList[i]? = some o) (hr : Region.ready .any ops listed = [i]) (h : WL P ops (stk P Q (.lp (Ak P ops (stk P Q s) C fuel (listed.setIfInBounds i true)) :: s)) [o] a w) : AL P ops (stk P Q s) C (fuel + 1) listed a w := a_all hr rfl (aa_cons hi h aa_nil)
end
section
variable {P : Program} {X : List Nat} {W : World} {r0 rd : Rd} {bx : List BxE} {ow : List OwE} {C : World → Prop} {e : Operand → Value} {d : Option Tmp} {t ty : TypeId} {pos : String} {af : Array Edge} {gd : Option (Nat × Bool)} {v p : Value} {x : Operand} {g j k : Nat} {T : TypeId} {cs : Array Value} {vs us : List Value}
theorem yb1 (i : Nat) (ht : Ty1 P t) (hx : e x = .pointer (some ⟨g, j, none⟩) := by rfl) (hi : bx[i]? = some (g, T, cs) := by rfl) (hj : cs[j]? = some v := by rfl) : Yv P (fun w => St X W r0 rd bx ow w) e ⟨d, .load t x, ty, pos, af, gd⟩ v := y_ld hx fun _ S => ld_b1 S hi hj ht
theorem ybA (i : Nat) (ht : TyA P t k) (hx : e x = .pointer (some ⟨g, j, none⟩) := by rfl) (hi : bx[i]? = some (g, T, cs) := by rfl) (hk : vs.length = k := by rfl) (hv : (cs.toList.drop j).take k = vs := by rfl) : Yv P (fun w => St X W r0 rd bx ow w) e ⟨d, .load t x, ty, pos, af, gd⟩ (.agg vs.toArray) := y_ld hx fun _ S => ld_bA S hi ht hk hv
theorem yp1 (h : PtrC rd p vs) (ht : Ty1 P t) (hx : e x = p := by rfl) (hj : vs[0]? = some v := by rfl) : Yv P (fun w => St X W r0 rd bx ow w) e ⟨d, .load t x, ty, pos, af, gd⟩ v := y_ld hx fun _ S => ld_p1 S.le h hj ht
end
end Go.Proofs.Ytkjknlnhffmkkaa

namespace Go.Proofs.Ytkjknlnhffmkkaa
variable {ds : List Deferred}
open Go.RowKit
set_option linter.unusedVariables false

section
variable {X : List Nat} {W w w' : World} {r0 rd : Rd} {bx : List BxE} {ow : List OwE}
/-- a box that is only read from here on -/
theorem St.frzp (S : St X W r0 rd bx ow w) {i g : Nat} {T : TypeId} {cs : Array Value} (hi : bx[i]? = some (g, T, cs)) (hX : X = []) : ∃ rd', St X W r0 rd' (bx.eraseIdx i) ow w ∧ Rd.le rd rd' ∧ PtrC rd' (.pointer (some ⟨g, 0, none⟩)) cs.toList :=
  ⟨_, S.frz hi (by subst hX; simp), S.frz_le hi, g, 0, rfl, fun j u hu => by
    unfold plus
    rw [if_pos rfl, Nat.zero_add, cell_of_row w g j cs T (0, 0) (S.box _ (List.mem_of_getElem? hi)).2.1]; simpa using hu⟩
variable {P : Program} {t : TypeId}
end
section
variable {P : Program} {Q : Exit → Act → World → Prop} {X : List Nat} {W w w' : World} {r0 rd : Rd} {bx : List BxE} {ow : List OwE} {n d : Nat} {l : Ov} {t ty : TypeId} {pos : String} {af : Array Edge} {v : Value} {x y : Operand} {g i j : Nat} {rest : List Oper} {ops : Array Oper}
end
end Go.Proofs.Ytkjknlnhffmkkaa

namespace Go.Proofs.Ytkjknlnhffmkkaa
variable {ds : List Deferred}
open Go.RowKit
set_option linter.unusedVariables false

section
variable {X X' : List Nat} {W w w' : World} {r0 rd : Rd} {bx : List BxE} {ow : List OwE}
end
section
variable {P : Program} {Q : Exit → Act → World → Prop} {X : List Nat} {W w w' : World} {r0 rd : Rd} {bx : List BxE} {ow : List OwE} {n d : Nat} {l : Ov} {t ty : TypeId} {pos : String} {af : Array Edge} {v : Value} {v0 x y : Operand} {g i j : Nat} {T : TypeId} {cs : Array Value} {rest : List Oper} {ops : Array Oper}
end
section
variable {P : Program} {Q : Exit → Act → World → Prop} {C : World → Prop} {Qa : Act → Prop} {w : World} {n d j d' : Nat} {l : Ov} {b : Bool} {o : Oper} {op : Op} {ty : TypeId} {pos : String} {af : Array Edge} {rest : List Oper} {ops : Array Oper}
end
end Go.Proofs.Ytkjknlnhffmkkaa
