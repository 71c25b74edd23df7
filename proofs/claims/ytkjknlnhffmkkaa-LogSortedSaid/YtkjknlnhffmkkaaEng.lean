/- A walk by explicit steps: the frame as a list of what was written, the memory as one statement (St), one lemma for each kind of operation. Plain theorems over any program; no condition. -/
import Derived.Test.YtkjknlnhffmkkaaLib
import Derived.Deep.QuietTactic
import Derived.BigQuiet
namespace Go.Proofs.Ytkjknlnhffmkkaa
open Go.RowKit
set_option linter.unusedVariables false

abbrev Ov := List (Nat × Value)
def lk (n : Nat) : Ov → Nat → Value
  | [], _ => undef
  | (d, v) :: l, t => bif d.beq t && Nat.blt d n then v else lk n l t
def bld (n : Nat) : Ov → Array Value
  | [] => Array.replicate n undef
  | (d, v) :: l => (bld n l).setIfInBounds d v
theorem bld_size (n : Nat) : ∀ l : Ov, (bld n l).size = n
  | [] => by simp [bld]
  | (d, v) :: l => by simp [bld, bld_size n l]
theorem bld_get (n : Nat) : ∀ (l : Ov) (t : Nat), (bld n l).getD t undef = lk n l t
  | [], t => by
    simp only [bld, lk, Array.getD_eq_getD_getElem?]
    by_cases h : t < n <;> simp [h]
  | (d, v) :: l, t => by
    have ih := bld_get n l t
    simp only [bld, lk, Array.getD_eq_getD_getElem?] at ih ⊢
    rw [Array.getElem?_setIfInBounds]
    by_cases h : d = t
    · subst h
      by_cases hd : d < n
      · simp [bld_size, hd, Nat.blt]
        have e : Nat.ble (d + 1) n = true := Nat.ble_eq_true_of_le hd
        rw [e]; rfl
      · have e : Nat.ble (d + 1) n = false := by
          rw [Bool.eq_false_iff]; intro e; exact hd (Nat.le_of_ble_eq_true e)
        simp only [bld_size, hd, Nat.blt, e]
        rw [← ih]
        simp [Array.getElem?_eq_none (show (bld n l).size ≤ d by rw [bld_size]; omega)]
    · have e : Nat.beq d t = false := by rw [Bool.eq_false_iff]; intro e; exact h (Nat.eq_of_beq_eq_true e)
      simp [h, e, ih]
def fr (n : Nat) (l : Ov) : Act := ⟨bld n l, []⟩
def ev (n : Nat) (l : Ov) : Operand → Value
  | .tmp t => lk n l t
  | .const v => v
  | .global g => .pointer (some ⟨g, 0, none⟩)
  | .func f => .func (.func f) #[] #[]
theorem eval_fr (n : Nat) (l : Ov) : (fr n l).eval = ev n l := by
  funext x
  cases x with
  | tmp t => exact bld_get n l t
  | _ => rfl
def pt (l : Ov) : Option Tmp → Value → Ov
  | some d, v => (d, v) :: l
  | none, _ => l
theorem put_fr (n : Nat) (l : Ov) (d : Option Tmp) (v : Value) : (fr n l).put d v = fr n (pt l d v) := by cases d <;> rfl
/-- what is known of some slots may be written in front -/
theorem fr_live {n : Nat} {l : Ov} {d : Nat} {v : Value} (h : lk n l d = v) (hd : d < n) : fr n l = fr n ((d, v) :: l) := by
  unfold fr
  congr 1
  refine Array.ext (by simp [bld_size]) fun i h1 h2 => ?_
  have e := bld_get n l i
  have e2 := bld_get n ((d, v) :: l) i
  rw [Array.getD_eq_getD_getElem?, Array.getElem?_eq_getElem h1, Option.getD_some] at e
  rw [Array.getD_eq_getD_getElem?, Array.getElem?_eq_getElem h2, Option.getD_some] at e2
  rw [e, e2]
  show _ = bif d.beq i && Nat.blt d n then v else lk n l i
  by_cases hi : d = i
  · subst hi; rw [h]; simp
  · have e : Nat.beq d i = false := by rw [Bool.eq_false_iff]; intro e; exact hi (Nat.eq_of_beq_eq_true e)
    simp [e]
def Agree (n : Nat) (l : Ov) : Ov → Prop
  | [] => True
  | (d, v) :: m => (lk n l d = v ∧ Nat.blt d n = true) ∧ Agree n l m
theorem lk_app (n : Nat) (l m : Ov) (t : Nat) : Agree n l m → lk n (m ++ l) t = lk n l t := by
  induction m with
  | nil => intro _; rfl
  | cons p m ih =>
    obtain ⟨d, v⟩ := p
    rintro ⟨⟨h1, h2⟩, h3⟩
    show (bif d.beq t && Nat.blt d n then v else lk n (m ++ l) t) = _
    rw [ih h3]
    by_cases hi : d = t
    · subst hi; rw [h1]; simp
    · have e : Nat.beq d t = false := by rw [Bool.eq_false_iff]; intro e; exact hi (Nat.eq_of_beq_eq_true e)
      simp [e]
theorem fr_keep {n : Nat} {l m : Ov} (h : Agree n l m) : fr n l = fr n (m ++ l) := by
  unfold fr
  congr 1
  refine Array.ext (by simp [bld_size]) fun i h1 h2 => ?_
  have e := bld_get n l i
  have e2 := bld_get n (m ++ l) i
  rw [Array.getD_eq_getD_getElem?, Array.getElem?_eq_getElem h1, Option.getD_some] at e
  rw [Array.getD_eq_getD_getElem?, Array.getElem?_eq_getElem h2, Option.getD_some] at e2
  rw [e, e2, lk_app n l m i h]

/-- the frame at the beginning -/
def ini : Nat → List Value → Ov
  | _, [] => []
  | k, v :: l => (k, v) :: ini (k + 1) l
theorem lk_ini (n : Nat) : ∀ (l : List Value) (k t : Nat), t < n → lk n (ini k l) t = if k ≤ t then l.getD (t - k) undef else undef
  | [], k, t, ht => by simp [ini, lk]
  | v :: l, k, t, ht => by
    show (bif k.beq t && Nat.blt k n then v else lk n (ini (k + 1) l) t) = _
    rw [lk_ini n l (k + 1) t ht]
    by_cases hi : k = t
    · subst hi
      have : Nat.ble (k + 1) n = true := Nat.ble_eq_true_of_le ht
      simp [Nat.blt, this]
    · have e : Nat.beq k t = false := by rw [Bool.eq_false_iff]; intro e; exact hi (Nat.eq_of_beq_eq_true e)
      simp only [e, Bool.false_and, cond_false]
      by_cases hk : k ≤ t
      · rw [if_pos (by omega), if_pos hk, show t - k = (t - (k + 1)) + 1 by omega]; rfl
      · rw [if_neg (by omega), if_neg hk]
theorem ini_eq (l : List Value) (n : Nat) (h : l.length ≤ n) : ({ tmps := l.toArray ++ Array.replicate (n - l.toArray.size) undef, defers := [] } : Act) = fr n (ini 0 l) := by
  unfold fr
  congr 1
  refine Array.ext (by simp [bld_size]; omega) fun i h1 h2 => ?_
  have e := bld_get n (ini 0 l) i
  rw [bld_size] at h2
  rw [lk_ini n l 0 i h2, if_pos (Nat.zero_le _), Nat.sub_zero, Array.getD_eq_getD_getElem?, Array.getElem?_eq_getElem (by rw [bld_size]; exact h2), Option.getD_some] at e
  rw [e, List.getD]
  by_cases hi : i < l.length
  · simp [Array.getElem_append, hi]
  · simp [Array.getElem_append, hi]
/-- a list of operations to be walked; it does not unfold by itself -/
structure WL (P : Program) (ops : Array Oper) (Q : Exit → Act → World → Prop) (l : List Oper) (a : Act) (w : World) : Prop where
  out : wpList P ops Q l a w
structure WQ (P : Program) (ops : Array Oper) (C : World → Prop) (Q : Act → Prop) (l : List Oper) (a : Act) : Prop where
  out : wpQuiet P ops C Q l a
/-! ## control -/
inductive Kf where
  | seq (c : Code)
  | blk (id : Nat)
  | lp (I : Act → World → Prop)
def stk (P : Program) (Q : Exit → Act → World → Prop) : List Kf → Exit → Act → World → Prop
  | [] => Q
  | .seq c :: s => Exit.then (c.wp P (stk P Q s)) (stk P Q s)
  | .blk id :: s => Exit.inBlock id (stk P Q s)
  | .lp I :: s => Exit.then I (stk P Q s)
section
variable {P : Program} {Q : Exit → Act → World → Prop} {s : List Kf} {a : Act} {w : World} {x y c : Code} {id i n : Nat}
theorem e_seq (h : x.wp P (stk P Q (.seq y :: s)) a w) : (Code.seq x y).wp P (stk P Q s) a w := wp_seq h
theorem e_blk (h : c.wp P (stk P Q (.blk id :: s)) a w) : (Code.block id c).wp P (stk P Q s) a w := wp_block h
theorem e_skip (h : stk P Q s .normal a w) : Code.skip.wp P (stk P Q s) a w := wp_skip h
theorem e_exit (h : stk P Q s (.exit id) a w) : (Code.exit id).wp P (stk P Q s) a w := wp_exit h
theorem stk_ret (h : Q .ret a w) : ∀ s : List Kf, stk P Q s .ret a w
  | [] => h
  | .seq _ :: s => stk_ret h s
  | .blk _ :: s => stk_ret h s
  | .lp _ :: s => stk_ret h s
theorem e_ret (h : Q .ret a w) : Code.ret.wp P (stk P Q s) a w := wp_ret (stk_ret h s)
theorem n_seq (h : y.wp P (stk P Q s) a w) : stk P Q (.seq y :: s) .normal a w := h
theorem n_blk (h : stk P Q s .normal a w) : stk P Q (.blk id :: s) .normal a w := h
theorem n_lp {I : Act → World → Prop} (h : I a w) : stk P Q (.lp I :: s) .normal a w := h
theorem x_seq (h : stk P Q s (.exit i) a w) : stk P Q (.seq y :: s) (.exit i) a w := h
theorem x_lp {I : Act → World → Prop} (h : stk P Q s (.exit i) a w) : stk P Q (.lp I :: s) (.exit i) a w := h
theorem x_hit (h : stk P Q s .normal a w) : stk P Q (.blk id :: s) (.exit id) a w := by
  show (if id = id then _ else _); rw [if_pos rfl]; exact h
theorem x_miss (hn : Nat.beq i id = false) (h : stk P Q s (.exit i) a w) : stk P Q (.blk id :: s) (.exit i) a w := by
  show (if i = id then _ else _); rw [if_neg (fun e => by subst e; simp at hn)]; exact h
theorem e_cT {l : Ov} {o : Operand} (hc : ev n l o = .bool true) (h : x.wp P (stk P Q s) (fr n l) w) : (Code.cond o x y).wp P (stk P Q s) (fr n l) w := wp_cond_true (by rw [eval_fr]; exact hc) h
theorem e_cF {l : Ov} {o : Operand} (hc : ev n l o = .bool false) (h : y.wp P (stk P Q s) (fr n l) w) : (Code.cond o x y).wp P (stk P Q s) (fr n l) w := wp_cond_false (by rw [eval_fr]; exact hc) h
theorem e_reg {l : List Oper} (h : WL P l.toArray (stk P Q s) l a w) : (Code.region id l.toArray false).wp P (stk P Q s) a w := wp_region_lit h.1
theorem e_q {l : List Oper} {C : World → Prop} (hm : P.follows .mixedOrders = true) (hB : Region.lexB .any l.toArray = true) (hC : C w.drew)
    (h : WQ P l.toArray C (fun a' => ∀ w', C w' → stk P Q s .normal a' w') l a) : (Code.region id l.toArray true).wp P (stk P Q s) a w :=
  wp_region_quiet hm hB hC (by simpa using h.1)
theorem l_nil {ops : Array Oper} (h : stk P Q s .normal a w) : WL P ops (stk P Q s) [] a w := ⟨h⟩
theorem q_nil {ops : Array Oper} {C : World → Prop} (h : ∀ w', C w' → stk P Q s .normal a w') : WQ P ops C (fun a' => ∀ w', C w' → stk P Q s .normal a' w') [] a := ⟨h⟩

theorem least {p : Nat → Prop} (h : ∃ m, p m) : ∃ m, p m ∧ ∀ k, p k → m ≤ k := by
  obtain ⟨m, hm⟩ := h
  induction m using Nat.strongRecOn with
  | _ m ih =>
    by_cases hk : ∃ k, k < m ∧ p k
    · obtain ⟨k, h1, h2⟩ := hk
      exact ih k h1 h2
    · exact ⟨m, hm, fun k hp => Nat.le_of_not_lt fun hlt => hk ⟨k, hlt, hp⟩⟩
def LpI {ι : Type} (n : Nat) (J : ι → Ov → World → Prop) (m : ι → Nat) (b : Nat) (a : Act) (w : World) : Prop := ∃ i ov, a = fr n ov ∧ J i ov w ∧ m i < b
open Classical in
theorem e_loop {ι : Type} (J : ι → Ov → World → Prop) (m : ι → Nat) (i0 : ι) {ov : Ov} (h0 : J i0 ov w)
    (round : ∀ i ov w, J i ov w → c.wp P (stk P Q (.lp (LpI n J m (m i)) :: s)) (fr n ov) w) : (Code.loop c).wp P (stk P Q s) (fr n ov) w := by
  let p : Act → World → Nat → Prop := fun a w k => ∃ i ov, a = fr n ov ∧ J i ov w ∧ m i = k
  let μ : Act → World → Nat := fun a w => if h : ∃ k, p a w k then Classical.choose (least h) else 0
  have hμ : ∀ a w, (∃ k, p a w k) → p a w (μ a w) ∧ ∀ k, p a w k → μ a w ≤ k := fun a w h => by
    show p a w (dite _ _ _) ∧ ∀ k, p a w k → (dite _ _ _) ≤ k
    rw [dif_pos h]
    exact Classical.choose_spec (least h)
  refine wp_loop (fun a w => ∃ k, p a w k) μ ⟨_, i0, ov, rfl, h0, rfl⟩ fun a w hI => ?_
  obtain ⟨⟨i, ov', ha, hJ, hm⟩, _⟩ := hμ a w hI
  subst ha
  refine wp_mono (round i ov' w hJ) fun e a' w' hq => ?_
  cases e <;> first | exact hq | skip
  obtain ⟨i', ov2, ha', hJ', hlt⟩ := hq
  have hI' : ∃ k, p a' w' k := ⟨_, i', ov2, ha', hJ', rfl⟩
  exact ⟨hI', by have := (hμ a' w' hI').2 (m i') ⟨i', ov2, ha', hJ', rfl⟩; omega⟩
/-- entering -/
theorem e_enter {f : FuncId} {fn : Func} {args : List Value} {R : Ending → World → Prop} (n : Nat) (hf : P.funcs[f]? = some fn) (hb : fn.body = some c) (hn : fn.ntmps = n) (hl : Nat.ble args.length n = true)
    (h : c.wp P (stk P (bodyPost P fn R) []) (fr n (ini 0 args)) w) : Calls P f args.toArray w R :=
  calls_of_wp hf hb (by
    subst hn
    rw [ini_eq args fn.ntmps (Nat.le_of_ble_eq_true hl)]
    exact h)
/-- cut: what is known behind a piece -/
theorem e_cut {y : Code} {J : Ov → World → Prop} {l : Ov} (h : x.wp P (stk P Q (.lp (fun a w => ∃ ov, a = fr n ov ∧ J ov w) :: s)) (fr n l) w) (k : ∀ ov w, J ov w → y.wp P (stk P Q s) (fr n ov) w) : (Code.seq x y).wp P (stk P Q s) (fr n l) w := by
  refine wp_seq (wp_mono h fun e a w hq => ?_)
  cases e <;> first | exact hq | skip
  obtain ⟨ov, rfl, hJ⟩ := hq
  exact k ov w hJ
end

/-! ## operations that hand back a value -/
def Yv (P : Program) (C : World → Prop) (e : Operand → Value) (o : Oper) (v : Value) : Prop := ∀ w, C w → (execOp e o).run P w = .ok (.value v) w
section
variable {P : Program} {Q : Exit → Act → World → Prop} {w : World} {n : Nat} {l : Ov} {o : Oper} {rest : List Oper} {ops : Array Oper} {C : World → Prop} {v : Value} {Qa : Act → Prop}
theorem l_y0 (S : C w) (Y : Yv P C (ev n l) o v) (hg : o.guard = none) (h : wpList P ops Q rest (fr n (pt l o.dst v)) w) : wpList P ops Q (o :: rest) (fr n l) w := by
  refine wpList_plain hg fun K hK => ?_
  unfold Oper.wp
  rw [eval_fr, Y w S, Oper.upon_value, put_fr]
  exact hK _ _ h
theorem yielded_at {j d : Nat} {b : Bool} (hd : (ops[j]?).bind (·.dst) = some d) (hb : lk n l d = .bool b) : yielded ops (bld n l) j = some b := by
  unfold yielded
  rw [hd]
  have e := bld_get n l d
  rw [hb, Array.getD_eq_getD_getElem?] at e
  simp only [Option.bind_some]
  rcases h : (bld n l)[d]? with _ | x
  · rw [h] at e; cases e
  · rw [h] at e; simp only [Option.getD_some] at e; subst e; rfl
theorem l_g0 {j d : Nat} {b : Bool} (S : C w) (Y : Yv P C (ev n l) o v) (hg : o.guard = some (j, b)) (hd : (ops[j]?).bind (·.dst) = some d) (hb : lk n l d = .bool b)
    (h : wpList P ops Q rest (fr n (pt l o.dst v)) w) : wpList P ops Q (o :: rest) (fr n l) w := by
  refine wpList_step fun K hK => ?_
  have hw : Region.wanted o (yielded ops (fr n l).tmps) = true := by
    unfold Region.wanted; rw [hg]; show (yielded ops (bld n l) j == some b) = true
    rw [yielded_at hd hb]; simp
  rw [if_pos hw]
  unfold Oper.wp
  rw [eval_fr, Y w S, Oper.upon_value, put_fr]
  exact hK _ _ h
theorem l_s0 {j d : Nat} {b : Bool} (hg : o.guard = some (j, b)) (hd : (ops[j]?).bind (·.dst) = some d) (hb : lk n l d = .bool (!b))
    (h : wpList P ops Q rest (fr n (pt l o.dst undef)) w) : wpList P ops Q (o :: rest) (fr n l) w := by
  refine wpList_step fun K hK => ?_
  have hw : Region.wanted o (yielded ops (fr n l).tmps) = false := by
    unfold Region.wanted; rw [hg]; show (yielded ops (bld n l) j == some b) = false
    rw [yielded_at hd hb]; cases b <;> rfl
  rw [if_neg (by rw [hw]; simp), put_fr]
  exact hK _ _ h
theorem q_y0 (Y : Yv P C (ev n l) o v) (hg : o.guard = none) (h : wpQuiet P ops C Qa rest (fr n (pt l o.dst v))) : wpQuiet P ops C Qa (o :: rest) (fr n l) := by
  refine wpQuiet_step fun K hK => ?_
  have hw : Region.wanted o (yielded ops (fr n l).tmps) = true := by unfold Region.wanted; rw [hg]
  rw [if_pos hw]
  refine ⟨v, fun w S => ?_, ?_⟩
  · unfold Oper.quietAt; rw [eval_fr, Y w S]; exact ⟨rfl, rfl⟩
  · rw [put_fr]; exact hK _ h
theorem q_g0 {j d : Nat} {b : Bool} (Y : Yv P C (ev n l) o v) (hg : o.guard = some (j, b)) (hd : (ops[j]?).bind (·.dst) = some d) (hb : lk n l d = .bool b)
    (h : wpQuiet P ops C Qa rest (fr n (pt l o.dst v))) : wpQuiet P ops C Qa (o :: rest) (fr n l) := by
  refine wpQuiet_step fun K hK => ?_
  have hw : Region.wanted o (yielded ops (fr n l).tmps) = true := by
    unfold Region.wanted; rw [hg]; show (yielded ops (bld n l) j == some b) = true
    rw [yielded_at hd hb]; simp
  rw [if_pos hw]
  refine ⟨v, fun w S => ?_, ?_⟩
  · unfold Oper.quietAt; rw [eval_fr, Y w S]; exact ⟨rfl, rfl⟩
  · rw [put_fr]; exact hK _ h
theorem q_s0 {j d : Nat} {b : Bool} (hg : o.guard = some (j, b)) (hd : (ops[j]?).bind (·.dst) = some d) (hb : lk n l d = .bool (!b))
    (h : wpQuiet P ops C Qa rest (fr n (pt l o.dst undef))) : wpQuiet P ops C Qa (o :: rest) (fr n l) := by
  refine wpQuiet_step fun K hK => ?_
  have hw : Region.wanted o (yielded ops (fr n l).tmps) = false := by
    unfold Region.wanted; rw [hg]; show (yielded ops (bld n l) j == some b) = false
    rw [yielded_at hd hb]; cases b <;> rfl
  rw [if_neg (by rw [hw]; simp), put_fr]
  exact hK _ h
/-- a call, in a list -/
def CK (P : Program) (ops : Array Oper) (Q : Exit → Act → World → Prop) (rest : List Oper) (n : Nat) (l : Ov) (d : Option Tmp) : Ending → World → Prop
  | .returned v, w => WL P ops Q rest (fr n (pt l d v)) w
  | _, _ => False
theorem ck {d : Option Tmp} (h : WL P ops Q rest (fr n (pt l d v)) w) : CK P ops Q rest n l d (.returned v) w := h
def En (P : Program) (e : Operand → Value) (o : Oper) (f : FuncId) (vs : Array Value) : Prop := ∀ w, (execOp e o).run P w = .ok (.enter f vs) w
theorem wp_enter {f : FuncId} {vs : Array Value} (E : En P (ev n l) o f vs) (h : Calls P f vs w (CK P ops Q rest n l o.dst)) (K : Act → World → Prop) (hK : ∀ a w, wpList P ops Q rest a w → K a w) : o.wp P (fr n l) w K Q := by
  unfold Oper.wp
  rw [eval_fr, E w, Oper.upon_enter]
  refine h.mono fun e w' he => ?_
  cases e with
  | returned v => show K _ _; rw [put_fr]; exact hK _ _ he.1
  | panicked _ => exact he.elim
  | outgrown => exact he.elim
theorem l_c0 {f : FuncId} {vs : Array Value} {R : Ending → World → Prop} (E : En P (ev n l) o f vs) (hg : o.guard = none) (c : Calls P f vs w R) (h : ∀ e w', R e w' → CK P ops Q rest n l o.dst e w') : wpList P ops Q (o :: rest) (fr n l) w :=
  wpList_plain hg (wp_enter E (c.mono h))
theorem l_cg0 {j d : Nat} {b : Bool} {f : FuncId} {vs : Array Value} {R : Ending → World → Prop} (E : En P (ev n l) o f vs) (hg : o.guard = some (j, b)) (hd : (ops[j]?).bind (·.dst) = some d) (hb : lk n l d = .bool b)
    (c : Calls P f vs w R) (h : ∀ e w', R e w' → CK P ops Q rest n l o.dst e w') : wpList P ops Q (o :: rest) (fr n l) w := by
  refine wpList_step fun K hK => ?_
  have hw : Region.wanted o (yielded ops (fr n l).tmps) = true := by
    unfold Region.wanted; rw [hg]; show (yielded ops (bld n l) j == some b) = true
    rw [yielded_at hd hb]; simp
  rw [if_pos hw]
  exact wp_enter E (c.mono h) K hK
theorem quiet_enter {f : FuncId} {vs : Array Value} (E : En P (ev n l) o f vs) (c : ∀ w, C w → Calls P f vs w (fun e w' => e = .returned v ∧ C w')) {K : Act → Prop} (h : K (fr n (pt l o.dst v))) : o.quiet P (fr n l) C K := by
  refine ⟨v, fun w S => ?_, by rw [put_fr]; exact h⟩
  unfold Oper.quietAt; rw [eval_fr, E w]; exact ⟨rfl, c w S⟩
theorem q_c0 {f : FuncId} {vs : Array Value} (E : En P (ev n l) o f vs) (hg : o.guard = none) (c : ∀ w, C w → Calls P f vs w (fun e w' => e = .returned v ∧ C w')) (h : wpQuiet P ops C Qa rest (fr n (pt l o.dst v))) : wpQuiet P ops C Qa (o :: rest) (fr n l) := by
  refine wpQuiet_step fun K hK => ?_
  have hw : Region.wanted o (yielded ops (fr n l).tmps) = true := by unfold Region.wanted; rw [hg]
  rw [if_pos hw]
  exact quiet_enter E c (hK _ h)
theorem q_cg0 {j d : Nat} {b : Bool} {f : FuncId} {vs : Array Value} (E : En P (ev n l) o f vs) (hg : o.guard = some (j, b)) (hd : (ops[j]?).bind (·.dst) = some d) (hb : lk n l d = .bool b)
    (c : ∀ w, C w → Calls P f vs w (fun e w' => e = .returned v ∧ C w')) (h : wpQuiet P ops C Qa rest (fr n (pt l o.dst v))) : wpQuiet P ops C Qa (o :: rest) (fr n l) := by
  refine wpQuiet_step fun K hK => ?_
  have hw : Region.wanted o (yielded ops (fr n l).tmps) = true := by
    unfold Region.wanted; rw [hg]; show (yielded ops (bld n l) j == some b) = true
    rw [yielded_at hd hb]; simp
  rw [if_pos hw]
  exact quiet_enter E c (hK _ h)
/-- an operation that turns the world -/
def Tw (P : Program) (e : Operand → Value) (o : Oper) (w : World) (v : Value) (w' : World) : Prop := (execOp e o).run P w = .ok (.value v) w' ∨ (v = undef ∧ (execOp e o).run P w = .ok .skip w')
theorem l_t0 {w' : World} (T : Tw P (ev n l) o w v w') (hg : o.guard = none) (h : wpList P ops Q rest (fr n (pt l o.dst v)) w') : wpList P ops Q (o :: rest) (fr n l) w := by
  refine wpList_plain hg fun K hK => ?_
  unfold Oper.wp
  rcases T with T | ⟨rfl, T⟩
  · rw [eval_fr, T, Oper.upon_value, put_fr]; exact hK _ _ h
  · rw [eval_fr, T, Oper.upon_skip, put_fr]; exact hK _ _ h
end

section
variable {P : Program} {Q : Exit → Act → World → Prop} {w : World} {n d j d' : Nat} {l : Ov} {b : Bool} {op : Op} {ty : TypeId} {pos : String} {af : Array Edge} {rest : List Oper} {ops : Array Oper} {C : World → Prop} {v : Value} {Qa : Act → Prop}
theorem l_y (S : C w) (Y : Yv P C (ev n l) ⟨some d, op, ty, pos, af, none⟩ v) (h : WL P ops Q rest (fr n ((d, v) :: l)) w) : WL P ops Q (⟨some d, op, ty, pos, af, none⟩ :: rest) (fr n l) w := ⟨l_y0 S Y rfl h.1⟩
theorem l_g (S : C w) (Y : Yv P C (ev n l) ⟨some d, op, ty, pos, af, some (j, b)⟩ v) (hd : (ops.toList[j]?).bind (·.dst) = some d') (hb : lk n l d' = .bool b) (h : WL P ops Q rest (fr n ((d, v) :: l)) w) : WL P ops Q (⟨some d, op, ty, pos, af, some (j, b)⟩ :: rest) (fr n l) w := ⟨l_g0 S Y rfl (by rwa [Array.getElem?_toList] at hd) hb h.1⟩
theorem l_s (hd : (ops.toList[j]?).bind (·.dst) = some d') (hb : lk n l d' = .bool (!b)) (h : WL P ops Q rest (fr n ((d, undef) :: l)) w) : WL P ops Q (⟨some d, op, ty, pos, af, some (j, b)⟩ :: rest) (fr n l) w := ⟨l_s0 rfl (by rwa [Array.getElem?_toList] at hd) hb h.1⟩
theorem q_y (Y : Yv P C (ev n l) ⟨some d, op, ty, pos, af, none⟩ v) (h : WQ P ops C Qa rest (fr n ((d, v) :: l))) : WQ P ops C Qa (⟨some d, op, ty, pos, af, none⟩ :: rest) (fr n l) := ⟨q_y0 Y rfl h.1⟩
theorem q_g (Y : Yv P C (ev n l) ⟨some d, op, ty, pos, af, some (j, b)⟩ v) (hd : (ops.toList[j]?).bind (·.dst) = some d') (hb : lk n l d' = .bool b) (h : WQ P ops C Qa rest (fr n ((d, v) :: l))) : WQ P ops C Qa (⟨some d, op, ty, pos, af, some (j, b)⟩ :: rest) (fr n l) := ⟨q_g0 Y rfl (by rwa [Array.getElem?_toList] at hd) hb h.1⟩
theorem q_s (hd : (ops.toList[j]?).bind (·.dst) = some d') (hb : lk n l d' = .bool (!b)) (h : WQ P ops C Qa rest (fr n ((d, undef) :: l))) : WQ P ops C Qa (⟨some d, op, ty, pos, af, some (j, b)⟩ :: rest) (fr n l) := ⟨q_s0 rfl (by rwa [Array.getElem?_toList] at hd) hb h.1⟩
theorem l_c {f : FuncId} {vs : Array Value} {R : Ending → World → Prop} (E : En P (ev n l) ⟨some d, op, ty, pos, af, none⟩ f vs) (c : Calls P f vs w R) (h : ∀ e w', R e w' → CK P ops Q rest n l (some d) e w') : WL P ops Q (⟨some d, op, ty, pos, af, none⟩ :: rest) (fr n l) w := ⟨l_c0 E rfl c h⟩
theorem l_cn {f : FuncId} {vs : Array Value} {R : Ending → World → Prop} (E : En P (ev n l) ⟨none, op, ty, pos, af, none⟩ f vs) (c : Calls P f vs w R) (h : ∀ e w', R e w' → CK P ops Q rest n l none e w') : WL P ops Q (⟨none, op, ty, pos, af, none⟩ :: rest) (fr n l) w := ⟨l_c0 E rfl c h⟩
theorem l_cg {f : FuncId} {vs : Array Value} {R : Ending → World → Prop} (E : En P (ev n l) ⟨some d, op, ty, pos, af, some (j, b)⟩ f vs) (hd : (ops.toList[j]?).bind (·.dst) = some d') (hb : lk n l d' = .bool b) (c : Calls P f vs w R) (h : ∀ e w', R e w' → CK P ops Q rest n l (some d) e w') : WL P ops Q (⟨some d, op, ty, pos, af, some (j, b)⟩ :: rest) (fr n l) w := ⟨l_cg0 E rfl (by rwa [Array.getElem?_toList] at hd) hb c h⟩
theorem q_c {f : FuncId} {vs : Array Value} (E : En P (ev n l) ⟨some d, op, ty, pos, af, none⟩ f vs) (c : ∀ w, C w → Calls P f vs w (fun e w' => e = .returned v ∧ C w')) (h : WQ P ops C Qa rest (fr n ((d, v) :: l))) : WQ P ops C Qa (⟨some d, op, ty, pos, af, none⟩ :: rest) (fr n l) := ⟨q_c0 E rfl c h.1⟩
theorem q_cg {f : FuncId} {vs : Array Value} (E : En P (ev n l) ⟨some d, op, ty, pos, af, some (j, b)⟩ f vs) (hd : (ops.toList[j]?).bind (·.dst) = some d') (hb : lk n l d' = .bool b) (c : ∀ w, C w → Calls P f vs w (fun e w' => e = .returned v ∧ C w')) (h : WQ P ops C Qa rest (fr n ((d, v) :: l))) : WQ P ops C Qa (⟨some d, op, ty, pos, af, some (j, b)⟩ :: rest) (fr n l) := ⟨q_cg0 E rfl (by rwa [Array.getElem?_toList] at hd) hb c h.1⟩
theorem l_t {w' : World} (T : Tw P (ev n l) ⟨some d, op, ty, pos, af, none⟩ w v w') (h : WL P ops Q rest (fr n ((d, v) :: l)) w') : WL P ops Q (⟨some d, op, ty, pos, af, none⟩ :: rest) (fr n l) w := ⟨l_t0 T rfl h.1⟩
theorem l_tn {w' : World} (T : Tw P (ev n l) ⟨none, op, ty, pos, af, none⟩ w v w') (h : WL P ops Q rest (fr n l) w') : WL P ops Q (⟨none, op, ty, pos, af, none⟩ :: rest) (fr n l) w := ⟨l_t0 T rfl h.1⟩
theorem ckd (h : WL P ops Q rest (fr n ((d, v) :: l)) w) : CK P ops Q rest n l (some d) (.returned v) w := h
theorem ckn (h : WL P ops Q rest (fr n l) w) : CK P ops Q rest n l none (.returned v) w := h
end
theorem amap {α β : Type} {e : α → β} {as : Array α} {us : List β} (h : as.toList.map e = us) : as.map e = us.toArray := by subst h; cases as; simp
section
variable {P : Program} {C : World → Prop} {e : Operand → Value} {d : Option Tmp} {t ty : TypeId} {pos : String} {af : Array Edge} {g : Option (Nat × Bool)} {v : Value} {x y c : Operand}
theorem y_mv (h : e x = v) : Yv P C e ⟨d, .move x, ty, pos, af, g⟩ v := fun w _ => by subst h; rfl
theorem y_as (h : e x = v) : Yv P C e ⟨d, .assign x, ty, pos, af, g⟩ v := fun w _ => by subst h; rfl
theorem y_pT (hc : e c = .bool true) (h : e x = v) : Yv P C e ⟨d, .pick c x y, ty, pos, af, g⟩ v := fun w _ => by subst h; simp [execOp, hc, asBool]
theorem y_pF (hc : e c = .bool false) (h : e y = v) : Yv P C e ⟨d, .pick c x y, ty, pos, af, g⟩ v := fun w _ => by subst h; simp [execOp, hc, asBool]
theorem y_ex {i : Nat} {vs : Array Value} (h : e x = .tuple vs) (hi : vs[i]? = some v) : Yv P C e ⟨d, .extract x i, ty, pos, af, g⟩ v := fun w _ => by simp [execOp, h, Instr.extract, hi]
theorem y_not {b b' : Bool} (h : e x = .bool b) (hb : (!b) = b') : Yv P C e ⟨d, .unOp .not t x, ty, pos, af, g⟩ (.bool b') := fun w _ => by subst hb; simp [execOp, h, Op.unary]
theorem y_nc {b : Addr} (h : e x = .pointer (some b)) : Yv P C e ⟨d, .nilCheck x, ty, pos, af, g⟩ (.pointer (some b)) := fun w _ => by simp [execOp, h]
theorem y_ncf {f : Fn} {i : Nat} {as bs : Array Value} (hf : f = .func i) (h : e x = .func f as bs) : Yv P C e ⟨d, .nilCheck x, ty, pos, af, g⟩ (.func f as bs) := fun w _ => by subst hf; simp [execOp, h]
theorem y_mf {f : Fn} {as bs : Array Operand} {as' bs' : List Value} (h1 : as.toList.map e = as') (h2 : bs.toList.map e = bs') : Yv P C e ⟨d, .makeFunc f as bs, ty, pos, af, g⟩ (.func f as'.toArray bs'.toArray) := fun w _ => by rw [← amap h1, ← amap h2]; rfl
section
variable {k : IntKind} {p q : Int} {yt : TypeId} {b : Bool}
theorem bo (op : BinOp) (h1 : e x = .int k p) (h2 : e y = .int k q) (w : World) (h : (binOp op t (.int k p) (.int k q)).run P w = .ok v w) : (execOp e ⟨d, .binOp op t x y yt, ty, pos, af, g⟩).run P w = .ok (.value v) w := by
  simp [execOp, h1, h2, eqGuard]
  rw [h]
  cases op <;> rfl
theorem cmp_run (op : BinOp) (hop : op = .eql ∨ op = .neq ∨ op = .lss ∨ op = .leq ∨ op = .gtr ∨ op = .geq) (w : World) : (binOp op t (.int k p) (.int k q)).run P w = (Op.intCmp op p q).run P w := by
  rcases hop with rfl | rfl | rfl | rfl | rfl | rfl <;> simp [binOp]
theorem y_ltT (h1 : e x = .int k p) (h2 : e y = .int k q) (h : p < q) : Yv P C e ⟨d, .binOp .lss t x y yt, ty, pos, af, g⟩ (.bool true) := fun w _ => bo _ h1 h2 w (by rw [cmp_run _ (by simp)]; simp [Op.intCmp, h])
theorem y_ltF (h1 : e x = .int k p) (h2 : e y = .int k q) (h : ¬ p < q) : Yv P C e ⟨d, .binOp .lss t x y yt, ty, pos, af, g⟩ (.bool false) := fun w _ => bo _ h1 h2 w (by rw [cmp_run _ (by simp)]; simp [Op.intCmp]; omega)
theorem y_leT (h1 : e x = .int k p) (h2 : e y = .int k q) (h : p ≤ q) : Yv P C e ⟨d, .binOp .leq t x y yt, ty, pos, af, g⟩ (.bool true) := fun w _ => bo _ h1 h2 w (by rw [cmp_run _ (by simp)]; simp [Op.intCmp, h])
theorem y_leF (h1 : e x = .int k p) (h2 : e y = .int k q) (h : ¬ p ≤ q) : Yv P C e ⟨d, .binOp .leq t x y yt, ty, pos, af, g⟩ (.bool false) := fun w _ => bo _ h1 h2 w (by rw [cmp_run _ (by simp)]; simp [Op.intCmp]; omega)
theorem y_gtT (h1 : e x = .int k p) (h2 : e y = .int k q) (h : q < p) : Yv P C e ⟨d, .binOp .gtr t x y yt, ty, pos, af, g⟩ (.bool true) := fun w _ => bo _ h1 h2 w (by rw [cmp_run _ (by simp)]; simp [Op.intCmp, h])
theorem y_gtF (h1 : e x = .int k p) (h2 : e y = .int k q) (h : ¬ q < p) : Yv P C e ⟨d, .binOp .gtr t x y yt, ty, pos, af, g⟩ (.bool false) := fun w _ => bo _ h1 h2 w (by rw [cmp_run _ (by simp)]; simp [Op.intCmp]; omega)
theorem y_geT (h1 : e x = .int k p) (h2 : e y = .int k q) (h : q ≤ p) : Yv P C e ⟨d, .binOp .geq t x y yt, ty, pos, af, g⟩ (.bool true) := fun w _ => bo _ h1 h2 w (by rw [cmp_run _ (by simp)]; simp [Op.intCmp, h])
theorem y_geF (h1 : e x = .int k p) (h2 : e y = .int k q) (h : ¬ q ≤ p) : Yv P C e ⟨d, .binOp .geq t x y yt, ty, pos, af, g⟩ (.bool false) := fun w _ => bo _ h1 h2 w (by rw [cmp_run _ (by simp)]; simp [Op.intCmp]; omega)
theorem y_eqT (h1 : e x = .int k p) (h2 : e y = .int k q) (h : p = q) : Yv P C e ⟨d, .binOp .eql t x y yt, ty, pos, af, g⟩ (.bool true) := fun w _ => bo _ h1 h2 w (by rw [cmp_run _ (by simp)]; simp [Op.intCmp, h])
theorem y_eqF (h1 : e x = .int k p) (h2 : e y = .int k q) (h : ¬ p = q) : Yv P C e ⟨d, .binOp .eql t x y yt, ty, pos, af, g⟩ (.bool false) := fun w _ => bo _ h1 h2 w (by rw [cmp_run _ (by simp)]; simp [Op.intCmp, h])
theorem y_neT (h1 : e x = .int k p) (h2 : e y = .int k q) (h : ¬ p = q) : Yv P C e ⟨d, .binOp .neq t x y yt, ty, pos, af, g⟩ (.bool true) := fun w _ => bo _ h1 h2 w (by rw [cmp_run _ (by simp)]; simp [Op.intCmp, h])
theorem y_neF (h1 : e x = .int k p) (h2 : e y = .int k q) (h : p = q) : Yv P C e ⟨d, .binOp .neq t x y yt, ty, pos, af, g⟩ (.bool false) := fun w _ => bo _ h1 h2 w (by rw [cmp_run _ (by simp)]; simp [Op.intCmp, h])
theorem y_add {r : Int} (h1 : e x = .int k p) (h2 : e y = .int k q) (h : k.wrap (p + q) = r) : Yv P C e ⟨d, .binOp .add t x y yt, ty, pos, af, g⟩ (.int k r) := fun w _ => bo _ h1 h2 w (by subst h; simp [binOp, Op.intArith])
theorem y_sub {r : Int} (h1 : e x = .int k p) (h2 : e y = .int k q) (h : k.wrap (p - q) = r) : Yv P C e ⟨d, .binOp .sub t x y yt, ty, pos, af, g⟩ (.int k r) := fun w _ => bo _ h1 h2 w (by subst h; simp [binOp, Op.intArith])
theorem y_mul {r : Int} (h1 : e x = .int k p) (h2 : e y = .int k q) (h : k.wrap (p * q) = r) : Yv P C e ⟨d, .binOp .mul t x y yt, ty, pos, af, g⟩ (.int k r) := fun w _ => bo _ h1 h2 w (by subst h; simp [binOp, Op.intArith])
end
theorem y_len {A : Option Addr} {m cp : Nat} {ts : Array TypeId} {el : TypeId} (ht : P.underlying t = some (.slice el)) (hts : ts[0]? = some t) (h : e x = .slice A m cp) : Yv P C e ⟨d, .call ⟨.builtin .len, #[x], ts⟩, ty, pos, af, g⟩ (.int .i64 m) := fun w _ => by
  simp [execOp, resolve, invoke, builtin, h, hts, Builtin.len_, goInt, run_underlying ht]
theorem y_max {k : IntKind} {p q : Int} {ts : Array TypeId} (h1 : e x = .int k p) (h2 : e y = .int k q) : Yv P C e ⟨d, .call ⟨.builtin .max, #[x, y], ts⟩, ty, pos, af, g⟩ (.int k (max p q)) := fun w _ => by
  simp [execOp, resolve, invoke, builtin, h1, h2, Builtin.max_, Builtin.max2]
  split <;> omega
theorem y_min {k : IntKind} {p q : Int} {ts : Array TypeId} (h1 : e x = .int k p) (h2 : e y = .int k q) : Yv P C e ⟨d, .call ⟨.builtin .min, #[x, y], ts⟩, ty, pos, af, g⟩ (.int k (min p q)) := fun w _ => by
  simp [execOp, resolve, invoke, builtin, h1, h2, Builtin.min_, Builtin.min2]
  split <;> omega
theorem en_f {f : FuncId} {as : Array Operand} {vs : List Value} {ts : Array TypeId} (hf : ∀ w, (callFunc f vs.toArray).run P w = .ok (.enter f vs.toArray) w) (hx : e x = .func (.func f) #[] #[]) (h : as.toList.map e = vs) : En P e ⟨d, .call ⟨.value x, as, ts⟩, ty, pos, af, g⟩ f vs.toArray := fun w => by
  have := hf w
  have h := amap h
  simp [execOp, resolve, invoke, hx, Deferred.ofValue, h, this]
theorem en_v {f : FuncId} {as : Array Operand} {vs us cs : List Value} {ts : Array TypeId} (hf : ∀ w, (callFunc f us.toArray).run P w = .ok (.enter f us.toArray) w) (hx : e x = .func (.func f) #[] cs.toArray) (h : as.toList.map e = vs) (hu : vs ++ cs = us) : En P e ⟨d, .call ⟨.value x, as, ts⟩, ty, pos, af, g⟩ f us.toArray := fun w => by
  have := hf w
  have h := amap h
  subst hu
  simp [execOp, resolve, invoke, hx, Deferred.ofValue, h, this]
end
theorem w64 {x : Int} (h1 : -9223372036854775808 ≤ x) (h2 : x ≤ 9223372036854775807) : IntKind.i64.wrap x = x := IntWalk.i64_in _ (by omega)
end Go.Proofs.Ytkjknlnhffmkkaa
