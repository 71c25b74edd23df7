/- Loads, stores, addresses, new blocks, append, slicing, results: the steps. Plain theorems over any program; no condition. -/
import Derived.Test.YtkjknlnhffmkkaaEngO
namespace Go.Proofs.Ytkjknlnhffmkkaa
open Go.RowKit
set_option linter.unusedVariables false

/-- a type of one cell; a struct of k cells -/
structure Ty1 (P : Program) (t : TypeId) : Prop where
  a : ∀ w, (isAgg t).run P w = .ok false w
  s : ∀ w, (sizeOf t).run P w = .ok 1 w
structure TyA (P : Program) (t : TypeId) (k : Nat) : Prop where
  a : ∀ w, (isAgg t).run P w = .ok true w
  s : ∀ w, (sizeOf t).run P w = .ok k w
/-- the cells behind a pointer -/
def PtrC (rd : Rd) (p : Value) (cs : List Value) : Prop := ∃ b o, p = .pointer (some ⟨b, o, none⟩) ∧ ∀ j u, cs[j]? = some u → rd b (o + j) = some u
theorem PtrC.mono {rd rd' : Rd} {p : Value} {cs : List Value} (h : PtrC rd p cs) (hle : Rd.le rd rd') : PtrC rd' p cs := by
  obtain ⟨b, o, e, h⟩ := h
  exact ⟨b, o, e, fun j u hu => hle _ _ _ (h j u hu)⟩
def Ld (P : Program) (w : World) (t : TypeId) (p v : Value) : Prop := (Instr.loadAt t p).run P w = .ok v w
section
variable {P : Program} {X : List Nat} {W w w' : World} {r0 rd : Rd} {bx : List BxE} {ow : List OwE} {C : World → Prop} {e : Operand → Value} {d : Option Tmp} {t ty : TypeId} {pos : String} {af : Array Edge} {gd : Option (Nat × Bool)} {v p : Value} {x y : Operand} {g i j : Nat} {T : TypeId} {cs : Array Value}
theorem ld_1 {a : Addr} (ht : Ty1 P t) (hc : w.cell? a = some v) : Ld P w t (.pointer (some a)) v := by
  unfold Ld Instr.loadAt Instr.sureAddr loadVar
  simp [Sem.run_bind, ht.a, hc]
theorem ld_A {b o k : Nat} {vs : List Value} (ht : TyA P t k) (hk : vs.length = k) (hc : ∀ j u, vs[j]? = some u → w.cell? ⟨b, o + j, none⟩ = some u) : Ld P w t (.pointer (some ⟨b, o, none⟩)) (.agg vs.toArray) := by
  subst hk
  have hl : (loadCells ⟨b, o, none⟩ vs.length).run P w = .ok vs.toArray w :=
    run_loadCells_list (P := P) w ⟨b, o, none⟩ vs (fun j v hv => by rw [Addr.add_mid]; exact hc j v hv)
  unfold Ld Instr.loadAt Instr.sureAddr loadVar
  simp [Sem.run_bind, ht.a, ht.s, hl]
theorem St.cell (S : St X W r0 rd bx ow w) (hi : bx[i]? = some (g, T, cs)) (j : Nat) : w.cell? ⟨g, j, none⟩ = cs[j]? := cell_of_row w g j cs T (0, 0) (S.box _ (List.mem_of_getElem? hi)).2.1
theorem ld_b1 (S : St X W r0 rd bx ow w) (hi : bx[i]? = some (g, T, cs)) (hj : cs[j]? = some v) (ht : Ty1 P t) : Ld P w t (.pointer (some ⟨g, j, none⟩)) v := ld_1 ht (by rw [S.cell hi]; exact hj)
theorem ld_bA {k : Nat} {vs : List Value} (S : St X W r0 rd bx ow w) (hi : bx[i]? = some (g, T, cs)) (ht : TyA P t k) (hk : vs.length = k) (hv : (cs.toList.drop j).take k = vs) : Ld P w t (.pointer (some ⟨g, j, none⟩)) (.agg vs.toArray) :=
  ld_A ht hk fun j' u hu => by
    rw [S.cell hi]
    rw [← hv, List.getElem?_take] at hu
    split at hu
    · rw [List.getElem?_drop] at hu; simpa using hu
    · cases hu
theorem ld_p1 {vs : List Value} (hle : Rd.le rd (wrd w)) (h : PtrC rd p vs) (hj : vs[0]? = some v) (ht : Ty1 P t) : Ld P w t p v := by
  obtain ⟨b, o, rfl, hc⟩ := h
  exact ld_1 ht (hle _ _ _ (hc 0 v hj))
theorem ld_pA {k : Nat} {vs us : List Value} (hle : Rd.le rd (wrd w)) (h : PtrC rd p vs) (ht : TyA P t k) (hk : us.length = k) (hv : vs.take k = us) : Ld P w t p (.agg us.toArray) := by
  obtain ⟨b, o, rfl, hc⟩ := h
  refine ld_A ht hk fun j u hu => hle _ _ _ (hc j u ?_)
  rw [← hv, List.getElem?_take] at hu
  split at hu
  · exact hu
  · cases hu
theorem y_ld (hx : e x = p) (h : ∀ w, C w → Ld P w t p v) : Yv P C e ⟨d, .load t x, ty, pos, af, gd⟩ v := fun w S => by
  have := h w S
  unfold Ld at this
  simp [execOp, hx, this]
/-- field addresses -/
def FaOk (P : Program) (s : TypeId) (f off : Nat) : Prop := ∀ w b o, (Instr.fieldAt s (.pointer (some ⟨b, o, none⟩)) f).run P w = .ok (.pointer (some ⟨b, o + off, none⟩)) w
theorem faOk {s : TypeId} {f off k : Nat} {fs : Array Field} {fd : Field} (hu : P.underlying s = some (.struct fs)) (hf : fs[f]? = some fd) (hs : ∀ w, (sizeOf fd.type).run P w = .ok k w) (hk : k ≠ 0) (ho : fd.offset = off) : FaOk P s f off := fun w b o => by
  subst ho
  simp [Instr.fieldAt, run_underlying hu, hf, Instr.sureAddr, fieldPlace, hs, hk, Addr.add_mid]
theorem y_fb {s : TypeId} {f off : Nat} {o o' : Nat} (F : FaOk P s f off) (hx : e x = .pointer (some ⟨g, o, none⟩)) (ho : o + off = o') : Yv P C e ⟨d, .fieldAddr s x f, ty, pos, af, gd⟩ (.pointer (some ⟨g, o', none⟩)) := fun w _ => by
  subst ho; simp [execOp, hx, F w]
theorem y_fp {s : TypeId} {f off : Nat} {vs us : List Value} (F : FaOk P s f off) (h : PtrC rd p vs) (hv : vs.drop off = us) : ∃ p', PtrC rd p' us ∧ ∀ {C : World → Prop} {e : Operand → Value} {d : Option Tmp} {ty : TypeId} {pos : String} {af : Array Edge} {gd : Option (Nat × Bool)} {x : Operand}, e x = p → Yv P C e ⟨d, .fieldAddr s x f, ty, pos, af, gd⟩ p' := by
  obtain ⟨b, o, rfl, hc⟩ := h
  subst hv
  refine ⟨_, ⟨b, o + off, rfl, fun j u hu => ?_⟩, fun hx w _ => by simp [execOp, hx, F w]⟩
  rw [List.getElem?_drop] at hu
  have := hc _ _ hu
  rwa [← Nat.add_assoc] at this
/-- an element's address -/
theorem y_ia {α : Type} {size n c k : Nat} {R : CR α} {l : List α} {A : Option Addr} {el : TypeId} {z : α} (hu : P.underlying t = some (.slice el)) (hs : ∀ w, (sizeOf el).run P w = .ok size w) (h : SliceR size R rd (.slice A n c) l) (hk : l[k]? = some z) :
    ∃ p vs, PtrC rd p vs ∧ vs.length = size ∧ R rd vs z ∧ ∀ {C : World → Prop} {e : Operand → Value} {d : Option Tmp} {ty : TypeId} {pos : String} {af : Array Edge} {gd : Option (Nat × Bool)} {x y : Operand} {kk : IntKind} {q : Int}, e x = .slice A n c → e y = .int kk q → q = k → Yv P C e ⟨d, .indexAddr t x y, ty, pos, af, gd⟩ p := by
  obtain ⟨b, o, cs, rfl, h1, h2, h3⟩ := h.get hk
  have hn := h.len.1
  have hlt := (List.getElem?_eq_some_iff.1 hk).1
  refine ⟨.pointer (some ⟨b, o + k * size, none⟩), cs, ⟨b, o + k * size, rfl, h3⟩, h1, h2, fun hx hy hq w _ => ?_⟩
  subst hq
  simp [execOp, hx, hy, Instr.indexAt, asIntOf, run_underlying hu, hs, show k < n by omega, Addr.add_mid]
/-- slicing what is read -/
theorem y_sl {α : Type} {size n c lo hi : Nat} {R : CR α} {l : List α} {A : Option Addr} {el : TypeId} (hu : P.underlying t = some (.slice el)) (hs : ∀ w, (sizeOf el).run P w = .ok size w) (h : SliceR size R rd (.slice A n c) l) (h1 : lo ≤ hi) (h2 : hi ≤ l.length) :
    ∃ A' c', SliceR size R rd (.slice A' (hi - lo) c') ((l.take hi).drop lo) ∧ ∀ {C : World → Prop} {e : Operand → Value} {d : Option Tmp} {ty : TypeId} {pos : String} {af : Array Edge} {gd : Option (Nat × Bool)} {x : Operand} {ol oh : Option Operand}, e x = .slice A n c →
      (ol = none ∧ lo = 0 ∨ ∃ y k q, ol = some y ∧ e y = .int k q ∧ q = lo) → (oh = none ∧ hi = n ∨ ∃ y k q, oh = some y ∧ e y = .int k q ∧ q = hi) → Yv P C e ⟨d, .slice t x ol oh none, ty, pos, af, gd⟩ (.slice A' (hi - lo) c') := by
  have hl := h.len
  refine ⟨if c = lo then A else A.map (·.add (lo * size)), c - lo, ?_, fun {C e d ty pos af gd x ol oh} hx hol hoh w _ => ?_⟩
  · have hh := SliceR.head_ h h2
    have hk : lo ≤ (l.take hi).length := by simp; omega
    split
    · rename_i e
      have e1 : (l.take hi).drop lo = [] := List.drop_eq_nil_of_le (by simp; omega)
      rw [e1, show hi - lo = 0 by omega]
      exact SliceR.empty_ _ _ _ (by omega)
    · cases A with
      | none =>
        have := SliceR.nil_of hh
        rw [this]
        have h0 : min hi l.length = 0 := by rw [← List.length_take, this]; rfl
        rw [show hi - lo = 0 by omega]
        simpa using SliceR.empty_ rd none (c - lo) (by omega)
      | some ad => exact SliceR.cutA hh hk
  · have e2 : (Instr.sliceBounds true n c (ol.map e) (oh.map e) none).run P w = .ok (lo, hi, c) w := by
      unfold Instr.sliceBounds
      rcases hol with ⟨rfl, rfl⟩ | ⟨y, k, q, rfl, hy, rfl⟩ <;> rcases hoh with ⟨rfl, rfl⟩ | ⟨y', k', q', rfl, hy', rfl⟩
      · simp
      · simp [hy', Instr.sliceBound, asIntOf, show hi ≤ c by omega]
      · simp [hy, Instr.sliceBound, asIntOf, h1]
      · simp [hy, hy', Instr.sliceBound, asIntOf, show hi ≤ c by omega, h1]
    simp [execOp, hx, Instr.sliceAt, Instr.slice, run_underlying hu, e2, hs]
/-- values built, converted, compared by their own run -/
theorem y_bd {parts : Array (Nat × Operand)} {ps : List (Nat × Value)} (h : parts.toList.map (fun q => (q.1, e q.2)) = ps) (hb : ∀ w, (Instr.build t ps.toArray).run P w = .ok v w) : Yv P C e ⟨d, .build t parts, ty, pos, af, gd⟩ v := fun w _ => by
  have h' : (parts.map fun (i, x) => (i, e x)) = ps.toArray := amap h
  simp only [execOp]
  rw [h', Sem.run_bind, hb w]
  rfl
theorem y_fd {cs : Array Value} {f : Nat} (h : e x = .agg cs) (hb : ∀ w, (Instr.field t (.agg cs) f).run P w = .ok v w) : Yv P C e ⟨d, .field t x f, ty, pos, af, gd⟩ v := fun w _ => by
  simp [execOp, h, hb w]
theorem y_cv {s : TypeId} {u : Value} (h : e x = u) (hb : ∀ w, (convert s t u).run P w = .ok v w) : Yv P C e ⟨d, .convert s t x, ty, pos, af, gd⟩ v := fun w _ => by
  subst h; simp [execOp, hb w]
theorem y_bo {op : BinOp} {yt : TypeId} {u u' : Value} (h : e x = u) (h' : e y = u') (hb : ∀ w, (do eqGuard op t x y u u'; binOp op t u u' : Sem Value).run P w = .ok v w) : Yv P C e ⟨d, .binOp op t x y yt, ty, pos, af, gd⟩ v := fun w _ => by
  subst h h'
  have := hb w
  simp only [execOp]
  rw [Sem.run_bind, this]
  rfl
end
/-! ## steps that turn the world -/
section
variable {P : Program} {Q : Exit → Act → World → Prop} {X : List Nat} {W w w' : World} {r0 rd : Rd} {bx : List BxE} {ow : List OwE} {n d : Nat} {l : Ov} {t ty : TypeId} {pos : String} {af : Array Edge} {v p : Value} {x y : Operand} {g i j : Nat} {T : TypeId} {cs cs' : Array Value} {rest : List Oper} {ops : Array Oper}
theorem l_al {z : Value} (S : St X W r0 rd bx ow w) (hz : ∀ w, (zeroValue T).run P w = .ok z w) (hc : z.cells = cs)
    (h : ∀ g w', St X W r0 rd (bx ++ [(g, T, cs)]) ow w' → WL P ops Q rest (fr n ((d, (.pointer (some ⟨g, 0, none⟩))) :: l)) w') : WL P ops Q (⟨some d, .alloc T, ty, pos, af, none⟩ :: rest) (fr n l) w := by
  subst hc
  exact l_t (.inl (by simp [execOp, Instr.alloc, hz, newVar, newRow])) (h _ _ (S.alloc T z.cells))
theorem l_bx {u : Value} (S : St X W r0 rd bx ow w) (hx : ev n l x = u) (hc : u.cells = cs)
    (h : ∀ g w', St X W r0 rd (bx ++ [(g, T, cs)]) ow w' → WL P ops Q rest (fr n ((d, (.pointer (some ⟨g, 0, none⟩))) :: l)) w') : WL P ops Q (⟨some d, .box T x, ty, pos, af, none⟩ :: rest) (fr n l) w := by
  subst hc hx
  exact l_t (.inl (by simp [execOp, Instr.box, newVar, newRow])) (h _ _ (S.alloc T _))
theorem l_bs {el : TypeId} {len size : Nat} {z : Value} {parts : Array (Nat × Operand)} {ps : List (Nat × Value)} (S : St X W r0 rd bx ow w) (hu : P.underlying t = some (.slice el)) (hs : ∀ w, (sizeOf el).run P w = .ok size w) (hz : ∀ w, (zeroValue el).run P w = .ok z w)
    (hp : parts.toList.map (fun q => (q.1, ev n l q.2)) = ps) (hl : Nat.blt (2 ^ 24) (len * size) = false) (hl0 : Nat.beq (len * size) 0 = false)
    (hf : Instr.fill (fun i => some (i * size, size)) ((Array.range (len * size)).map (z.cells[· % z.cells.size]!)) ps = some cs)
    (h : ∀ g w', St X W r0 rd (bx ++ [(g, el, cs)]) ow w' → WL P ops Q rest (fr n ((d, (.slice (some ⟨g, 0, none⟩) len len)) :: l)) w') : WL P ops Q (⟨some d, .buildSlice t len parts, ty, pos, af, none⟩ :: rest) (fr n l) w := by
  have h1 : ¬ len * size > 2 ^ 24 := fun hgt => by
    have : Nat.blt (2 ^ 24) (len * size) = true := Nat.ble_eq_true_of_le hgt
    rw [this] at hl; cases hl
  have h2 : ¬ len * size = 0 := fun he => by rw [he] at hl0; cases hl0
  have hrun : (Instr.buildSlice t len ps.toArray).run P w = .ok (.slice (some ⟨w.heap.size, 0, none⟩) len len) (w.alloc (.cells cs el)) := by
    unfold Instr.buildSlice
    rw [Sem.run_bind, run_underlying hu]
    simp only [Result.andThen_ok, Sem.run_bind, hs]
    rw [if_neg h1, if_neg h2]
    simp only [Sem.run_bind, Sem.run_pure, Result.andThen_ok, hz]
    split
    · rename_i cells hc
      rw [hc] at hf; injection hf with hf; subst hf
      simp [newRow]
    · rename_i hn
      exact absurd hf (by intro hf; exact hn _ hf)
  refine l_t (.inl ?_) (h _ _ (S.alloc el cs))
  have hp' : (parts.map fun (i, x) => (i, ev n l x)) = ps.toArray := amap hp
  simp only [execOp]
  rw [hp', Sem.run_bind, hrun]
  rfl
theorem l_bs0 {el : TypeId} {size : Nat} (S : St X W r0 rd bx ow w) (hu : P.underlying t = some (.slice el)) (hs : ∀ w, (sizeOf el).run P w = .ok size w)
    (h : ∀ g w', St X W r0 rd (bx ++ [(g, el, #[])]) ow w' → WL P ops Q rest (fr n ((d, (.slice (some ⟨g, 0, none⟩) 0 0)) :: l)) w') : WL P ops Q (⟨some d, .buildSlice t 0 #[], ty, pos, af, none⟩ :: rest) (fr n l) w := by
  refine l_t (.inl ?_) (h _ _ (S.alloc el #[]))
  have hrun : (Instr.buildSlice t 0 #[]).run P w = .ok (.slice (some ⟨w.heap.size, 0, none⟩) 0 0) (w.alloc (.cells #[] el)) := by
    unfold Instr.buildSlice
    rw [Sem.run_bind, run_underlying hu]
    simp [hs, Instr.fill, newRow]
    rw [show Array.range 0 = (#[] : Array Nat) from by simp, Array.map_empty]
  simp only [execOp, Array.map_empty]
  rw [Sem.run_bind, hrun]
  rfl
/-- a store into a block of the call's own -/
def over (cs : Array Value) (j : Nat) (vs : List Value) : Array Value := (cs.toList.take j ++ vs ++ cs.toList.drop (j + vs.length)).toArray
theorem grownBy_setRow (w : World) (g : Nat) (cs : Array Value) : w.grownBy (w.setRow g cs) (some g) := by
  refine ⟨rfl, rfl, rfl, by simp [World.setRow], fun k _ hk => ?_⟩
  simp only [World.setRow, Array.getElem?_modify]
  rw [if_neg (fun e => hk (by rw [e]))]
theorem run_storeAt {u : Value} (hg : w.heap[g]? = some (.cells cs T (0, 0))) (hs : ∀ w, (sizeOf t).run P w = .ok u.cells.size w) (hj : Nat.ble (j + u.cells.size) cs.size = true) (h1 : ∀ c ∈ u.cells, c.oneCell' = true) :
    (Instr.storeAt t (.pointer (some ⟨g, j, none⟩)) u).run P w = .ok () (w.setRow g (over cs j u.cells.toList)) := by
  have h2 := run_storeCells_at (P := P) g j T u.cells.toList 0 cs w hg (by simpa using Nat.le_of_ble_eq_true hj) (fun v hv => h1 v (by simpa using hv))
  simp only [Nat.add_zero] at h2
  simp only [Instr.storeAt, Instr.sureAddr, storeVar, Sem.run_bind, Sem.run_pure, Result.andThen_ok, hs, ne_eq, not_true_eq_false, if_false, h2]
  rfl
theorem l_st {u : Value} (S : St X W r0 rd bx ow w) (hx : ev n l x = .pointer (some ⟨g, j, none⟩)) (hy : ev n l y = u) (hi : bx[i]? = some (g, T, cs)) (hs : ∀ w, (sizeOf t).run P w = .ok u.cells.size w) (hj : Nat.ble (j + u.cells.size) cs.size = true)
    (h1 : u.cells.toList.all Value.oneCell' = true) (ho : over cs j u.cells.toList = cs') (h : ∀ w', St X W r0 rd (bx.set i (g, T, cs')) ow w' → WL P ops Q rest (fr n l) w') : WL P ops Q (⟨none, .store t x y, ty, pos, af, none⟩ :: rest) (fr n l) w := by
  subst ho
  have hg := (S.box _ (List.mem_of_getElem? hi)).2.1
  have hr := run_storeAt (P := P) (t := t) hg hs hj (fun c hc => List.all_eq_true.1 h1 c (by simpa using hc))
  refine l_tn (w' := w.setRow g (over cs j u.cells.toList)) (.inr ⟨rfl, ?_⟩) (h _ (S.wrote hi (grownBy_setRow w g _) (setRow_heap w g cs _ T _ hg)))
  simp [execOp, hx, hy, hr]
/-- append onto a row of the call's own: what lies in a block of its own -/
theorem l_ap {e' : TypeId} {bytes m c size : Nat} {q : OwE} {s : Operand} (S : St X W r0 rd bx ow w) (K : ElemOk P t q.e size bytes) (hi : ow[i]? = some q) (hsz : q.size = size) (hs : ev n l s = q.v) (hx : ev n l x = .slice (some ⟨g, 0, none⟩) m c) {i' : Nat} (hb : bx[i']? = some (g, T, cs))
    (hm : cs.size = m * size) (h1 : cs.toList.all Value.oneCell' = true) (hlen : q.n + m ≤ maxLen) (hby : (q.n + m) * bytes ≤ 140737488355328)
    (h : ∀ v' w', St X W r0 rd bx (ow.set i ⟨q.e, size, v', q.n + m, q.xs ++ cs.toList⟩) w' → WL P ops Q rest (fr n ((d, v') :: l)) w') : WL P ops Q (⟨some d, .call ⟨.builtin .append, #[s, x], #[t, t]⟩, ty, pos, af, none⟩ :: rest) (fr n l) w := by
  subst hsz
  obtain ⟨inf, z, ht, hin, hz, hsize, hbyt, hzs, hsz⟩ := K.ex
  obtain ⟨v', w', hrun, h2, h3, _, h4⟩ := run_append_own_at (P := P) w 0 t ty q.e inf z q.size bytes ht hin hz hsize hbyt hzs hsz q.v q.n q.xs (S.own _ (List.mem_of_getElem? hi)).1 ⟨g, 0, none⟩ m c cs.toList (by simpa using hm)
    (fun j u hu => by rw [Addr.add_mid, Nat.zero_add, S.cell hb]; simpa using hu) (fun u hu => List.all_eq_true.1 h1 u hu) hlen hby (Nat.zero_le _)
  refine l_t (.inl ?_) (h v' w' (S.grew (q' := ⟨q.e, q.size, v', q.n + m, q.xs ++ cs.toList⟩) hi h3 h2 h4))
  simp [execOp, resolve, invoke, builtin, hs, hx, hrun]
/-- append of a slice that is read -/
theorem l_apS {α : Type} {R : CR α} {bytes size : Nat} {q : OwE} {s : Operand} {u : Value} {ys : List α} {t' e' : TypeId} (S : St X W r0 rd bx ow w) (K : ElemOk P t q.e size bytes) (ht' : P.underlying t' = some (.slice e')) (hone : OneR R) (hi : ow[i]? = some q) (hsz : q.size = size) (hs : ev n l s = q.v) (hx : ev n l x = u) (hu : SliceR size R rd u ys)
    (hlen : q.n + ys.length ≤ maxLen) (hby : (q.n + ys.length) * bytes ≤ 140737488355328)
    (h : ∀ v' w' us, RowR size R rd us ys → St X W r0 rd bx (ow.set i ⟨q.e, size, v', q.n + ys.length, q.xs ++ us⟩) w' → WL P ops Q rest (fr n ((d, v') :: l)) w') : WL P ops Q (⟨some d, .call ⟨.builtin .append, #[s, x], #[t, t']⟩, ty, pos, af, none⟩ :: rest) (fr n l) w := by
  subst hsz
  have hb := (S.own _ (List.mem_of_getElem? hi)).1
  obtain ⟨A, cq, ev', _⟩ : ∃ A cq, q.v = .slice A q.n cq ∧ True := by
    rcases hb.2 with ⟨h1, h2⟩ | ⟨g, cap, cur, h1, _⟩
    · exact ⟨none, 0, by rw [h1, h2], trivial⟩
    · exact ⟨_, cap, h1, trivial⟩
  have K' := K
  obtain ⟨inf, z, ht, hin, hz, hsize, hbyt, hzs, hsz⟩ := K.ex
  obtain ⟨A2, c2, us, rfl, hc1, hc2, hys, hcell⟩ := hu
  have hrun : ∃ v' w', (Builtin.append_ #[t, t] ty #[q.v, .slice A2 ys.length c2]).run P w = .ok v' w' ∧ w'.ownsRow 0 q.e q.size v' (q.n + ys.length) (q.xs ++ us) ∧ w.grownBy w' q.v.ownBlock ∧ (v'.ownBlock = q.v.ownBlock ∨ v'.ownBlock = some w.heap.size) := by
    rcases ys with _ | ⟨y0, ys⟩
    · have hu0 : us = [] := by simpa [RowR] using hys
      subst hu0
      rcases A2 with _ | ad
      · exact ⟨q.v, w, run_append_of_nil w 0 t ty q.e inf q.size ht hin q.v q.n q.xs hb c2, by simpa using hb, World.grownBy.refl w _, .inl rfl⟩
      · obtain ⟨v', w', hrun, h2, h3, _, h4⟩ := run_append_own_at (P := P) w 0 t ty q.e inf z q.size bytes ht hin hz hsize hbyt hzs hsz q.v q.n q.xs hb ad 0 c2 [] (by simp) (by simp) (by simp) (by simpa using hlen) (by simpa using hby) (Nat.zero_le _)
        exact ⟨v', w', hrun, h2, h3, h4⟩
    · obtain ⟨b, o, rfl, hcl⟩ := hcell (by simp)
      obtain ⟨v', w', hrun, h2, h3, _, h4⟩ := run_append_own_at (P := P) w 0 t ty q.e inf z q.size bytes ht hin hz hsize hbyt hzs hsz q.v q.n q.xs hb ⟨b, o, none⟩ (y0 :: ys).length c2 us hys.len
        (fun j u hu => by rw [Addr.add_mid]; exact S.le _ _ _ (hcl j u hu)) (hys.one_ hone) hlen hby (Nat.zero_le _)
      exact ⟨v', w', hrun, h2, h3, h4⟩
  obtain ⟨v', w', hrun, h2, h3, h4⟩ := hrun
  rw [ev', ← append_types w ht ht' hin, ← ev'] at hrun
  refine l_t (.inl ?_) (h v' w' us hys (S.grew (q' := ⟨q.e, q.size, v', q.n + ys.length, q.xs ++ us⟩) hi h3 h2 h4))
  simp [execOp, resolve, invoke, builtin, hs, hx, hrun]
end
/-! ## results -/
section
variable {P : Program} {X : List Nat} {W w : World} {r0 rd : Rd} {bx : List BxE} {ow : List OwE} {n : Nat} {l : Ov} {fn : Func} {R : Ending → World → Prop}
def RV (P : Program) (n : Nat) (l : Ov) (w : World) : ResultVar → Value → Prop
  | .tmp t, v => lk n l t = v
  | .cell a t, v => ∃ ad, lk n l a = .pointer (some ad) ∧ Ld P w t (.pointer (some ad)) v
theorem rv_t {t : Tmp} {v : Value} (h : RV P n l w (.tmp t) v) : (bld n l)[t]?.getD undef = v := by
  have := bld_get n l t
  rw [Array.getD_eq_getD_getElem?] at this
  rw [this]; exact h
theorem rv_c {a : Tmp} {t : TypeId} {v : Value} (h : RV P n l w (.cell a t) v) : ∃ ad, (bld n l)[a]?.getD undef = .pointer (some ad) ∧ (loadVar t ad).run P w = .ok v w := by
  obtain ⟨ad, h1, h2⟩ := h
  have := bld_get n l a
  rw [Array.getD_eq_getD_getElem?, h1] at this
  refine ⟨ad, this, ?_⟩
  unfold Ld Instr.loadAt Instr.sureAddr at h2
  simpa using h2
theorem ret1 {r : ResultVar} {v : Value} (hr : fn.results = #[r]) (h : RV P n l w r v) (hR : R (.returned v) w) : bodyPost P fn R .ret (fr n l) w := by
  refine ⟨rfl, _, ?_, hR⟩
  unfold results
  rw [hr]
  cases r with
  | tmp t0 =>
    have k0 := rv_t h; clear h
    simp_all [fr, asAddr]
  | cell a0 t0 =>
    obtain ⟨ad0, k0, m0⟩ := rv_c h; clear h
    simp_all [fr, asAddr]
theorem ret2 {r r' : ResultVar} {v v' : Value} (hr : fn.results = #[r, r']) (h : RV P n l w r v) (h' : RV P n l w r' v') (hR : R (.returned (.tuple #[v, v'])) w) : bodyPost P fn R .ret (fr n l) w := by
  refine ⟨rfl, _, ?_, hR⟩
  unfold results
  rw [hr]
  cases r with
  | tmp t0 =>
    have k0 := rv_t h; clear h
    cases r' with
    | tmp t1 =>
      have k1 := rv_t h'; clear h'
      simp_all [fr, asAddr]
    | cell a1 t1 =>
      obtain ⟨ad1, k1, m1⟩ := rv_c h'; clear h'
      simp_all [fr, asAddr]
  | cell a0 t0 =>
    obtain ⟨ad0, k0, m0⟩ := rv_c h; clear h
    cases r' with
    | tmp t1 =>
      have k1 := rv_t h'; clear h'
      simp_all [fr, asAddr]
    | cell a1 t1 =>
      obtain ⟨ad1, k1, m1⟩ := rv_c h'; clear h'
      simp_all [fr, asAddr]
theorem ret3 {r r' r'' : ResultVar} {v v' v'' : Value} (hr : fn.results = #[r, r', r'']) (h : RV P n l w r v) (h' : RV P n l w r' v') (h'' : RV P n l w r'' v'') (hR : R (.returned (.tuple #[v, v', v''])) w) : bodyPost P fn R .ret (fr n l) w := by
  refine ⟨rfl, _, ?_, hR⟩
  unfold results
  rw [hr]
  cases r with
  | tmp t0 =>
    have k0 := rv_t h; clear h
    cases r' with
    | tmp t1 =>
      have k1 := rv_t h'; clear h'
      cases r'' with
      | tmp t2 =>
        have k2 := rv_t h''; clear h''
        simp_all [fr, asAddr]
      | cell a2 t2 =>
        obtain ⟨ad2, k2, m2⟩ := rv_c h''; clear h''
        simp_all [fr, asAddr]
    | cell a1 t1 =>
      obtain ⟨ad1, k1, m1⟩ := rv_c h'; clear h'
      cases r'' with
      | tmp t2 =>
        have k2 := rv_t h''; clear h''
        simp_all [fr, asAddr]
      | cell a2 t2 =>
        obtain ⟨ad2, k2, m2⟩ := rv_c h''; clear h''
        simp_all [fr, asAddr]
  | cell a0 t0 =>
    obtain ⟨ad0, k0, m0⟩ := rv_c h; clear h
    cases r' with
    | tmp t1 =>
      have k1 := rv_t h'; clear h'
      cases r'' with
      | tmp t2 =>
        have k2 := rv_t h''; clear h''
        simp_all [fr, asAddr]
      | cell a2 t2 =>
        obtain ⟨ad2, k2, m2⟩ := rv_c h''; clear h''
        simp_all [fr, asAddr]
    | cell a1 t1 =>
      obtain ⟨ad1, k1, m1⟩ := rv_c h'; clear h'
      cases r'' with
      | tmp t2 =>
        have k2 := rv_t h''; clear h''
        simp_all [fr, asAddr]
      | cell a2 t2 =>
        obtain ⟨ad2, k2, m2⟩ := rv_c h''; clear h''
        simp_all [fr, asAddr]
end
end Go.Proofs.Ytkjknlnhffmkkaa
