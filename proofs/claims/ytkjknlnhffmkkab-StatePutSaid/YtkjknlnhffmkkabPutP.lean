/- What is read of a right state: of each key; what a put, a clear, an add, a remove, a count does to it. No program in sight. -/
import Derived.Test.YtkjknlnhffmkkabViewP
namespace Go.Proofs.Ytkjknlnhffmkkab
set_option linter.unusedVariables false

def ofC (l : List Cell) (key : Int) : List Int := match l.find? fun c => decide (c.key = key) with | some c => c.items | none => []
def numP (l : List Pair) (key : Int) : Int := match l.find? fun c => decide (c.key = key) with | some c => c.sum | none => 0
/-- neighbours that are the same once -/
def ddStep (o : List Int) (x : Int) : List Int := if o.getLast? = some x then o else o ++ [x]
def ddL (l : List Int) : List Int := l.foldl ddStep []
def hitL (set : Bool) (key : Int) (x : Live) : Bool := decide (x.set = set) && decide (x.key = key)
def itemsL (l : List Live) (set : Bool) (key : Int) : List Int := (l.filter (hitL set key)).map (·.item)
theorem ddL_snoc (l : List Int) (x : Int) : ddL (l ++ [x]) = ddStep (ddL l) x := by unfold ddL; rw [List.foldl_append]; rfl
theorem ddStep_mem {o : List Int} {x y : Int} : y ∈ ddStep o x ↔ y ∈ o ∨ y = x := by
  unfold ddStep; split
  · rename_i h
    constructor
    · exact .inl
    · rintro (h2 | rfl)
      · exact h2
      · exact List.mem_of_getLast? h
  · simp
theorem dd_aux {y : Int} : ∀ (l o : List Int), y ∈ l.foldl ddStep o ↔ y ∈ o ∨ y ∈ l
  | [], o => by simp
  | x :: l, o => by rw [List.foldl_cons, dd_aux l, ddStep_mem, List.mem_cons, or_assoc]
theorem dd_mem {y : Int} {l : List Int} : y ∈ ddL l ↔ y ∈ l := by unfold ddL; rw [dd_aux]; simp
theorem dd_ne {l : List Int} (h : l ≠ []) : ddL l ≠ [] := by
  cases l with
  | nil => exact absurd rfl h
  | cons x l => intro e; have := (dd_mem (y := x) (l := x :: l)).2 (by simp); rw [e] at this; cases this
theorem itemsL_snoc_hit {l : List Live} {x : Live} {set : Bool} {key : Int} (h : hitL set key x = true) : itemsL (l ++ [x]) set key = itemsL l set key ++ [x.item] := by unfold itemsL; rw [List.filter_append]; simp [h]
theorem itemsL_snoc_no {l : List Live} {x : Live} {set : Bool} {key : Int} (h : hitL set key x = false) : itemsL (l ++ [x]) set key = itemsL l set key := by unfold itemsL; rw [List.filter_append]; simp [h]
structure CellsOk (l : List Live) (set : Bool) (cs : List Cell) : Prop where
  of : ∀ key, ofC cs key = ddL (itemsL l set key)
  inc : cs.Pairwise fun a b => a.key < b.key
  src : ∀ c ∈ cs, c.items ≠ [] ∧ ∃ x ∈ l, x.set = set ∧ x.key = c.key
theorem ofC_app {F : List Cell} {c : Cell} {key : Int} (h : ∀ a ∈ F, a.key ≠ key) : ofC (F ++ [c]) key = if c.key = key then c.items else [] := by
  unfold ofC
  rw [List.find?_append, List.find?_eq_none.2 (fun a ha => by simpa using h a ha)]
  by_cases e : c.key = key
  · simp [e]
  · simp [e]
theorem ofC_app2 {F : List Cell} {c : Cell} {key : Int} (h : c.key ≠ key) : ofC (F ++ [c]) key = ofC F key := by
  unfold ofC
  rw [List.find?_append]
  cases hf : F.find? fun c => decide (c.key = key) with
  | some a => simp
  | none => simp [h]
def KeysUp (l : List Live) : Prop := l.Pairwise fun a b => a.set = b.set → a.key ≤ b.key
theorem cells_ok {set : Bool} : ∀ (l p : List Live), KeysUp (p ++ l) → CellsOk p set (cellsL p set) → CellsOk (p ++ l) set (cellsL (p ++ l) set)
  | [], p, hs, h => by simpa using h
  | x :: l, p, hs, h => by
    have e : p ++ x :: l = (p ++ [x]) ++ l := by simp
    rw [e] at hs ⊢
    refine cells_ok l (p ++ [x]) hs ?_
    have hup : ∀ a ∈ p, a.set = x.set → a.key ≤ x.key := fun a ha => by
      unfold KeysUp at hs
      rw [List.pairwise_append, List.pairwise_append] at hs
      exact hs.1.2.2 a ha x (by simp)
    have ec : cellsL (p ++ [x]) set = cellStep set (cellsL p set) x := by unfold cellsL; rw [List.foldl_append]; rfl
    rw [ec]
    obtain ⟨h1, h2, h3⟩ := h
    have src' : ∀ c ∈ cellsL p set, c.items ≠ [] ∧ ∃ y ∈ p ++ [x], y.set = set ∧ y.key = c.key := fun c hc => by
      obtain ⟨a, y, b, d⟩ := h3 c hc
      exact ⟨a, y, by simp [b], d⟩
    by_cases hset : x.set = set
    · rcases List.eq_nil_or_concat (cellsL p set) with hnil | ⟨F, c, hcs⟩
      · rw [hnil, step_first hset]
        refine ⟨fun key => ?_, by simp, fun c hc => ?_⟩
        · have hn := h1 key
          rw [hnil] at hn
          have hn : ddL (itemsL p set key) = [] := hn.symm
          have hn' : itemsL p set key = [] := Classical.byContradiction fun k => dd_ne k hn
          by_cases hk : x.key = key
          · rw [itemsL_snoc_hit (by unfold hitL; simp [hset, hk]), hn']
            unfold ofC; simp [hk, ddL, ddStep]
          · rw [itemsL_snoc_no (by unfold hitL; simp [hk]), hn']
            unfold ofC; simp [hk, ddL]
        · rw [List.mem_singleton] at hc; subst hc; exact ⟨by simp, x, by simp, hset, rfl⟩
      · obtain ⟨key0, its⟩ := c
        rw [List.concat_eq_append] at hcs
        rw [hcs] at h1 h2 h3 src' ⊢
        rw [List.pairwise_append] at h2
        have hF : ∀ a ∈ F, a.key < key0 := fun a ha => h2.2.2 a ha ⟨key0, its⟩ (by simp)
        obtain ⟨hne, y0, hy0, hys, hyk⟩ := h3 ⟨key0, its⟩ (by simp)
        have hle : key0 ≤ x.key := by have := hup y0 hy0 (by rw [hys, hset]); dsimp only at hyk; omega
        obtain ⟨y, hy⟩ : ∃ y, its[its.length - 1]? = some y := by
          have : 0 < its.length := List.length_pos_iff.2 hne
          exact ⟨its[its.length - 1], List.getElem?_eq_getElem (by omega)⟩
        by_cases hk : key0 = x.key
        · have oldof : ddL (itemsL p set key0) = its := by
            rw [← h1 key0, ofC_app (fun a ha => by have := hF a ha; omega)]; simp
          have key_step : ∀ its', its' = ddStep its x.item → CellsOk (p ++ [x]) set (F ++ [⟨key0, its'⟩]) := fun its' hi => by
            refine ⟨fun key => ?_, ?_, fun c hc => ?_⟩
            · by_cases hkk : x.key = key
              · rw [itemsL_snoc_hit (by unfold hitL; simp [hset, hkk]), ddL_snoc, ofC_app (fun a ha => by have := hF a ha; omega), if_pos (show key0 = key by omega)]
                rw [hi, ← oldof]; rw [show key = key0 by omega]
              · rw [itemsL_snoc_no (by unfold hitL; simp [hkk]), ← h1 key, ofC_app2 (by show key0 ≠ key; omega), ofC_app2 (by show key0 ≠ key; omega)]
            · rw [List.pairwise_append]
              exact ⟨h2.1, by simp, fun a ha b hb => by rw [List.mem_singleton] at hb; subst hb; exact hF a ha⟩
            · rcases List.mem_append.1 hc with hc | hc
              · exact src' c (by simp [hc])
              · rw [List.mem_singleton] at hc; subst hc
                refine ⟨?_, x, by simp, hset, hk.symm⟩
                rw [hi]; intro e
                have := (ddStep_mem (o := its) (x := x.item) (y := x.item)).2 (.inr rfl)
                dsimp only at e
                rw [e] at this; cases this
          by_cases hi : y = x.item
          · rw [step_same hset hk hy hi]
            exact key_step its (by unfold ddStep; rw [List.getLast?_eq_getElem?, hy, if_pos (by rw [hi])])
          · rw [step_add hset hk hy hi]
            exact key_step _ (by unfold ddStep; rw [List.getLast?_eq_getElem?, hy, if_neg (fun e => hi (by injection e))])
        · rw [step_new hset hk]
          have hlt : ∀ a ∈ F ++ [(⟨key0, its⟩ : Cell)], a.key < x.key := fun a ha => by
            rcases List.mem_append.1 ha with ha | ha
            · have := hF a ha; omega
            · rw [List.mem_singleton] at ha; subst ha; show key0 < x.key; omega
          refine ⟨fun key => ?_, ?_, fun c hc => ?_⟩
          · by_cases hkk : x.key = key
            · rw [itemsL_snoc_hit (by unfold hitL; simp [hset, hkk]), ddL_snoc, ← h1 key, ofC_app (fun a ha => by have := hlt a ha; omega), if_pos hkk]
              have : ofC (F ++ [(⟨key0, its⟩ : Cell)]) key = [] := by
                rw [ofC_app (fun a ha => by have := hF a ha; omega), if_neg (by show ¬ key0 = key; omega)]
              rw [this]; simp [ddStep]
            · rw [itemsL_snoc_no (by unfold hitL; simp [hkk]), ofC_app2 (by exact hkk), h1 key]
          · rw [List.pairwise_append]
            exact ⟨by rw [List.pairwise_append]; exact h2, by simp, fun a ha b hb => by rw [List.mem_singleton] at hb; subst hb; exact hlt a ha⟩
          · rcases List.mem_append.1 hc with hc | hc
            · exact src' c hc
            · rw [List.mem_singleton] at hc; subst hc; exact ⟨by simp, x, by simp, hset, rfl⟩
    · rw [step_skip hset]
      exact ⟨fun key => by rw [itemsL_snoc_no (by unfold hitL; simp [hset]), h1 key], h2, src'⟩
theorem sorted_up {l : List Live} (h : SortedL l) : KeysUp l := h.imp fun {a b} h e => by
  rw [ordL_code] at h
  unfold codeL at h
  simp only [lexI_cons] at h
  rw [e] at h
  rcases h with h | ⟨_, h | ⟨h, _⟩⟩
  · omega
  · omega
  · omega
theorem of_cells {l : List Live} {set : Bool} {key : Int} (h : SortedL l) : ofC (cellsL l set) key = ddL (itemsL l set key) :=
  (cells_ok (set := set) l [] (sorted_up h) ⟨fun key => rfl, .nil, by simp [cellsL]⟩).of key
/-- cells are of those of their own kind alone -/
theorem cells_filter_aux {set : Bool} : ∀ (l : List Live) (o : List Cell), l.foldl (cellStep set) o = (l.filter fun x => decide (x.set = set)).foldl (cellStep set) o
  | [], o => rfl
  | x :: l, o => by
    by_cases h : x.set = set
    · rw [List.filter_cons_of_pos (by simpa using h), List.foldl_cons, List.foldl_cons, cells_filter_aux l]
    · rw [List.filter_cons_of_neg (by simpa using h), List.foldl_cons, step_skip h, cells_filter_aux l]
theorem cells_same {l m : List Live} {set : Bool} (hl : SortedL l) (hm : SortedL m) (h : ∀ x, x.set = set → (x ∈ l ↔ x ∈ m)) : cellsL l set = cellsL m set := by
  unfold cellsL
  have ef : (l.filter fun x => decide (x.set = set)) = m.filter fun x => decide (x.set = set) := sortedL_ext (List.Pairwise.filter _ hl) (List.Pairwise.filter _ hm) fun x => by
    simp only [List.mem_filter, decide_eq_true_eq]
    exact ⟨fun q => ⟨(h x q.2).1 q.1, q.2⟩, fun q => ⟨(h x q.2).2 q.1, q.2⟩⟩
  rw [cells_filter_aux l, cells_filter_aux m, ef]
/-! ## counters -/
def sumK (key : Int) : List Tally → Int
  | [] => 0
  | t :: l => (if t.key = key then t.sum else 0) + sumK key l
theorem sumK_app (k : Int) : ∀ l1 l2 : List Tally, sumK k (l1 ++ l2) = sumK k l1 + sumK k l2
  | [], l2 => by simp [sumK]
  | t :: l1, l2 => by simp only [List.cons_append, sumK, sumK_app k l1 l2]; omega
theorem sumK_bd {k : Int} : ∀ {l : List Tally}, (∀ t ∈ l, -1000000 ≤ t.sum ∧ t.sum ≤ 1000000) → -(1000000 * (l.length : Int)) ≤ sumK k l ∧ sumK k l ≤ 1000000 * (l.length : Int)
  | [], _ => by simp [sumK]
  | t :: l, h => by
    have h1 := h t (by simp)
    have := sumK_bd (k := k) (l := l) fun t ht => h t (by simp [ht])
    simp only [sumK, List.length_cons]
    split <;> omega
structure CntsOk (l : List Tally) (cs : List Pair) : Prop where
  num : ∀ key, numP cs key = sumK key l
  inc : cs.Pairwise fun a b => a.key < b.key
  src : ∀ c ∈ cs, ∃ x ∈ l, x.key = c.key
theorem numP_app {F : List Pair} {c : Pair} {key : Int} (h : ∀ a ∈ F, a.key ≠ key) : numP (F ++ [c]) key = if c.key = key then c.sum else 0 := by
  unfold numP
  rw [List.find?_append, List.find?_eq_none.2 (fun a ha => by simpa using h a ha)]
  by_cases e : c.key = key
  · simp [e]
  · simp [e]
theorem numP_app2 {F : List Pair} {c : Pair} {key : Int} (h : c.key ≠ key) : numP (F ++ [c]) key = numP F key := by
  unfold numP
  rw [List.find?_append]
  cases hf : F.find? fun c => decide (c.key = key) with
  | some a => simp
  | none => simp [h]
theorem sumK_snoc (k : Int) (l : List Tally) (x : Tally) : sumK k (l ++ [x]) = sumK k l + if x.key = k then x.sum else 0 := by rw [sumK_app]; simp [sumK]
theorem cnts_ok : ∀ (l p : List Tally), (p ++ l).Pairwise (fun a b => a.key ≤ b.key) → CntsOk p (cntsL p) → CntsOk (p ++ l) (cntsL (p ++ l))
  | [], p, hs, h => by simpa using h
  | x :: l, p, hs, h => by
    have e : p ++ x :: l = (p ++ [x]) ++ l := by simp
    rw [e] at hs ⊢
    refine cnts_ok l (p ++ [x]) hs ?_
    have hup : ∀ a ∈ p, a.key ≤ x.key := fun a ha => by
      rw [List.pairwise_append, List.pairwise_append] at hs
      exact hs.1.2.2 a ha x (by simp)
    have ec : cntsL (p ++ [x]) = cntStep (cntsL p) x := by unfold cntsL; rw [List.foldl_append]; rfl
    rw [ec]
    obtain ⟨h1, h2, h3⟩ := h
    rcases List.eq_nil_or_concat (cntsL p) with hnil | ⟨F, c, hcs⟩
    · rw [hnil, cnt_first]
      refine ⟨fun key => ?_, by simp, fun c hc => ?_⟩
      · have hn := h1 key
        rw [hnil] at hn
        have hn : 0 = sumK key p := hn
        rw [sumK_snoc, ← hn]
        by_cases hk : x.key = key
        · unfold numP; simp [hk]
        · unfold numP; simp [hk]
      · rw [List.mem_singleton] at hc; subst hc; exact ⟨x, by simp, rfl⟩
    · obtain ⟨key0, sm⟩ := c
      rw [List.concat_eq_append] at hcs
      rw [hcs] at h1 h2 h3 ⊢
      rw [List.pairwise_append] at h2
      have hF : ∀ a ∈ F, a.key < key0 := fun a ha => h2.2.2 a ha ⟨key0, sm⟩ (by simp)
      obtain ⟨y0, hy0, hyk⟩ := h3 ⟨key0, sm⟩ (by simp)
      have hle : key0 ≤ x.key := by have := hup y0 hy0; dsimp only at hyk; omega
      by_cases hk : key0 = x.key
      · rw [cnt_add hk]
        refine ⟨fun key => ?_, ?_, fun c hc => ?_⟩
        · rw [sumK_snoc, ← h1 key]
          by_cases hkk : x.key = key
          · rw [numP_app (fun a ha => by have := hF a ha; omega), numP_app (fun a ha => by have := hF a ha; omega), if_pos (by show key0 = key; omega), if_pos (by show key0 = key; omega), if_pos hkk]
          · rw [numP_app2 (by show key0 ≠ key; omega), numP_app2 (by show key0 ≠ key; omega), if_neg hkk]; omega
        · rw [List.pairwise_append]
          exact ⟨h2.1, by simp, fun a ha b hb => by rw [List.mem_singleton] at hb; subst hb; exact hF a ha⟩
        · rcases List.mem_append.1 hc with hc | hc
          · obtain ⟨y, a, b⟩ := h3 c (by simp [hc]); exact ⟨y, by simp [a], b⟩
          · rw [List.mem_singleton] at hc; subst hc; exact ⟨x, by simp, hk.symm⟩
      · rw [cnt_new hk]
        have hlt : ∀ a ∈ F ++ [(⟨key0, sm⟩ : Pair)], a.key < x.key := fun a ha => by
          rcases List.mem_append.1 ha with ha | ha
          · have := hF a ha; omega
          · rw [List.mem_singleton] at ha; subst ha; show key0 < x.key; omega
        refine ⟨fun key => ?_, ?_, fun c hc => ?_⟩
        · rw [sumK_snoc, ← h1 key]
          by_cases hkk : x.key = key
          · rw [numP_app (fun a ha => by have := hlt a ha; omega)]
            simp only [hkk, if_true]
            have : numP (F ++ [(⟨key0, sm⟩ : Pair)]) key = 0 := by
              rw [numP_app (fun a ha => by have := hF a ha; omega), if_neg (by show ¬ key0 = key; omega)]
            rw [this]; omega
          · rw [numP_app2 (by exact hkk), if_neg hkk]; omega
        · rw [List.pairwise_append]
          exact ⟨by rw [List.pairwise_append]; exact h2, by simp, fun a ha b hb => by rw [List.mem_singleton] at hb; subst hb; exact hlt a ha⟩
        · rcases List.mem_append.1 hc with hc | hc
          · obtain ⟨y, a, b⟩ := h3 c hc; exact ⟨y, by simp [a], b⟩
          · rw [List.mem_singleton] at hc; subst hc; exact ⟨x, by simp, rfl⟩
theorem sortedT_up {l : List Tally} (h : SortedT l) : l.Pairwise fun a b => a.key ≤ b.key := h.imp fun {a b} h => by
  rw [ordT_code] at h
  unfold codeT at h
  simp only [lexI_cons] at h
  rcases h with h | ⟨h, _⟩ <;> omega
theorem num_cnts {l : List Tally} {key : Int} (h : SortedT l) : numP (cntsL l) key = sumK key l :=
  (cnts_ok l [] (sortedT_up h) ⟨fun key => rfl, .nil, by simp [cntsL]⟩).num key
theorem sumK_ins (k : Int) (l : List Tally) (t : Tally) : sumK k (insO ordT l t) = sumK k l + (if t.key = k then t.sum else 0) := by
  unfold insO
  rw [sumK_app, sumK_app]
  conv => rhs; rw [← List.take_append_drop (idxO (fun y => ordT y t) l) l, sumK_app]
  simp only [sumK]; omega
theorem sumK_count (k : Int) (l : List Tally) (t : Tally) : sumK k (countL l t) = sumK k l + (if t.key = k then t.sum else 0) := by
  unfold countL
  split
  · rename_i z hz
    split
    · rename_i h0
      have e := split_at hz
      have hh := (ordT_zero.1 h0).1
      split
      · rename_i hs
        have e2 : l.eraseIdx (idxO (fun y => ordT y t) l) = l.take (idxO (fun y => ordT y t) l) ++ l.drop (idxO (fun y => ordT y t) l + 1) := List.eraseIdx_eq_take_drop_succ ..
        rw [e2, sumK_app]
        conv => rhs; rw [e, sumK_app]
        simp only [sumK, hh]
        split <;> omega
      · have hi := (List.getElem?_eq_some_iff.1 hz).1
        have e2 : l.set (idxO (fun y => ordT y t) l) { z with sum := z.sum + t.sum } = l.take (idxO (fun y => ordT y t) l) ++ { z with sum := z.sum + t.sum } :: l.drop (idxO (fun y => ordT y t) l + 1) := List.set_eq_take_append_cons_drop .. |>.trans (if_pos hi)
        rw [e2, sumK_app]
        conv => rhs; rw [e, sumK_app]
        simp only [sumK, hh]
        split <;> omega
    · split
      · rename_i h; rw [h]; simp
      · exact sumK_ins k l t
  · split
    · rename_i h; rw [h]; simp
    · exact sumK_ins k l t
/-! ## the law -/
structure PutOk (s : State) (u : Upd) (key item : Int) : Prop where
  r1 : (ReadS s) = (readS s, 0, 0)
  r2 : (ReadS (ApplyS s u).1) = (readS (ApplyS s u).1, 0, 0)
  put : u.kind = 1 → ofC (readS (ApplyS s u).1).regs key = [item] ∧ (readS s).sets = (readS (ApplyS s u).1).sets ∧ (readS s).counters = (readS (ApplyS s u).1).counters
  clear : u.kind = 2 → ofC (readS (ApplyS s u).1).regs key = []
  add : u.kind = 3 → item ∈ ofC (readS (ApplyS s u).1).sets key
  rem : u.kind = 4 → item ∉ ofC (readS (ApplyS s u).1).sets key
  cnt : u.kind ≠ 1 → u.kind ≠ 2 → u.kind ≠ 3 → u.kind ≠ 4 → numP (readS (ApplyS s u).1).counters key = numP (readS s).counters key + item ∧ (readS s).regs = (readS (ApplyS s u).1).regs ∧ (readS s).sets = (readS (ApplyS s u).1).sets
  bd : -100000000 ≤ numP (readS s).counters key ∧ numP (readS s).counters key ≤ 100000000
  bi : -1000 ≤ item ∧ item ≤ 1000
theorem put_p {s : State} {author kind key item : Int} (h : (ApplyS s ⟨author, s.clock, kind, key, item⟩).2 = 0) : PutOk s ⟨author, s.clock, kind, key, item⟩ key item := by
  obtain ⟨h1, h2, e⟩ := ApplyS_ok h
  have hr := h2.r
  have hR := applyS_right h1 h2
  have hn := wrongC_ok h1.c
  have hl : lenI (applyS s ⟨author, s.clock, kind, key, item⟩).clock = lenI s.clock := by show ((tickC s.clock author).length : Int) = _; rw [tickC_len]; rfl
  have hm : ∀ x, x ∈ (applyS s ⟨author, s.clock, kind, key, item⟩).lives ↔ _ := fun x => applyS_mem hr
  -- whatever is there was seen
  have hs : ∀ x ∈ s.lives, hasC s.clock x.author x.seq = true := fun x hx => by
    have q := h1.l x hx
    have := q.a0; have := q.a1; have := q.q1
    unfold hasC
    simp only [Bool.and_eq_true, decide_eq_true_eq]
    omega
  have hends : ∀ x ∈ s.lives, ends ⟨author, s.clock, kind, key, item⟩ x = (decide (kind ≠ 5) && decide (kind ≠ 3) && ((x.set == decide (kind = 3 ∨ kind = 4)) && (x.key == key) && (!decide (kind = 3 ∨ kind = 4) || x.item == item))) := fun x hx => by
    unfold ends endsC; dsimp only; rw [hs x hx]; simp
  have sK := fun k => sumK_count k s.tallies ⟨key, author, item⟩
  have e1 : (ApplyS s ⟨author, s.clock, kind, key, item⟩).1 = applyS s ⟨author, s.clock, kind, key, item⟩ := by rw [e]
  refine ⟨ReadS_2 (wrongS_iff.2 h1), by rw [e1]; exact ReadS_2 (by rw [hl]; exact wrongS_iff.2 hR), ?_, ?_, ?_, ?_, ?_, ?_, ⟨hr.i0, hr.i1⟩⟩
  all_goals try rw [e1]
  all_goals clear e1
  · rintro (rfl : kind = 1)
    refine ⟨?_, ?_, ?_⟩
    · show ofC (cellsL _ false) key = _
      rw [of_cells hR.ls]
      have : itemsL (applyS s ⟨author, s.clock, 1, key, item⟩).lives false key = [item] := by
        have hf : (applyS s ⟨author, s.clock, 1, key, item⟩).lives.filter (hitL false key) = [liveOf ⟨author, s.clock, 1, key, item⟩] := by
          refine sortedL_ext (List.Pairwise.filter _ hR.ls) (List.pairwise_singleton _ _) fun x => ?_
          rw [List.mem_filter, hm, List.mem_singleton]
          constructor
          · rintro ⟨⟨a, b⟩ | ⟨_, a⟩, c⟩
            · rw [hends x a] at b
              unfold hitL at c
              simp only [Bool.and_eq_true, decide_eq_true_eq] at c
              simp [c.1, c.2] at b
            · exact a
          · rintro rfl
            exact ⟨.inr ⟨rfl, rfl⟩, by unfold hitL liveOf; simp⟩
        unfold itemsL; rw [hf]; rfl
      rw [this]; rfl
    · refine cells_same h1.ls hR.ls fun x hx => ?_
      rw [hm]
      constructor
      · intro a; exact .inl ⟨a, by rw [hends x a]; simp [hx]⟩
      · rintro (⟨a, _⟩ | ⟨_, a⟩)
        · exact a
        · subst a; simp [liveOf] at hx
    · show cntsL _ = cntsL _; rw [applyS_tallies]; rfl
  · rintro (rfl : kind = 2)
    show ofC (cellsL _ false) key = _
    rw [of_cells hR.ls]
    have : itemsL (applyS s ⟨author, s.clock, 2, key, item⟩).lives false key = [] := by
      unfold itemsL
      rw [List.filter_eq_nil_iff.2 fun x hx hh => ?_]
      · rfl
      · rcases (hm x).1 hx with ⟨a, b⟩ | ⟨a, _⟩
        · rw [hends x a] at b
          unfold hitL at hh
          simp only [Bool.and_eq_true, decide_eq_true_eq] at hh
          simp [hh.1, hh.2] at b
        · simp [makes] at a
    rw [this]; rfl
  · rintro (rfl : kind = 3)
    show item ∈ ofC (cellsL _ true) key
    rw [of_cells hR.ls, dd_mem]
    unfold itemsL
    rw [List.mem_map]
    exact ⟨liveOf ⟨author, s.clock, 3, key, item⟩, by rw [List.mem_filter, hm]; exact ⟨.inr ⟨rfl, rfl⟩, by unfold hitL liveOf; simp⟩, rfl⟩
  · rintro (rfl : kind = 4)
    show item ∉ ofC (cellsL _ true) key
    rw [of_cells hR.ls, dd_mem]
    unfold itemsL
    rw [List.mem_map]
    rintro ⟨x, hx, hi⟩
    rw [List.mem_filter, hm] at hx
    obtain ⟨⟨a, b⟩ | ⟨a, _⟩, c⟩ := hx
    · rw [hends x a] at b
      unfold hitL at c
      simp only [Bool.and_eq_true, decide_eq_true_eq] at c
      simp [c.1, c.2, hi] at b
    · simp [makes] at a
  · intro k1 k2 k3 k4
    have k1 : kind ≠ 1 := k1
    have k2 : kind ≠ 2 := k2
    have k3 : kind ≠ 3 := k3
    have k4 : kind ≠ 4 := k4
    have k5 : kind = 5 := by
      have : 1 ≤ kind := hr.k0
      have : kind ≤ 5 := hr.k1
      omega
    subst k5
    have same : ∀ x, x ∈ s.lives ↔ x ∈ (applyS s ⟨author, s.clock, 5, key, item⟩).lives := fun x => by
      rw [hm]
      constructor
      · intro a; exact .inl ⟨a, by rw [hends x a]; simp⟩
      · rintro (⟨a, _⟩ | ⟨a, _⟩)
        · exact a
        · simp [makes] at a
    refine ⟨?_, cells_same h1.ls hR.ls fun x _ => same x, cells_same h1.ls hR.ls fun x _ => same x⟩
    show numP (cntsL _) key = numP (cntsL _) key + item
    rw [num_cnts hR.ts, num_cnts h1.ts, applyS_tallies, if_pos rfl]
    rw [sK key]; simp
  · show -100000000 ≤ numP (cntsL _) key ∧ numP (cntsL _) key ≤ 100000000
    rw [num_cnts h1.ts]
    have := sumK_bd (k := key) (l := s.tallies) fun t ht => by
      have q := h1.t t ht
      have := q.s0; have := q.s1; have := atI_bd h1.c t.author.toNat
      omega
    have := h1.tallies_len
    omega
end Go.Proofs.Ytkjknlnhffmkkab
