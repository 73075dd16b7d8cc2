/- Texts of one law put together (wip/merge2.py). -/
import Derived.Test.YtgdbinifnhfcjaaWWords
import Derived.Test.YtgdbinifnhfcjaaWMore
import Derived.Test.YtgdbinifnhfcjaaWLast
import Derived.Orders
import Derived.RegionTactic
/- A region whose operations only read, reckon, make memory or call what only makes memory: whatever the order, each operation leaves what is said of it (D), and what lay below stands. -/
set_option linter.unusedVariables false
set_option linter.unusedSimpArgs false
namespace Go.Proofs.Ytgdbinifnhfcjaa.Reg
open Go.RowKit Go.Proofs.YtgdbinifnhfcjaaW.PrintWords
/-- Operation i's value, told anew. -/
def upd (u : Nat → Value) (i : Nat) (v : Value) : Nat → Value := fun j => if j = i then v else u j
theorem upd_self (u : Nat → Value) (i : Nat) (v : Value) : upd u i v i = v := if_pos rfl
theorem upd_ne (u : Nat → Value) {i j : Nat} (v : Value) (h : j ≠ i) : upd u i v j = u j := if_neg h
/-- Operation i waits for operation j. -/
def dep (ops : Array Oper) (i j : Nat) : Bool := match ops[i]? with
  | some o => o.after.any fun e => Region.binds .any e && e.on == j
  | none => false
/-- Edges lead to elder operations. -/
def back (ops : Array Oper) : Bool := (List.range ops.size).all fun i => match ops[i]? with
  | some o => o.after.all fun e => decide (e.on < i)
  | none => true
section
variable {P : Program} {ops : Array Oper} {Q : Exit → Act → World → Prop} (Fr : (Nat → Value) → Act) (u0 : Nat → Value) (D : Nat → Value → World → Prop) (G : World → Prop)
/-- What operation i owes. -/
def Owes (P : Program) (ops : Array Oper) (Q : Exit → Act → World → Prop) (Fr : (Nat → Value) → Act) (u0 : Nat → Value) (D : Nat → Value → World → Prop) (G : World → Prop) (i : Nat) (o : Oper) : Prop :=
  ∀ (u : Nat → Value) (w : World), G w → (∀ j, dep ops i j = true → D j (u j) w) → (∀ j, dep ops j i = true → u j = u0 j) → u i = u0 i →
    ∀ K : Act → World → Prop, Shut (∀ v w', D i v w' → Below w.heap.size w w' → K ((Fr u).put o.dst v) w') → if Region.wanted o (yielded ops (Fr u).tmps) = true then Oper.wp P o (Fr u) w K Q else K ((Fr u).put o.dst undef) w
def OweAll (P : Program) (ops : Array Oper) (Q : Exit → Act → World → Prop) (Fr : (Nat → Value) → Act) (u0 : Nat → Value) (D : Nat → Value → World → Prop) (G : World → Prop) : Nat → List Oper → Prop
  | _, [] => True
  | i, o :: rest => Owes P ops Q Fr u0 D G i o ∧ OweAll P ops Q Fr u0 D G (i + 1) rest
theorem OweAll.get {i k : Nat} {l : List Oper} {o : Oper} (h : OweAll P ops Q Fr u0 D G k l) (ho : l[i]? = some o) : Owes P ops Q Fr u0 D G (k + i) o := by
  induction l generalizing k i with
  | nil => cases ho
  | cons p l ih =>
    cases i with
    | zero => simp at ho; subst ho; exact h.1
    | succ i =>
      have := ih (i := i) h.2 (by simpa using ho)
      rwa [show k + 1 + i = k + (i + 1) by omega] at this
def PutAll (Fr : (Nat → Value) → Act) : Nat → List Oper → Prop
  | _, [] => True
  | i, o :: rest => (∀ u v, (Fr u).put o.dst v = Fr (upd u i v)) ∧ PutAll Fr (i + 1) rest
theorem PutAll.get {i k : Nat} {l : List Oper} {o : Oper} (h : PutAll Fr k l) (ho : l[i]? = some o) : ∀ u v, (Fr u).put o.dst v = Fr (upd u (k + i) v) := by
  induction l generalizing k i with
  | nil => cases ho
  | cons p l ih =>
    cases i with
    | zero => simp at ho; subst ho; exact h.1
    | succ i =>
      have := ih (i := i) h.2 (by simpa using ho)
      rwa [show k + 1 + i = k + (i + 1) by omega] at this
theorem back_at (hb : back ops = true) {i : Nat} {o : Oper} (ho : ops[i]? = some o) : ∀ e ∈ o.after, e.on < i := by
  unfold back at hb
  rw [List.all_eq_true] at hb
  have hi : i < ops.size := (Array.getElem?_eq_some_iff.1 ho).1
  have := hb i (List.mem_range.2 hi)
  rw [ho] at this
  intro e he
  have h2 := Array.all_eq_true'.1 this e he
  exact of_decide_eq_true h2
theorem dep_some {i j : Nat} (h : dep ops i j = true) : ∃ o, ops[i]? = some o ∧ ∃ e ∈ o.after, Region.binds .any e = true ∧ e.on = j := by
  unfold dep at h
  split at h
  · rename_i o ho
    obtain ⟨e, he, h2⟩ := Array.any_eq_true'.1 h
    rw [Bool.and_eq_true, beq_iff_eq] at h2
    exact ⟨o, ho, e, he, h2.1, h2.2⟩
  · cases h
theorem ready_iff {l : Array Bool} {i : Nat} : i ∈ Region.ready .any ops l ↔ ∃ o, ops[i]? = some o ∧ l.getD i true = false ∧ ∀ e ∈ o.after, Region.binds .any e = true → l.getD e.on false = true := by
  unfold Region.ready
  rw [List.mem_filter, List.mem_range]
  constructor
  · rintro ⟨hi, h⟩
    rw [Bool.and_eq_true] at h
    obtain ⟨h1, h2⟩ := h
    rw [Array.getElem?_eq_getElem hi] at h2 ⊢
    refine ⟨_, rfl, by simpa using h1, fun e he hb => ?_⟩
    have h2 : (ops[i].after.all fun e => !Region.binds .any e || l.getD e.on false) = true := h2
    have h3 := Array.all_eq_true'.1 h2 e he
    rw [hb] at h3
    exact h3
  · rintro ⟨o, ho, h1, h2⟩
    refine ⟨(Array.getElem?_eq_some_iff.1 ho).1, ?_⟩
    rw [Bool.and_eq_true]
    refine ⟨by rw [h1]; rfl, ?_⟩
    rw [ho]
    show o.after.all _ = true
    refine Array.all_eq_true'.2 (fun e he => ?_)
    by_cases hb : Region.binds .any e = true
    · rw [h2 e he hb]; simp
    · simp [hb]
theorem any_go (hback : back ops = true) (hput : PutAll Fr 0 ops.toList) (hop : OweAll P ops Q Fr u0 D G 0 ops.toList) (hD : ∀ i v w1 w2, D i v w1 → Below w1.heap.size w1 w2 → D i v w2) (hG : ∀ w1 w2, G w1 → Below w1.heap.size w1 w2 → G w2)
    (hend : ∀ u w, G w → (∀ i, i < ops.size → D i (u i) w) → Q .normal (Fr u) w) : ∀ (fuel : Nat) (l : Array Bool) (u : Nat → Value) (w : World), l.size = ops.size → (l.toList.filter (! ·)).length ≤ fuel → G w → (∀ i, l.getD i false = true → D i (u i) w) → (∀ i, i < ops.size → l.getD i false = false → u i = u0 i) →
      (∀ i j, dep ops i j = true → l.getD i false = true → l.getD j false = true) → wpAny P .any ops Q fuel l (Fr u) w := by
  have hnone : ∀ l : Array Bool, l.size = ops.size → Region.ready .any ops l = [] → ∀ i, i < ops.size → l.getD i false = true := by
    intro l hl hr i
    induction i using Nat.strongRecOn with
    | _ i ih =>
      intro hi
      by_cases h : l.getD i false = true
      · exact h
      · exfalso
        have : i ∈ Region.ready .any ops l := ready_iff.2 ⟨_, Array.getElem?_eq_getElem hi, by
          have h : l.getD i false = false := by simpa using h
          rw [Array.getD_eq_getD_getElem?, Array.getElem?_eq_getElem (by omega)] at h ⊢
          exact h, fun e he _ => ih e.on (back_at hback (Array.getElem?_eq_getElem hi) e he) (by have := back_at hback (Array.getElem?_eq_getElem hi) e he; omega)⟩
        rw [hr] at this
        cases this
  intro fuel
  induction fuel with
  | zero =>
    intro l u w hl hf hw hdone hun hcl
    have hall : ∀ b ∈ l.toList, b = true := by
      intro b hb
      by_cases h : b = true
      · exact h
      · have : b ∈ l.toList.filter (! ·) := List.mem_filter.2 ⟨hb, by simpa using h⟩
        rw [List.eq_nil_of_length_eq_zero (by omega : (l.toList.filter (! ·)).length = 0)] at this
        cases this
    have h1 : ∀ i, i < ops.size → l.getD i false = true := by
      intro i hi
      rw [Array.getD_eq_getD_getElem?, Array.getElem?_eq_getElem (by omega)]
      exact hall _ (Array.mem_toList_iff.2 (Array.getElem_mem _))
    refine ⟨?_, hend u w hw fun i hi => hdone i (h1 i hi)⟩
    rw [List.eq_nil_iff_forall_not_mem]
    intro i hi
    obtain ⟨o, ho, h2, _⟩ := ready_iff.1 hi
    have hi := (Array.getElem?_eq_some_iff.1 ho).1
    have := h1 i hi
    rw [Array.getD_eq_getD_getElem?, Array.getElem?_eq_getElem (by omega)] at h2 this
    rw [Option.getD_some] at h2 this
    rw [h2] at this
    cases this
  | succ fuel ih =>
    intro l u w hl hf hw hdone hun hcl
    refine ⟨fun hr => hend u w hw fun i hi => hdone i (hnone l hl hr i hi), fun i hi => ?_⟩
    obtain ⟨o, ho, h1, h2⟩ := ready_iff.1 hi
    have hil := (Array.getElem?_eq_some_iff.1 ho).1
    have h1' : l.getD i false = false := by
      rw [Array.getD_eq_getD_getElem?, Array.getElem?_eq_getElem (by omega)] at h1 ⊢
      exact h1
    refine wpOp_step ho (fun K hK => ?_)
    have hO := OweAll.get Fr u0 D G (k := 0) hop (i := i) (o := o) (by rw [Array.getElem?_toList]; exact ho)
    rw [Nat.zero_add] at hO
    have hP := PutAll.get Fr (k := 0) hput (i := i) (o := o) (by rw [Array.getElem?_toList]; exact ho)
    rw [Nat.zero_add] at hP
    refine hO u w hw (fun j hj => ?_) (fun j hj => ?_) (hun i hil h1') K (fun v w' hv hb => ?_)
    · obtain ⟨o', ho', e, he, hb, rfl⟩ := dep_some hj
      rw [ho] at ho'
      injection ho' with ho'
      subst ho'
      exact hdone _ (h2 e he hb)
    · obtain ⟨o', ho', _⟩ := dep_some hj
      have hjl := (Array.getElem?_eq_some_iff.1 ho').1
      refine hun j hjl ?_
      by_cases h : l.getD j false = true
      · have := hcl j i hj h
        rw [h1'] at this
        cases this
      · simpa using h
    · refine hK _ _ ?_
      rw [hP]
      have hget : ∀ j, (l.setIfInBounds i true).getD j false = if j = i then true else l.getD j false := by
        intro j
        rw [Array.getD_eq_getD_getElem?, Array.getD_eq_getD_getElem?, Array.getElem?_setIfInBounds]
        by_cases hj : j = i
        · subst hj
          rw [if_pos rfl, if_pos rfl, if_pos (by omega)]
          rfl
        · rw [if_neg (fun h => hj h.symm), if_neg hj]
      refine ih _ _ _ (by rw [Array.size_setIfInBounds]; exact hl) ?_ (hG _ _ hw hb) (fun j hj => ?_) (fun j hj hn => ?_) (fun j k hd hj => ?_)
      · have hlt : i < l.toList.length := by rw [Array.length_toList]; omega
        have hli : l.toList[i] = false := by
          rw [Array.getD_eq_getD_getElem?, Array.getElem?_eq_getElem (by omega)] at h1'
          simpa using h1'
        have key : ∀ (m : List Bool) (i : Nat) (h : i < m.length), m[i] = false → ((m.set i true).filter (! ·)).length + 1 = (m.filter (! ·)).length := by
          intro m
          induction m with
          | nil => intro i h; cases h
          | cons b m ihm =>
            intro i h hb2
            cases i with
            | zero =>
              simp only [List.getElem_cons_zero] at hb2
              subst hb2
              simp
            | succ i =>
              simp only [List.getElem_cons_succ] at hb2
              have := ihm i (by simpa using h) hb2
              cases b <;> simp <;> omega
        have := key l.toList i hlt hli
        rw [Array.toList_setIfInBounds]
        omega
      · rw [hget] at hj
        by_cases e : j = i
        · subst e
          rw [upd_self]
          exact hv
        · rw [if_neg e] at hj
          rw [upd_ne u v e]
          exact hD _ _ _ _ (hdone j hj) hb
      · rw [hget] at hn
        by_cases e : j = i
        · rw [if_pos e] at hn; cases hn
        · rw [if_neg e] at hn
          rw [upd_ne u v e]
          exact hun j hj hn
      · rw [hget] at hj ⊢
        by_cases e : k = i
        · rw [if_pos e]
        · rw [if_neg e]
          by_cases e2 : j = i
          · subst e2
            obtain ⟨o', ho', e', he', hb', rfl⟩ := dep_some hd
            rw [ho] at ho'
            injection ho' with ho'
            subst ho'
            exact h2 e' he' hb'
          · rw [if_neg e2] at hj
            exact hcl j k hd hj
/-- A region that draws its order: whatever order it is, what is said of each operation holds behind it. -/
theorem any_ {id : Nat} {a : Act} {w : World} (Fr : (Nat → Value) → Act) (u0 : Nat → Value) (D : Nat → Value → World → Prop) (G : World → Prop) (hm : P.follows .mixedOrders = true) (hback : back ops = true) (ha : Fr u0 = a) (hput : PutAll Fr 0 ops.toList)
    (hD : ∀ i v w1 w2, D i v w1 → Below w1.heap.size w1 w2 → D i v w2) (hG : ∀ w1 w2, G w1 → Below w1.heap.size w1 w2 → G w2) (hw : G w.drew) (hop : OweAll P ops Q Fr u0 D G 0 ops.toList)
    (hend : ∀ u w, G w → (∀ i, i < ops.size → D i (u i) w) → Q .normal (Fr u) w) : (Code.region id ops true).wp P Q a w := by
  subst ha
  refine wp_region_any hm (any_go Fr u0 D G hback hput hop hD hG hend _ _ _ _ (by simp) ?_ hw (fun i hi => ?_) (fun _ _ _ => rfl) (fun i j _ hi => ?_))
  · exact Nat.le_trans (List.length_filter_le _ _) (by simp)
  · rw [Array.getD_eq_getD_getElem?, Array.getElem?_replicate] at hi
    split at hi <;> cases hi
  · rw [Array.getD_eq_getD_getElem?, Array.getElem?_replicate] at hi
    split at hi <;> cases hi
end
end Go.Proofs.Ytgdbinifnhfcjaa.Reg
/- The same with the frame told by a list of slots, and with what an operation owes told by its operands' values alone. -/
set_option linter.unusedVariables false
set_option linter.unusedSimpArgs false
namespace Go.Proofs.Ytgdbinifnhfcjaa.Reg
open Go.RowKit Go.Proofs.YtgdbinifnhfcjaaW.PrintWords Go.Proofs.YtgdbinifnhfcjaaW.PrintLast Go.Proofs.YtgdbinifnhfcjaaW.PrintMore
/-- Slot p.1 bears operation p.2's value. -/
def setAll (l : List (Nat × Nat)) (u : Nat → Value) (t : Array Value) : Array Value := l.foldl (fun t p => t.setIfInBounds p.1 (u p.2)) t
def frame (a : Act) (l : List (Nat × Nat)) (u : Nat → Value) : Act := { a with tmps := setAll l u a.tmps }
def look (l : List (Nat × Nat)) (k : Nat) : Option Nat := (l.find? (fun p => p.1 == k)).map (·.2)
theorem setAll_size (l : List (Nat × Nat)) (u : Nat → Value) : ∀ t : Array Value, (setAll l u t).size = t.size := by
  induction l with
  | nil => intro t; rfl
  | cons p l ih => intro t; show (setAll l u (t.setIfInBounds p.1 (u p.2))).size = _; rw [ih, Array.size_setIfInBounds]
theorem setAll_get (u : Nat → Value) (k : Nat) : ∀ (l : List (Nat × Nat)) (t : Array Value), (l.map (·.1)).Nodup → k < t.size → (setAll l u t)[k]? = match look l k with | some i => some (u i) | none => t[k]? := by
  intro l
  induction l with
  | nil => intro t _ _; rfl
  | cons p l ih =>
    intro t hn hk
    rw [List.map_cons, List.nodup_cons] at hn
    show (setAll l u (t.setIfInBounds p.1 (u p.2)))[k]? = _
    rw [ih _ hn.2 (by rw [Array.size_setIfInBounds]; exact hk)]
    unfold look
    rw [List.find?_cons]
    by_cases e : p.1 = k
    · have hnone : l.find? (fun p => p.1 == k) = none := by
        rw [List.find?_eq_none]
        intro q hq h
        rw [beq_iff_eq] at h
        exact hn.1 (by rw [e, ← h]; exact List.mem_map_of_mem hq)
      rw [hnone]
      subst e
      simp [hk]
    · rw [show (p.1 == k) = false by simpa using e]
      cases h : l.find? (fun p => p.1 == k) with
      | some q => rfl
      | none =>
        show (t.setIfInBounds p.1 (u p.2))[k]? = t[k]?
        rw [Array.getElem?_setIfInBounds, if_neg e]
theorem setAll_none (u : Nat → Value) (l : List (Nat × Nat)) (t : Array Value) (k : Nat) (hk : ¬ k < t.size) : (setAll l u t)[k]? = none := by
  rw [Array.getElem?_eq_none]
  rw [setAll_size]
  omega
def dsts (ops : Array Oper) : List (Nat × Nat) := (List.range ops.size).filterMap fun i => match ops[i]? with
  | some o => o.dst.map fun s => (s, i)
  | none => none
def check (ops : Array Oper) (l : List (Nat × Nat)) (n : Nat) : Bool := back ops && (dsts ops == l) && decide ((l.map (·.1)).Nodup) && (l.all fun p => decide (p.1 < n)) && ops.all fun o => match o.guard with | none => true | some (j, _) => l.any fun p => p.2 == j
theorem mem_dsts {ops : Array Oper} {s i : Nat} : (s, i) ∈ dsts ops ↔ ∃ o, ops[i]? = some o ∧ o.dst = some s := by
  unfold dsts
  rw [List.mem_filterMap]
  constructor
  · rintro ⟨j, hj, h⟩
    split at h
    · rename_i o ho
      obtain ⟨s', hs, h2⟩ := Option.map_eq_some_iff.1 h
      injection h2 with h2 h3
      subst h2 h3
      exact ⟨o, ho, hs⟩
    · cases h
  · rintro ⟨o, ho, hs⟩
    refine ⟨i, List.mem_range.2 (Array.getElem?_eq_some_iff.1 ho).1, ?_⟩
    rw [ho]
    simp [hs]
theorem look_some {l : List (Nat × Nat)} (hn : (l.map (·.1)).Nodup) {s i : Nat} (h : (s, i) ∈ l) : look l s = some i := by
  induction l with
  | nil => cases h
  | cons p l ih =>
    rw [List.map_cons, List.nodup_cons] at hn
    unfold look
    rw [List.find?_cons]
    rcases List.mem_cons.1 h with rfl | h
    · simp
    · rw [show (p.1 == s) = false by
        rw [beq_eq_false_iff_ne]
        intro e
        exact hn.1 (by rw [e]; exact List.mem_map_of_mem (f := (·.1)) h)]
      exact ih hn.2 h
theorem look_mem {l : List (Nat × Nat)} {s i : Nat} (h : look l s = some i) : (s, i) ∈ l := by
  unfold look at h
  obtain ⟨p, hp, rfl⟩ := Option.map_eq_some_iff.1 h
  have h2 := List.find?_some hp
  rw [beq_iff_eq] at h2
  subst h2
  exact List.mem_of_find?_eq_some hp
/-- Where operation i finds what lies in slot s: operation j's value (some j), or what lay there before (none). -/
def src (ops : Array Oper) (l : List (Nat × Nat)) (i s : Nat) : Option Nat := match look l s with
  | some j => if dep ops j i then none else if j = i then none else some j
  | none => none
def wantU (u : Nat → Value) (o : Oper) : Bool := match o.guard with
  | none => true
  | some (j, b) => match u j with
    | .bool c => c == b
    | _ => false
/-- An operation comes to a value, by itself or by a call. -/
def Steps (P : Program) (ev : Operand → Value) (o : Oper) (w : World) (R : Value → World → Prop) : Prop :=
  (∃ v w', (execOp ev o).run P w = .ok (.value v) w' ∧ R v w') ∨ (∃ f args, (execOp ev o).run P w = .ok (.enter f args) w ∧ Calls P f args w fun e w' => ∃ v, e = .returned v ∧ R v w')
structure Ev (ops : Array Oper) (l : List (Nat × Nat)) (a : Act) (u : Nat → Value) (i : Nat) (ev : Operand → Value) : Prop where
  const : ∀ v, ev (.const v) = v
  func : ∀ f, ev (.func f) = .func (.func f) #[] #[]
  tmp : ∀ s j, src ops l i s = some j → ev (.tmp s) = u j
  old : ∀ s, src ops l i s = none → ev (.tmp s) = a.eval (.tmp s)
def Owes2 (P : Program) (ops : Array Oper) (l : List (Nat × Nat)) (a : Act) (D : Nat → Value → World → Prop) (G : World → Prop) (i : Nat) (o : Oper) : Prop :=
  ∀ (u : Nat → Value) (w : World), G w → (∀ j, dep ops i j = true → D j (u j) w) → ∀ ev : Operand → Value, Ev ops l a u i ev →
    (wantU u o = true → Steps P ev o w (fun v w' => D i v w' ∧ Below w.heap.size w w')) ∧ (wantU u o = false → D i undef w)
def OweAll2 (P : Program) (ops : Array Oper) (l : List (Nat × Nat)) (a : Act) (D : Nat → Value → World → Prop) (G : World → Prop) : Nat → List Oper → Prop
  | _, [] => True
  | i, o :: rest => Owes2 P ops l a D G i o ∧ OweAll2 P ops l a D G (i + 1) rest
theorem owe_of {P : Program} {ops : Array Oper} {Q : Exit → Act → World → Prop} {l : List (Nat × Nat)} {a : Act} {D : Nat → Value → World → Prop} {G : World → Prop} (hc : check ops l a.tmps.size = true) {i : Nat} {o : Oper} (ho : ops[i]? = some o) (h : Owes2 P ops l a D G i o) :
    Owes P ops Q (frame a l) (fun i => a.tmps.getD ((l.find? (fun p => p.2 == i)).map (·.1) |>.getD 0) undef) D G i o := by
  simp only [check, Bool.and_eq_true, beq_iff_eq, decide_eq_true_eq, List.all_eq_true] at hc
  obtain ⟨⟨⟨⟨hb, hd⟩, hn⟩, hall⟩, hgd⟩ := hc
  intro u w hw hP hU hi K hK
  have huniq : ∀ {s s' j : Nat}, (s, j) ∈ l → (s', j) ∈ l → s = s' := by
    intro s s' j h1 h2
    rw [← hd, mem_dsts] at h1 h2
    obtain ⟨o1, ho1, hs1⟩ := h1
    obtain ⟨o2, ho2, hs2⟩ := h2
    rw [ho1] at ho2
    injection ho2 with ho2
    subst ho2
    rw [hs1] at hs2
    exact Option.some.inj hs2
  have hinit : ∀ {s j : Nat}, (s, j) ∈ l → a.tmps.getD ((l.find? (fun p => p.2 == j)).map (·.1) |>.getD 0) undef = a.eval (.tmp s) := by
    intro s j h
    have : ∃ q, l.find? (fun p => p.2 == j) = some q := by
      cases h2 : l.find? (fun p => p.2 == j) with
      | some q => exact ⟨q, rfl⟩
      | none =>
        rw [List.find?_eq_none] at h2
        exact absurd (beq_self_eq_true j) (h2 _ h)
    obtain ⟨q, hq⟩ := this
    have h3 := List.find?_some hq
    rw [beq_iff_eq] at h3
    have h4 := List.mem_of_find?_eq_some hq
    rw [hq]
    obtain ⟨q1, q2⟩ := q
    simp only at h3
    subst h3
    rw [huniq h4 h]
    rfl
  have hat : ∀ {s j : Nat}, (s, j) ∈ l → (frame a l u).tmps[s]? = some (u j) := by
    intro s j h
    show (setAll l u a.tmps)[s]? = _
    rw [setAll_get u s l _ hn (hall _ h), look_some hn h]
  have hev : Ev ops l a u i (frame a l u).eval := by
    refine ⟨fun _ => rfl, fun _ => rfl, fun s j hs => ?_, fun s hs => ?_⟩
    · have hm : (s, j) ∈ l := by
        unfold src at hs
        split at hs
        · rename_i j' hj
          split at hs
          · cases hs
          · split at hs
            · cases hs
            · injection hs with hs
              subst hs
              exact look_mem hj
        · cases hs
      show (frame a l u).tmps.getD s undef = _
      rw [Array.getD_eq_getD_getElem?, hat hm]
      rfl
    · show (frame a l u).tmps.getD s undef = a.tmps.getD s undef
      unfold src at hs
      split at hs
      · rename_i j hj
        have hm := look_mem hj
        have hu : u j = a.eval (.tmp s) := by
          rw [← hinit hm]
          split at hs
          · rename_i hdep
            exact hU j hdep
          · split at hs
            · rename_i e
              subst e
              exact hi
            · cases hs
        rw [Array.getD_eq_getD_getElem?, hat hm, hu]
        rfl
      · rename_i hnone
        by_cases hk : s < a.tmps.size
        · rw [Array.getD_eq_getD_getElem?, Array.getD_eq_getD_getElem?]
          show ((setAll l u a.tmps)[s]?).getD undef = _
          rw [setAll_get u s l _ hn hk, hnone]
        · rw [Array.getD_eq_getD_getElem?, Array.getD_eq_getD_getElem?]
          show ((setAll l u a.tmps)[s]?).getD undef = _
          rw [setAll_none u l _ s hk, Array.getElem?_eq_none (by omega)]
  have hwant : Region.wanted o (yielded ops (frame a l u).tmps) = wantU u o := by
    unfold Region.wanted wantU
    cases hg : o.guard with
    | none => rfl
    | some p =>
      obtain ⟨j, b⟩ := p
      show (yielded ops (frame a l u).tmps j == some b) = _
      have hgo := Array.all_eq_true'.1 hgd o (Array.mem_of_getElem? ho)
      rw [hg] at hgo
      obtain ⟨q, hq, hqj⟩ := List.any_eq_true.1 hgo
      rw [beq_iff_eq] at hqj
      obtain ⟨s, j'⟩ := q
      simp only at hqj
      subst hqj
      have hy : yielded ops (frame a l u).tmps j' = match u j' with | .bool c => some c | _ => none := by
        unfold yielded
        have hq2 := hq
        rw [← hd, mem_dsts] at hq2
        obtain ⟨o', ho', hs'⟩ := hq2
        rw [ho', Option.bind_some, hs', Option.bind_some, hat hq]
        cases u j' <;> rfl
      rw [hy]
      show _ = (match u j' with | .bool c => c == b | _ => false)
      cases u j' <;> first | rfl | exact Option.some_beq_some
  obtain ⟨h1, h2⟩ := h u w hw hP _ hev
  rw [hwant]
  cases hwu : wantU u o with
  | true =>
    rw [if_pos rfl]
    unfold Oper.wp
    rcases h1 hwu with ⟨v, w', hr, hv, hbl⟩ | ⟨f, args, hr, hcall⟩
    · rw [hr]
      exact hK.out _ _ hv hbl
    · rw [hr, Oper.upon_enter]
      refine hcall.mono fun e w'' hh => ?_
      obtain ⟨v, rfl, hv, hbl⟩ := hh
      exact hK.out _ _ hv hbl
  | false =>
    rw [if_neg (by simp)]
    exact hK.out _ _ (h2 hwu) (Below.refl _ _)
theorem frame_put {ops : Array Oper} {l : List (Nat × Nat)} {a : Act} (hc : check ops l a.tmps.size = true) {i : Nat} {o : Oper} (ho : ops[i]? = some o) (u : Nat → Value) (v : Value) : (frame a l u).put o.dst v = frame a l (upd u i v) := by
  simp only [check, Bool.and_eq_true, beq_iff_eq, decide_eq_true_eq, List.all_eq_true] at hc
  obtain ⟨⟨⟨⟨hb, hd⟩, hn⟩, hall⟩, _⟩ := hc
  have huniq : ∀ {s j : Nat}, (s, j) ∈ l → j = i → o.dst = some s := by
    intro s j h1 e
    subst e
    rw [← hd, mem_dsts] at h1
    obtain ⟨o1, ho1, hs1⟩ := h1
    rw [ho] at ho1
    injection ho1 with ho1
    rw [ho1]
    exact hs1
  have hext : ∀ t1 t2 : Array Value, t1.size = t2.size → (∀ k, k < t1.size → t1[k]? = t2[k]?) → t1 = t2 := by
    intro t1 t2 h1 h2
    apply Array.ext_getElem?
    intro k
    by_cases hk : k < t1.size
    · exact h2 k hk
    · rw [Array.getElem?_eq_none (by omega), Array.getElem?_eq_none (by omega)]
  cases hds : o.dst with
  | none =>
    show frame a l u = frame a l (upd u i v)
    unfold frame
    congr 1
    refine hext (setAll l u a.tmps) (setAll l (upd u i v) a.tmps) (by rw [setAll_size, setAll_size]) (fun k hk => ?_)
    rw [setAll_size] at hk
    rw [setAll_get _ _ _ _ hn hk, setAll_get _ _ _ _ hn hk]
    cases h : look l k with
    | none => rfl
    | some j =>
      simp only
      rw [upd_ne u v (fun e => by have := huniq (look_mem h) e; rw [hds] at this; cases this)]
  | some s =>
    have hm : (s, i) ∈ l := by rw [← hd, mem_dsts]; exact ⟨o, ho, hds⟩
    show (⟨(setAll l u a.tmps).setIfInBounds s v, a.defers⟩ : Act) = ⟨setAll l (upd u i v) a.tmps, a.defers⟩
    congr 1
    refine hext ((setAll l u a.tmps).setIfInBounds s v) (setAll l (upd u i v) a.tmps) (by rw [Array.size_setIfInBounds, setAll_size, setAll_size]) (fun k hk => ?_)
    rw [Array.size_setIfInBounds, setAll_size] at hk
    rw [Array.getElem?_setIfInBounds, setAll_get _ _ _ _ hn hk, setAll_get _ _ _ _ hn hk, setAll_size]
    by_cases e : s = k
    · subst e
      rw [if_pos rfl, if_pos hk, look_some hn hm]
      simp only
      rw [upd_self]
    · rw [if_neg e]
      cases h : look l k with
      | none => rfl
      | some j =>
        simp only
        rw [upd_ne u v (fun e2 => by have := huniq (look_mem h) e2; rw [hds] at this; injection this with this; exact e this)]
theorem frame_self (l : List (Nat × Nat)) (a : Act) (u : Nat → Value) (hn : (l.map (·.1)).Nodup) (h : ∀ s i, (s, i) ∈ l → s < a.tmps.size → u i = a.eval (.tmp s)) : frame a l u = a := by
  unfold frame
  have : setAll l u a.tmps = a.tmps := by
    apply Array.ext_getElem?
    intro k
    by_cases hk : k < a.tmps.size
    · rw [setAll_get _ _ _ _ hn hk]
      cases hl : look l k with
      | none => rfl
      | some i =>
        show some (u i) = _
        rw [h k i (look_mem hl) hk]
        show some (a.tmps.getD k undef) = _
        rw [Array.getD_eq_getD_getElem?, Array.getElem?_eq_getElem hk]
        rfl
    · rw [setAll_none u l _ k hk, Array.getElem?_eq_none (by omega)]
  rw [this]
theorem owe_all {P : Program} {ops : Array Oper} {Q : Exit → Act → World → Prop} {l : List (Nat × Nat)} {a : Act} {D : Nat → Value → World → Prop} {G : World → Prop} (hc : check ops l a.tmps.size = true) :
    ∀ (os : List Oper) (k : Nat), (∀ j, os[j]? = ops[k + j]?) → OweAll2 P ops l a D G k os → OweAll P ops Q (frame a l) (fun i => a.tmps.getD ((l.find? (fun p => p.2 == i)).map (·.1) |>.getD 0) undef) D G k os := by
  intro os
  induction os with
  | nil => intro k _ _; trivial
  | cons o os ih =>
    intro k hk h
    have ho : ops[k]? = some o := by have := hk 0; simpa using this.symm
    exact ⟨owe_of hc ho h.1, ih (k + 1) (fun j => by have := hk (j + 1); rw [show k + (j + 1) = k + 1 + j by omega] at this; simpa using this) h.2⟩
theorem put_all {ops : Array Oper} {l : List (Nat × Nat)} {a : Act} (hc : check ops l a.tmps.size = true) :
    ∀ (os : List Oper) (k : Nat), (∀ j, os[j]? = ops[k + j]?) → PutAll (frame a l) k os := by
  intro os
  induction os with
  | nil => intro k _; trivial
  | cons o os ih =>
    intro k hk
    have ho : ops[k]? = some o := by have := hk 0; simpa using this.symm
    exact ⟨fun u v => frame_put hc ho u v, ih (k + 1) (fun j => by have := hk (j + 1); rw [show k + (j + 1) = k + 1 + j by omega] at this; simpa using this)⟩
/-- A region that draws its order and writes nothing that stands: whatever the order, what is said of each operation holds behind it. -/
theorem any2_ {P : Program} {ops : Array Oper} {Q : Exit → Act → World → Prop} {id : Nat} {a : Act} {w : World} (l : List (Nat × Nat)) (D : Nat → Value → World → Prop) (G : World → Prop) (hm : P.follows .mixedOrders = true) (hc : check ops l a.tmps.size = true)
    (hD : ∀ i v w1 w2, D i v w1 → Below w1.heap.size w1 w2 → D i v w2) (hG : ∀ w1 w2, G w1 → Below w1.heap.size w1 w2 → G w2) (hw : G w.drew) (hop : OweAll2 P ops l a D G 0 ops.toList)
    (hend : ∀ u w, G w → (∀ i, i < ops.size → D i (u i) w) → Q .normal (frame a l u) w) : (Code.region id ops true).wp P Q a w := by
  have hc2 := hc
  simp only [check, Bool.and_eq_true, beq_iff_eq, decide_eq_true_eq, List.all_eq_true] at hc2
  obtain ⟨⟨⟨⟨hb, hd⟩, hn⟩, hall⟩, _⟩ := hc2
  refine any_ (frame a l) (fun i => a.tmps.getD ((l.find? (fun p => p.2 == i)).map (·.1) |>.getD 0) undef) D G hm hb (frame_self l a _ hn (fun s i hs _ => ?_)) (put_all hc _ 0 (fun j => by rw [Array.getElem?_toList, Nat.zero_add])) hD hG hw (owe_all hc _ 0 (fun j => by rw [Array.getElem?_toList, Nat.zero_add]) hop) hend
  have huniq : ∀ {s s' j : Nat}, (s, j) ∈ l → (s', j) ∈ l → s = s' := by
    intro s s' j h1 h2
    rw [← hd, mem_dsts] at h1 h2
    obtain ⟨o1, ho1, hs1⟩ := h1
    obtain ⟨o2, ho2, hs2⟩ := h2
    rw [ho1] at ho2
    injection ho2 with ho2
    subst ho2
    rw [hs1] at hs2
    exact Option.some.inj hs2
  have : ∃ q, l.find? (fun p => p.2 == i) = some q := by
    cases h2 : l.find? (fun p => p.2 == i) with
    | some q => exact ⟨q, rfl⟩
    | none =>
      rw [List.find?_eq_none] at h2
      exact absurd (beq_self_eq_true i) (h2 _ hs)
  obtain ⟨q, hq⟩ := this
  have h3 := List.find?_some hq
  rw [beq_iff_eq] at h3
  have h4 := List.mem_of_find?_eq_some hq
  rw [hq]
  obtain ⟨q1, q2⟩ := q
  simp only at h3
  subst h3
  rw [huniq h4 hs]
  rfl
/-! ### What serves for what an operation owes -/
theorem st_val {P : Program} {ev : Operand → Value} {o : Oper} {w : World} {R : Value → World → Prop} (v : Value) (w' : World) (hr : (execOp ev o).run P w = .ok (.value v) w') (h : R v w') : Steps P ev o w R := .inl ⟨v, w', hr, h⟩
theorem st_call {P : Program} {ev : Operand → Value} {o : Oper} {w : World} {R : Value → World → Prop} {f : FuncId} {fn : Func} {as : Array Operand} {ts : Array TypeId} (hf : P.funcs[f]? = some fn) (hname : (fn.name == "runtime.NumGoroutine") = false) (hb : fn.body.isSome = true)
    (hop : o.op = .call { callee := .value (.func f), args := as, argTypes := ts }) (hef : ev (.func f) = .func (.func f) #[] #[]) (args : Array Value) (hargs : as.map ev = args) (h : Calls P f args w fun e w' => ∃ v, e = .returned v ∧ R v w') : Steps P ev o w R := by
  refine .inr ⟨f, args, ?_, h⟩
  have he := enters_ hf hname hb args w
  unfold execOp
  simp [hop, resolve, Deferred.ofValue, invoke, hef, hargs, he]
theorem no_guard {u : Nat → Value} {o : Oper} {p q : Prop} (hg : o.guard = none) (h : p) : (wantU u o = true → p) ∧ (wantU u o = false → q) := ⟨fun _ => h, fun e => by unfold wantU at e; rw [hg] at e; cases e⟩
end Go.Proofs.Ytgdbinifnhfcjaa.Reg
/- A part of a region that draws its order, from a place L0 to a place L2: whatever the order between, what is said of each operation holds behind it, and rows that were made lie apart. -/
set_option linter.unusedVariables false
set_option linter.unusedSimpArgs false
namespace Go.Proofs.Ytgdbinifnhfcjaa.Reg
open Go.RowKit Go.Proofs.YtgdbinifnhfcjaaW.PrintWords Go.Proofs.YtgdbinifnhfcjaaW.PrintLast Go.Proofs.YtgdbinifnhfcjaaW.PrintMore
/-- The operations that operation i waits for, at one remove or more, as bits. -/
def closStep (ops : Array Oper) (B : List Nat) (i : Nat) : Nat := match ops[i]? with
  | some o => o.after.toList.foldl (fun b e => if Region.binds .any e then b ||| ((1 <<< e.on) ||| B.getD e.on 0) else b) 0
  | none => 0
/-- B is such a table. -/
def closOk (ops : Array Oper) (B : List Nat) : Bool := (List.range ops.size).all fun i => closStep ops B i == B.getD i 0
theorem fold_bits (B : List Nat) (j : Nat) : ∀ (es : List Edge) (b : Nat), (es.foldl (fun b e => if Region.binds .any e then b ||| ((1 <<< e.on) ||| B.getD e.on 0) else b) b).testBit j = true → b.testBit j = true ∨ ∃ e ∈ es, Region.binds .any e = true ∧ (e.on = j ∨ (B.getD e.on 0).testBit j = true) := by
  intro es
  induction es with
  | nil => intro b h; exact .inl h
  | cons e es ih =>
    intro b h
    rw [List.foldl_cons] at h
    rcases ih _ h with h2 | ⟨e', he', h2⟩
    · by_cases hb : Region.binds .any e = true
      · rw [if_pos hb, Nat.testBit_or, Nat.testBit_or, Bool.or_eq_true, Bool.or_eq_true] at h2
        rcases h2 with h2 | h2 | h2
        · exact .inl h2
        · refine .inr ⟨e, List.mem_cons_self, hb, .inl ?_⟩
          rw [Nat.one_shiftLeft, Nat.testBit_two_pow, decide_eq_true_eq] at h2
          exact h2
        · exact .inr ⟨e, List.mem_cons_self, hb, .inr h2⟩
      · rw [if_neg hb] at h2
        exact .inl h2
    · exact .inr ⟨e', List.mem_cons_of_mem _ he', h2⟩
theorem clos_done {ops : Array Oper} {B : List Nat} (hback : back ops = true) (hB : closOk ops B = true) {l : Array Bool} (hcl : ∀ i j, dep ops i j = true → l.getD i false = true → l.getD j false = true) : ∀ (i : Nat) (j : Nat), (B.getD i 0).testBit j = true → i < ops.size → (∀ k, dep ops i k = true → l.getD k false = true) → l.getD j false = true := by
  intro i
  induction i using Nat.strongRecOn with
  | _ i ih =>
    intro j hj hi hall
    unfold closOk at hB
    have h1 := (List.all_eq_true.1 hB) i (List.mem_range.2 hi)
    rw [beq_iff_eq] at h1
    rw [← h1] at hj
    unfold closStep at hj
    rw [Array.getElem?_eq_getElem hi] at hj
    rcases fold_bits B j _ _ hj with h2 | ⟨e, he, hb, h2⟩
    · simp at h2
    · have hlt := back_at hback (Array.getElem?_eq_getElem hi) e (by simpa using he)
      have hd : dep ops i e.on = true := by
        unfold dep
        rw [Array.getElem?_eq_getElem hi]
        refine Array.any_eq_true'.2 ⟨e, by simpa using he, ?_⟩
        rw [hb, beq_self_eq_true]; rfl
      rcases h2 with rfl | h2
      · exact hall _ hd
      · exact ih e.on hlt j h2 (by omega) (fun k hk => hcl e.on k hk (hall _ hd))
/-- L0 lies below L2, both are shut downward, and what is not of L2 waits for all of L2 that is not of L0. -/
def cutOk (ops : Array Oper) (L0 L2 : Array Bool) (B : List Nat) : Bool := back ops && closOk ops B && (L0.size == ops.size) && (L2.size == ops.size) &&
  (List.range ops.size).all (fun i => (!L0.getD i false || L2.getD i false) && (match ops[i]? with | some o => o.after.all (fun e => !Region.binds .any e || ((!L0.getD i false || L0.getD e.on false) && (!L2.getD i false || L2.getD e.on false))) | none => true) &&
    (L2.getD i false || (List.range ops.size).all fun j => !L2.getD j false || L0.getD j false || (B.getD i 0).testBit j))
/-- The slots of the operations between. -/
def between (ops : Array Oper) (L0 L2 : Array Bool) : List (Nat × Nat) := (List.range ops.size).filterMap fun i => if L2.getD i false && !L0.getD i false then (match ops[i]? with | some o => o.dst.map fun s => (s, i) | none => none) else none
theorem mem_between {ops : Array Oper} {L0 L2 : Array Bool} {s i : Nat} : (s, i) ∈ between ops L0 L2 ↔ (L2.getD i false = true ∧ L0.getD i false = false) ∧ ∃ o, ops[i]? = some o ∧ o.dst = some s := by
  unfold between
  rw [List.mem_filterMap]
  constructor
  · rintro ⟨j, hj, h⟩
    split at h
    · rename_i hc
      rw [Bool.and_eq_true, Bool.not_eq_true'] at hc
      split at h
      · rename_i o ho
        obtain ⟨s', hs, h2⟩ := Option.map_eq_some_iff.1 h
        injection h2 with h2 h3
        subst h2 h3
        exact ⟨hc, o, ho, hs⟩
      · cases h
    · cases h
  · rintro ⟨hc, o, ho, hs⟩
    refine ⟨i, List.mem_range.2 (Array.getElem?_eq_some_iff.1 ho).1, ?_⟩
    rw [if_pos (by rw [hc.1, hc.2]; rfl), ho]
    simp [hs]
/-- What lies at v is none of what stood in w. -/
def fresh (v : Value) (w w' : World) : Prop := ∀ b, v.ownBlock = some b → w.heap.size ≤ b ∧ b < w'.heap.size
def apart (u v : Value) : Prop := ∀ b, u.ownBlock = some b → some b ≠ v.ownBlock
/-- What an operation between owes. -/
def OwesM (P : Program) (ops : Array Oper) (Q : Exit → Act → World → Prop) (l : List (Nat × Nat)) (a : Act) (D : Nat → Value → World → Prop) (G : World → Prop) (B : List Nat) (rows : List Nat) (L0 : Array Bool) (i : Nat) (o : Oper) : Prop :=
  ∀ (u : Nat → Value) (w : World), G w → (∀ j, (B.getD i 0).testBit j = true → L0.getD j false = false → D j (u j) w) →
    ∀ K : Act → World → Prop, (∀ v w', D i v w' → Below w.heap.size w w' → (rows.contains i = true → fresh v w w') → K ((frame a l u).put o.dst v) w') → Aside0 (if Region.wanted o (yielded ops (frame a l u).tmps) = true then Oper.wp P o (frame a l u) w K Q else K ((frame a l u).put o.dst undef) w)
def slotsOk (l : List (Nat × Nat)) (n : Nat) : Bool := decide ((l.map (·.1)).Nodup) && l.all fun p => decide (p.1 < n)
theorem frame_putM {ops : Array Oper} {L0 L2 : Array Bool} {l : List (Nat × Nat)} {a : Act} (hl : between ops L0 L2 = l) (hs : slotsOk l a.tmps.size = true) {i : Nat} {o : Oper} (ho : ops[i]? = some o) (hi : L2.getD i false = true ∧ L0.getD i false = false) (u : Nat → Value) (v : Value) : (frame a l u).put o.dst v = frame a l (upd u i v) := by
  simp only [slotsOk, Bool.and_eq_true, decide_eq_true_eq, List.all_eq_true] at hs
  obtain ⟨hn, hall⟩ := hs
  have huniq : ∀ {s j : Nat}, (s, j) ∈ l → j = i → o.dst = some s := by
    intro s j h1 e
    subst e
    rw [← hl, mem_between] at h1
    obtain ⟨_, o1, ho1, hs1⟩ := h1
    rw [ho] at ho1
    injection ho1 with ho1
    rw [ho1]
    exact hs1
  have hext : ∀ t1 t2 : Array Value, t1.size = t2.size → (∀ k, k < t1.size → t1[k]? = t2[k]?) → t1 = t2 := by
    intro t1 t2 h1 h2
    apply Array.ext_getElem?
    intro k
    by_cases hk : k < t1.size
    · exact h2 k hk
    · rw [Array.getElem?_eq_none (by omega), Array.getElem?_eq_none (by omega)]
  cases hds : o.dst with
  | none =>
    show frame a l u = frame a l (upd u i v)
    unfold frame
    congr 1
    refine hext (setAll l u a.tmps) (setAll l (upd u i v) a.tmps) (by rw [setAll_size, setAll_size]) (fun k hk => ?_)
    rw [setAll_size] at hk
    rw [setAll_get _ _ _ _ hn hk, setAll_get _ _ _ _ hn hk]
    cases h : look l k with
    | none => rfl
    | some j =>
      simp only
      rw [upd_ne u v (fun e => by have := huniq (look_mem h) e; rw [hds] at this; cases this)]
  | some s =>
    have hm : (s, i) ∈ l := by rw [← hl, mem_between]; exact ⟨hi, o, ho, hds⟩
    show (⟨(setAll l u a.tmps).setIfInBounds s v, a.defers⟩ : Act) = ⟨setAll l (upd u i v) a.tmps, a.defers⟩
    congr 1
    refine hext ((setAll l u a.tmps).setIfInBounds s v) (setAll l (upd u i v) a.tmps) (by rw [Array.size_setIfInBounds, setAll_size, setAll_size]) (fun k hk => ?_)
    rw [Array.size_setIfInBounds, setAll_size] at hk
    rw [Array.getElem?_setIfInBounds, setAll_get _ _ _ _ hn hk, setAll_get _ _ _ _ hn hk, setAll_size]
    by_cases e : s = k
    · subst e
      rw [if_pos rfl, if_pos hk, look_some hn hm]
      simp only
      rw [upd_self]
    · rw [if_neg e]
      cases h : look l k with
      | none => rfl
      | some j =>
        simp only
        rw [upd_ne u v (fun e2 => by have := huniq (look_mem h) e2; rw [hds] at this; injection this with this; exact e this)]
def OweAllM (P : Program) (ops : Array Oper) (Q : Exit → Act → World → Prop) (l : List (Nat × Nat)) (a : Act) (D : Nat → Value → World → Prop) (G : World → Prop) (B : List Nat) (rows : List Nat) (L0 : Array Bool) : List Nat → Prop
  | [] => True
  | i :: rest => (∀ o, ops[i]? = some o → OwesM P ops Q l a D G B rows L0 i o) ∧ OweAllM P ops Q l a D G B rows L0 rest
theorem OweAllM.get {P : Program} {ops : Array Oper} {Q : Exit → Act → World → Prop} {l : List (Nat × Nat)} {a : Act} {D : Nat → Value → World → Prop} {G : World → Prop} {B rows : List Nat} {L0 : Array Bool} {is : List Nat} (h : OweAllM P ops Q l a D G B rows L0 is) {i : Nat} (hi : i ∈ is) {o : Oper} (ho : ops[i]? = some o) : OwesM P ops Q l a D G B rows L0 i o := by
  induction is with
  | nil => cases hi
  | cons j is ih =>
    rcases List.mem_cons.1 hi with rfl | hi
    · exact h.1 o ho
    · exact ih h.2 hi
def todo (L0 L2 : Array Bool) : List Nat := (List.range L2.size).filter fun i => L2.getD i false && !L0.getD i false
theorem getD_true {l : Array Bool} {i : Nat} (h : l.getD i false = true) : i < l.size := by
  by_cases hi : i < l.size
  · exact hi
  · rw [Array.getD_eq_getD_getElem?, Array.getElem?_eq_none (by omega)] at h
    cases h
theorem mem_todo {L0 L2 : Array Bool} {i : Nat} : i ∈ todo L0 L2 ↔ L2.getD i false = true ∧ L0.getD i false = false := by
  unfold todo
  rw [List.mem_filter, List.mem_range, Bool.and_eq_true, Bool.not_eq_true']
  exact ⟨fun h => h.2, fun h => ⟨getD_true h.1, h⟩⟩
theorem filter_less (p : Nat → Bool) (q : Nat → Bool) (i : Nat) (hq : ∀ j, q j = (if j = i then false else p j)) (hp : p i = true) : ∀ l : List Nat, l.Nodup → i ∈ l → (l.filter q).length + 1 = (l.filter p).length := by
  intro l
  induction l with
  | nil => intro _ h; cases h
  | cons j l ih =>
    intro hn hi
    rw [List.nodup_cons] at hn
    rcases List.mem_cons.1 hi with rfl | hi
    · have hrest : l.filter q = l.filter p := by
        refine List.filter_congr (fun k hk => ?_)
        rw [hq, if_neg (fun e => hn.1 (by rw [← e]; exact hk))]
      rw [List.filter_cons, List.filter_cons, hrest, hq, if_pos rfl, hp]
      simp
    · have := ih hn.2 hi
      have hne : j ≠ i := fun e => hn.1 (by rw [e]; exact hi)
      rw [List.filter_cons, List.filter_cons, hq, if_neg hne]
      cases p j <;> simp <;> omega
section
variable {P : Program} {ops : Array Oper} {Q : Exit → Act → World → Prop} {S : World → Prop} {ds : List Nat}
theorem mid_go {L0 L2 : Array Bool} {B : List Nat} {l : List (Nat × Nat)} {a : Act} {D : Nat → Value → World → Prop} {G : World → Prop} {rows : List Nat} {fuel2 : Nat} (hcut : cutOk ops L0 L2 B = true) (hl : between ops L0 L2 = l) (hs : slotsOk l a.tmps.size = true)
    (hD : ∀ i v w1 w2, D i v w1 → Below w1.heap.size w1 w2 → D i v w2) (hG : ∀ w1 w2, G w1 → Below w1.heap.size w1 w2 → G w2) (hGS : ∀ w, G w → S w) (hop : OweAllM P ops Q l a D G B rows L0 (todo L0 L2))
    (hend : ∀ u w, G w → (∀ i ∈ todo L0 L2, D i (u i) w) → (∀ i ∈ todo L0 L2, ∀ j ∈ todo L0 L2, rows.contains i = true → rows.contains j = true → i ≠ j → apart (u i) (u j)) → Aside0 (wpAnyLast P .any ops Q S ds fuel2 L2 (frame a l u) w)) :
    ∀ (n : Nat) (m : Array Bool) (u : Nat → Value) (w : World), m.size = ops.size → ((todo L0 L2).filter (fun i => !m.getD i false)).length = n → (∀ i, L0.getD i false = true → m.getD i false = true) → (∀ i, m.getD i false = true → L2.getD i false = true) →
      (∀ i j, dep ops i j = true → m.getD i false = true → m.getD j false = true) → G w → (∀ i, m.getD i false = true → L0.getD i false = false → D i (u i) w) →
      (∀ i, m.getD i false = true → L0.getD i false = false → rows.contains i = true → ∀ b, (u i).ownBlock = some b → b < w.heap.size) →
      (∀ i j, m.getD i false = true → L0.getD i false = false → m.getD j false = true → L0.getD j false = false → rows.contains i = true → rows.contains j = true → i ≠ j → apart (u i) (u j)) →
      wpAnyLast P .any ops Q S ds (n + fuel2) m (frame a l u) w := by
  simp only [cutOk, Bool.and_eq_true, beq_iff_eq] at hcut
  obtain ⟨⟨⟨⟨hback, hB⟩, h0s⟩, h2s⟩, hrest⟩ := hcut
  rw [List.all_eq_true] at hrest
  have hsub : ∀ i, i < ops.size → L0.getD i false = true → L2.getD i false = true := by
    intro i hi h
    have := hrest i (List.mem_range.2 hi)
    rw [Bool.and_eq_true, Bool.and_eq_true] at this
    have h1 := this.1.1
    rw [h] at h1
    simpa using h1
  have hedge : ∀ i j, dep ops i j = true → (L2.getD i false = true → L2.getD j false = true) ∧ (L0.getD i false = true → L0.getD j false = true) := by
    intro i j hd
    obtain ⟨o, ho, e, he, hb, rfl⟩ := dep_some hd
    have := hrest i (List.mem_range.2 (Array.getElem?_eq_some_iff.1 ho).1)
    rw [Bool.and_eq_true, Bool.and_eq_true] at this
    have h1 := this.1.2
    rw [ho] at h1
    have h2 := Array.all_eq_true'.1 h1 e he
    rw [hb] at h2
    simp only [Bool.not_true, Bool.false_or, Bool.and_eq_true, Bool.or_eq_true, Bool.not_eq_true'] at h2
    refine ⟨fun h => ?_, fun h => ?_⟩
    · rcases h2.2 with h3 | h3
      · rw [h] at h3; cases h3
      · exact h3
    · rcases h2.1 with h3 | h3
      · rw [h] at h3; cases h3
      · exact h3
  have hwait : ∀ i, i < ops.size → L2.getD i false = false → ∀ j, L2.getD j false = true → L0.getD j false = false → (B.getD i 0).testBit j = true := by
    intro i hi h j hj hj0
    have := hrest i (List.mem_range.2 hi)
    rw [Bool.and_eq_true] at this
    have h1 := this.2
    rw [h, Bool.false_or] at h1
    have h2 := List.all_eq_true.1 h1 j (List.mem_range.2 (by have := getD_true hj; omega))
    rw [hj, hj0] at h2
    simpa using h2
  have hnd : (todo L0 L2).Nodup := (List.nodup_range.sublist List.filter_sublist)
  intro n
  induction n with
  | zero =>
    intro m u w hm hn h0 h2 hcl hw hd hb hap
    have hall : ∀ i ∈ todo L0 L2, m.getD i false = true := by
      intro i hi
      by_cases h : m.getD i false = true
      · exact h
      · have : i ∈ (todo L0 L2).filter (fun i => !m.getD i false) := List.mem_filter.2 ⟨hi, by simpa using h⟩
        rw [List.eq_nil_of_length_eq_zero hn] at this
        cases this
    have hm2 : m = L2 := by
      apply Array.ext (by omega)
      intro i h3 h4
      have e1 : m.getD i false = m[i] := by rw [Array.getD_eq_getD_getElem?, Array.getElem?_eq_getElem h3]; rfl
      have e2 : L2.getD i false = L2[i] := by rw [Array.getD_eq_getD_getElem?, Array.getElem?_eq_getElem h4]; rfl
      rw [← e1, ← e2]
      cases h5 : L2.getD i false with
      | true =>
        cases h6 : L0.getD i false with
        | true => exact h0 i h6
        | false => exact hall i (mem_todo.2 ⟨h5, h6⟩)
      | false =>
        cases h6 : m.getD i false with
        | true => have := h2 i h6; rw [h5] at this; cases this
        | false => rfl
    rw [hm2, Nat.zero_add]
    exact (hend u w hw (fun i hi => hd i (hall i hi) (mem_todo.1 hi).2) (fun i hi j hj hri hrj hne => hap i j (hall i hi) (mem_todo.1 hi).2 (hall j hj) (mem_todo.1 hj).2 hri hrj hne)).out
  | succ n ih =>
    intro m u w hm hn h0 h2 hcl hw hd hb hap
    have hsome : ∃ i, i ∈ todo L0 L2 ∧ m.getD i false = false := by
      have : 0 < ((todo L0 L2).filter (fun i => !m.getD i false)).length := by omega
      obtain ⟨i, hi⟩ := List.exists_mem_of_length_pos this
      rw [List.mem_filter] at hi
      exact ⟨i, hi.1, by simpa using hi.2⟩
    rw [show n + 1 + fuel2 = (n + fuel2) + 1 by omega]
    refine ⟨fun hr => ?_, fun i hi => ?_⟩
    · exfalso
      have hleast : ∀ i, i ∈ todo L0 L2 → m.getD i false = true := by
        intro i
        induction i using Nat.strongRecOn with
        | _ i ih2 =>
          intro hi
          by_cases h : m.getD i false = true
          · exact h
          · exfalso
            have hi2 := (mem_todo.1 hi).1
            have hil : i < ops.size := by have := getD_true hi2; omega
            have : i ∈ Region.ready .any ops m := ready_iff.2 ⟨_, Array.getElem?_eq_getElem hil, by
              have h : m.getD i false = false := by simpa using h
              rw [Array.getD_eq_getD_getElem?, Array.getElem?_eq_getElem (by omega)] at h ⊢
              exact h, fun e he hbd => by
                have hde : dep ops i e.on = true := by
                  unfold dep
                  rw [Array.getElem?_eq_getElem hil]
                  refine Array.any_eq_true'.2 ⟨e, he, ?_⟩
                  rw [hbd, beq_self_eq_true]; rfl
                have hlt := back_at hback (Array.getElem?_eq_getElem hil) e he
                have he2 := (hedge i e.on hde).1 hi2
                cases h6 : L0.getD e.on false with
                | true => exact h0 _ h6
                | false => exact ih2 e.on hlt (mem_todo.2 ⟨he2, h6⟩)⟩
            rw [hr] at this
            cases this
      obtain ⟨i, hi, hif⟩ := hsome
      rw [hleast i hi] at hif
      cases hif
    · obtain ⟨o, ho, h1, hdeps⟩ := ready_iff.1 hi
      have hil := (Array.getElem?_eq_some_iff.1 ho).1
      have h1' : m.getD i false = false := by
        rw [Array.getD_eq_getD_getElem?, Array.getElem?_eq_getElem (by omega)] at h1 ⊢
        exact h1
      have hdeps' : ∀ k, dep ops i k = true → m.getD k false = true := by
        intro k hk
        obtain ⟨o', ho', e, he, hbd, rfl⟩ := dep_some hk
        rw [ho] at ho'
        injection ho' with ho'
        subst ho'
        exact hdeps e he hbd
      have hi0 : L0.getD i false = false := by
        cases h6 : L0.getD i false with
        | true => have := h0 i h6; rw [h1'] at this; cases this
        | false => rfl
      have hi2 : L2.getD i false = true := by
        cases h6 : L2.getD i false with
        | true => rfl
        | false =>
          exfalso
          obtain ⟨j, hj, hjf⟩ := hsome
          obtain ⟨hj2, hj0⟩ := mem_todo.1 hj
          have := clos_done hback hB hcl i j (hwait i hil h6 j hj2 hj0) hil hdeps'
          rw [this] at hjf
          cases hjf
      refine wpOp_step ho (fun K hK => ?_)
      have hO := OweAllM.get hop (mem_todo.2 ⟨hi2, hi0⟩) ho
      refine (hO u w hw (fun j hj hj0 => hd j (clos_done hback hB hcl i j hj hil hdeps') hj0) K (fun v w' hv hbl hfr => ?_)).out
      refine hK _ _ ⟨fun _ _ => hGS _ (hG _ _ hw hbl), ?_⟩
      rw [frame_putM hl hs ho ⟨hi2, hi0⟩]
      have hget : ∀ j, (m.setIfInBounds i true).getD j false = if j = i then true else m.getD j false := by
        intro j
        rw [Array.getD_eq_getD_getElem?, Array.getD_eq_getD_getElem?, Array.getElem?_setIfInBounds]
        by_cases hj : j = i
        · subst hj
          rw [if_pos rfl, if_pos rfl, if_pos (by omega)]
          rfl
        · rw [if_neg (fun h => hj h.symm), if_neg hj]
      refine ih _ _ _ (by rw [Array.size_setIfInBounds]; exact hm) ?_ (fun j hj => ?_) (fun j hj => ?_) (fun j k hdp hj => ?_) (hG _ _ hw hbl) (fun j hj hj0 => ?_) (fun j hj hj0 hr b hbj => ?_) (fun j k hj hj0 hk hk0 hrj hrk hne => ?_)
      · have := filter_less (fun j => !m.getD j false) (fun j => !(m.setIfInBounds i true).getD j false) i (fun j => by rw [hget]; by_cases e : j = i <;> simp [e]) (by rw [h1']; rfl) (todo L0 L2) hnd (mem_todo.2 ⟨hi2, hi0⟩)
        omega
      · rw [hget]; split
        · rfl
        · exact h0 j hj
      · rw [hget] at hj
        by_cases e : j = i
        · subst e; exact hi2
        · rw [if_neg e] at hj; exact h2 j hj
      · rw [hget] at hj ⊢
        by_cases e : k = i
        · rw [if_pos e]
        · rw [if_neg e]
          by_cases e2 : j = i
          · subst e2; exact hdeps' k hdp
          · rw [if_neg e2] at hj; exact hcl j k hdp hj
      · rw [hget] at hj
        by_cases e : j = i
        · subst e; rw [upd_self]; exact hv
        · rw [if_neg e] at hj; rw [upd_ne u v e]; exact hD _ _ _ _ (hd j hj hj0) hbl
      · rw [hget] at hj
        by_cases e : j = i
        · subst e; rw [upd_self] at hbj; exact (hfr hr b hbj).2
        · rw [if_neg e] at hj; rw [upd_ne u v e] at hbj
          have := hb j hj hj0 hr b hbj
          have := below_size hbl
          omega
      · rw [hget] at hj hk
        by_cases e : j = i
        · subst e
          rw [if_neg (fun e => hne e.symm)] at hk
          rw [upd_self, upd_ne u v (fun e => hne e.symm)]
          intro b hb1 hb2
          have h3 := (hfr hrj b hb1).1
          have h4 := hb k hk hk0 hrk b hb2.symm
          omega
        · rw [if_neg e] at hj
          by_cases e2 : k = i
          · subst e2
            rw [upd_self, upd_ne u v e]
            intro b hb1 hb2
            have h3 := (hfr hrk b hb2.symm).1
            have h4 := hb j hj hj0 hrj b hb1
            omega
          · rw [if_neg e2] at hk
            rw [upd_ne u v e, upd_ne u v e2]
            exact hap j k hj hj0 hk hk0 hrj hrk hne
/-- What is said, operation by operation. -/
def sel (cs : List (Nat × (Value → World → Prop))) (i : Nat) (v : Value) (w : World) : Prop := match cs.find? (fun p => p.1 == i) with
  | some p => p.2 v w
  | none => True
def AllSt : List (Nat × (Value → World → Prop)) → Prop
  | [] => True
  | p :: t => (∀ v w1 w2, p.2 v w1 → Below w1.heap.size w1 w2 → p.2 v w2) ∧ AllSt t
theorem AllSt.mem {cs : List (Nat × (Value → World → Prop))} (h : AllSt cs) {p : Nat × (Value → World → Prop)} (hp : p ∈ cs) : ∀ v w1 w2, p.2 v w1 → Below w1.heap.size w1 w2 → p.2 v w2 := by
  induction cs with
  | nil => cases hp
  | cons q cs ih =>
    rcases List.mem_cons.1 hp with rfl | hp
    · exact h.1
    · exact ih h.2 hp
theorem sel_st {cs : List (Nat × (Value → World → Prop))} (h : AllSt cs) (i : Nat) (v : Value) (w1 w2 : World) (hs : sel cs i v w1) (hb : Below w1.heap.size w1 w2) : sel cs i v w2 := by
  unfold sel at hs ⊢
  cases hf : cs.find? (fun p => p.1 == i) with
  | none => trivial
  | some p =>
    rw [hf] at hs
    exact h.mem (List.mem_of_find?_eq_some hf) v w1 w2 hs hb
theorem cell_step {w1 w2 : World} {p : Addr} {v : Value} (h : w1.cell? p = some v) (hb : Below w1.heap.size w1 w2) : w2.cell? p = some v := by
  rw [hb.cell (World.block_lt_of_cell? w1 _ h)]
  exact h
/-- How much stands, under a letter. -/
theorem size_ {md : Region.Mode} {L0 : Array Bool} {a : Act} {w : World} {fuel : Nat} (h : ∀ N, N = w.heap.size → wpAnyLast P md ops Q S ds fuel L0 a w) : wpAnyLast P md ops Q S ds fuel L0 a w := h _ rfl
/-- From L0 to L2. -/
theorem mid_ {L0 : Array Bool} {a : Act} {w : World} {fuel : Nat} (L2 : Array Bool) (B : List Nat) (l : List (Nat × Nat)) (ts rows : List Nat) (D : Nat → Value → World → Prop) (G : World → Prop) (fuel2 : Nat) (hcut : cutOk ops L0 L2 B = true) (hl : between ops L0 L2 = l) (ht : todo L0 L2 = ts) (hs : slotsOk l a.tmps.size = true) (hf : fuel = ts.length + fuel2)
    (hD : ∀ i v w1 w2, D i v w1 → Below w1.heap.size w1 w2 → D i v w2) (hG : ∀ w1 w2, G w1 → Below w1.heap.size w1 w2 → G w2) (hGS : ∀ w, G w → S w) (hw : G w) (hop : OweAllM P ops Q l a D G B rows L0 ts)
    (hend : ∀ u w, G w → (∀ i ∈ ts, D i (u i) w) → (∀ i ∈ ts, ∀ j ∈ ts, rows.contains i = true → rows.contains j = true → i ≠ j → apart (u i) (u j)) → Aside0 (wpAnyLast P .any ops Q S ds fuel2 L2 (frame a l u) w)) : wpAnyLast P .any ops Q S ds fuel L0 a w := by
  subst ht
  subst hf
  have hcut2 := hcut
  simp only [cutOk, Bool.and_eq_true, beq_iff_eq] at hcut2
  obtain ⟨⟨⟨⟨hback, hB⟩, h0s⟩, h2s⟩, hrest⟩ := hcut2
  rw [List.all_eq_true] at hrest
  have hs2 := hs
  simp only [slotsOk, Bool.and_eq_true, decide_eq_true_eq, List.all_eq_true] at hs2
  have hno : ∀ i, L0.getD i false = true → L0.getD i false = false → False := fun i h1 h2 => by rw [h1] at h2; cases h2
  have huniq : ∀ {s s' j : Nat}, (s, j) ∈ l → (s', j) ∈ l → s = s' := by
    intro s s' j h1 h2
    rw [← hl, mem_between] at h1 h2
    obtain ⟨_, o1, ho1, hs1⟩ := h1
    obtain ⟨_, o2, ho2, hs2⟩ := h2
    rw [ho1] at ho2
    injection ho2 with ho2
    subst ho2
    rw [hs1] at hs2
    exact Option.some.inj hs2
  have hself : frame a l (fun i => a.tmps.getD ((l.find? (fun p => p.2 == i)).map (·.1) |>.getD 0) undef) = a := by
    refine frame_self l a _ hs2.1 (fun s i hsi _ => ?_)
    have : ∃ q, l.find? (fun p => p.2 == i) = some q := by
      cases h2 : l.find? (fun p => p.2 == i) with
      | some q => exact ⟨q, rfl⟩
      | none =>
        rw [List.find?_eq_none] at h2
        exact absurd (beq_self_eq_true i) (h2 _ hsi)
    obtain ⟨q, hq⟩ := this
    have h3 := List.find?_some hq
    rw [beq_iff_eq] at h3
    have h4 := List.mem_of_find?_eq_some hq
    rw [hq]
    obtain ⟨q1, q2⟩ := q
    simp only at h3
    subst h3
    rw [huniq h4 hsi]
    rfl
  have h := mid_go (fuel2 := fuel2) hcut hl hs hD hG hGS hop hend (todo L0 L2).length L0 (fun i => a.tmps.getD ((l.find? (fun p => p.2 == i)).map (·.1) |>.getD 0) undef) w (by omega) (by rw [List.filter_eq_self.2 (fun i hi => by rw [(mem_todo.1 hi).2]; rfl)]) (fun _ h => h) (fun i hi => ?_) (fun i j hd hi => ?_) hw (fun i h1 h2 => (hno i h1 h2).elim) (fun i h1 h2 => (hno i h1 h2).elim) (fun i j h1 h2 => (hno i h1 h2).elim)
  · rw [hself] at h
    exact h
  · have hil : i < ops.size := by have := getD_true hi; omega
    have := hrest i (List.mem_range.2 hil)
    rw [Bool.and_eq_true, Bool.and_eq_true] at this
    have h1 := this.1.1
    rw [hi] at h1
    simpa using h1
  · obtain ⟨o, ho, e, he, hb, rfl⟩ := dep_some hd
    have := hrest i (List.mem_range.2 (Array.getElem?_eq_some_iff.1 ho).1)
    rw [Bool.and_eq_true, Bool.and_eq_true] at this
    have h1 := this.1.2
    rw [ho] at h1
    have h2 := Array.all_eq_true'.1 h1 e he
    rw [hb, hi] at h2
    simp only [Bool.not_true, Bool.false_or, Bool.and_eq_true] at h2
    exact h2.1
end
end Go.Proofs.Ytgdbinifnhfcjaa.Reg
