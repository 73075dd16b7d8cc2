/- What the law FnExactGifPut needs, out of the texts Ga. -/
import Derived.Calls
import Derived.Orders
import Derived.Below
section
set_option linter.unusedVariables false
set_option linter.unusedSimpArgs false
namespace Go.Proofs.Ytjefdcbljpkmlaa.G
open Go
/-- What lies in a block: a row of one's own (its first cells, and how many cells the block has); cells that are only read; a map of one's own; or nothing is known ('none': a place that is kept free). -/
inductive GO where
  | row (t : TypeId) (cs : List Value) (n : Nat)
  | ro (cs : List Value)
  | map (es : List (Value × Value))
  | none
def GO.own : GO → Bool
  | .ro _ | .none => false
  | _ => true
def GO.real : GO → Bool
  | .none => false
  | _ => true
theorem GO.real_of_own {x : GO} (h : x.own = true) : x.real = true := by cases x <;> first | rfl | cases h
def GO.holds : GO → Option Obj → Prop
  | .row t cs n, o => ∃ (c : Array Value) (fr : Nat × Nat), o = some (.cells c t fr) ∧ (fr.1 = fr.2 ∨ n ≤ fr.1) ∧ c.size = n ∧ cs <+: c.toList
  | .ro cs, o => ∃ (c : Array Value) (t : TypeId) (fr : Nat × Nat), o = some (.cells c t fr) ∧ cs <+: c.toList
  | .map es, o => ∃ (c : Array MapEntry) (clock : Nat), o = some (.map c clock) ∧ c.toList.map (fun e => (e.key, e.val)) = es
  | .none, _ => True
theorem GO.holds_some {x : GO} {o : Option Obj} (hr : x.real = true) (h : x.holds o) : o.isSome = true := by
  cases x
  · obtain ⟨c, fr, rfl, _⟩ := h; rfl
  · obtain ⟨c, t, fr, rfl, _⟩ := h; rfl
  · obtain ⟨c, t, rfl, _⟩ := h; rfl
  · cases hr
abbrev GL := List (Nat × GO)
/-- Places of one key are one. -/
def Uni (l : GL) : Prop := ∀ (i j : Nat) (p q : Nat × GO), l[i]? = some p → l[j]? = some q → p.2.real = true → q.2.real = true → p.1 = q.1 → i = j
structure Sim (l : GL) (w : World) : Prop where
  nd : Uni l
  at_ : ∀ p ∈ l, p.2.holds w.heap[p.1]?
def owns (l : GL) (b : Nat) : Prop := ∃ x, (b, x) ∈ l ∧ x.own = true
/-- What a step leaves: all but the blocks that are owned, and what is new. -/
structure Fr (l : GL) (w w' : World) : Prop where
  os : w'.os = w.os
  tape : w'.tape = w.tape
  output : w'.output = w.output
  size : w.heap.size ≤ w'.heap.size
  keep : ∀ b, b < w.heap.size → ¬ owns l b → w'.heap[b]? = w.heap[b]?
theorem Fr.refl (l : GL) (w : World) : Fr l w w := ⟨rfl, rfl, rfl, Nat.le_refl _, fun _ _ _ => rfl⟩
theorem lt_of_holds {x : GO} {w : World} {b : Nat} (hr : x.real = true) (h : x.holds w.heap[b]?) : b < w.heap.size := by
  have := GO.holds_some hr h
  rcases Nat.lt_or_ge b w.heap.size with h1 | h1
  · exact h1
  · rw [Array.getElem?_eq_none h1] at this; cases this
theorem Sim.lt {l : GL} {w : World} (h : Sim l w) {p : Nat × GO} (hp : p ∈ l) (hr : p.2.real = true) : p.1 < w.heap.size := lt_of_holds hr (h.at_ p hp)
theorem Sim.drew {l : GL} {w : World} (h : Sim l w) (n : Nat) : Sim l { w with drawn := n } := ⟨h.nd, h.at_⟩
theorem Fr.drew {l : GL} {w w' : World} (n : Nat) (h : Fr l { w with drawn := n } w') : Fr l w w' := ⟨h.os, h.tape, h.output, h.size, h.keep⟩
/-- The entries at places ks, in order; set anew. -/
def pick (l : GL) : List Nat → Option GL
  | [] => some []
  | k :: ks => match l[k]?, pick l ks with
    | some p, some r => some (p :: r)
    | _, _ => none
def setAll (l : GL) : List Nat → GL → GL
  | k :: ks, p :: ps => setAll (l.set k p) ks ps
  | _, _ => l
/-- What came of a call, or an operation, that was handed the entries F: they turned into F', and news came. -/
structure Turned (F F' news : GL) (w w' : World) : Prop where
  len : F'.length = F.length
  sim : Sim (F' ++ news) w'
  fr : Fr F w w'
  new : ∀ p ∈ F' ++ news, p.2.real = true → (∃ x, (p.1, x) ∈ F ∧ x.real = true) ∨ w.heap.size ≤ p.1
  own : ∀ p ∈ F' ++ news, p.2.own = true → (∃ x, (p.1, x) ∈ F ∧ x.own = true) ∨ w.heap.size ≤ p.1
theorem setAll_length : ∀ (ks : List Nat) (l : GL) (ps : GL), (setAll l ks ps).length = l.length
  | [], l, ps => by simp [setAll]
  | k :: ks, l, [] => by simp [setAll]
  | k :: ks, l, p :: ps => by simp [setAll, setAll_length ks]
theorem setAll_get (j : Nat) : ∀ (ks : List Nat) (l : GL) (ps : GL), j ∉ ks → (setAll l ks ps)[j]? = l[j]?
  | [], l, ps, _ => by simp [setAll]
  | k :: ks, l, [], _ => by simp [setAll]
  | k :: ks, l, p :: ps, h => by
    simp only [setAll]
    rw [setAll_get j ks _ ps (fun hm => h (List.mem_cons_of_mem _ hm)), List.getElem?_set_ne]
    exact fun e => h (by rw [e]; exact List.mem_cons_self)
/-- What stands in a list that was set anew: one of the new entries, or an old one at another place. -/
theorem setAll_mem : ∀ (ks : List Nat) (l : GL) (ps : GL) (q : Nat × GO), ps.length = ks.length → q ∈ setAll l ks ps → q ∈ ps ∨ ∃ j, j ∉ ks ∧ l[j]? = some q
  | [], l, ps, q, _, h => by
    obtain ⟨i, hi, e⟩ := List.mem_iff_getElem.1 (show q ∈ l by simpa [setAll] using h)
    exact .inr ⟨i, by simp, by rw [List.getElem?_eq_getElem hi, e]⟩
  | k :: ks, l, [], q, hl, h => by simp at hl
  | k :: ks, l, p :: ps, q, hl, h => by
    rcases setAll_mem ks (l.set k p) ps q (by simpa using hl) h with h1 | ⟨j, hj, e⟩
    · exact .inl (List.mem_cons_of_mem _ h1)
    · rw [List.getElem?_set] at e
      split at e
      · split at e
        · exact .inl (by rw [← Option.some.inj e]; exact List.mem_cons_self)
        · cases e
      · rename_i hne
        refine .inr ⟨j, fun hm => ?_, e⟩
        rcases List.mem_cons.1 hm with rfl | hm
        · exact hne rfl
        · exact hj hm
theorem pick_mem : ∀ (ks : List Nat) (l F : GL), pick l ks = some F → ∀ p, p ∈ F ↔ ∃ k ∈ ks, l[k]? = some p
  | [], l, F, h, p => by
    simp [pick] at h
    subst h
    simp
  | k :: ks, l, F, h, p => by
    simp only [pick] at h
    split at h
    · rename_i q r hq hr
      cases h
      have := pick_mem ks l r hr p
      simp only [List.mem_cons, this]
      constructor
      · rintro (rfl | ⟨j, hj, e⟩)
        · exact ⟨k, .inl rfl, hq⟩
        · exact ⟨j, .inr hj, e⟩
      · rintro ⟨j, rfl | hj, e⟩
        · rw [hq] at e
          exact .inl (Option.some.inj e).symm
        · exact .inr ⟨j, hj, e⟩
    · cases h
theorem pick_length : ∀ (ks : List Nat) (l F : GL), pick l ks = some F → F.length = ks.length
  | [], l, F, h => by simp [pick] at h; subst h; rfl
  | k :: ks, l, F, h => by
    simp only [pick] at h
    split at h
    · rename_i q r hq hr
      cases h
      simp [pick_length ks l r hr]
    · cases h
theorem setAll_at : ∀ (ks : List Nat) (l : GL) (ps : GL) (m : Nat) (k : Nat) (p : Nat × GO), ks.Nodup → (∀ k ∈ ks, k < l.length) → ks[m]? = some k → ps[m]? = some p → (setAll l ks ps)[k]? = some p
  | [], l, ps, m, k, p, _, _, h, _ => by simp at h
  | j :: ks, l, [], m, k, p, _, _, _, h => by simp at h
  | j :: ks, l, q :: ps, 0, k, p, nd, hlt, h, h2 => by
    simp at h h2
    subst h h2
    simp only [setAll]
    rw [setAll_get j ks _ ps (List.nodup_cons.1 nd).1, List.getElem?_set_self (hlt j (by simp))]
  | j :: ks, l, q :: ps, m + 1, k, p, nd, hlt, h, h2 => by
    simp only [setAll]
    exact setAll_at ks (l.set j q) ps m k p (List.nodup_cons.1 nd).2 (fun x hx => by rw [List.length_set]; exact hlt x (List.mem_cons_of_mem _ hx)) (by simpa using h) (by simpa using h2)
theorem setAll_place : ∀ (ks : List Nat) (l : GL) (ps : GL) (j : Nat) (q : Nat × GO), ps.length = ks.length → ks.Nodup → (∀ k ∈ ks, k < l.length) → (setAll l ks ps)[j]? = some q → (∃ m : Nat, ks[m]? = some j ∧ ps[m]? = some q) ∨ (j ∉ ks ∧ l[j]? = some q) := by
  intro ks l ps j q hl nd hlt h
  by_cases hj : j ∈ ks
  · obtain ⟨m, hm, e⟩ := List.mem_iff_getElem.1 hj
    have hm2 : ks[m]? = some j := by rw [List.getElem?_eq_getElem hm, e]
    have hp : ps[m]? = some ps[m] := List.getElem?_eq_getElem (by omega)
    have := setAll_at ks l ps m j ps[m] nd hlt hm2 hp
    rw [h] at this
    exact .inl ⟨m, hm2, by rw [hp, Option.some.inj this]⟩
  · rw [setAll_get j ks l ps hj] at h
    exact .inr ⟨hj, h⟩
/-- The frame rule: the entries at places ks were handed over. -/
theorem Turned.frame {l F F' news : GL} {ks : List Nat} {w w' : World} (hp : pick l ks = some F) (nk : ks.Nodup) (hs : Sim l w) (ht : Turned F F' news w w') : Sim (setAll l ks F' ++ news) w' ∧ Fr l w w' := by
  have hkl : F.length = ks.length := pick_length ks l F hp
  have hF' : F'.length = ks.length := by rw [ht.len, hkl]
  have hlt : ∀ k ∈ ks, k < l.length := by
    intro k hk
    clear hF' hkl ht
    induction ks generalizing F with
    | nil => simp at hk
    | cons j ks ih =>
      simp only [pick] at hp
      split at hp
      · rename_i q r hq hr
        rcases List.mem_cons.1 hk with rfl | hk
        · exact (List.getElem?_eq_some_iff.1 hq).1
        · exact ih hr (List.nodup_cons.1 nk).2 hk
      · cases hp
  have old : ∀ (j : Nat) (p : Nat × GO), j ∉ ks → l[j]? = some p → p.2.real = true → ∀ x, (p.1, x) ∈ F → x.real = true → False := by
    intro j p hj e hr x hm hx
    obtain ⟨k, hk, e2⟩ := (pick_mem ks l F hp _).1 hm
    exact hj (hs.nd j k p _ e e2 hr hx rfl ▸ hk)
  have oldlt : ∀ (j : Nat) (p : Nat × GO), l[j]? = some p → p.2.real = true → p.1 < w.heap.size := fun j p e hr => hs.lt (List.mem_of_getElem? e) hr
  have apart : ∀ (j : Nat) (p : Nat × GO), j ∉ ks → l[j]? = some p → p.2.real = true → ∀ q ∈ F' ++ news, q.2.real = true → q.1 ≠ p.1 := by
    intro j p hj e hr q hq hqr e2
    rcases ht.new q hq hqr with ⟨x, h1, h2⟩ | h
    · exact old j p hj e hr x (e2 ▸ h1) h2
    · have := oldlt j p e hr
      omega
  -- where an entry of the new list comes from: a place of F' ++ news, or of l
  have src : ∀ (i : Nat) (p : Nat × GO), (setAll l ks F' ++ news)[i]? = some p → (∃ m : Nat, (F' ++ news)[m]? = some p ∧ ((m < F'.length ∧ ks[m]? = some i) ∨ (F'.length ≤ m ∧ i = l.length + (m - F'.length)))) ∨ (i ∉ ks ∧ i < l.length ∧ l[i]? = some p) := by
    intro i p e
    rw [List.getElem?_append] at e
    split at e
    · rename_i hi
      rcases setAll_place ks l F' i p hF' nk hlt e with ⟨m, e1, e2⟩ | ⟨h1, e1⟩
      · have hm := (List.getElem?_eq_some_iff.1 e2).1
        exact .inl ⟨m, by rw [List.getElem?_append_left hm, e2], .inl ⟨hm, e1⟩⟩
      · exact .inr ⟨h1, (List.getElem?_eq_some_iff.1 e1).1, e1⟩
    · rename_i hi
      rw [setAll_length] at hi e
      exact .inl ⟨F'.length + (i - l.length), by rw [List.getElem?_append_right (by omega), ← e]; congr 1; omega, .inr ⟨by omega, by omega⟩⟩
  refine ⟨⟨?_, ?_⟩, ⟨ht.fr.os, ht.fr.tape, ht.fr.output, ht.fr.size, fun b hb hn => ht.fr.keep b hb fun ⟨x, hx, ho⟩ => ?_⟩⟩
  · intro i j p q ei ej hpr hqr e
    rcases src i p ei with ⟨m, e1, h1⟩ | ⟨h1, h1', e1⟩ <;> rcases src j q ej with ⟨m', e2, h2⟩ | ⟨h2, h2', e2⟩
    · have := ht.sim.nd m m' p q e1 e2 hpr hqr e
      subst this
      rcases h1 with ⟨h1, k1⟩ | ⟨h1, k1⟩ <;> rcases h2 with ⟨h2, k2⟩ | ⟨h2, k2⟩
      · rw [k1] at k2; exact Option.some.inj k2
      · omega
      · omega
      · omega
    · exact absurd e (apart j q h2 e2 hqr p (List.mem_of_getElem? e1) hpr)
    · exact absurd e.symm (apart i p h1 e1 hpr q (List.mem_of_getElem? e2) hqr)
    · exact hs.nd i j p q e1 e2 hpr hqr e
  · intro p hp1
    obtain ⟨i, hi, e⟩ := List.mem_iff_getElem.1 hp1
    rcases src i p (by rw [List.getElem?_eq_getElem hi, e]) with ⟨m, e1, _⟩ | ⟨h1, _, e1⟩
    · exact ht.sim.at_ p (List.mem_of_getElem? e1)
    · cases hr : p.2.real with
      | false =>
        have : p.2 = .none := by cases h : p.2 <;> rw [h] at hr <;> first | rfl | cases hr
        rw [this]
        trivial
      | true =>
        rw [ht.fr.keep p.1 (oldlt i p e1 hr) fun ⟨x, hx, ho⟩ => old i p h1 e1 hr x hx (GO.real_of_own ho)]
        exact hs.at_ p (List.mem_of_getElem? e1)
  · obtain ⟨k, hk, e⟩ := (pick_mem ks l F hp _).1 hx
    exact hn ⟨x, List.mem_of_getElem? e, ho⟩
theorem pick_get : ∀ (ks : List Nat) (l F : GL), pick l ks = some F → ∀ (m : Nat) (p : Nat × GO), F[m]? = some p → ∃ k : Nat, ks[m]? = some k ∧ l[k]? = some p
  | [], l, F, h, m, p, e => by simp [pick] at h; subst h; simp at e
  | k :: ks, l, F, h, m, p, e => by
    simp only [pick] at h
    split at h
    · rename_i q r hq hr
      cases h
      cases m with
      | zero => simp at e; subst e; exact ⟨k, by simp, hq⟩
      | succ m => simpa using pick_get ks l r hr m p (by simpa using e)
    · cases h
theorem nd_inj {ks : List Nat} (nd : ks.Nodup) {i j k : Nat} (h1 : ks[i]? = some k) (h2 : ks[j]? = some k) : i = j := by
  obtain ⟨hi, e1⟩ := List.getElem?_eq_some_iff.1 h1
  obtain ⟨hj, e2⟩ := List.getElem?_eq_some_iff.1 h2
  rw [List.nodup_iff_pairwise_ne, List.pairwise_iff_getElem] at nd
  rcases Nat.lt_trichotomy i j with h | h | h
  · exact absurd (e1.trans e2.symm) (nd i j hi hj h)
  · exact h
  · exact absurd (e2.trans e1.symm) (nd j i hj hi h)
/-- Less may be known. -/
theorem Sim.weak {l l' : GL} {w : World} (ks : List Nat) (h : Sim l w) (nk : ks.Nodup) (hp : pick l ks = some l') : Sim l' w := by
  refine ⟨fun i j p q ei ej hpr hqr e => ?_, fun p hp1 => ?_⟩
  · obtain ⟨k1, a1, b1⟩ := pick_get ks l l' hp i p ei
    obtain ⟨k2, a2, b2⟩ := pick_get ks l l' hp j q ej
    have := h.nd k1 k2 p q b1 b2 hpr hqr e
    subst this
    exact nd_inj nk a1 a2
  · obtain ⟨k, hk, e⟩ := (pick_mem ks l l' hp p).1 hp1
    exact h.at_ p (List.mem_of_getElem? e)
/-- Where a walk stands that began in world w0 with the entries l0. -/
structure Inv (w0 : World) (l0 l : GL) (w : World) : Prop where
  sim : Sim l w
  fr : Fr l0 w0 w
  own : ∀ b, b < w0.heap.size → owns l b → owns l0 b
  real : ∀ b, b < w0.heap.size → (∃ x, (b, x) ∈ l ∧ x.real = true) → ∃ x, (b, x) ∈ l0 ∧ x.real = true
theorem Inv.refl {l : GL} {w : World} (h : Sim l w) : Inv w l l w := ⟨h, Fr.refl _ _, fun _ _ h => h, fun _ _ h => h⟩
theorem Inv.drew {w0 w : World} {l0 l : GL} (h : Inv w0 l0 l w) (n : Nat) : Inv w0 l0 l { w with drawn := n } := ⟨h.sim.drew n, ⟨h.fr.os, h.fr.tape, h.fr.output, h.fr.size, h.fr.keep⟩, h.own, h.real⟩
theorem Inv.weak {w0 w : World} {l0 l l' : GL} (ks : List Nat) (h : Inv w0 l0 l w) (nk : ks.Nodup) (hp : pick l ks = some l') : Inv w0 l0 l' w :=
  ⟨h.sim.weak ks nk hp, h.fr, fun b hb ⟨x, hx, ho⟩ => by
    obtain ⟨k, _, e⟩ := (pick_mem ks l l' hp _).1 hx
    exact h.own b hb ⟨x, List.mem_of_getElem? e, ho⟩, fun b hb ⟨x, hx, ho⟩ => by
    obtain ⟨k, _, e⟩ := (pick_mem ks l l' hp _).1 hx
    exact h.real b hb ⟨x, List.mem_of_getElem? e, ho⟩⟩
theorem Inv.step {w0 w w' : World} {l0 l F F' news : GL} {ks : List Nat} (h : Inv w0 l0 l w) (hp : pick l ks = some F) (nk : ks.Nodup) (ht : Turned F F' news w w') : Inv w0 l0 (setAll l ks F' ++ news) w' := by
  obtain ⟨h1, h2⟩ := Turned.frame hp nk h.sim ht
  have hF' : F'.length = ks.length := by rw [ht.len, pick_length ks l F hp]
  refine ⟨h1, ⟨h2.os.trans h.fr.os, h2.tape.trans h.fr.tape, h2.output.trans h.fr.output, Nat.le_trans h.fr.size h2.size, fun b hb hn => ?_⟩, fun b hb ⟨x, hx, ho⟩ => ?_, fun b hb ⟨x, hx, ho⟩ => ?_⟩
  · rw [h2.keep b (Nat.lt_of_lt_of_le hb h.fr.size) fun hw => hn (h.own b hb hw)]
    exact h.fr.keep b hb hn
  · have key : ∀ q ∈ F' ++ news, q.2.own = true → q.1 = b → owns l0 b := by
      intro q hq hqr e
      rcases ht.own q hq hqr with ⟨y, hy, hyo⟩ | h3
      · obtain ⟨k, hk, e2⟩ := (pick_mem ks l F hp _).1 hy
        exact h.own b hb ⟨y, by rw [← e]; exact List.mem_of_getElem? e2, hyo⟩
      · have := h.fr.size
        omega
    rcases List.mem_append.1 hx with h3 | h3
    · rcases setAll_mem ks l F' _ hF' h3 with h4 | ⟨j, hj, e⟩
      · exact key _ (List.mem_append_left _ h4) ho rfl
      · exact h.own b hb ⟨x, List.mem_of_getElem? e, ho⟩
    · exact key _ (List.mem_append_right _ h3) ho rfl
  · have key : ∀ q ∈ F' ++ news, q.2.real = true → q.1 = b → ∃ x, (b, x) ∈ l0 ∧ x.real = true := by
      intro q hq hqr e
      rcases ht.new q hq hqr with ⟨y, hy, hyo⟩ | h3
      · obtain ⟨k, hk, e2⟩ := (pick_mem ks l F hp _).1 hy
        exact h.real b hb ⟨y, by rw [← e]; exact List.mem_of_getElem? e2, hyo⟩
      · have := h.fr.size
        omega
    rcases List.mem_append.1 hx with h3 | h3
    · rcases setAll_mem ks l F' _ hF' h3 with h4 | ⟨j, hj, e⟩
      · exact key _ (List.mem_append_left _ h4) ho rfl
      · exact h.real b hb ⟨x, List.mem_of_getElem? e, ho⟩
    · exact key _ (List.mem_append_right _ h3) ho rfl
end Go.Proofs.Ytjefdcbljpkmlaa.G
end
