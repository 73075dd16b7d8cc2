/- What the law FnExactGifPut needs, out of the texts Ge. -/
import Derived.Test.YtjefdcbljpkmlaaKFnExactGifPut03
section
set_option linter.unusedVariables false
set_option linter.unusedSimpArgs false
namespace Go.Proofs.Ytjefdcbljpkmlaa.G
open Go
theorem updo_comm (e : Env) {d1 d2 : Option Nat} (v1 v2 : Value) (h : ∀ d, d1 = some d → d2 ≠ some d) : updo (updo e d1 v1) d2 v2 = updo (updo e d2 v2) d1 v1 := by
  cases d1 with
  | none => rfl
  | some a =>
    cases d2 with
    | none => rfl
    | some b =>
      have hne : a ≠ b := fun e => h a rfl (by rw [e])
      funext i
      simp only [updo, upd]
      by_cases h1 : Nat.beq i a = true
      · have := Nat.eq_of_beq_eq_true h1
        subst this
        have : Nat.beq i b = false := by rw [Bool.eq_false_iff]; exact fun h => hne (Nat.eq_of_beq_eq_true h)
        simp [h1, this]
      · simp [h1]
theorem gev_updo {e : Env} {d : Option Nat} {v : Value} {x : Operand} (h : ∀ t, d = some t → x ≠ .tmp t) : gev (updo e d v) x = gev e x := by
  cases d with
  | none => rfl
  | some t =>
    cases x with
    | tmp u =>
      have : Nat.beq u t = false := by rw [Bool.eq_false_iff]; exact fun h2 => h t rfl (by rw [Nat.eq_of_beq_eq_true h2])
      simp [gev, updo, upd, this]
    | _ => rfl
def noSel (o : Oper) : Bool := match o.op with
  | .select .. => false
  | _ => true
theorem noSel_at {o : Oper} (h : noSel o = true) : ∀ cs b, o.op ≠ .select cs b := by
  intro cs b e
  unfold noSel at h
  rw [e] at h
  cases h
theorem exec_same {ops : Array Oper} {x y : Oper} (hs : noSel y = true) {e : Env} {v : Value} (h : ∀ d, x.dst = some d → d ∉ y.looksAt ops) : execOp (gev (updo e x.dst v)) y = execOp (gev e) y :=
  execOp_congr y (noSel_at hs) fun z hz => gev_updo fun t ht hzt => h t ht (by
    subst hzt
    exact List.mem_append_left _ (List.mem_filterMap.2 ⟨.tmp t, by simpa using hz, rfl⟩))
theorem wanted_same {ops : Array Oper} {x y : Oper} {e : Env} {v : Value} (h : ∀ d, x.dst = some d → d ∉ y.looksAt ops) : wantedE ops.toList y (updo e x.dst v) = wantedE ops.toList y e := by
  unfold wantedE
  cases hg : y.guard with
  | none => rfl
  | some g =>
    obtain ⟨j, b⟩ := g
    simp only [Array.getElem?_toList]
    cases ht : (ops[j]?).bind (·.dst) with
    | none => rfl
    | some t =>
      have : updo e x.dst v t = e t := by
        cases hx : x.dst with
        | none => rfl
        | some d =>
          have hne : t ≠ d := fun e2 => h d hx (by subst e2; simp [Oper.looksAt, hg, ht])
          have : Nat.beq t d = false := by rw [Bool.eq_false_iff]; exact fun h2 => hne (Nat.eq_of_beq_eq_true h2)
          simp [updo, upd, this]
      simp only [this]
/-- May two operations come in any order? (The second reads, or writes, where n0 entries were known ahead of the region.) -/
def compat (n0 : Nat) : Hint → Hint → Bool
  | .N, _ => true
  | _, .N => true
  | .L _, .L _ => true
  | .A k _ _, .A h _ _ => !Nat.beq h k
  | .A _ _ _, .E _ => false
  | .A _ _ _, .R => false
  | .R, .A _ _ _ => false
  | .A k _ _, .L h => !Nat.beq h k
  | .L h, .A k _ _ => !Nat.beq h k
  | .E ks, .A k _ _ => !ks.contains k && Nat.blt k n0
  | .R, .E _ => false
  | .E _, .R => false
  | .R, _ => true
  | _, .R => true
  | .L h, .E ks => !ks.contains h
  | .E ks, .L h => !ks.contains h && Nat.blt h n0
  | .E _, .E _ => false
structure Ind (ops : Array Oper) (n0 : Nat) (x y : Oper × Hint) : Prop where
  ap : x.1.apart ops y.1 = true
  sx : noSel x.1 = true
  sy : noSel y.1 = true
  ch : compat n0 x.2 y.2 = true
section
variable {P : Program} {ops : Array Oper}
theorem LVal.same {o : Oper} {ev ev' : Operand → Value} {x : Option (Nat × GO)} {v : Value} (h : LVal P o ev x v) (e : execOp ev' o = execOp ev o) : LVal P o ev' x v := by
  intro w hw
  rw [e]
  exact h w hw
theorem LVal.none {o : Oper} {ev : Operand → Value} {x : Option (Nat × GO)} {v : Value} (h : LVal P o ev none v) : LVal P o ev x v := fun w _ => h w fun _ hp => by cases hp
theorem LVal.uniq {o : Oper} {ev : Operand → Value} {l : GL} {k k' : Nat} {v v' : Value} (h : LVal P o ev l[k]? v) (h' : LVal P o ev l[k']? v') (hr : Rz l) : v = v' := by
  obtain ⟨w, hw⟩ := hr
  have h1 := h w fun p hp => hw.at_ p (List.mem_of_getElem? hp)
  have h2 := h' w fun p hp => hw.at_ p (List.mem_of_getElem? hp)
  rw [h1] at h2
  injection h2 with h3
  injection h3
theorem ESpec.same {o : Oper} {ev ev' : Operand → Value} {F : GL} {Out : OutT} (h : ESpec P o ev F Out) (e : execOp ev' o = execOp ev o) : ESpec P o ev' F Out := by
  intro w hw
  rw [e]
  exact h w hw
/-- What an operation that only reads gives: at hint N or L. -/
def rd (P : Program) (ops : List Oper) (o : Oper) (h : Hint) (e : Env) (l : GL) (v : Value) : Prop := match h with
  | .N => (wantedE ops o e = false ∧ v = undef) ∨ (wantedE ops o e = true ∧ LVal P o (gev e) none v)
  | .R => (wantedE ops o e = false ∧ v = undef) ∨ (wantedE ops o e = true ∧ ∃ j : Nat, LVal P o (gev e) l[j]? v)
  | .L k => wantedE ops o e = true ∧ LVal P o (gev e) l[k]? v
  | .E _ => False
  | .A _ _ _ => False
def Hint.isRd : Hint → Bool
  | .E _ | .A _ _ _ => false
  | _ => true
theorem gstep_rd {o : Oper} {h : Hint} (hh : h.isRd = true) {K : Env → GL → Prop} {e : Env} {l : GL} : gstep P ops.toList o h K e l ↔ ∃ v, rd P ops.toList o h e l v ∧ K (updo e o.dst v) l := by
  cases h with
  | N =>
    simp only [gstep, rd]
    constructor
    · rintro (⟨h1, h2⟩ | ⟨h1, v, h2, h3⟩)
      · exact ⟨undef, .inl ⟨h1, rfl⟩, h2⟩
      · exact ⟨v, .inr ⟨h1, h2⟩, h3⟩
    · rintro ⟨v, ⟨h1, rfl⟩ | ⟨h1, h2⟩, h3⟩
      · exact .inl ⟨h1, h3⟩
      · exact .inr ⟨h1, v, h2, h3⟩
  | R =>
    simp only [gstep, rd]
    constructor
    · rintro (⟨h1, h2⟩ | ⟨h1, v, h2, h3⟩)
      · exact ⟨undef, .inl ⟨h1, rfl⟩, h2⟩
      · exact ⟨v, .inr ⟨h1, h2⟩, h3⟩
    · rintro ⟨v, ⟨h1, rfl⟩ | ⟨h1, h2⟩, h3⟩
      · exact .inl ⟨h1, h3⟩
      · exact .inr ⟨h1, v, h2, h3⟩
  | L k =>
    simp only [gstep, rd]
    constructor
    · rintro ⟨h1, v, h2, h3⟩; exact ⟨v, ⟨h1, h2⟩, h3⟩
    · rintro ⟨v, ⟨h1, h2⟩, h3⟩; exact ⟨h1, v, h2, h3⟩
  | E ks => cases hh
  | A k r => cases hh
theorem rd.same {x y : Oper} {h : Hint} {e : Env} {l l' : GL} {u v : Value} (hl : ∀ k, h = .L k → l'[k]? = l[k]? ∨ l[k]? = none) (hR : h = .R → l' = l) (hs : noSel y = true) (hx : ∀ d, x.dst = some d → d ∉ y.looksAt ops) : rd P ops.toList y h e l v → rd P ops.toList y h (updo e x.dst u) l' v := by
  have h1 := exec_same (e := e) (v := u) hs hx
  have h2 := wanted_same (e := e) (v := u) hx
  cases h with
  | N =>
    simp only [rd, h2]
    rintro (h3 | ⟨h3, h4⟩)
    · exact .inl h3
    · exact .inr ⟨h3, h4.same h1⟩
  | R =>
    simp only [rd, h2, hR rfl]
    rintro (h3 | ⟨h3, j, h4⟩)
    · exact .inl h3
    · exact .inr ⟨h3, j, h4.same h1⟩
  | L k =>
    simp only [rd, h2]
    rintro ⟨h3, h4⟩
    refine ⟨h3, ?_⟩
    rcases hl k rfl with h5 | h5
    · rw [h5]; exact h4.same h1
    · rw [h5] at h4; exact (h4.same h1).none
  | E ks => exact id
  | A _ _ => exact id
theorem rd.back {x y : Oper} {h : Hint} {e : Env} {l l' : GL} {u v : Value} (hl : ∀ k, h = .L k → l'[k]? = l[k]?) (hR : h = .R → l' = l) (hs : noSel y = true) (hx : ∀ d, x.dst = some d → d ∉ y.looksAt ops) : rd P ops.toList y h (updo e x.dst u) l' v → rd P ops.toList y h e l v := by
  have h1 := exec_same (e := e) (v := u) hs hx
  have h2 := wanted_same (e := e) (v := u) hx
  cases h with
  | N =>
    simp only [rd, h2]
    rintro (h3 | ⟨h3, h4⟩)
    · exact .inl h3
    · exact .inr ⟨h3, h4.same h1.symm⟩
  | R =>
    simp only [rd, h2, hR rfl]
    rintro (h3 | ⟨h3, j, h4⟩)
    · exact .inl h3
    · exact .inr ⟨h3, j, h4.same h1.symm⟩
  | L k =>
    simp only [rd, h2, hl k rfl]
    rintro ⟨h3, h4⟩
    exact ⟨h3, h4.same h1.symm⟩
  | E ks => exact id
  | A _ _ => exact id
theorem rd.uniq {o : Oper} {h : Hint} {e : Env} {l : GL} {v v' : Value} (hr : Rz l) (h1 : rd P ops.toList o h e l v) (h2 : rd P ops.toList o h e l v') : v = v' := by
  cases h with
  | N =>
    rcases h1 with ⟨h3, rfl⟩ | ⟨h3, h4⟩ <;> rcases h2 with ⟨h5, rfl⟩ | ⟨h5, h6⟩
    · rfl
    · rw [h3] at h5; cases h5
    · rw [h3] at h5; cases h5
    · exact LVal.uniq (k := 0) (k' := 0) h4.none h6.none hr
  | R =>
    rcases h1 with ⟨h3, rfl⟩ | ⟨h3, j, h4⟩ <;> rcases h2 with ⟨h5, rfl⟩ | ⟨h5, j', h6⟩
    · rfl
    · rw [h3] at h5; cases h5
    · rw [h3] at h5; cases h5
    · exact LVal.uniq h4 h6 hr
  | L k => exact LVal.uniq h1.2 h2.2 hr
  | E ks => exact h1.elim
  | A _ _ => exact h1.elim
theorem gstep_mono {o : Oper} {h : Hint} {K K' : Env → GL → Prop} {e : Env} {l : GL} (hr : Rz l) (hk : ∀ e' l', Rz l' → l.length ≤ l'.length → K e' l' → K' e' l') (hg : gstep P ops.toList o h K e l) : gstep P ops.toList o h K' e l := by
  cases h with
  | N =>
    rcases hg with ⟨h1, h2⟩ | ⟨h1, v, h2, h3⟩
    · exact .inl ⟨h1, hk _ _ hr (Nat.le_refl _) h2⟩
    · exact .inr ⟨h1, v, h2, hk _ _ hr (Nat.le_refl _) h3⟩
  | R =>
    rcases hg with ⟨h1, h2⟩ | ⟨h1, v, h2, h3⟩
    · exact .inl ⟨h1, hk _ _ hr (Nat.le_refl _) h2⟩
    · exact .inr ⟨h1, v, h2, hk _ _ hr (Nat.le_refl _) h3⟩
  | L k =>
    obtain ⟨h1, v, h2, h3⟩ := hg
    exact ⟨h1, v, h2, hk _ _ hr (Nat.le_refl _) h3⟩
  | E ks =>
    obtain ⟨h1, F, Out, hp, nk, hs, h3⟩ := hg
    exact ⟨h1, F, Out, hp, nk, hs, fun v F' news ho hl hz => hk _ _ hz (by rw [List.length_append, setAll_length]; omega) (h3 v F' news ho hl hz)⟩
  | A k r =>
    obtain ⟨h1, h2, ha, h3⟩ := hg
    exact ⟨h1, h2, ha, fun b hz => hk _ _ hz (by simp) (h3 b hz)⟩
theorem get_app {l : GL} {ks : List Nat} {F' news : GL} {k : Nat} (h : k ∉ ks) (hk : k < l.length) : (setAll l ks F' ++ news)[k]? = l[k]? := by
  rw [List.getElem?_append_left (by rw [setAll_length]; exact hk), setAll_get k ks l F' h]
theorem pick_set {l : GL} {k : Nat} {p : Nat × GO} : ∀ {ks : List Nat}, k ∉ ks → pick (l.set k p) ks = pick l ks
  | [], _ => rfl
  | j :: ks, h => by
    have h1 : k ≠ j := fun e => h (by rw [e]; exact List.mem_cons_self)
    simp only [pick, List.getElem?_set_ne h1, pick_set (fun hm => h (List.mem_cons_of_mem _ hm))]
theorem setAll_set {k : Nat} {p : Nat × GO} : ∀ {ks : List Nat} {l F : GL}, k ∉ ks → setAll (l.set k p) ks F = (setAll l ks F).set k p
  | [], l, F, _ => by simp [setAll]
  | j :: ks, l, [], _ => by simp [setAll]
  | j :: ks, l, q :: F, h => by
    have h1 : k ≠ j := fun e => h (by rw [e]; exact List.mem_cons_self)
    simp only [setAll]
    rw [List.set_comm _ _ h1, setAll_set (fun hm => h (List.mem_cons_of_mem _ hm))]
/-- Forgotten again. -/
theorem Rz.unset {l : GL} {k c : Nat} {p : Nat × GO} (hc : l[k]? = some (c, .none)) (h : Rz (l.set k p)) : Rz l := by
  obtain ⟨w, hw⟩ := h
  have other : ∀ {i : Nat} {q : Nat × GO}, l[i]? = some q → q.2.real = true → (l.set k p)[i]? = some q := by
    intro i q hq hreal
    have : k ≠ i := by
      intro e
      subst e
      rw [hc] at hq
      cases hq
      cases hreal
    rw [List.getElem?_set_ne this, hq]
  refine ⟨w, fun i j p q hi hj hp hq e => hw.nd i j p q (other hi hp) (other hj hq) hp hq e, fun q hq => ?_⟩
  obtain ⟨i, hi, e⟩ := List.mem_iff_getElem.1 hq
  have e2 : l[i]? = some q := by rw [List.getElem?_eq_getElem hi, e]
  cases hreal : q.2.real with
  | true => exact hw.at_ q (List.mem_of_getElem? (other e2 hreal))
  | false =>
    obtain ⟨b, g⟩ := q
    cases g <;> first | (cases hreal; done) | exact True.intro
theorem a_ex {o : Oper} {ev : Operand → Value} {r : GO} {sl : Option Nat} {l : GL} {k : Nat} (ha : ESpec P o ev [] (aOut r sl)) (hr : Rz l) : ∃ b, Rz (l.set k (b, r)) := by
  obtain ⟨w, hw⟩ := hr
  obtain ⟨v0, F0, news0, w', ⟨b, rfl, rfl, rfl⟩, ht⟩ := ha.ex (hw.weak [] List.nodup_nil rfl)
  have hz := (Turned.frame (l := l) (ks := []) rfl List.nodup_nil hw ht).1
  exact ⟨b, w', hz.weak (aks l.length k) (aks_nodup _ _) (aks_pick l k (b, r))⟩
/-- Two steps change places. -/
theorem swap {n0 : Nat} {x y : Oper × Hint} (hi : Ind ops n0 x y) {K : Env → GL → Prop} {e : Env} {l : GL} (hn : n0 ≤ l.length) (hr : Rz l) (hg : gstep P ops.toList x.1 x.2 (gstep P ops.toList y.1 y.2 K) e l) : gstep P ops.toList y.1 y.2 (gstep P ops.toList x.1 x.2 K) e l := by
  obtain ⟨ox, hx⟩ := x
  obtain ⟨oy, hy⟩ := y
  obtain ⟨h1, h2, h3⟩ := Oper.apart_spec hi.ap
  have sx := hi.sx
  have sy := hi.sy
  have ch := hi.ch
  simp only at *
  have comm := fun v u => updo_comm e (d1 := ox.dst) (d2 := oy.dst) v u h2
  cases hxE : hx with
  | E ks =>
    cases hyE : hy with
    | E ks' => rw [hxE, hyE] at ch; cases ch
    | A k r sl =>
      rw [hxE, hyE] at ch
      simp only [compat, Bool.and_eq_true] at ch
      have hkn : k ∉ ks := fun hm => by have := ch.1; rw [List.contains_iff_mem.2 hm] at this; cases this
      have hkl : k < l.length := Nat.lt_of_lt_of_le (Nat.le_of_ble_eq_true ch.2) hn
      rw [hxE, hyE] at hg
      obtain ⟨w1, F, Out, hp, nk, hs, hk⟩ := hg
      obtain ⟨w, hw⟩ := hr
      obtain ⟨v0, F0, news0, w', ho0, ht0⟩ := hs.ex (hw.weak ks nk hp)
      have hz0 := (Turned.frame hp nk hw ht0).1
      obtain ⟨wy, ⟨c, hc⟩, ha, _⟩ := hk v0 F0 news0 ho0 ht0.len ⟨w', hz0⟩
      rw [get_app hkn hkl] at hc
      refine ⟨by rw [wanted_same h1] at wy; exact wy, ⟨c, hc⟩, ha.same (exec_same sy h1).symm, fun b hz => ?_⟩
      refine ⟨by rw [wanted_same h3]; exact w1, F, Out, by rw [pick_set hkn]; exact hp, nk, hs.same (exec_same sx h3), fun v F' news ho hl hz2 => ?_⟩
      have e1 : setAll (l.set k (b, r)) ks F' ++ news = (setAll l ks F' ++ news).set k (b, r) := by
        rw [setAll_set hkn, List.set_append_left _ _ (by rw [setAll_length]; exact hkl)]
      rw [e1] at hz2 ⊢
      obtain ⟨_, _, _, hK⟩ := hk v F' news ho hl (hz2.unset (c := c) (by rw [get_app hkn hkl, hc]))
      rw [← comm]
      exact hK b hz2
    | _ =>
      rw [hxE] at hg
      obtain ⟨w1, F, Out, hp, nk, hs, hk⟩ := hg
      have hyn : hy.isRd = true := by rw [hyE]; rfl
      have noR : hy ≠ .R := by
        intro h
        rw [hxE, h] at ch
        cases ch
      have same : ∀ F' news k, hy = .L k → (setAll l ks F' ++ news)[k]? = l[k]? := by
        intro F' news k hk2
        rw [hxE, hk2] at ch
        simp only [compat, Bool.and_eq_true] at ch
        refine get_app ?_ (Nat.lt_of_lt_of_le (Nat.le_of_ble_eq_true ch.2) hn)
        intro hm
        have := ch.1
        rw [List.contains_iff_mem.2 hm] at this
        cases this
      obtain ⟨w, hw⟩ := hr
      obtain ⟨v0, F0, news0, w', ho0, ht0⟩ := hs.ex (hw.weak ks nk hp)
      have hz0 := (Turned.frame hp nk hw ht0).1
      have hg0 := hk v0 F0 news0 ho0 ht0.len ⟨w', hz0⟩
      rw [gstep_rd hyn] at hg0
      obtain ⟨u, hu, _⟩ := hg0
      have hu0 := hu.back (same F0 news0) (fun h => absurd h noR) sy h1
      rw [← hyE, gstep_rd hyn]
      refine ⟨u, hu0, ?_⟩
      refine ⟨by rw [wanted_same h3]; exact w1, F, Out, hp, nk, hs.same (exec_same sx h3), fun v F' news ho hl hz => ?_⟩
      have hg1 := hk v F' news ho hl hz
      rw [gstep_rd hyn] at hg1
      obtain ⟨u', hu', hK⟩ := hg1
      have := rd.uniq ⟨w, hw⟩ (hu'.back (same F' news) (fun h => absurd h noR) sy h1) hu0
      subst this
      rw [← comm]
      exact hK
  | A k r sl =>
    cases hyE : hy with
    | E ks' => rw [hxE, hyE] at ch; cases ch
    | A k' r' sl' =>
      rw [hxE, hyE] at hg
      rw [hxE, hyE] at ch
      simp only [compat] at ch
      have hkk : k ≠ k' := fun e => by subst e; rw [Nat.beq_refl] at ch; cases ch
      obtain ⟨w1, ⟨c, hc⟩, ha, hk⟩ := hg
      obtain ⟨b0, hz0⟩ := a_ex ha hr (k := k)
      obtain ⟨w2, ⟨c2, hc2⟩, ha2, _⟩ := hk b0 hz0
      rw [List.getElem?_set_ne hkk] at hc2
      refine ⟨by rw [wanted_same h1] at w2; exact w2, ⟨c2, hc2⟩, ha2.same (exec_same sy h1).symm, fun b2 hz2 => ?_⟩
      refine ⟨by rw [wanted_same h3]; exact w1, ⟨c, by rw [List.getElem?_set_ne fun e => hkk e.symm]; exact hc⟩, ha.same (exec_same sx h3), fun b1 hz => ?_⟩
      rw [List.set_comm _ _ fun e => hkk e.symm] at hz ⊢
      obtain ⟨_, _, _, hK⟩ := hk b1 (hz.unset (c := c2) (by rw [List.getElem?_set_ne hkk]; exact hc2))
      rw [← comm]
      exact hK b2 hz
    | _ =>
      rw [hxE] at hg
      obtain ⟨w1, ⟨c, hc⟩, ha, hk⟩ := hg
      have hyn : hy.isRd = true := by rw [hyE]; rfl
      have noR : hy ≠ .R := by
        intro h
        rw [hxE, h] at ch
        cases ch
      have same : ∀ b j, hy = .L j → (l.set k (b, r))[j]? = l[j]? := by
        intro b j hj
        rw [hxE, hj] at ch
        simp only [compat] at ch
        rw [List.getElem?_set_ne]
        intro e
        subst e
        rw [Nat.beq_refl] at ch
        cases ch
      obtain ⟨b0, hz0⟩ := a_ex ha hr (k := k)
      have hg0 := hk b0 hz0
      rw [gstep_rd hyn] at hg0
      obtain ⟨u, hu, _⟩ := hg0
      have hu0 := hu.back (same b0) (fun h => absurd h noR) sy h1
      rw [← hyE, gstep_rd hyn]
      refine ⟨u, hu0, ?_⟩
      refine ⟨by rw [wanted_same h3]; exact w1, ⟨c, hc⟩, ha.same (exec_same sx h3), fun b hz => ?_⟩
      have hg1 := hk b hz
      rw [gstep_rd hyn] at hg1
      obtain ⟨u', hu', hK⟩ := hg1
      have := rd.uniq hr (hu'.back (same b) (fun h => absurd h noR) sy h1) hu0
      subst this
      rw [← comm]
      exact hK
  | _ =>
    have hxn : hx.isRd = true := by rw [hxE]; rfl
    rw [← hxE] at *
    rw [gstep_rd hxn] at hg
    obtain ⟨v, hv, hg⟩ := hg
    cases hyE : hy with
    | E ks =>
      rw [hyE] at hg
      obtain ⟨w1, F, Out, hp, nk, hs, hk⟩ := hg
      refine ⟨by rw [wanted_same h1] at w1; exact w1, F, Out, hp, nk, hs.same (exec_same sy h1).symm, fun u F' news ho hl hz => ?_⟩
      rw [gstep_rd hxn]
      refine ⟨v, hv.same (fun k hk2 => ?_) (fun h => by rw [h, hyE] at ch; cases ch) sx h3, ?_⟩
      · rw [hk2, hyE] at ch
        simp only [compat] at ch
        have hm : k ∉ ks := fun hm => by rw [List.contains_iff_mem.2 hm] at ch; cases ch
        rcases Nat.lt_or_ge k l.length with h4 | h4
        · exact .inl (get_app hm h4)
        · exact .inr (List.getElem?_eq_none h4)
      · rw [← comm]
        exact hk u F' news ho hl hz
    | A k r sl =>
      rw [hyE] at hg
      obtain ⟨w1, ⟨c, hc⟩, ha, hk⟩ := hg
      refine ⟨by rw [wanted_same h1] at w1; exact w1, ⟨c, hc⟩, ha.same (exec_same sy h1).symm, fun b hz => ?_⟩
      rw [gstep_rd hxn]
      refine ⟨v, hv.same (fun j hk2 => .inl ?_) (fun h => by rw [h, hyE] at ch; cases ch) sx h3, ?_⟩
      · rw [hk2, hyE] at ch
        simp only [compat] at ch
        rw [List.getElem?_set_ne]
        intro e
        subst e
        rw [Nat.beq_refl] at ch
        cases ch
      · rw [← comm]
        exact hk b hz
    | _ =>
      have hyn : hy.isRd = true := by rw [hyE]; rfl
      rw [← hyE] at *
      rw [gstep_rd hyn] at hg
      obtain ⟨u, hu, hK⟩ := hg
      rw [gstep_rd hyn]
      refine ⟨u, hu.back (fun _ _ => rfl) (fun _ => rfl) sy h1, ?_⟩
      rw [gstep_rd hxn]
      refine ⟨v, hv.same (fun _ _ => .inl rfl) (fun _ => rfl) sx h3, ?_⟩
      rw [← comm]
      exact hK
def gsL (P : Program) (ops : Array Oper) (K : Env → GL → Prop) : List (Oper × Hint) → Env → GL → Prop
  | [] => K
  | x :: xs => gstep P ops.toList x.1 x.2 (gsL P ops K xs)
theorem front {n0 : Nat} {K : Env → GL → Prop} {x : Oper × Hint} {post : List (Oper × Hint)} : ∀ (pre : List (Oper × Hint)) (e : Env) (l : GL), (∀ y ∈ pre, Ind ops n0 y x) → n0 ≤ l.length → Rz l → gsL P ops K (pre ++ x :: post) e l → gstep P ops.toList x.1 x.2 (gsL P ops K (pre ++ post)) e l
  | [], e, l, _, _, _, hg => hg
  | y :: pre, e, l, hi, hn, hr, hg => by
    refine swap (hi y (by simp)) hn hr ?_
    refine gstep_mono hr (fun e' l' hr' hl' hg' => ?_) hg
    exact front pre e' l' (fun z hz => hi z (List.mem_cons_of_mem _ hz)) (Nat.le_trans hn hl') hr' hg'
def edgesOf (o : Oper) : List Nat := (o.after.toList.filter (Region.binds .any)).map (·.on)
/-- Must j be done ahead of i? -/
def path (ops : List Oper) : Nat → Nat → Nat → Bool
  | 0, _, _ => false
  | k + 1, j, i => match ops[i]? with
    | some o => (edgesOf o).contains j || (edgesOf o).any fun q => path ops k j q
    | none => false
def chkOne (ops : Array Oper) (n0 : Nat) (i : Nat) (y : Oper × Hint) : List (Oper × Hint) → Nat → Bool
  | [], _ => true
  | x :: xs, j => (Nat.ble i j || path ops.toList ops.toList.length j i || (x.1.apart ops y.1 && (noSel x.1 && (noSel y.1 && compat n0 x.2 y.2)))) && chkOne ops n0 i y xs (j + 1)
def chkAll (ops : Array Oper) (n0 : Nat) (items : List (Oper × Hint)) : List (Oper × Hint) → Nat → Bool
  | [], _ => true
  | y :: ys, i => (edgesOf y.1).all (fun q => Nat.blt q i) && chkOne ops n0 i y items 0 && chkAll ops n0 items ys (i + 1)
/-- The whole check of a region that draws its order. -/
def chk (ops : Array Oper) (n0 : Nat) (hs : List Hint) : Bool := chkAll ops n0 (ops.toList.zip hs) (ops.toList.zip hs) 0
theorem chkOne_at {ops : Array Oper} {n0 i : Nat} {y : Oper × Hint} : ∀ (xs : List (Oper × Hint)) (j m : Nat) (x : Oper × Hint), chkOne ops n0 i y xs j = true → xs[m]? = some x → j + m < i → path ops.toList ops.toList.length (j + m) i = false → Ind ops n0 x y
  | [], j, m, x, _, h, _, _ => by simp at h
  | z :: xs, j, 0, x, hc, h, hlt, hp => by
    simp at h
    subst h
    simp only [chkOne, Bool.and_eq_true, Bool.or_eq_true] at hc
    rcases hc.1 with (h1 | h1) | ⟨h1, h2, h3, h4⟩
    · have := Nat.le_of_ble_eq_true h1; omega
    · rw [Nat.add_zero] at hp; rw [hp] at h1; cases h1
    · exact ⟨h1, h2, h3, h4⟩
  | z :: xs, j, m + 1, x, hc, h, hlt, hp => by
    simp only [chkOne, Bool.and_eq_true] at hc
    exact chkOne_at xs (j + 1) m x hc.2 (by simpa using h) (by omega) (by rw [show j + 1 + m = j + (m + 1) by omega]; exact hp)
theorem chkAll_at {ops : Array Oper} {n0 : Nat} {items : List (Oper × Hint)} : ∀ (ys : List (Oper × Hint)) (i m : Nat) (y : Oper × Hint), chkAll ops n0 items ys i = true → ys[m]? = some y → (∀ q ∈ edgesOf y.1, q < i + m) ∧ chkOne ops n0 (i + m) y items 0 = true
  | [], i, m, y, _, h => by simp at h
  | z :: ys, i, 0, y, hc, h => by
    simp at h
    subst h
    simp only [chkAll, Bool.and_eq_true] at hc
    exact ⟨fun q hq => Nat.le_of_ble_eq_true (List.all_eq_true.1 hc.1.1 q hq), hc.1.2⟩
  | z :: ys, i, m + 1, y, hc, h => by
    simp only [chkAll, Bool.and_eq_true] at hc
    have := chkAll_at ys (i + 1) m y hc.2 (by simpa using h)
    rwa [show i + 1 + m = i + (m + 1) by omega] at this
theorem gseq_zip {P : Program} {ops : Array Oper} {K : Env → GL → Prop} : ∀ (os : List Oper) (hs : List Hint) (e : Env) (l : GL), gseq P ops.toList os (some hs) K e l → Rz l → os.length = hs.length ∧ gsL P ops K (os.zip hs) e l
  | [], [], e, l, h, _ => ⟨rfl, h.2⟩
  | [], x :: hs, e, l, h, _ => absurd rfl (h.1 x hs)
  | _ :: _, [], e, l, h, _ => by obtain ⟨_, h, _⟩ := h; exact h.elim
  | o :: os, x :: hs, e, l, h, hr => by
    obtain ⟨x', hx, h⟩ := h
    have hx : x = x' := hx
    subst hx
    have h : gstep P ops.toList o x (gseq P ops.toList os (some hs) K) e l := h
    refine ⟨?_, gstep_mono hr (fun e' l' hr' _ h' => (gseq_zip os hs e' l' h' hr').2) h⟩
    -- the lengths: some outcome there is
    have : ∃ e' l', Rz l' ∧ gseq P ops.toList os (some hs) K e' l' := by
      cases x with
      | N =>
        rcases h with ⟨_, h2⟩ | ⟨_, v, _, h3⟩
        · exact ⟨_, _, hr, h2⟩
        · exact ⟨_, _, hr, h3⟩
      | R =>
        rcases h with ⟨_, h2⟩ | ⟨_, v, _, h3⟩
        · exact ⟨_, _, hr, h2⟩
        · exact ⟨_, _, hr, h3⟩
      | L k => obtain ⟨_, v, _, h3⟩ := h; exact ⟨_, _, hr, h3⟩
      | E ks =>
        obtain ⟨_, F, Out, hp, nk, hs', h3⟩ := h
        obtain ⟨w, hw⟩ := hr
        obtain ⟨v0, F0, news0, w', ho0, ht0⟩ := hs'.ex (hw.weak ks nk hp)
        have hz0 := (Turned.frame hp nk hw ht0).1
        exact ⟨_, _, ⟨w', hz0⟩, h3 v0 F0 news0 ho0 ht0.len ⟨w', hz0⟩⟩
      | A k r sl =>
        obtain ⟨_, _, ha, h3⟩ := h
        obtain ⟨b, hz⟩ := a_ex ha hr (k := k)
        exact ⟨_, _, hz, h3 b hz⟩
    obtain ⟨e', l', hr', h'⟩ := this
    simp [(gseq_zip os hs e' l' h' hr').1]
end
section
variable {P : Program} {Q : Exit → Act → World → Prop} {w0 : World} {l0 : GL} {n n0 : Nat} {ops : Array Oper} {hs : List Hint}
def left (n : Nat) (listed : Array Bool) : List Nat := (List.range n).filter fun i => !listed.getD i true
theorem any_sound (hok : okOps n ops.toList = true) (hlen : ops.toList.length = hs.length) (hc : chk ops n0 hs = true) {K : Env → GL → Prop} (hk : ∀ e' l' a' w', K e' l' → Rep n e' a' → Inv w0 l0 l' w' → Q .normal a' w') :
    ∀ (fuel : Nat) (listed : Array Bool) (e : Env) (l : GL) (a : Act) (w : World), listed.size = ops.size → (left ops.size listed).length ≤ fuel → (∀ k m j, listed.getD m false = true → path ops.toList k j m = true → listed.getD j false = true) →
      gsL P ops K ((left ops.size listed).filterMap fun i => (ops.toList.zip hs)[i]?) e l → n0 ≤ l.length → Rep n e a → Inv w0 l0 l w → wpAny P .any ops Q fuel listed a w := by
  have hz : ∀ (i : Nat), i < ops.size → ∃ h, (ops.toList.zip hs)[i]? = some (ops.toList[i]!, h) ∧ ops[i]? = some (ops.toList[i]!) := by
    intro i hi
    have h1 : i < ops.toList.length := by simpa using hi
    refine ⟨hs[i]'(by omega), ?_, ?_⟩
    · rw [List.getElem?_eq_getElem (by simp; omega)]
      simp [h1, hi]
    · simp [hi]
  intro fuel
  induction fuel with
  | zero =>
    intro listed e l a w hsz hfl hcl hg hn hr hv
    have h0 : left ops.size listed = [] := List.eq_nil_of_length_eq_zero (by omega)
    rw [h0] at hg
    refine ⟨?_, hk _ _ _ _ hg hr hv⟩
    rw [List.eq_nil_iff_forall_not_mem]
    intro i hi
    have hi2 := List.mem_filter.1 hi
    have : i ∈ left ops.size listed := List.mem_filter.2 ⟨hi2.1, by have := hi2.2; rw [Bool.and_eq_true] at this; exact this.1⟩
    rw [h0] at this
    cases this
  | succ fuel ih =>
    intro listed e l a w hsz hfl hcl hg hn hr hv
    refine ⟨fun hre => ?_, fun i hi => ?_⟩
    · -- nothing is ready: nothing is left
      cases hlf : left ops.size listed with
      | nil => rw [hlf] at hg; exact hk _ _ _ _ hg hr hv
      | cons i R =>
        exfalso
        have hmem : i ∈ left ops.size listed := by rw [hlf]; simp
        obtain ⟨hi1, hi2⟩ := List.mem_filter.1 hmem
        have hi3 : i < ops.size := List.mem_range.1 hi1
        obtain ⟨h, z1, z2⟩ := hz i hi3
        have hmin : ∀ j, j < i → listed.getD j false = true := by
          intro j hj
          cases hlj : listed.getD j true with
          | true =>
            have : j < listed.size := by omega
            simp [Array.getD, this] at hlj ⊢
            exact hlj
          | false =>
            have hjm : j ∈ left ops.size listed := List.mem_filter.2 ⟨List.mem_range.2 (by omega), by rw [hlj]; rfl⟩
            rw [hlf] at hjm
            have hsorted : (left ops.size listed).Pairwise (· < ·) := List.Pairwise.filter _ List.pairwise_lt_range
            rw [hlf] at hsorted
            rcases List.mem_cons.1 hjm with rfl | hjR
            · omega
            · have := (List.pairwise_cons.1 hsorted).1 j hjR
              omega
        have : i ∈ Region.ready .any ops listed := by
          refine List.mem_filter.2 ⟨hi1, ?_⟩
          rw [hi2, z2]
          simp only [Option.map_some, Option.getD_some, Bool.true_and]
          rw [Array.all_eq_true_iff_forall_mem]
          intro ed hed
          cases hb : Region.binds .any ed with
          | false => rfl
          | true =>
            have := (chkAll_at _ 0 i _ hc z1).1 ed.on (List.mem_map.2 ⟨ed, List.mem_filter.2 ⟨by simpa using hed, hb⟩, rfl⟩)
            simp only [Bool.not_true, Bool.false_or]
            exact hmin _ (by omega)
        rw [hre] at this
        cases this
    · obtain ⟨hi1, hi2⟩ := List.mem_filter.1 hi
      have hi3 : i < ops.size := List.mem_range.1 hi1
      obtain ⟨h, z1, z2⟩ := hz i hi3
      rw [Bool.and_eq_true, z2] at hi2
      obtain ⟨hnl, hedg⟩ := hi2
      simp only [Option.map_some, Option.getD_some] at hedg
      have hdone : ∀ q ∈ edgesOf (ops.toList[i]!), listed.getD q false = true := by
        intro q hq
        obtain ⟨ed, hed, rfl⟩ := List.mem_map.1 hq
        obtain ⟨hed1, hed2⟩ := List.mem_filter.1 hed
        have := (Array.all_eq_true_iff_forall_mem.1 hedg) ed (by simpa using hed1)
        rw [hed2] at this
        simpa using this
      have hmem : i ∈ left ops.size listed := List.mem_filter.2 ⟨hi1, hnl⟩
      obtain ⟨R1, R2, hR⟩ := List.append_of_mem hmem
      have hsorted : (left ops.size listed).Pairwise (· < ·) := List.Pairwise.filter _ List.pairwise_lt_range
      have hR1 : ∀ j ∈ R1, j < i ∧ j < ops.size ∧ listed.getD j false = false := by
        intro j hj
        have hjm : j ∈ left ops.size listed := by rw [hR]; simp [hj]
        obtain ⟨a1, a2⟩ := List.mem_filter.1 hjm
        have a3 := List.mem_range.1 a1
        refine ⟨?_, a3, ?_⟩
        · rw [hR, List.pairwise_append] at hsorted
          exact hsorted.2.2 j hj i (by simp)
        · have : j < listed.size := by omega
          simp [Array.getD, this] at a2 ⊢
          exact a2
      have hnp : ∀ j ∈ R1, path ops.toList ops.toList.length j i = false := by
        intro j hj
        rw [Bool.eq_false_iff]
        intro hp
        have hlj := (hR1 j hj).2.2
        cases hL : ops.toList.length with
        | zero => rw [hL] at hp; cases hp
        | succ m =>
          rw [hL] at hp
          have z3 : ops.toList[i]? = some (ops.toList[i]!) := by rw [Array.getElem?_toList]; exact z2
          simp only [path, z3, Bool.or_eq_true] at hp
          rcases hp with hp | hp
          · have := hdone j (List.contains_iff_mem.1 hp)
            rw [this] at hlj; cases hlj
          · obtain ⟨q, hq1, hq2⟩ := List.any_eq_true.1 hp
            have := hcl m q j (hdone q hq1) hq2
            rw [this] at hlj; cases hlj
      rw [hR] at hg
      have hitem : (R1 ++ i :: R2).filterMap (fun i => (ops.toList.zip hs)[i]?) = R1.filterMap (fun i => (ops.toList.zip hs)[i]?) ++ (ops.toList[i]!, h) :: R2.filterMap (fun i => (ops.toList.zip hs)[i]?) := by
        rw [List.filterMap_append, List.filterMap_cons, z1]
      rw [hitem] at hg
      have hf := front (n0 := n0) (x := (ops.toList[i]!, h)) _ e l (fun y hy => by
        obtain ⟨j, hj, ej⟩ := List.mem_filterMap.1 hy
        have := (chkAll_at _ 0 i _ hc z1).2
        rw [Nat.zero_add] at this
        exact chkOne_at _ 0 j y this ej (by have := (hR1 j hj).1; omega) (by rw [Nat.zero_add]; exact hnp j hj)) hn ⟨w, hv.sim⟩ hg
      refine gstep_op z2 hok hf hr hv fun e' l' a' w' hg' hr' hv' hl' => ?_
      have hleft : left ops.size (listed.setIfInBounds i true) = R1 ++ R2 := by
        have h1 : left ops.size (listed.setIfInBounds i true) = (left ops.size listed).filter (fun j => j != i) := by
          unfold left
          rw [List.filter_filter]
          apply List.filter_congr
          intro j hj
          by_cases hji : j = i
          · subst hji
            have : j < listed.size := by omega
            simp [Array.getD, this]
          · have : (j != i) = true := by simpa using hji
            rw [this, Bool.true_and, getD_set_ne _ (fun e => hji e.symm)]
        rw [h1, hR, List.filter_append, List.filter_cons]
        have hni1 : i ∉ R1 := fun hm => by have := (hR1 i hm).1; omega
        have hni2 : i ∉ R2 := fun hm => by
          rw [hR, List.pairwise_append] at hsorted
          have := (List.pairwise_cons.1 hsorted.2.1).1 i hm
          omega
        simp only [bne_self_eq_false, Bool.false_eq_true, if_false]
        rw [List.filter_eq_self.2 fun j hj => by simpa using fun (e : j = i) => hni1 (e ▸ hj), List.filter_eq_self.2 fun j hj => by simpa using fun (e : j = i) => hni2 (e ▸ hj)]
      refine ih _ e' l' a' w' (by simpa using hsz) ?_ ?_ ?_ (Nat.le_trans hn hl') hr' hv'
      · rw [hleft]
        rw [hR] at hfl
        simp at hfl ⊢
        omega
      · intro k m j hm hp
        by_cases hmi : m = i
        · subst hmi
          cases k with
          | zero => cases hp
          | succ k =>
            have z3 : ops.toList[m]? = some (ops.toList[m]!) := by rw [Array.getElem?_toList]; exact z2
            simp only [path, z3, Bool.or_eq_true] at hp
            rcases hp with hp | hp
            · exact getD_set_true (hdone j (List.contains_iff_mem.1 hp))
            · obtain ⟨q, hq1, hq2⟩ := List.any_eq_true.1 hp
              exact getD_set_true (hcl k q j (hdone q hq1) hq2)
        · rw [getD_set_ne _ (fun e => hmi e.symm)] at hm
          exact getD_set_true (hcl k m j hm hp)
      · rw [hleft, List.filterMap_append]
        exact hg'
theorem fm_range {α : Type} : ∀ (z : List α), (List.range z.length).filterMap (fun i => z[i]?) = z
  | [] => rfl
  | x :: z => by
    rw [List.length_cons, List.range_succ_eq_map, List.filterMap_cons]
    simp only [List.getElem?_cons_zero, List.filterMap_map]
    congr 1
    exact fm_range z
/-- A region that draws its order. -/
theorem gseq_wp_any {id : Nat} (hm : P.follows .mixedOrders = true) (hok : okOps n ops.toList = true) {K : Env → GL → Prop} {e : Env} {l : GL} {a : Act} {w : World} (hg : gseq P ops.toList ops.toList (some hs) K e l) (hc : chk ops l.length hs = true) (hr : Rep n e a) (hv : Inv w0 l0 l w)
    (hk : ∀ e' l' a' w', K e' l' → Rep n e' a' → Inv w0 l0 l' w' → Q .normal a' w') : (Code.region id ops true).wp P Q a w := by
  obtain ⟨hlen, hz⟩ := gseq_zip _ _ e l hg ⟨w, hv.sim⟩
  have hall : left ops.size (Array.replicate ops.size false) = List.range ops.size := by
    unfold left
    rw [List.filter_eq_self]
    intro i hi
    have := List.mem_range.1 hi
    simp [Array.getD, this]
  refine wp_region_any hm (any_sound (n := n) (n0 := l.length) hok hlen hc hk ops.size _ e l a _ (by simp) ?_ ?_ ?_ (Nat.le_refl _) hr (hv.drew _))
  · rw [hall]; simp
  · intro k m j h
    simp [Array.getD] at h
  · rw [hall]
    have : (List.range ops.size).filterMap (fun i => (ops.toList.zip hs)[i]?) = ops.toList.zip hs := by
      have hl : (ops.toList.zip hs).length = ops.size := by simp [List.length_zip] at hlen ⊢; omega
      rw [← hl]
      generalize ops.toList.zip hs = z
      exact fm_range z
    rw [this]
    exact hz
end
end Go.Proofs.Ytjefdcbljpkmlaa.G
end
