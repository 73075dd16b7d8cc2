/- What the law FnExactGifPut needs, out of the texts Gd. -/
import Derived.Test.YtjefdcbljpkmlaaKFnExactGifPut02
section
set_option linter.unusedVariables false
set_option linter.unusedSimpArgs false
namespace Go.Proofs.Ytjefdcbljpkmlaa.G
open Go
inductive Hint where
  | N
  | R
  | L (h : Nat)
  | E (ks : List Nat)
  | A (k : Nat) (r : GO) (sl : Option Nat := none)
/-- What an operation that writes, makes memory or calls, does. -/
def ESpec (P : Program) (o : Oper) (ev : Operand → Value) (F : GL) (Out : OutT) : Prop :=
  ∀ w, Sim F w → (∃ v F' news w', ((execOp ev o).run P w = .ok (.value v) w' ∨ ((execOp ev o).run P w = .ok .skip w' ∧ v = undef)) ∧ Out v F' news ∧ Turned F F' news w w') ∨
    ∃ f args, (execOp ev o).run P w = .ok (.enter f args) w ∧ Calls P f args w fun e w' => ∃ v F' news, e = .returned v ∧ Out v F' news ∧ Turned F F' news w w'
theorem ERun.spec {P : Program} {o : Oper} {ev : Operand → Value} {F : GL} {Out : OutT} (h : ERun P o ev F Out) : ESpec P o ev F Out := fun w hw => .inl (h w hw)
theorem ESpec.ex {P : Program} {o : Oper} {ev : Operand → Value} {F : GL} {Out : OutT} (h : ESpec P o ev F Out) {w : World} (hw : Sim F w) : ∃ v F' news w', Out v F' news ∧ Turned F F' news w w' := by
  rcases h w hw with ⟨v, F', news, w', _, h1, h2⟩ | ⟨f, args, _, hc⟩
  · exact ⟨v, F', news, w', h1, h2⟩
  · obtain ⟨e, w', fr, ⟨v, F', news, _, h1, h2⟩, _⟩ := hc []
    exact ⟨v, F', news, w', h1, h2⟩
theorem ESpec.wp {P : Program} {o : Oper} {ev : Operand → Value} {F : GL} {Out : OutT} (h : ESpec P o ev F Out) {a : Act} (ha : a.eval = ev) {w : World} (hw : Sim F w) {K : Act → World → Prop} {Q : Exit → Act → World → Prop}
    (k : ∀ v F' news w', Out v F' news → Turned F F' news w w' → K (a.put o.dst v) w') : o.wp P a w K Q := by
  unfold Oper.wp
  rw [ha]
  rcases h w hw with ⟨v, F', news, w', h0, h1, h2⟩ | ⟨f, args, h0, hc⟩
  · rcases h0 with h0 | ⟨h0, rfl⟩ <;> rw [h0]
    · exact k _ _ _ _ h1 h2
    · exact k _ _ _ _ h1 h2
  · rw [h0, Oper.upon_enter]
    refine hc.mono fun e w' hh => ?_
    obtain ⟨v, F', news, rfl, h1, h2⟩ := hh
    exact k _ _ _ _ h1 h2
def wantedE (ops : List Oper) (o : Oper) (e : Env) : Bool := match o.guard with
  | none => true
  | some (j, b) => match (ops[j]?).bind (·.dst) with
    | some t => match e t with
      | .bool c => c == b
      | _ => false
    | none => false
theorem pick_of : ∀ (ks : List Nat) (l F : GL), ks.length = F.length → (∀ m : Nat, m < ks.length → ∃ k, ks[m]? = some k ∧ l[k]? = F[m]?) → pick l ks = some F
  | [], l, [], _, _ => rfl
  | [], l, _ :: _, h, _ => by simp at h
  | _ :: _, l, [], h, _ => by simp at h
  | k :: ks, l, p :: F, h, hm => by
    obtain ⟨k', h1, h2⟩ := hm 0 (by simp)
    simp only [List.getElem?_cons_zero, Option.some.injEq] at h1 h2
    subst h1
    have := pick_of ks l F (by simpa using h) (fun m hm' => by
      have := hm (m + 1) (by simp; omega)
      simpa using this)
    simp only [pick, h2, this]
/-- Where the entries of a list lie, when the last one is laid in place k. -/
def aks (n k : Nat) : List Nat := (List.range n).map fun i => if i = k then n else i
theorem aks_nodup (n k : Nat) : (aks n k).Nodup := by
  unfold aks
  rw [List.nodup_iff_pairwise_ne, List.pairwise_map]
  refine List.Pairwise.imp_of_mem ?_ List.pairwise_lt_range
  intro a b ha hb hlt
  have := List.mem_range.1 ha
  have := List.mem_range.1 hb
  split <;> split <;> omega
theorem aks_pick (l : GL) (k : Nat) (p : Nat × GO) : pick (l ++ [p]) (aks l.length k) = some (l.set k p) := by
  refine pick_of _ _ _ (by simp [aks]) fun m hm => ?_
  have hm2 : m < l.length := by
    simp only [aks, List.length_map, List.length_range] at hm
    exact hm
  refine ⟨if m = k then l.length else m, by simp [aks, hm2], ?_⟩
  rw [List.getElem?_set]
  by_cases h : m = k
  · subst h
    rw [if_pos rfl, if_pos rfl, if_pos hm2]
    simp
  · rw [if_neg h, if_neg fun e => h e.symm, List.getElem?_append_left hm2]
/-- What makes memory of its own, known ahead. -/
def aV : Option Nat → Nat → Value
  | none, b => .pointer (some ⟨b, 0, none⟩)
  | some n, b => .slice (some ⟨b, 0, none⟩) n n
def aOut (r : GO) (sl : Option Nat) : OutT := fun v F' ns => ∃ b, v = aV sl b ∧ F' = [] ∧ ns = [(b, r)]
def Rz (l : GL) : Prop := ∃ w, Sim l w
def gstep (P : Program) (ops : List Oper) (o : Oper) (h : Hint) (K : Env → GL → Prop) (e : Env) (l : GL) : Prop :=
  match h with
  | .N => (wantedE ops o e = false ∧ K (updo e o.dst undef) l) ∨ (wantedE ops o e = true ∧ ∃ v, LVal P o (gev e) none v ∧ K (updo e o.dst v) l)
  | .R => (wantedE ops o e = false ∧ K (updo e o.dst undef) l) ∨ (wantedE ops o e = true ∧ ∃ v, (∃ j : Nat, LVal P o (gev e) l[j]? v) ∧ K (updo e o.dst v) l)
  | .L k => wantedE ops o e = true ∧ ∃ v, LVal P o (gev e) l[k]? v ∧ K (updo e o.dst v) l
  | .E ks => wantedE ops o e = true ∧ ∃ F Out, pick l ks = some F ∧ ks.Nodup ∧ ESpec P o (gev e) F Out ∧ ∀ v F' news, Out v F' news → F'.length = F.length → Rz (setAll l ks F' ++ news) → K (updo e o.dst v) (setAll l ks F' ++ news)
  | .A k r sl => wantedE ops o e = true ∧ (∃ c, l[k]? = some (c, .none)) ∧ ESpec P o (gev e) [] (aOut r sl) ∧ ∀ b, Rz (l.set k (b, r)) → K (updo e o.dst (aV sl b)) (l.set k (b, r))
/-- The next hint, where hints are told; else any. -/
def hd? : Option (List Hint) → Hint → Prop
  | none, _ => True
  | some [], _ => False
  | some (h :: _), h' => h = h'
def tl? : Option (List Hint) → Option (List Hint)
  | none => none
  | some l => some l.tail
def gseq (P : Program) (ops : List Oper) : List Oper → Option (List Hint) → (Env → GL → Prop) → Env → GL → Prop
  | [], H, K, e, l => (∀ h hs, H ≠ some (h :: hs)) ∧ K e l
  | o :: os, H, K, e, l => ∃ h, hd? H h ∧ gstep P ops o h (gseq P ops os (tl? H) K) e l
theorem wanted_eq {n : Nat} {e : Env} {a : Act} (h : Rep n e a) (hu : (match undef with | .bool _ => false | _ => true) = true) (ops : Array Oper) (o : Oper) : Region.wanted o (yielded ops a.tmps) = wantedE ops.toList o e := by
  unfold Region.wanted wantedE
  cases o.guard with
  | none => rfl
  | some g =>
    obtain ⟨j, b⟩ := g
    simp only [yielded, Array.getElem?_toList]
    cases (ops[j]?).bind (·.dst) with
    | none => rfl
    | some t =>
      have h1 := h.at_ t
      simp only [Option.bind_some]
      rw [Array.getD_eq_getD_getElem?] at h1
      cases hg : a.tmps[t]? with
      | none =>
        rw [hg] at h1
        simp only [Option.getD_none] at h1
        rw [← h1]
        rfl
      | some v =>
        rw [hg] at h1
        simp only [Option.getD_some] at h1
        rw [← h1]
        cases v <;> rfl
/-- Temporaries that a function has. -/
def okOps (n : Nat) (ops : List Oper) : Bool := ops.all fun o => match o.dst with
  | some d => Nat.blt d n
  | none => true
theorem okOps_at {n : Nat} {ops : List Oper} (h : okOps n ops = true) {o : Oper} (ho : o ∈ ops) : ∀ x, o.dst = some x → x < n := by
  intro x hx
  have := List.all_eq_true.1 h o ho
  rw [hx] at this
  exact Nat.le_of_ble_eq_true this
section
variable {P : Program} {Q : Exit → Act → World → Prop} {w0 : World} {l0 : GL} {n : Nat}
/-- One operation: what the step says, the world does. -/
theorem gstep_op {ops : Array Oper} {i : Nat} {o : Oper} (hi : ops[i]? = some o) (hok : okOps n ops.toList = true) {h : Hint} {K : Env → GL → Prop} {KK : Act → World → Prop} {e : Env} {l : GL} {a : Act} {w : World}
    (hg : gstep P ops.toList o h K e l) (hr : Rep n e a) (hv : Inv w0 l0 l w) (hk : ∀ e' l' a' w', K e' l' → Rep n e' a' → Inv w0 l0 l' w' → l.length ≤ l'.length → KK a' w') : wpOp P ops Q i KK a w := by
  have hmem : o ∈ ops.toList := by simpa using Array.mem_of_getElem? hi
  have hput := fun v => hr.put o.dst v (okOps_at hok hmem)
  have hw := wanted_eq hr rfl ops o
  unfold wpOp
  simp only [hi]
  have lval : ∀ (x : Option (Nat × GO)) v, LVal P o (gev e) x v → (∀ p, x = some p → p ∈ l) → K (updo e o.dst v) l → o.wp P a w KK Q := by
    intro x v h1 h2 h3
    unfold Oper.wp
    rw [hr.eval, h1 w (fun p hp => hv.sim.at_ p (h2 p hp))]
    exact hk _ _ _ _ h3 (hput v) hv (Nat.le_refl _)
  cases h with
  | N =>
    rcases hg with ⟨h1, h2⟩ | ⟨h1, v, h2, h3⟩
    · rw [if_neg (by rw [hw, h1]; simp)]
      exact hk _ _ _ _ h2 (hput _) hv (Nat.le_refl _)
    · rw [if_pos (by rw [hw, h1])]
      exact .inl (lval none v h2 (fun p hp => by cases hp) h3)
  | R =>
    rcases hg with ⟨h1, h2⟩ | ⟨h1, v, ⟨j, h2⟩, h3⟩
    · rw [if_neg (by rw [hw, h1]; simp)]
      exact hk _ _ _ _ h2 (hput _) hv (Nat.le_refl _)
    · rw [if_pos (by rw [hw, h1])]
      exact .inl (lval _ v h2 (fun p hp => List.mem_of_getElem? hp) h3)
  | L k =>
    obtain ⟨h1, v, h2, h3⟩ := hg
    rw [if_pos (by rw [hw, h1])]
    exact .inl (lval _ v h2 (fun p hp => List.mem_of_getElem? hp) h3)
  | E ks =>
    obtain ⟨h1, F, Out, hp, nk, hs, h3⟩ := hg
    rw [if_pos (by rw [hw, h1])]
    refine .inl (hs.wp hr.eval (hv.sim.weak ks nk hp) fun v F' news w' ho ht => ?_)
    have hv' := hv.step hp nk ht
    exact hk _ _ _ _ (h3 v F' news ho ht.len ⟨w', hv'.sim⟩) (hput v) hv' (by rw [List.length_append, setAll_length]; omega)
  | A k r =>
    obtain ⟨h1, _, ha, h3⟩ := hg
    rw [if_pos (by rw [hw, h1])]
    refine .inl (ha.wp hr.eval (hv.sim.weak [] List.nodup_nil rfl) fun v F' news w' ho ht => ?_)
    obtain ⟨b, rfl, rfl, rfl⟩ := ho
    have hv' := hv.step (ks := []) rfl List.nodup_nil ht
    have hv2 : Inv w0 l0 (l.set k (b, r)) w' := hv'.weak (aks l.length k) (aks_nodup _ _) (aks_pick l k (b, r))
    exact hk _ _ _ _ (h3 b ⟨w', hv2.sim⟩) (hput _) hv2 (by simp)
theorem gseq_ops {ops : Array Oper} (hok : okOps n ops.toList = true) {K : Env → GL → Prop} (hk : ∀ e' l' a' w', K e' l' → Rep n e' a' → Inv w0 l0 l' w' → Q .normal a' w') : ∀ (os : List Oper) (H : Option (List Hint)) (i : Nat) (e : Env) (l : GL) (a : Act) (w : World), ops.toList.drop i = os → gseq P ops.toList os H K e l → Rep n e a → Inv w0 l0 l w → wpOps P ops Q (List.range' i os.length) a w
  | [], H, i, e, l, a, w, _, hg, hr, hv => hk _ _ _ _ hg.2 hr hv
  | o :: os, H, i, e, l, a, w, hd, hg, hr, hv => by
    have hi : ops[i]? = some o := by
      have : (ops.toList.drop i)[0]? = some o := by rw [hd]; rfl
      rw [List.getElem?_drop] at this
      simpa using this
    obtain ⟨h, _, hg⟩ := hg
    rw [List.length_cons, List.range'_succ, wpOps_cons]
    refine gstep_op hi hok hg hr hv fun e' l' a' w' h1 h2 h3 _ => ?_
    exact gseq_ops hok hk os (tl? H) (i + 1) e' l' a' w' (by rw [← List.drop_drop, hd]; rfl) h1 h2 h3
/-- A plain region. -/
theorem gseq_wp {id : Nat} {ops : Array Oper} (hok : okOps n ops.toList = true) {H : Option (List Hint)} {K : Env → GL → Prop} {e : Env} {l : GL} {a : Act} {w : World} (hg : gseq P ops.toList ops.toList H K e l) (hr : Rep n e a) (hv : Inv w0 l0 l w)
    (hk : ∀ e' l' a' w', K e' l' → Rep n e' a' → Inv w0 l0 l' w' → Q .normal a' w') : (Code.region id ops false).wp P Q a w := by
  refine wp_region ?_
  rw [List.range_eq_range', show ops.size = ops.toList.length by simp]
  exact gseq_ops hok hk _ H 0 e l a w rfl hg hr hv
end
end Go.Proofs.Ytjefdcbljpkmlaa.G
end
