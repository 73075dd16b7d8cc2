/- What the law FnExactGifPut needs, out of the texts Gi. -/
import Derived.Test.YtjefdcbljpkmlaaKFnExactGifPut07
section
set_option linter.unusedVariables false
set_option linter.unusedSimpArgs false
namespace Go.Proofs.Ytjefdcbljpkmlaa.G
open Go
/-- What stands at a place: the operation and its hint. -/
def look (ops : Array Oper) (hs : List Hint) (i : Nat) : Option (Oper × Hint) := (ops.toList.zip hs)[i]?
def indB (ops : Array Oper) (n0 : Nat) : Option (Oper × Hint) → Option (Oper × Hint) → Bool
  | some x, some y => x.1.apart ops y.1 && (noSel x.1 && (noSel y.1 && compat n0 x.2 y.2))
  | _, _ => false
def pairB (ops : Array Oper) (n0 : Nat) (hs : List Hint) (i j : Nat) : Bool := path ops.toList ops.toList.length i j || indB ops n0 (look ops hs i) (look ops hs j)
def chkR (ops : Array Oper) (n0 : Nat) (hs : List Hint) : List Nat → Bool
  | [] => true
  | i :: r => r.all (pairB ops n0 hs i) && chkR ops n0 hs r
def edgesBack (os : List Oper) : Nat → Bool
  | i => match os with
    | [] => true
    | o :: r => (edgesOf o).all (fun q => Nat.blt q i) && edgesBack r (i + 1)
def inAll (π : List Nat) : Nat → Bool
  | 0 => true
  | n + 1 => π.contains n && inAll π n
def nodupB : List Nat → Bool
  | [] => true
  | i :: r => !r.contains i && nodupB r
/-- The check: π tells each operation once; what it turns round may be turned round. -/
def chkP (ops : Array Oper) (n0 : Nat) (hs : List Hint) (π : List Nat) : Bool := nodupB π && (π.all (fun i => Nat.blt i ops.size) && (Nat.beq π.length ops.size && (Nat.beq hs.length ops.size && (inAll π ops.size && (edgesBack ops.toList 0 && chkR ops n0 hs π)))))
theorem inAll_mem {π : List Nat} : ∀ {n i : Nat}, inAll π n = true → i < n → i ∈ π
  | n + 1, i, h, hi => by
    simp only [inAll, Bool.and_eq_true] at h
    rcases Nat.lt_succ_iff_lt_or_eq.1 hi with h1 | rfl
    · exact inAll_mem h.2 h1
    · exact List.contains_iff_mem.1 h.1
theorem edgesBack_at : ∀ {os : List Oper} {i m : Nat} {o : Oper}, edgesBack os i = true → os[m]? = some o → ∀ q ∈ edgesOf o, q < i + m
  | [], i, m, o, _, h => by simp at h
  | x :: r, i, 0, o, hc, h => by
    simp at h
    subst h
    simp only [edgesBack, Bool.and_eq_true] at hc
    intro q hq
    exact Nat.le_of_ble_eq_true (List.all_eq_true.1 hc.1 q hq)
  | x :: r, i, m + 1, o, hc, h => by
    simp only [edgesBack, Bool.and_eq_true] at hc
    intro q hq
    have := edgesBack_at hc.2 (by simpa using h) q hq
    omega
theorem chkR_pw {ops : Array Oper} {n0 : Nat} {hs : List Hint} : ∀ {π : List Nat}, chkR ops n0 hs π = true → π.Pairwise fun i j => pairB ops n0 hs i j = true
  | [], _ => List.Pairwise.nil
  | i :: r, h => by
    simp only [chkR, Bool.and_eq_true] at h
    exact List.pairwise_cons.2 ⟨fun j hj => List.all_eq_true.1 h.1 j hj, chkR_pw h.2⟩
theorem nodupB_nodup : ∀ {π : List Nat}, nodupB π = true → π.Nodup
  | [], _ => List.nodup_nil
  | i :: r, h => by
    simp only [nodupB, Bool.and_eq_true] at h
    refine List.nodup_cons.2 ⟨fun hm => ?_, nodupB_nodup h.2⟩
    have h1 := h.1
    rw [List.contains_iff_mem.2 hm] at h1
    cases h1
section
variable {P : Program} {Q : Exit → Act → World → Prop} {w0 : World} {l0 : GL} {n n0 : Nat} {ops : Array Oper} {hs : List Hint} {π : List Nat}
def leftP (π : List Nat) (listed : Array Bool) : List Nat := π.filter fun i => !listed.getD i true
theorem any_soundP (hok : okOps n ops.toList = true) (hlen : hs.length = ops.size) (hmem : ∀ i, i ∈ π ↔ i < ops.size) (hnd : π.Nodup) (hb : edgesBack ops.toList 0 = true) (hpw : π.Pairwise fun i j => pairB ops n0 hs i j = true) {K : Env → GL → Prop} (hk : ∀ e' l' a' w', K e' l' → Rep n e' a' → Inv w0 l0 l' w' → Q .normal a' w') :
    ∀ (fuel : Nat) (listed : Array Bool) (e : Env) (l : GL) (a : Act) (w : World), listed.size = ops.size → (leftP π listed).length ≤ fuel → (∀ k m j, listed.getD m false = true → path ops.toList k j m = true → listed.getD j false = true) →
      gsL P ops K ((leftP π listed).filterMap (look ops hs)) e l → n0 ≤ l.length → Rep n e a → Inv w0 l0 l w → wpAny P .any ops Q fuel listed a w := by
  have hz : ∀ (i : Nat), i < ops.size → ∃ h, look ops hs i = some (ops.toList[i]!, h) ∧ ops[i]? = some (ops.toList[i]!) := by
    intro i hi
    have h1 : i < ops.toList.length := by simpa using hi
    refine ⟨hs[i]'(by omega), ?_, ?_⟩
    · unfold look
      rw [List.getElem?_eq_getElem (by simp; omega)]
      simp [h1, hi]
    · simp [hi]
  intro fuel
  induction fuel with
  | zero =>
    intro listed e l a w hsz hfl hcl hg hn hr hv
    have h0 : leftP π listed = [] := List.eq_nil_of_length_eq_zero (by omega)
    rw [h0] at hg
    refine ⟨?_, hk _ _ _ _ hg hr hv⟩
    rw [List.eq_nil_iff_forall_not_mem]
    intro i hi
    have hi2 := List.mem_filter.1 hi
    have : i ∈ leftP π listed := List.mem_filter.2 ⟨(hmem i).2 (List.mem_range.1 hi2.1), by have := hi2.2; rw [Bool.and_eq_true] at this; exact this.1⟩
    rw [h0] at this
    cases this
  | succ fuel ih =>
    intro listed e l a w hsz hfl hcl hg hn hr hv
    refine ⟨fun hre => ?_, fun i hi => ?_⟩
    · -- nothing is ready: nothing is left
      cases hlf : left ops.size listed with
      | nil =>
        have h0 : leftP π listed = [] := by
          rw [List.eq_nil_iff_forall_not_mem]
          intro i hi
          obtain ⟨h1, h2⟩ := List.mem_filter.1 hi
          have : i ∈ left ops.size listed := List.mem_filter.2 ⟨List.mem_range.2 ((hmem i).1 h1), h2⟩
          rw [hlf] at this
          cases this
        rw [h0] at hg
        exact hk _ _ _ _ hg hr hv
      | cons i R =>
        exfalso
        have hm0 : i ∈ left ops.size listed := by rw [hlf]; simp
        obtain ⟨hi1, hi2⟩ := List.mem_filter.1 hm0
        have hi3 : i < ops.size := List.mem_range.1 hi1
        obtain ⟨h, z1, z2⟩ := hz i hi3
        have hmin : ∀ j, j < i → listed.getD j false = true := by
          intro j hj
          cases hlj : listed.getD j true with
          | true =>
            have : j < listed.size := by omega
            simp [Array.getD, this] at hlj ⊢
            exact hlj
          | false =>
            have hjm : j ∈ left ops.size listed := List.mem_filter.2 ⟨List.mem_range.2 (by omega), by rw [hlj]; rfl⟩
            rw [hlf] at hjm
            have hsorted : (left ops.size listed).Pairwise (· < ·) := List.Pairwise.filter _ List.pairwise_lt_range
            rw [hlf] at hsorted
            rcases List.mem_cons.1 hjm with rfl | hjR
            · omega
            · have := (List.pairwise_cons.1 hsorted).1 j hjR
              omega
        have : i ∈ Region.ready .any ops listed := by
          refine List.mem_filter.2 ⟨hi1, ?_⟩
          rw [hi2, z2]
          simp only [Option.map_some, Option.getD_some, Bool.true_and]
          rw [Array.all_eq_true_iff_forall_mem]
          intro ed hed
          cases hbd : Region.binds .any ed with
          | false => rfl
          | true =>
            have z3 : ops.toList[i]? = some (ops.toList[i]!) := by rw [Array.getElem?_toList]; exact z2
            have := edgesBack_at hb z3 ed.on (List.mem_map.2 ⟨ed, List.mem_filter.2 ⟨by simpa using hed, hbd⟩, rfl⟩)
            simp only [Bool.not_true, Bool.false_or]
            exact hmin _ (by omega)
        rw [hre] at this
        cases this
    · obtain ⟨hi1, hi2⟩ := List.mem_filter.1 hi
      have hi3 : i < ops.size := List.mem_range.1 hi1
      obtain ⟨h, z1, z2⟩ := hz i hi3
      rw [Bool.and_eq_true, z2] at hi2
      obtain ⟨hnl, hedg⟩ := hi2
      simp only [Option.map_some, Option.getD_some] at hedg
      have hdone : ∀ q ∈ edgesOf (ops.toList[i]!), listed.getD q false = true := by
        intro q hq
        obtain ⟨ed, hed, rfl⟩ := List.mem_map.1 hq
        obtain ⟨hed1, hed2⟩ := List.mem_filter.1 hed
        have := (Array.all_eq_true_iff_forall_mem.1 hedg) ed (by simpa using hed1)
        rw [hed2] at this
        simpa using this
      have hmi : i ∈ leftP π listed := List.mem_filter.2 ⟨(hmem i).2 hi3, hnl⟩
      obtain ⟨R1, R2, hR⟩ := List.append_of_mem hmi
      have hnd2 : (leftP π listed).Nodup := hnd.filter _
      have hpw2 : (leftP π listed).Pairwise fun i j => pairB ops n0 hs i j = true := List.Pairwise.filter _ hpw
      have hR1 : ∀ j ∈ R1, j < ops.size ∧ listed.getD j false = false ∧ pairB ops n0 hs j i = true := by
        intro j hj
        have hjm : j ∈ leftP π listed := by rw [hR]; simp [hj]
        obtain ⟨a1, a2⟩ := List.mem_filter.1 hjm
        have a3 := (hmem j).1 a1
        refine ⟨a3, ?_, ?_⟩
        · have : j < listed.size := by omega
          simp [Array.getD, this] at a2 ⊢
          exact a2
        · rw [hR, List.pairwise_append] at hpw2
          exact hpw2.2.2 j hj i (by simp)
      have hnp : ∀ j ∈ R1, path ops.toList ops.toList.length j i = false := by
        intro j hj
        rw [Bool.eq_false_iff]
        intro hp
        have hlj := (hR1 j hj).2.1
        cases hL : ops.toList.length with
        | zero => rw [hL] at hp; cases hp
        | succ m =>
          rw [hL] at hp
          have z3 : ops.toList[i]? = some (ops.toList[i]!) := by rw [Array.getElem?_toList]; exact z2
          simp only [path, z3, Bool.or_eq_true] at hp
          rcases hp with hp | hp
          · have := hdone j (List.contains_iff_mem.1 hp)
            rw [this] at hlj; cases hlj
          · obtain ⟨q, hq1, hq2⟩ := List.any_eq_true.1 hp
            have := hcl m q j (hdone q hq1) hq2
            rw [this] at hlj; cases hlj
      rw [hR] at hg
      have hitem : (R1 ++ i :: R2).filterMap (look ops hs) = R1.filterMap (look ops hs) ++ (ops.toList[i]!, h) :: R2.filterMap (look ops hs) := by
        rw [List.filterMap_append, List.filterMap_cons, z1]
      rw [hitem] at hg
      have hf := front (n0 := n0) (x := (ops.toList[i]!, h)) _ e l (fun y hy => by
        obtain ⟨j, hj, ej⟩ := List.mem_filterMap.1 hy
        have hp := (hR1 j hj).2.2
        unfold pairB at hp
        rw [hnp j hj, Bool.false_or, ej, z1] at hp
        simp only [indB, Bool.and_eq_true] at hp
        exact ⟨hp.1, hp.2.1, hp.2.2.1, hp.2.2.2⟩) hn ⟨w, hv.sim⟩ hg
      refine gstep_op z2 hok hf hr hv fun e' l' a' w' hg' hr' hv' hl' => ?_
      have hleft : leftP π (listed.setIfInBounds i true) = R1 ++ R2 := by
        have h1 : leftP π (listed.setIfInBounds i true) = (leftP π listed).filter (fun j => j != i) := by
          unfold leftP
          rw [List.filter_filter]
          apply List.filter_congr
          intro j hj
          by_cases hji : j = i
          · subst hji
            have : j < listed.size := by omega
            simp [Array.getD, this]
          · have : (j != i) = true := by simpa using hji
            rw [this, Bool.true_and, getD_set_ne _ (fun e => hji e.symm)]
        rw [hR] at hnd2
        rw [h1, hR, List.filter_append, List.filter_cons]
        have hni1 : i ∉ R1 := fun hm => (List.nodup_append.1 hnd2).2.2 i hm i (by simp) rfl
        have hni2 : i ∉ R2 := fun hm => (List.nodup_cons.1 (List.nodup_append.1 hnd2).2.1).1 hm
        simp only [bne_self_eq_false, Bool.false_eq_true, if_false]
        rw [List.filter_eq_self.2 fun j hj => by simpa using fun (e : j = i) => hni1 (e ▸ hj), List.filter_eq_self.2 fun j hj => by simpa using fun (e : j = i) => hni2 (e ▸ hj)]
      refine ih _ e' l' a' w' (by simpa using hsz) ?_ ?_ ?_ (Nat.le_trans hn hl') hr' hv'
      · rw [hleft]
        rw [hR] at hfl
        simp at hfl ⊢
        omega
      · intro k m j hm hp
        by_cases hmi : m = i
        · subst hmi
          cases k with
          | zero => cases hp
          | succ k =>
            have z3 : ops.toList[m]? = some (ops.toList[m]!) := by rw [Array.getElem?_toList]; exact z2
            simp only [path, z3, Bool.or_eq_true] at hp
            rcases hp with hp | hp
            · exact getD_set_true (hdone j (List.contains_iff_mem.1 hp))
            · obtain ⟨q, hq1, hq2⟩ := List.any_eq_true.1 hp
              exact getD_set_true (hcl k q j (hdone q hq1) hq2)
        · rw [getD_set_ne _ (fun e => hmi e.symm)] at hm
          exact getD_set_true (hcl k m j hm hp)
      · rw [hleft, List.filterMap_append]
        exact hg'
end
/-- The operations, and the hints, in an order of one's own. -/
def perm {α : Type} (l : List α) (π : List Nat) : List α := π.filterMap fun i => l[i]?
theorem zip_perm (ops : List Oper) (hs : List Hint) (hl : hs.length = ops.length) : ∀ (π : List Nat), (perm ops π).zip (perm hs π) = π.filterMap fun i => (ops.zip hs)[i]?
  | [] => rfl
  | i :: π => by
    have ih := zip_perm ops hs hl π
    unfold perm at ih ⊢
    rw [List.filterMap_cons, List.filterMap_cons, List.filterMap_cons]
    by_cases h : i < ops.length
    · rw [List.getElem?_eq_getElem h, List.getElem?_eq_getElem (show i < hs.length by omega), List.getElem?_eq_getElem (show i < (ops.zip hs).length by simp; omega)]
      simp only [List.zip_cons_cons, ih, List.getElem_zip]
    · rw [List.getElem?_eq_none (by omega), List.getElem?_eq_none (by omega), List.getElem?_eq_none (by simp; omega)]
      exact ih
theorem gw_anyP {P : Program} {n : Nat} {Q : QT} {e : Env} {l : GL} {id : Nat} {ops : Array Oper} (π : List Nat) (hs : List Hint) (hm : P.follows .mixedOrders = true) (hok : okOps n ops.toList = true) (hc : chkP ops l.length hs π = true) (h : gseq P ops.toList (perm ops.toList π) (some (perm hs π)) (Q .normal) e l) : GW P n (.region id ops true) Q e l := by
  intro w0 l0 a w hr hv
  simp only [chkP, Bool.and_eq_true] at hc
  obtain ⟨c8, c9, c1, c2, c3, c4, c5⟩ := hc
  have hl1 := Nat.eq_of_beq_eq_true c1
  have hl2 := Nat.eq_of_beq_eq_true c2
  have hmem : ∀ i, i ∈ π ↔ i < ops.size := fun i => ⟨fun h => Nat.le_of_ble_eq_true (List.all_eq_true.1 c9 i h), fun h => inAll_mem c3 h⟩
  obtain ⟨_, hz⟩ := gseq_zip _ _ e l h ⟨w, hv.sim⟩
  rw [zip_perm _ _ (by simpa using hl2)] at hz
  have hall : leftP π (Array.replicate ops.size false) = π := by
    unfold leftP
    rw [List.filter_eq_self]
    intro i hi
    have := (hmem i).1 hi
    simp [Array.getD, this]
  refine wp_region_any hm (any_soundP (n := n) (n0 := l.length) (Q := fun ex a' w' => ∃ e' l', Q ex e' l' ∧ Rep n e' a' ∧ Inv w0 l0 l' w') (K := Q .normal) hok hl2 hmem (nodupB_nodup c8) c4 (chkR_pw c5) (fun e' l' a' w' h1 h2 h3 => ⟨e', l', h1, h2, h3⟩) ops.size _ e l a _ (by simp) ?_ ?_ ?_ (Nat.le_refl _) hr (hv.drew _))
  · rw [hall]; omega
  · intro k m j h
    simp [Array.getD] at h
  · rw [hall]
    exact hz
end Go.Proofs.Ytjefdcbljpkmlaa.G
end
