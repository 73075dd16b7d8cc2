/- What the law FnExactLzwPut needs, out of the texts Mb. -/
import Derived.Test.YtjefdcbljpkmlaaKFnExactLzwPut08
import Derived.Test.YtjefdcbljpkmlaaKFnExactLzwPut09
section
set_option linter.unusedVariables false
set_option linter.unusedSimpArgs false
namespace Go.Proofs.Ytjefdcbljpkmlaa.G
open Go
abbrev ptr (g : Nat) : Value := .pointer (some ⟨g, 0, none⟩)
def ints (zs : List Int) : List Value := zs.map (Value.int .i64)
/-- A slice of whole numbers, with its entry. -/
def LS (a : Option Addr) (n c : Nat) (q : Nat × GO) (zs : List Int) : Prop :=
  n = zs.length ∧ n ≤ c ∧ ((a = none ∧ c = 0) ∨ ∃ o, a = some ⟨q.1, o, none⟩ ∧ o + zs.length ≤ (cellsG q.2).length ∧ ((cellsG q.2).drop o).take zs.length = ints zs)
theorem LS.nil {q : Nat × GO} : LS none 0 0 q [] := ⟨rfl, Nat.le_refl _, .inl ⟨rfl, rfl⟩⟩
theorem LS.at {a : Option Addr} {n c : Nat} {q : Nat × GO} {zs : List Int} (h : LS a n c q zs) {k : Nat} (hk : k < zs.length) : ∃ o, a = some ⟨q.1, o, none⟩ ∧ (cellsG q.2)[o + k * 1]? = some (.int .i64 (zs.getD k 0)) := by
  simp only [Nat.mul_one]
  obtain ⟨h1, h2, ⟨rfl, h3⟩ | ⟨o, rfl, _, h3⟩⟩ := h
  · omega
  · refine ⟨o, rfl, ?_⟩
    have : (((cellsG q.2).drop o).take zs.length)[k]? = (ints zs)[k]? := by rw [h3]
    rw [List.getElem?_take_of_lt hk, List.getElem?_drop] at this
    rw [this, ints, List.getElem?_map, List.getElem?_eq_getElem hk]
    simp [List.getD, List.getElem?_eq_getElem hk]
/-- A list that is owned. -/
def OI (v : Value) (p : Nat × GO) (zs : List Int) : Prop := OwnE 3 1 v p (ints zs)
theorem OI.nil {b : Nat} : OI (.slice none 0 0) (b, .none) [] := .inl ⟨rfl, rfl, rfl⟩
theorem setAll_pick : ∀ (ks : List Nat) (l F : GL), pick l ks = some F → setAll l ks F = l
  | [], l, F, h => by simp [setAll]
  | k :: ks, l, F, h => by
    simp only [pick] at h
    split at h
    · rename_i q r hq hr
      cases h
      simp only [setAll]
      have : l.set k q = l := by
        apply List.ext_getElem?
        intro i
        rw [List.getElem?_set]
        split
        · rename_i he
          subst he
          have hlt := (List.getElem?_eq_some_iff.1 hq).1
          simp only [hlt, if_true]
          exact hq.symm
        · rfl
      rw [this]
      exact setAll_pick ks l r hr
    · cases h
/-- A call that only reads. -/
def Rd (P : Program) (f : FuncId) (args : List Value) (F : GL) (r : Value) : Prop := Trip P f args F (fun v F' ns => v = r ∧ F' = F ∧ ns = [])
section
variable {P : Program} {ops os : List Oper} {H : Option (List Hint)} {K : Env → GL → Prop} {e : Env} {l : GL} {d : Nat} {T : TypeId} {pos : String} {af : Array Edge} {F : GL}
theorem gs_rd (ks : List Nat) {f : FuncId} {xs : Array Operand} {ts : Array TypeId} {r : Value} (hent : Ent P f) (hp : pick l ks = some F) (nk : ks.Nodup) (h : Rd P f (xs.toList.map (gev e)) F r) (k : gseq P ops os (tl? H) K (upd e d r) l) (hh : hE ks H := by trivial) : gseq P ops (⟨some d, .call { callee := .value (.func f), args := xs, argTypes := ts }, T, pos, af, none⟩ :: os) H K e l := by
  refine gs_call ks hent hp nk h (fun v F' ns ho _ _ => ?_) hh
  obtain ⟨rfl, rfl, rfl⟩ := ho
  rw [setAll_pick _ _ _ hp, List.append_nil]
  exact k
end
/-- An entry for a list that is nil. -/
theorem gw_nil {P : Program} {n : Nat} {c : Code} {Q : QT} {e : Env} {l : GL} (h : GW P n c Q e (l ++ [(0, .none)])) : GW P n c Q e l := by
  intro w0 l0 a w hr hv
  have old : ∀ {i : Nat} {p : Nat × GO}, (l ++ [(0, GO.none)])[i]? = some p → p.2.real = true → l[i]? = some p := by
    intro i p hp hreal
    rw [List.getElem?_append] at hp
    split at hp
    · exact hp
    · obtain ⟨_, rfl⟩ | hp : (i - l.length = 0 ∧ (0, GO.none) = p) ∨ False := by
        cases hi : i - l.length with
        | zero => rw [hi] at hp; simp at hp; exact .inl ⟨rfl, hp⟩
        | succ k => rw [hi] at hp; simp at hp
      · cases hreal
      · exact hp.elim
  refine h w0 l0 a w hr ⟨⟨fun i j p q hi hj hp hq e => hv.sim.nd i j p q (old hi hp) (old hj hq) hp hq e, fun p hp => ?_⟩, hv.fr, fun b hb ⟨x, hx, ho⟩ => hv.own b hb ⟨x, ?_, ho⟩, fun b hb ⟨x, hx, ho⟩ => hv.real b hb ⟨x, ?_, ho⟩⟩
  · rcases List.mem_append.1 hp with h | h
    · exact hv.sim.at_ p h
    · obtain rfl := List.mem_singleton.1 h
      trivial
  · rcases List.mem_append.1 hx with h | h
    · exact h
    · cases List.mem_singleton.1 h; cases ho
  · rcases List.mem_append.1 hx with h | h
    · exact h
    · cases List.mem_singleton.1 h; cases ho
end Go.Proofs.Ytjefdcbljpkmlaa.G
end
