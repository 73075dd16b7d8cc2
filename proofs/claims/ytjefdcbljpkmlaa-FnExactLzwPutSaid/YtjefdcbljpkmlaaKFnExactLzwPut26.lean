/- What the law FnExactLzwPut needs, out of the texts Mj. -/
import Derived.Test.YtjefdcbljpkmlaaKFnExactLzwPut18
section
set_option linter.unusedVariables false
namespace Go.Proofs.Ytjefdcbljpkmlaa.G
open Go
/-- A slice of bytes, with its entry. -/
def LB (a : Option Addr) (n c : Nat) (q : Nat × GO) (zs : List Int) : Prop :=
  n = zs.length ∧ n ≤ c ∧ (zs = [] ∨ ∃ o, a = some ⟨q.1, o, none⟩ ∧ o + zs.length ≤ (cellsG q.2).length ∧ ((cellsG q.2).drop o).take zs.length = bytesV zs) ∧ ∀ x ∈ zs, 0 ≤ x ∧ x ≤ 255
theorem LB.at {a : Option Addr} {n c : Nat} {q : Nat × GO} {zs : List Int} (h : LB a n c q zs) {k : Nat} (hk : k < zs.length) : ∃ o, a = some ⟨q.1, o, none⟩ ∧ (cellsG q.2)[o + k * 1]? = some (.int .u8 (zs.getD k 0)) ∧ 0 ≤ zs.getD k 0 ∧ zs.getD k 0 ≤ 255 := by
  simp only [Nat.mul_one]
  obtain ⟨h1, h2, rfl | ⟨o, rfl, _, h3⟩, h4⟩ := h
  · simp at hk
  · refine ⟨o, rfl, ?_, ?_⟩
    · have : (((cellsG q.2).drop o).take zs.length)[k]? = (bytesV zs)[k]? := by rw [h3]
      rw [List.getElem?_take_of_lt hk, List.getElem?_drop] at this
      rw [this, bytesV, List.getElem?_map, List.getElem?_eq_getElem hk]
      simp [List.getD, List.getElem?_eq_getElem hk]
    · rw [List.getD_eq_getElem?_getD, List.getElem?_eq_getElem hk]
      exact h4 _ (List.getElem_mem hk)
theorem LB.take {a : Option Addr} {n c : Nat} {q : Nat × GO} {zs : List Int} (h : LB a n c q zs) {k : Nat} (hk : k ≤ n) : LB a k c q (zs.take k) := by
  obtain ⟨h1, h2, h3, h4⟩ := h
  have e : (zs.take k).length = k := by simp; omega
  refine ⟨e.symm, by omega, ?_, fun x hx => h4 x (List.mem_of_mem_take hx)⟩
  rcases h3 with h3 | ⟨o, ho, h5, h6⟩
  · exact .inl (by rw [h3]; simp)
  · refine .inr ⟨o, ho, by omega, ?_⟩
    rw [e, show ((cellsG q.2).drop o).take k = (((cellsG q.2).drop o).take zs.length).take k by rw [List.take_take]; congr 1; omega, h6]
    simp [bytesV, List.map_take]
section
variable {ops os : List Oper} {H : Option (List Hint)} {K : Env → GL → Prop} {e : Env} {l : GL} {d : Nat} {T : TypeId} {pos : String} {af : Array Edge}
/-- A byte read. -/
theorem gs_atb (j : Nat) {t : TypeId} {x : Operand} {b off : Nat} {g : GO} {v : Value} {i : TyI} (hi : tyT t = some i) (ha : i.k.agg = false) (hx : gev e x = .pointer (some ⟨b, off, none⟩)) (hl : l[j]? = some (b, g)) (hv : (cellsG g)[off]? = some v) (k : gseq Try.prog ops os (tl? H) K (upd e d v) l) (hh : hL j H := by trivial) :
    gseq Try.prog ops (⟨some d, .load t x, T, pos, af, none⟩ :: os) H K e l := gs_v j (lv_load tyT_ok j rfl hx hl hi ha hv) k hh
end
end Go.Proofs.Ytjefdcbljpkmlaa.G
end
