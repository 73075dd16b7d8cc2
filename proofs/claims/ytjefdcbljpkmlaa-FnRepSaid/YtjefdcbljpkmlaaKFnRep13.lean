/- What the law FnRep needs, out of the texts Me. -/
import Derived.Test.YtjefdcbljpkmlaaKFnRep12
section
set_option linter.unusedVariables false
set_option linter.unusedSimpArgs false
namespace Go.Proofs.Ytjefdcbljpkmlaa.G
open Go
theorem eq_nil {P : Program} {t e : TypeId} (h : P.underlying t = some (.slice e)) (a : Option Addr) (n c : Nat) (w : World) : (Op.equal t (.slice a n c) (.slice none 0 0)).run P w = .ok a.isNone w := by
  have : Op.equal t (.slice a n c) (.slice none 0 0) = Op.equalIn (9999 + 1) t (.slice a n c) (.slice none 0 0) := rfl
  rw [this, Op.equalIn, Sem.run_bind, run_underlying h]
  cases a <;> simp
theorem lv_isnil {P : Program} {ty : Tys} (hty : TysOk P ty) {o : Oper} {ev : Operand → Value} {t el u : TypeId} {x y : Operand} {a : Option Addr} {n c : Nat} {q : Option (Nat × GO)} (hop : o.op = .binOp .eql t x y u) (hk : tk ty t = some (.slice el)) (hx : ev x = .slice a n c) (hy : ev y = .slice none 0 0) : LVal P o ev q (.bool a.isNone) := by
  intro w _
  obtain ⟨dd, h1, rfl⟩ := run_under hty hk
  unfold execOp
  rw [hop]
  simp only [hx, hy]
  rw [eqGuard_at_slice]
  simp [binOp, eq_nil h1]
end Go.Proofs.Ytjefdcbljpkmlaa.G
end
