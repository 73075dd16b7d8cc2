/- What the law FnExactLzwPut needs, out of the texts Wg. -/
import Derived.Test.YtjefdcbljpkmlaaKFnExactLzwPut14
section
set_option linter.unusedVariables false
set_option maxRecDepth 10000
namespace Go.Proofs.Ytjefdcbljpkmlaa.G
open Go
section
variable {g : Nat} {s : ByteArray} {p : Nat} {bad : Bool}
end
/-- What a head must say; x0 .. as they are read. -/
structure Hd where
  (ahead has number frm many bits zero wide high depth last : Int)
def Hd.runs (h : Hd) : Prop := 8 ≤ h.number
instance (h : Hd) : Decidable h.runs := by unfold Hd.runs; infer_instance
def Hd.num (h : Hd) : Int := if h.runs then h.number - 8 else h.number
def Hd.kind (h : Hd) : Int := tK h.num h.depth
def Hd.lst (h : Hd) : Int := if h.kind = 3 then h.last - 8 else h.last
def Hd.colors (h : Hd) : Prop := if h.kind = 4 then h.has = 1 ∧ h.bits = 24 ∧ (1 ≤ h.many ∧ h.many ≤ 256) else h.has = 0 ∧ h.bits = 0 ∧ h.many = 0
instance (h : Hd) : Decidable h.colors := by unfold Hd.colors; infer_instance
def Hd.ok (h : Hd) : Prop := h.colors ∧ h.frm = 0 ∧ h.zero = 0 ∧ tT h.kind h.depth = h.num ∧ h.num ≠ 0 ∧ dOk h.kind h.depth ∧ (h.lst = 0 ∨ h.lst = 32)
instance (h : Hd) : Decidable h.ok := by unfold Hd.ok; infer_instance
def Hd.size (h : Hd) : Prop := (1 ≤ h.wide ∧ h.wide ≤ 20) ∧ (1 ≤ h.high ∧ h.high ≤ 20)
section
variable {g : Nat} {s : ByteArray}
end
end Go.Proofs.Ytjefdcbljpkmlaa.G
end
