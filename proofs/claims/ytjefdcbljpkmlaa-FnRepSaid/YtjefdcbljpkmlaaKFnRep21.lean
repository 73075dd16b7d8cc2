/- What the law FnRep needs, out of the texts La. -/
import Derived.Test.YtjefdcbljpkmlaaKFnRep20
section
set_option linter.unusedVariables false
set_option maxRecDepth 10000
namespace Go.Proofs.Ytjefdcbljpkmlaa.G
open Go
/-- A number stored in a list that is owned. -/
theorem gs_seti (j : Nat) {ops os : List Oper} {H : Option (List Hint)} {K : Env → GL → Prop} {e : Env} {l : GL} {T : TypeId} {pos : String} {af : Array Edge} {x y : Operand} {b m i : Nat} {n : Int} {zs : List Int} (hx : gev e x = .pointer (some ⟨b, 0 + i * 1, none⟩)) (hy : gev e y = .int .i64 n) (hl : l[j]? = some (b, .row 3 (ints zs) m)) (hi : i < zs.length) (hm : zs.length ≤ m)
    (k : gseq Try.prog ops os (tl? H) K e (l.set j (b, .row 3 (put (ints zs) i [.int .i64 n]) m))) (hh : hE [j] H := by trivial) : gseq Try.prog ops (⟨none, .store 3 x y, T, pos, af, none⟩ :: os) H K e l := by
  rw [Nat.zero_add, Nat.mul_one] at hx
  refine gs_store tyT_ok j (b := b) (off := i) hx hl rfl (vs := [.int .i64 n]) (by rw [hy]; rfl) rfl rfl ?_ ?_ k hh
  · simp only [ints, List.length_map]
    omega
  · show i + 1 ≤ m
    omega
end Go.Proofs.Ytjefdcbljpkmlaa.G
end
