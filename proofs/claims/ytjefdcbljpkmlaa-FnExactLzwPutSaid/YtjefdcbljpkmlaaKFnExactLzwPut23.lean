/- What the law FnExactLzwPut needs, out of the texts Lb. -/
import Derived.Test.YtjefdcbljpkmlaaKFnExactLzwPut17
import Derived.Test.YtjefdcbljpkmlaaKFnExactLzwPut22
section
set_option linter.unusedVariables false
namespace Go.Proofs.Ytjefdcbljpkmlaa.G
open Go
/-- A law that hands back true, and leaves nothing. -/
theorem Trip.row {P : Program} {f : FuncId} {args : List Value} (h : Trip P f args [] (fun v F' ns => v = .bool true)) (w : World) : Calls P f args.toArray w fun e w' => e = .returned (.bool true) ∧ RowKit.Below w.heap.size w w' := by
  refine (h w (sim_nil _)).mono fun e w' ⟨v, F', ns, h1, h2, h3⟩ => ⟨by rw [h1, h2], ?_⟩
  have hf := h3.fr
  exact ⟨hf.os, hf.tape, hf.output, hf.size, fun b hb => hf.keep b hb fun ⟨x, hx, _⟩ => by cases hx⟩
end Go.Proofs.Ytjefdcbljpkmlaa.G
end
