/-
  No cell of these rows narrows 'for every input' (looked for: loops, veiled, ifaces, maps, wideKeys, modest, calm, conditions, laid).
  DERIVED. THE GIVEN ROWS OF THIS SEAT. 12 by the template 'for every input the law returns true; each argument reads behind the call as it read before'; 0 by the template 'total and deterministic' (their statements: YtjcamejbdcaokaaTotals.lean).
  GIVEN WITH THE SEED: the statements are not yours to turn. If you find one false, say at which input.
  Laid BY PROGRAM, IN A SANDBOX (cutbox-rows.mjs): the forced cells as the released guide's own fill.sh prints them over the translation 7adfef90109cbf4c… (all of the seat's roots in one cut). By AI agents, Wed Nov 11 2026. No macro, syntax, notation, axiom, sorry.
-/
import Derived.Test.YtjcamejbdcaokaaChecked
import GoSem.Claim
import GoSem.ClaimJoined
import GoSem.ClaimMapViews
import Derived.JoinedTies
import Derived.KernelRfl
namespace Go.Proofs.Ytjcamejbdcaokaa
/- THE CELL 'sum', in the pinned program and in every row, IS THE sha256 OF THE DUMP (.gsa) THAT YtjcamejbdcaokaaProg.lean LOADS. Nothing in Lean hashes anything: it is a label: what it is worth is what the hold of that sum in a sandbox is worth. -/
noncomputable def Try.pinned : Pinned := { name := "ytjcamejbdcaokaa", sum := "7adfef90109cbf4c33841bcd0b45f74e5a756c45392a61163853671716c23bc9", checked := Try.checked }
namespace Rows
def none {H : Type} : Left H := { results := [], args := [] }

/-- 'laws.FnExactRleGet': WHATEVER THE INPUT: true; the input reads as it did. -/
def fnExactRleGetSpec : ChangeSpec := { name := "fnExactRleGet", fn := fun _ => fun
  | [d1, d2, d3] => { results := [.lit (.bool true)], args := [d1, d2, d3] }
  | _ => none }
def fnExactRleGetRow : OpenClaim := { program := "ytjcamejbdcaokaa", sum := "7adfef90109cbf4c33841bcd0b45f74e5a756c45392a61163853671716c23bc9", func := "loop.example/intarsia/laws.FnExactRleGet", spec := "fnExactRleGet", plainKeys := false, apart := false }
def FnExactRleGetSaid : Prop := fnExactRleGetRow.holds Try.pinned (OpenSpec.ofChange fnExactRleGetSpec)

/-- ITS FALSE NEIGHBOUR: 'it returns false'. Refute it at one input. -/
def fnExactRleGetWrong : ChangeSpec := { name := "fnExactRleGet", fn := fun _ => fun
  | [d1, d2, d3] => { results := [.lit (.bool false)], args := [d1, d2, d3] }
  | _ => none }
def FnExactRleGetWrongFalsely : Prop := fnExactRleGetRow.holds Try.pinned (OpenSpec.ofChange fnExactRleGetWrong)

/-- 'laws.FnBlocks': WHATEVER THE INPUT: true; the input reads as it did. -/
def fnBlocksSpec : ChangeSpec := { name := "fnBlocks", fn := fun _ => fun
  | [d1, d2] => { results := [.lit (.bool true)], args := [d1, d2] }
  | _ => none }
def fnBlocksRow : OpenClaim := { program := "ytjcamejbdcaokaa", sum := "7adfef90109cbf4c33841bcd0b45f74e5a756c45392a61163853671716c23bc9", func := "loop.example/intarsia/laws.FnBlocks", spec := "fnBlocks", inPlace := ["internal/abi.NoEscape"], plainKeys := false, apart := false }
def FnBlocksSaid : Prop := fnBlocksRow.holds Try.pinned (OpenSpec.ofChange fnBlocksSpec)

/-- ITS FALSE NEIGHBOUR: 'it returns false'. Refute it at one input. -/
def fnBlocksWrong : ChangeSpec := { name := "fnBlocks", fn := fun _ => fun
  | [d1, d2] => { results := [.lit (.bool false)], args := [d1, d2] }
  | _ => none }
def FnBlocksWrongFalsely : Prop := fnBlocksRow.holds Try.pinned (OpenSpec.ofChange fnBlocksWrong)

/-- 'laws.FnFilter': WHATEVER THE INPUT: true; the input reads as it did. -/
def fnFilterSpec : ChangeSpec := { name := "fnFilter", fn := fun _ => fun
  | [d] => { results := [.lit (.bool true)], args := [d] }
  | _ => none }
def fnFilterRow : OpenClaim := { program := "ytjcamejbdcaokaa", sum := "7adfef90109cbf4c33841bcd0b45f74e5a756c45392a61163853671716c23bc9", func := "loop.example/intarsia/laws.FnFilter", spec := "fnFilter", plainKeys := false, apart := false }
def FnFilterSaid : Prop := fnFilterRow.holds Try.pinned (OpenSpec.ofChange fnFilterSpec)

/-- ITS FALSE NEIGHBOUR: 'it returns false'. Refute it at one input. -/
def fnFilterWrong : ChangeSpec := { name := "fnFilter", fn := fun _ => fun
  | [d] => { results := [.lit (.bool false)], args := [d] }
  | _ => none }
def FnFilterWrongFalsely : Prop := fnFilterRow.holds Try.pinned (OpenSpec.ofChange fnFilterWrong)

/-- 'laws.FnRle': WHATEVER THE INPUT: true; the input reads as it did. -/
def fnRleSpec : ChangeSpec := { name := "fnRle", fn := fun _ => fun
  | [d] => { results := [.lit (.bool true)], args := [d] }
  | _ => none }
def fnRleRow : OpenClaim := { program := "ytjcamejbdcaokaa", sum := "7adfef90109cbf4c33841bcd0b45f74e5a756c45392a61163853671716c23bc9", func := "loop.example/intarsia/laws.FnRle", spec := "fnRle", plainKeys := false, apart := false }
def FnRleSaid : Prop := fnRleRow.holds Try.pinned (OpenSpec.ofChange fnRleSpec)

/-- ITS FALSE NEIGHBOUR: 'it returns false'. Refute it at one input. -/
def fnRleWrong : ChangeSpec := { name := "fnRle", fn := fun _ => fun
  | [d] => { results := [.lit (.bool false)], args := [d] }
  | _ => none }
def FnRleWrongFalsely : Prop := fnRleRow.holds Try.pinned (OpenSpec.ofChange fnRleWrong)

/-- 'laws.FnExactRep': WHATEVER THE INPUT: true; the input reads as it did. -/
def fnExactRepSpec : ChangeSpec := { name := "fnExactRep", fn := fun _ => fun
  | [d1, d2] => { results := [.lit (.bool true)], args := [d1, d2] }
  | _ => none }
def fnExactRepRow : OpenClaim := { program := "ytjcamejbdcaokaa", sum := "7adfef90109cbf4c33841bcd0b45f74e5a756c45392a61163853671716c23bc9", func := "loop.example/intarsia/laws.FnExactRep", spec := "fnExactRep", unfollowed := true, recurses := true, plainKeys := false, apart := false }
def FnExactRepSaid : Prop := fnExactRepRow.holds Try.pinned (OpenSpec.ofChange fnExactRepSpec)

/-- ITS FALSE NEIGHBOUR: 'it returns false'. Refute it at one input. -/
def fnExactRepWrong : ChangeSpec := { name := "fnExactRep", fn := fun _ => fun
  | [d1, d2] => { results := [.lit (.bool false)], args := [d1, d2] }
  | _ => none }
def FnExactRepWrongFalsely : Prop := fnExactRepRow.holds Try.pinned (OpenSpec.ofChange fnExactRepWrong)

/-- 'laws.FnExactLzwPut': WHATEVER THE INPUT: true; the input reads as it did. -/
def fnExactLzwPutSpec : ChangeSpec := { name := "fnExactLzwPut", fn := fun _ => fun
  | [d1, d2, d3] => { results := [.lit (.bool true)], args := [d1, d2, d3] }
  | _ => none }
def fnExactLzwPutRow : OpenClaim := { program := "ytjcamejbdcaokaa", sum := "7adfef90109cbf4c33841bcd0b45f74e5a756c45392a61163853671716c23bc9", func := "loop.example/intarsia/laws.FnExactLzwPut", spec := "fnExactLzwPut", plainKeys := false, apart := false }
def FnExactLzwPutSaid : Prop := fnExactLzwPutRow.holds Try.pinned (OpenSpec.ofChange fnExactLzwPutSpec)

/-- ITS FALSE NEIGHBOUR: 'it returns false'. Refute it at one input. -/
def fnExactLzwPutWrong : ChangeSpec := { name := "fnExactLzwPut", fn := fun _ => fun
  | [d1, d2, d3] => { results := [.lit (.bool false)], args := [d1, d2, d3] }
  | _ => none }
def FnExactLzwPutWrongFalsely : Prop := fnExactLzwPutRow.holds Try.pinned (OpenSpec.ofChange fnExactLzwPutWrong)

/-- 'laws.FnRleGet': WHATEVER THE INPUT: true; the input reads as it did. -/
def fnRleGetSpec : ChangeSpec := { name := "fnRleGet", fn := fun _ => fun
  | [d] => { results := [.lit (.bool true)], args := [d] }
  | _ => none }
def fnRleGetRow : OpenClaim := { program := "ytjcamejbdcaokaa", sum := "7adfef90109cbf4c33841bcd0b45f74e5a756c45392a61163853671716c23bc9", func := "loop.example/intarsia/laws.FnRleGet", spec := "fnRleGet", plainKeys := false, apart := false }
def FnRleGetSaid : Prop := fnRleGetRow.holds Try.pinned (OpenSpec.ofChange fnRleGetSpec)

/-- ITS FALSE NEIGHBOUR: 'it returns false'. Refute it at one input. -/
def fnRleGetWrong : ChangeSpec := { name := "fnRleGet", fn := fun _ => fun
  | [d] => { results := [.lit (.bool false)], args := [d] }
  | _ => none }
def FnRleGetWrongFalsely : Prop := fnRleGetRow.holds Try.pinned (OpenSpec.ofChange fnRleGetWrong)

/-- 'laws.FnRowGet': WHATEVER THE INPUT: true; the input reads as it did. -/
def fnRowGetSpec : ChangeSpec := { name := "fnRowGet", fn := fun _ => fun
  | [d] => { results := [.lit (.bool true)], args := [d] }
  | _ => none }
def fnRowGetRow : OpenClaim := { program := "ytjcamejbdcaokaa", sum := "7adfef90109cbf4c33841bcd0b45f74e5a756c45392a61163853671716c23bc9", func := "loop.example/intarsia/laws.FnRowGet", spec := "fnRowGet", unfollowed := true, recurses := true, plainKeys := false, apart := false }
def FnRowGetSaid : Prop := fnRowGetRow.holds Try.pinned (OpenSpec.ofChange fnRowGetSpec)

/-- ITS FALSE NEIGHBOUR: 'it returns false'. Refute it at one input. -/
def fnRowGetWrong : ChangeSpec := { name := "fnRowGet", fn := fun _ => fun
  | [d] => { results := [.lit (.bool false)], args := [d] }
  | _ => none }
def FnRowGetWrongFalsely : Prop := fnRowGetRow.holds Try.pinned (OpenSpec.ofChange fnRowGetWrong)

/-- 'laws.FnRep': WHATEVER THE INPUT: true; the input reads as it did. -/
def fnRepSpec : ChangeSpec := { name := "fnRep", fn := fun _ => fun
  | [d] => { results := [.lit (.bool true)], args := [d] }
  | _ => none }
def fnRepRow : OpenClaim := { program := "ytjcamejbdcaokaa", sum := "7adfef90109cbf4c33841bcd0b45f74e5a756c45392a61163853671716c23bc9", func := "loop.example/intarsia/laws.FnRep", spec := "fnRep", unfollowed := true, recurses := true, plainKeys := false, apart := false }
def FnRepSaid : Prop := fnRepRow.holds Try.pinned (OpenSpec.ofChange fnRepSpec)

/-- ITS FALSE NEIGHBOUR: 'it returns false'. Refute it at one input. -/
def fnRepWrong : ChangeSpec := { name := "fnRep", fn := fun _ => fun
  | [d] => { results := [.lit (.bool false)], args := [d] }
  | _ => none }
def FnRepWrongFalsely : Prop := fnRepRow.holds Try.pinned (OpenSpec.ofChange fnRepWrong)

/-- 'laws.FnExactBmpPut': WHATEVER THE INPUT: true; the input reads as it did. -/
def fnExactBmpPutSpec : ChangeSpec := { name := "fnExactBmpPut", fn := fun _ => fun
  | [d1, d2] => { results := [.lit (.bool true)], args := [d1, d2] }
  | _ => none }
def fnExactBmpPutRow : OpenClaim := { program := "ytjcamejbdcaokaa", sum := "7adfef90109cbf4c33841bcd0b45f74e5a756c45392a61163853671716c23bc9", func := "loop.example/intarsia/laws.FnExactBmpPut", spec := "fnExactBmpPut", unfollowed := true, recurses := true, plainKeys := false, apart := false }
def FnExactBmpPutSaid : Prop := fnExactBmpPutRow.holds Try.pinned (OpenSpec.ofChange fnExactBmpPutSpec)

/-- ITS FALSE NEIGHBOUR: 'it returns false'. Refute it at one input. -/
def fnExactBmpPutWrong : ChangeSpec := { name := "fnExactBmpPut", fn := fun _ => fun
  | [d1, d2] => { results := [.lit (.bool false)], args := [d1, d2] }
  | _ => none }
def FnExactBmpPutWrongFalsely : Prop := fnExactBmpPutRow.holds Try.pinned (OpenSpec.ofChange fnExactBmpPutWrong)

/-- 'laws.FnCodePut': WHATEVER THE INPUT: true; the input reads as it did. -/
def fnCodePutSpec : ChangeSpec := { name := "fnCodePut", fn := fun _ => fun
  | [d] => { results := [.lit (.bool true)], args := [d] }
  | _ => none }
def fnCodePutRow : OpenClaim := { program := "ytjcamejbdcaokaa", sum := "7adfef90109cbf4c33841bcd0b45f74e5a756c45392a61163853671716c23bc9", func := "loop.example/intarsia/laws.FnCodePut", spec := "fnCodePut", plainKeys := false, apart := false }
def FnCodePutSaid : Prop := fnCodePutRow.holds Try.pinned (OpenSpec.ofChange fnCodePutSpec)

/-- ITS FALSE NEIGHBOUR: 'it returns false'. Refute it at one input. -/
def fnCodePutWrong : ChangeSpec := { name := "fnCodePut", fn := fun _ => fun
  | [d] => { results := [.lit (.bool false)], args := [d] }
  | _ => none }
def FnCodePutWrongFalsely : Prop := fnCodePutRow.holds Try.pinned (OpenSpec.ofChange fnCodePutWrong)

/-- 'laws.FnExactTgaPut': WHATEVER THE INPUT: true; the input reads as it did. -/
def fnExactTgaPutSpec : ChangeSpec := { name := "fnExactTgaPut", fn := fun _ => fun
  | [d1, d2] => { results := [.lit (.bool true)], args := [d1, d2] }
  | _ => none }
def fnExactTgaPutRow : OpenClaim := { program := "ytjcamejbdcaokaa", sum := "7adfef90109cbf4c33841bcd0b45f74e5a756c45392a61163853671716c23bc9", func := "loop.example/intarsia/laws.FnExactTgaPut", spec := "fnExactTgaPut", unfollowed := true, recurses := true, plainKeys := false, apart := false }
def FnExactTgaPutSaid : Prop := fnExactTgaPutRow.holds Try.pinned (OpenSpec.ofChange fnExactTgaPutSpec)

/-- ITS FALSE NEIGHBOUR: 'it returns false'. Refute it at one input. -/
def fnExactTgaPutWrong : ChangeSpec := { name := "fnExactTgaPut", fn := fun _ => fun
  | [d1, d2] => { results := [.lit (.bool false)], args := [d1, d2] }
  | _ => none }
def FnExactTgaPutWrongFalsely : Prop := fnExactTgaPutRow.holds Try.pinned (OpenSpec.ofChange fnExactTgaPutWrong)

/- THE SECOND FORM. 'bulk': how many values and letters a reading holds, each counted each time it is reached (what is shared counts as often as it is met; a slice's spare places count too). A statement '..UptoSaid' is the law's where the arguments, and the package variables that the reading takes, are together of bulk at most 1048576: NARROWER than '..Said'. Prove '..Said' where nothing that the law and all that it calls make is longer than what came in: it says more and counts as full. Else prove '..UptoSaid'. A law counts once. -/
mutual
def uptoBulk {H : Type} : DataW H → Nat
  | .lit (.string bytes) => bytes.length + 1
  | .lit _ => 1
  | .nil => 1
  | .ptr d => uptoBulk d + 1
  | .slice elems spare => uptoBulkAll elems + uptoBulkAll spare + 1
  | .agg parts => uptoBulkAll parts + 1
  | .iface _ d => uptoBulk d + 1
  | .map entries => uptoBulkEntries entries + 1
  | .held _ => 1
def uptoBulkAll {H : Type} : List (DataW H) → Nat
  | [] => 0
  | d :: r => uptoBulk d + uptoBulkAll r
def uptoBulkEntries {H : Type} : List (Lit × DataW H) → Nat
  | [] => 0
  | x :: r => uptoBulkEntry x + uptoBulkEntries r
def uptoBulkEntry {H : Type} : Lit × DataW H → Nat
  | (.string bytes, d) => bytes.length + uptoBulk d + 1
  | (_, d) => uptoBulk d + 1
 end
def uptoSmall : (H : Type) → List (DataW H) → Bool := fun _ ds => decide (uptoBulkAll ds ≤ 1048576)
def OpenSpec.upto (s : _root_.Go.ChangeSpec) : _root_.Go.OpenSpec := { _root_.Go.OpenSpec.ofChange s with cond := some uptoSmall }

/-- 'laws.FnExactRleGet', WHERE WHAT IT READS IS OF BULK AT MOST 1048576: true; the input reads as it did. -/
def fnExactRleGetUptoRow : OpenClaim := { program := "ytjcamejbdcaokaa", sum := "7adfef90109cbf4c33841bcd0b45f74e5a756c45392a61163853671716c23bc9", func := "loop.example/intarsia/laws.FnExactRleGet", spec := "fnExactRleGet", plainKeys := false, apart := false, narrowed := true }
def FnExactRleGetUptoSaid : Prop := fnExactRleGetUptoRow.holds Try.pinned (OpenSpec.upto fnExactRleGetSpec)

/-- 'laws.FnBlocks', WHERE WHAT IT READS IS OF BULK AT MOST 1048576: true; the input reads as it did. -/
def fnBlocksUptoRow : OpenClaim := { program := "ytjcamejbdcaokaa", sum := "7adfef90109cbf4c33841bcd0b45f74e5a756c45392a61163853671716c23bc9", func := "loop.example/intarsia/laws.FnBlocks", spec := "fnBlocks", inPlace := ["internal/abi.NoEscape"], plainKeys := false, apart := false, narrowed := true }
def FnBlocksUptoSaid : Prop := fnBlocksUptoRow.holds Try.pinned (OpenSpec.upto fnBlocksSpec)

/-- 'laws.FnFilter', WHERE WHAT IT READS IS OF BULK AT MOST 1048576: true; the input reads as it did. -/
def fnFilterUptoRow : OpenClaim := { program := "ytjcamejbdcaokaa", sum := "7adfef90109cbf4c33841bcd0b45f74e5a756c45392a61163853671716c23bc9", func := "loop.example/intarsia/laws.FnFilter", spec := "fnFilter", plainKeys := false, apart := false, narrowed := true }
def FnFilterUptoSaid : Prop := fnFilterUptoRow.holds Try.pinned (OpenSpec.upto fnFilterSpec)

/-- 'laws.FnRle', WHERE WHAT IT READS IS OF BULK AT MOST 1048576: true; the input reads as it did. -/
def fnRleUptoRow : OpenClaim := { program := "ytjcamejbdcaokaa", sum := "7adfef90109cbf4c33841bcd0b45f74e5a756c45392a61163853671716c23bc9", func := "loop.example/intarsia/laws.FnRle", spec := "fnRle", plainKeys := false, apart := false, narrowed := true }
def FnRleUptoSaid : Prop := fnRleUptoRow.holds Try.pinned (OpenSpec.upto fnRleSpec)

/-- 'laws.FnExactRep', WHERE WHAT IT READS IS OF BULK AT MOST 1048576: true; the input reads as it did. -/
def fnExactRepUptoRow : OpenClaim := { program := "ytjcamejbdcaokaa", sum := "7adfef90109cbf4c33841bcd0b45f74e5a756c45392a61163853671716c23bc9", func := "loop.example/intarsia/laws.FnExactRep", spec := "fnExactRep", unfollowed := true, recurses := true, plainKeys := false, apart := false, narrowed := true }
def FnExactRepUptoSaid : Prop := fnExactRepUptoRow.holds Try.pinned (OpenSpec.upto fnExactRepSpec)

/-- 'laws.FnExactLzwPut', WHERE WHAT IT READS IS OF BULK AT MOST 1048576: true; the input reads as it did. -/
def fnExactLzwPutUptoRow : OpenClaim := { program := "ytjcamejbdcaokaa", sum := "7adfef90109cbf4c33841bcd0b45f74e5a756c45392a61163853671716c23bc9", func := "loop.example/intarsia/laws.FnExactLzwPut", spec := "fnExactLzwPut", plainKeys := false, apart := false, narrowed := true }
def FnExactLzwPutUptoSaid : Prop := fnExactLzwPutUptoRow.holds Try.pinned (OpenSpec.upto fnExactLzwPutSpec)

/-- 'laws.FnRleGet', WHERE WHAT IT READS IS OF BULK AT MOST 1048576: true; the input reads as it did. -/
def fnRleGetUptoRow : OpenClaim := { program := "ytjcamejbdcaokaa", sum := "7adfef90109cbf4c33841bcd0b45f74e5a756c45392a61163853671716c23bc9", func := "loop.example/intarsia/laws.FnRleGet", spec := "fnRleGet", plainKeys := false, apart := false, narrowed := true }
def FnRleGetUptoSaid : Prop := fnRleGetUptoRow.holds Try.pinned (OpenSpec.upto fnRleGetSpec)

/-- 'laws.FnRowGet', WHERE WHAT IT READS IS OF BULK AT MOST 1048576: true; the input reads as it did. -/
def fnRowGetUptoRow : OpenClaim := { program := "ytjcamejbdcaokaa", sum := "7adfef90109cbf4c33841bcd0b45f74e5a756c45392a61163853671716c23bc9", func := "loop.example/intarsia/laws.FnRowGet", spec := "fnRowGet", unfollowed := true, recurses := true, plainKeys := false, apart := false, narrowed := true }
def FnRowGetUptoSaid : Prop := fnRowGetUptoRow.holds Try.pinned (OpenSpec.upto fnRowGetSpec)

/-- 'laws.FnRep', WHERE WHAT IT READS IS OF BULK AT MOST 1048576: true; the input reads as it did. -/
def fnRepUptoRow : OpenClaim := { program := "ytjcamejbdcaokaa", sum := "7adfef90109cbf4c33841bcd0b45f74e5a756c45392a61163853671716c23bc9", func := "loop.example/intarsia/laws.FnRep", spec := "fnRep", unfollowed := true, recurses := true, plainKeys := false, apart := false, narrowed := true }
def FnRepUptoSaid : Prop := fnRepUptoRow.holds Try.pinned (OpenSpec.upto fnRepSpec)

/-- 'laws.FnExactBmpPut', WHERE WHAT IT READS IS OF BULK AT MOST 1048576: true; the input reads as it did. -/
def fnExactBmpPutUptoRow : OpenClaim := { program := "ytjcamejbdcaokaa", sum := "7adfef90109cbf4c33841bcd0b45f74e5a756c45392a61163853671716c23bc9", func := "loop.example/intarsia/laws.FnExactBmpPut", spec := "fnExactBmpPut", unfollowed := true, recurses := true, plainKeys := false, apart := false, narrowed := true }
def FnExactBmpPutUptoSaid : Prop := fnExactBmpPutUptoRow.holds Try.pinned (OpenSpec.upto fnExactBmpPutSpec)

/-- 'laws.FnCodePut', WHERE WHAT IT READS IS OF BULK AT MOST 1048576: true; the input reads as it did. -/
def fnCodePutUptoRow : OpenClaim := { program := "ytjcamejbdcaokaa", sum := "7adfef90109cbf4c33841bcd0b45f74e5a756c45392a61163853671716c23bc9", func := "loop.example/intarsia/laws.FnCodePut", spec := "fnCodePut", plainKeys := false, apart := false, narrowed := true }
def FnCodePutUptoSaid : Prop := fnCodePutUptoRow.holds Try.pinned (OpenSpec.upto fnCodePutSpec)

/-- 'laws.FnExactTgaPut', WHERE WHAT IT READS IS OF BULK AT MOST 1048576: true; the input reads as it did. -/
def fnExactTgaPutUptoRow : OpenClaim := { program := "ytjcamejbdcaokaa", sum := "7adfef90109cbf4c33841bcd0b45f74e5a756c45392a61163853671716c23bc9", func := "loop.example/intarsia/laws.FnExactTgaPut", spec := "fnExactTgaPut", unfollowed := true, recurses := true, plainKeys := false, apart := false, narrowed := true }
def FnExactTgaPutUptoSaid : Prop := fnExactTgaPutUptoRow.holds Try.pinned (OpenSpec.upto fnExactTgaPutSpec)

end Rows
end Go.Proofs.Ytjcamejbdcaokaa
