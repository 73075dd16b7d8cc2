/-
  No cell of these rows narrows 'for every input' (looked for: loops, veiled, ifaces, maps, wideKeys, modest, calm, conditions, laid).
  DERIVED. THE GIVEN ROWS OF THIS SEAT. 11 by the template 'for every input the law returns true; each argument reads behind the call as it read before'; 0 by the template 'total and deterministic' (their statements: YtjefdcbljpkmlaaTotals.lean).
  GIVEN WITH THE SEED: the statements are not yours to turn. If you find one false, say at which input.
  Laid BY PROGRAM, IN A SANDBOX (cutbox-rows.mjs): the forced cells as the released guide's own fill.sh prints them over the translation 63637498df88d3da… (all of the seat's roots in one cut). By AI agents, Wed Nov 11 2026. No macro, syntax, notation, axiom, sorry.
-/
import Derived.Test.YtjefdcbljpkmlaaChecked
import GoSem.Claim
import GoSem.ClaimJoined
import GoSem.ClaimMapViews
import Derived.JoinedTies
import Derived.KernelRfl
namespace Go.Proofs.Ytjefdcbljpkmlaa
/- THE CELL 'sum', in the pinned program and in every row, IS THE sha256 OF THE DUMP (.gsa) THAT YtjefdcbljpkmlaaProg.lean LOADS. Nothing in Lean hashes anything: it is a label: what it is worth is what the hold of that sum in a sandbox is worth. -/
noncomputable def Try.pinned : Pinned := { name := "ytjefdcbljpkmlaa", sum := "63637498df88d3da6541ec5bda75c89e839c419c61fd1a1626fc7af408ee29a9", checked := Try.checked }
namespace Rows
def none {H : Type} : Left H := { results := [], args := [] }

/-- 'laws.FnExactBmpPut': WHATEVER THE INPUT: true; the input reads as it did. -/
def fnExactBmpPutSpec : ChangeSpec := { name := "fnExactBmpPut", fn := fun _ => fun
  | [d1, d2] => { results := [.lit (.bool true)], args := [d1, d2] }
  | _ => none }
def fnExactBmpPutRow : OpenClaim := { program := "ytjefdcbljpkmlaa", sum := "63637498df88d3da6541ec5bda75c89e839c419c61fd1a1626fc7af408ee29a9", func := "loop.example/intarsia/laws.FnExactBmpPut", spec := "fnExactBmpPut", unfollowed := true, recurses := true, apart := false }
def FnExactBmpPutSaid : Prop := fnExactBmpPutRow.holds Try.pinned (OpenSpec.ofChange fnExactBmpPutSpec)

/-- ITS FALSE NEIGHBOUR: 'it returns false'. Refute it at one input. -/
def fnExactBmpPutWrong : ChangeSpec := { name := "fnExactBmpPut", fn := fun _ => fun
  | [d1, d2] => { results := [.lit (.bool false)], args := [d1, d2] }
  | _ => none }
def FnExactBmpPutWrongFalsely : Prop := fnExactBmpPutRow.holds Try.pinned (OpenSpec.ofChange fnExactBmpPutWrong)

/-- 'laws.FnExactBmpGet': WHATEVER THE INPUT: true; the input reads as it did. -/
def fnExactBmpGetSpec : ChangeSpec := { name := "fnExactBmpGet", fn := fun _ => fun
  | [d] => { results := [.lit (.bool true)], args := [d] }
  | _ => none }
def fnExactBmpGetRow : OpenClaim := { program := "ytjefdcbljpkmlaa", sum := "63637498df88d3da6541ec5bda75c89e839c419c61fd1a1626fc7af408ee29a9", func := "loop.example/intarsia/laws.FnExactBmpGet", spec := "fnExactBmpGet", inPlace := ["internal/abi.NoEscape", "internal/bytealg.MakeNoZero"], unfollowed := true, recurses := true, apart := false }
def FnExactBmpGetSaid : Prop := fnExactBmpGetRow.holds Try.pinned (OpenSpec.ofChange fnExactBmpGetSpec)

/-- ITS FALSE NEIGHBOUR: 'it returns false'. Refute it at one input. -/
def fnExactBmpGetWrong : ChangeSpec := { name := "fnExactBmpGet", fn := fun _ => fun
  | [d] => { results := [.lit (.bool false)], args := [d] }
  | _ => none }
def FnExactBmpGetWrongFalsely : Prop := fnExactBmpGetRow.holds Try.pinned (OpenSpec.ofChange fnExactBmpGetWrong)

/-- 'laws.FnBmp': WHATEVER THE INPUT: true; the input reads as it did. -/
def fnBmpSpec : ChangeSpec := { name := "fnBmp", fn := fun _ => fun
  | [d] => { results := [.lit (.bool true)], args := [d] }
  | _ => none }
def fnBmpRow : OpenClaim := { program := "ytjefdcbljpkmlaa", sum := "63637498df88d3da6541ec5bda75c89e839c419c61fd1a1626fc7af408ee29a9", func := "loop.example/intarsia/laws.FnBmp", spec := "fnBmp", inPlace := ["internal/abi.NoEscape", "internal/bytealg.MakeNoZero"], unfollowed := true, recurses := true, apart := false }
def FnBmpSaid : Prop := fnBmpRow.holds Try.pinned (OpenSpec.ofChange fnBmpSpec)

/-- ITS FALSE NEIGHBOUR: 'it returns false'. Refute it at one input. -/
def fnBmpWrong : ChangeSpec := { name := "fnBmp", fn := fun _ => fun
  | [d] => { results := [.lit (.bool false)], args := [d] }
  | _ => none }
def FnBmpWrongFalsely : Prop := fnBmpRow.holds Try.pinned (OpenSpec.ofChange fnBmpWrong)

/-- 'laws.FnBmpGet': WHATEVER THE INPUT: true; the input reads as it did. -/
def fnBmpGetSpec : ChangeSpec := { name := "fnBmpGet", fn := fun _ => fun
  | [d] => { results := [.lit (.bool true)], args := [d] }
  | _ => none }
def fnBmpGetRow : OpenClaim := { program := "ytjefdcbljpkmlaa", sum := "63637498df88d3da6541ec5bda75c89e839c419c61fd1a1626fc7af408ee29a9", func := "loop.example/intarsia/laws.FnBmpGet", spec := "fnBmpGet", inPlace := ["internal/abi.NoEscape", "internal/bytealg.MakeNoZero"], unfollowed := true, recurses := true, apart := false }
def FnBmpGetSaid : Prop := fnBmpGetRow.holds Try.pinned (OpenSpec.ofChange fnBmpGetSpec)

/-- ITS FALSE NEIGHBOUR: 'it returns false'. Refute it at one input. -/
def fnBmpGetWrong : ChangeSpec := { name := "fnBmpGet", fn := fun _ => fun
  | [d] => { results := [.lit (.bool false)], args := [d] }
  | _ => none }
def FnBmpGetWrongFalsely : Prop := fnBmpGetRow.holds Try.pinned (OpenSpec.ofChange fnBmpGetWrong)

/-- 'laws.FnExactPnmGet': WHATEVER THE INPUT: true; the input reads as it did. -/
def fnExactPnmGetSpec : ChangeSpec := { name := "fnExactPnmGet", fn := fun _ => fun
  | [d] => { results := [.lit (.bool true)], args := [d] }
  | _ => none }
def fnExactPnmGetRow : OpenClaim := { program := "ytjefdcbljpkmlaa", sum := "63637498df88d3da6541ec5bda75c89e839c419c61fd1a1626fc7af408ee29a9", func := "loop.example/intarsia/laws.FnExactPnmGet", spec := "fnExactPnmGet", inPlace := ["internal/abi.NoEscape", "internal/bytealg.MakeNoZero"], unfollowed := true, recurses := true, apart := false }
def FnExactPnmGetSaid : Prop := fnExactPnmGetRow.holds Try.pinned (OpenSpec.ofChange fnExactPnmGetSpec)

/-- ITS FALSE NEIGHBOUR: 'it returns false'. Refute it at one input. -/
def fnExactPnmGetWrong : ChangeSpec := { name := "fnExactPnmGet", fn := fun _ => fun
  | [d] => { results := [.lit (.bool false)], args := [d] }
  | _ => none }
def FnExactPnmGetWrongFalsely : Prop := fnExactPnmGetRow.holds Try.pinned (OpenSpec.ofChange fnExactPnmGetWrong)

/-- 'laws.FnExactLzwPut': WHATEVER THE INPUT: true; the input reads as it did. -/
def fnExactLzwPutSpec : ChangeSpec := { name := "fnExactLzwPut", fn := fun _ => fun
  | [d1, d2, d3] => { results := [.lit (.bool true)], args := [d1, d2, d3] }
  | _ => none }
def fnExactLzwPutRow : OpenClaim := { program := "ytjefdcbljpkmlaa", sum := "63637498df88d3da6541ec5bda75c89e839c419c61fd1a1626fc7af408ee29a9", func := "loop.example/intarsia/laws.FnExactLzwPut", spec := "fnExactLzwPut", apart := false }
def FnExactLzwPutSaid : Prop := fnExactLzwPutRow.holds Try.pinned (OpenSpec.ofChange fnExactLzwPutSpec)

/-- ITS FALSE NEIGHBOUR: 'it returns false'. Refute it at one input. -/
def fnExactLzwPutWrong : ChangeSpec := { name := "fnExactLzwPut", fn := fun _ => fun
  | [d1, d2, d3] => { results := [.lit (.bool false)], args := [d1, d2, d3] }
  | _ => none }
def FnExactLzwPutWrongFalsely : Prop := fnExactLzwPutRow.holds Try.pinned (OpenSpec.ofChange fnExactLzwPutWrong)

/-- 'laws.FnLzw': WHATEVER THE INPUT: true; the input reads as it did. -/
def fnLzwSpec : ChangeSpec := { name := "fnLzw", fn := fun _ => fun
  | [d] => { results := [.lit (.bool true)], args := [d] }
  | _ => none }
def fnLzwRow : OpenClaim := { program := "ytjefdcbljpkmlaa", sum := "63637498df88d3da6541ec5bda75c89e839c419c61fd1a1626fc7af408ee29a9", func := "loop.example/intarsia/laws.FnLzw", spec := "fnLzw", apart := false }
def FnLzwSaid : Prop := fnLzwRow.holds Try.pinned (OpenSpec.ofChange fnLzwSpec)

/-- ITS FALSE NEIGHBOUR: 'it returns false'. Refute it at one input. -/
def fnLzwWrong : ChangeSpec := { name := "fnLzw", fn := fun _ => fun
  | [d] => { results := [.lit (.bool false)], args := [d] }
  | _ => none }
def FnLzwWrongFalsely : Prop := fnLzwRow.holds Try.pinned (OpenSpec.ofChange fnLzwWrong)

/-- 'laws.FnLzwCodes': WHATEVER THE INPUT: true; the input reads as it did. -/
def fnLzwCodesSpec : ChangeSpec := { name := "fnLzwCodes", fn := fun _ => fun
  | [d1, d2] => { results := [.lit (.bool true)], args := [d1, d2] }
  | _ => none }
def fnLzwCodesRow : OpenClaim := { program := "ytjefdcbljpkmlaa", sum := "63637498df88d3da6541ec5bda75c89e839c419c61fd1a1626fc7af408ee29a9", func := "loop.example/intarsia/laws.FnLzwCodes", spec := "fnLzwCodes", apart := false }
def FnLzwCodesSaid : Prop := fnLzwCodesRow.holds Try.pinned (OpenSpec.ofChange fnLzwCodesSpec)

/-- ITS FALSE NEIGHBOUR: 'it returns false'. Refute it at one input. -/
def fnLzwCodesWrong : ChangeSpec := { name := "fnLzwCodes", fn := fun _ => fun
  | [d1, d2] => { results := [.lit (.bool false)], args := [d1, d2] }
  | _ => none }
def FnLzwCodesWrongFalsely : Prop := fnLzwCodesRow.holds Try.pinned (OpenSpec.ofChange fnLzwCodesWrong)

/-- 'laws.FnExactGifPut': WHATEVER THE INPUT: true; the input reads as it did. -/
def fnExactGifPutSpec : ChangeSpec := { name := "fnExactGifPut", fn := fun _ => fun
  | [d1, d2] => { results := [.lit (.bool true)], args := [d1, d2] }
  | _ => none }
def fnExactGifPutRow : OpenClaim := { program := "ytjefdcbljpkmlaa", sum := "63637498df88d3da6541ec5bda75c89e839c419c61fd1a1626fc7af408ee29a9", func := "loop.example/intarsia/laws.FnExactGifPut", spec := "fnExactGifPut", inPlace := ["internal/abi.NoEscape"], unfollowed := true, recurses := true, apart := false }
def FnExactGifPutSaid : Prop := fnExactGifPutRow.holds Try.pinned (OpenSpec.ofChange fnExactGifPutSpec)

/-- ITS FALSE NEIGHBOUR: 'it returns false'. Refute it at one input. -/
def fnExactGifPutWrong : ChangeSpec := { name := "fnExactGifPut", fn := fun _ => fun
  | [d1, d2] => { results := [.lit (.bool false)], args := [d1, d2] }
  | _ => none }
def FnExactGifPutWrongFalsely : Prop := fnExactGifPutRow.holds Try.pinned (OpenSpec.ofChange fnExactGifPutWrong)

/-- 'laws.FnExactGifGet': WHATEVER THE INPUT: true; the input reads as it did. -/
def fnExactGifGetSpec : ChangeSpec := { name := "fnExactGifGet", fn := fun _ => fun
  | [d] => { results := [.lit (.bool true)], args := [d] }
  | _ => none }
def fnExactGifGetRow : OpenClaim := { program := "ytjefdcbljpkmlaa", sum := "63637498df88d3da6541ec5bda75c89e839c419c61fd1a1626fc7af408ee29a9", func := "loop.example/intarsia/laws.FnExactGifGet", spec := "fnExactGifGet", inPlace := ["internal/abi.NoEscape", "internal/bytealg.MakeNoZero"], unfollowed := true, recurses := true, apart := false }
def FnExactGifGetSaid : Prop := fnExactGifGetRow.holds Try.pinned (OpenSpec.ofChange fnExactGifGetSpec)

/-- ITS FALSE NEIGHBOUR: 'it returns false'. Refute it at one input. -/
def fnExactGifGetWrong : ChangeSpec := { name := "fnExactGifGet", fn := fun _ => fun
  | [d] => { results := [.lit (.bool false)], args := [d] }
  | _ => none }
def FnExactGifGetWrongFalsely : Prop := fnExactGifGetRow.holds Try.pinned (OpenSpec.ofChange fnExactGifGetWrong)

/-- 'laws.FnRep': WHATEVER THE INPUT: true; the input reads as it did. -/
def fnRepSpec : ChangeSpec := { name := "fnRep", fn := fun _ => fun
  | [d] => { results := [.lit (.bool true)], args := [d] }
  | _ => none }
def fnRepRow : OpenClaim := { program := "ytjefdcbljpkmlaa", sum := "63637498df88d3da6541ec5bda75c89e839c419c61fd1a1626fc7af408ee29a9", func := "loop.example/intarsia/laws.FnRep", spec := "fnRep", unfollowed := true, recurses := true, apart := false }
def FnRepSaid : Prop := fnRepRow.holds Try.pinned (OpenSpec.ofChange fnRepSpec)

/-- ITS FALSE NEIGHBOUR: 'it returns false'. Refute it at one input. -/
def fnRepWrong : ChangeSpec := { name := "fnRep", fn := fun _ => fun
  | [d] => { results := [.lit (.bool false)], args := [d] }
  | _ => none }
def FnRepWrongFalsely : Prop := fnRepRow.holds Try.pinned (OpenSpec.ofChange fnRepWrong)

/- THE SECOND FORM. 'bulk': how many values and letters a reading holds, each counted each time it is reached (what is shared counts as often as it is met; a slice's spare places count too). A statement '..UptoSaid' is the law's where the arguments, and the package variables that the reading takes, are together of bulk at most 1048576: NARROWER than '..Said'. Prove '..Said' where nothing that the law and all that it calls make is longer than what came in: it says more and counts as full. Else prove '..UptoSaid'. A law counts once. -/
mutual
def uptoBulk {H : Type} : DataW H → Nat
  | .lit (.string bytes) => bytes.length + 1
  | .lit _ => 1
  | .nil => 1
  | .ptr d => uptoBulk d + 1
  | .slice elems spare => uptoBulkAll elems + uptoBulkAll spare + 1
  | .agg parts => uptoBulkAll parts + 1
  | .iface _ d => uptoBulk d + 1
  | .map entries => uptoBulkEntries entries + 1
  | .held _ => 1
def uptoBulkAll {H : Type} : List (DataW H) → Nat
  | [] => 0
  | d :: r => uptoBulk d + uptoBulkAll r
def uptoBulkEntries {H : Type} : List (Lit × DataW H) → Nat
  | [] => 0
  | x :: r => uptoBulkEntry x + uptoBulkEntries r
def uptoBulkEntry {H : Type} : Lit × DataW H → Nat
  | (.string bytes, d) => bytes.length + uptoBulk d + 1
  | (_, d) => uptoBulk d + 1
 end
def uptoSmall : (H : Type) → List (DataW H) → Bool := fun _ ds => decide (uptoBulkAll ds ≤ 1048576)
def OpenSpec.upto (s : _root_.Go.ChangeSpec) : _root_.Go.OpenSpec := { _root_.Go.OpenSpec.ofChange s with cond := some uptoSmall }

/-- 'laws.FnExactBmpPut', WHERE WHAT IT READS IS OF BULK AT MOST 1048576: true; the input reads as it did. -/
def fnExactBmpPutUptoRow : OpenClaim := { program := "ytjefdcbljpkmlaa", sum := "63637498df88d3da6541ec5bda75c89e839c419c61fd1a1626fc7af408ee29a9", func := "loop.example/intarsia/laws.FnExactBmpPut", spec := "fnExactBmpPut", unfollowed := true, recurses := true, apart := false, narrowed := true }
def FnExactBmpPutUptoSaid : Prop := fnExactBmpPutUptoRow.holds Try.pinned (OpenSpec.upto fnExactBmpPutSpec)

/-- 'laws.FnExactBmpGet', WHERE WHAT IT READS IS OF BULK AT MOST 1048576: true; the input reads as it did. -/
def fnExactBmpGetUptoRow : OpenClaim := { program := "ytjefdcbljpkmlaa", sum := "63637498df88d3da6541ec5bda75c89e839c419c61fd1a1626fc7af408ee29a9", func := "loop.example/intarsia/laws.FnExactBmpGet", spec := "fnExactBmpGet", inPlace := ["internal/abi.NoEscape", "internal/bytealg.MakeNoZero"], unfollowed := true, recurses := true, apart := false, narrowed := true }
def FnExactBmpGetUptoSaid : Prop := fnExactBmpGetUptoRow.holds Try.pinned (OpenSpec.upto fnExactBmpGetSpec)

/-- 'laws.FnBmp', WHERE WHAT IT READS IS OF BULK AT MOST 1048576: true; the input reads as it did. -/
def fnBmpUptoRow : OpenClaim := { program := "ytjefdcbljpkmlaa", sum := "63637498df88d3da6541ec5bda75c89e839c419c61fd1a1626fc7af408ee29a9", func := "loop.example/intarsia/laws.FnBmp", spec := "fnBmp", inPlace := ["internal/abi.NoEscape", "internal/bytealg.MakeNoZero"], unfollowed := true, recurses := true, apart := false, narrowed := true }
def FnBmpUptoSaid : Prop := fnBmpUptoRow.holds Try.pinned (OpenSpec.upto fnBmpSpec)

/-- 'laws.FnBmpGet', WHERE WHAT IT READS IS OF BULK AT MOST 1048576: true; the input reads as it did. -/
def fnBmpGetUptoRow : OpenClaim := { program := "ytjefdcbljpkmlaa", sum := "63637498df88d3da6541ec5bda75c89e839c419c61fd1a1626fc7af408ee29a9", func := "loop.example/intarsia/laws.FnBmpGet", spec := "fnBmpGet", inPlace := ["internal/abi.NoEscape", "internal/bytealg.MakeNoZero"], unfollowed := true, recurses := true, apart := false, narrowed := true }
def FnBmpGetUptoSaid : Prop := fnBmpGetUptoRow.holds Try.pinned (OpenSpec.upto fnBmpGetSpec)

/-- 'laws.FnExactPnmGet', WHERE WHAT IT READS IS OF BULK AT MOST 1048576: true; the input reads as it did. -/
def fnExactPnmGetUptoRow : OpenClaim := { program := "ytjefdcbljpkmlaa", sum := "63637498df88d3da6541ec5bda75c89e839c419c61fd1a1626fc7af408ee29a9", func := "loop.example/intarsia/laws.FnExactPnmGet", spec := "fnExactPnmGet", inPlace := ["internal/abi.NoEscape", "internal/bytealg.MakeNoZero"], unfollowed := true, recurses := true, apart := false, narrowed := true }
def FnExactPnmGetUptoSaid : Prop := fnExactPnmGetUptoRow.holds Try.pinned (OpenSpec.upto fnExactPnmGetSpec)

/-- 'laws.FnExactLzwPut', WHERE WHAT IT READS IS OF BULK AT MOST 1048576: true; the input reads as it did. -/
def fnExactLzwPutUptoRow : OpenClaim := { program := "ytjefdcbljpkmlaa", sum := "63637498df88d3da6541ec5bda75c89e839c419c61fd1a1626fc7af408ee29a9", func := "loop.example/intarsia/laws.FnExactLzwPut", spec := "fnExactLzwPut", apart := false, narrowed := true }
def FnExactLzwPutUptoSaid : Prop := fnExactLzwPutUptoRow.holds Try.pinned (OpenSpec.upto fnExactLzwPutSpec)

/-- 'laws.FnLzw', WHERE WHAT IT READS IS OF BULK AT MOST 1048576: true; the input reads as it did. -/
def fnLzwUptoRow : OpenClaim := { program := "ytjefdcbljpkmlaa", sum := "63637498df88d3da6541ec5bda75c89e839c419c61fd1a1626fc7af408ee29a9", func := "loop.example/intarsia/laws.FnLzw", spec := "fnLzw", apart := false, narrowed := true }
def FnLzwUptoSaid : Prop := fnLzwUptoRow.holds Try.pinned (OpenSpec.upto fnLzwSpec)

/-- 'laws.FnLzwCodes', WHERE WHAT IT READS IS OF BULK AT MOST 1048576: true; the input reads as it did. -/
def fnLzwCodesUptoRow : OpenClaim := { program := "ytjefdcbljpkmlaa", sum := "63637498df88d3da6541ec5bda75c89e839c419c61fd1a1626fc7af408ee29a9", func := "loop.example/intarsia/laws.FnLzwCodes", spec := "fnLzwCodes", apart := false, narrowed := true }
def FnLzwCodesUptoSaid : Prop := fnLzwCodesUptoRow.holds Try.pinned (OpenSpec.upto fnLzwCodesSpec)

/-- 'laws.FnExactGifPut', WHERE WHAT IT READS IS OF BULK AT MOST 1048576: true; the input reads as it did. -/
def fnExactGifPutUptoRow : OpenClaim := { program := "ytjefdcbljpkmlaa", sum := "63637498df88d3da6541ec5bda75c89e839c419c61fd1a1626fc7af408ee29a9", func := "loop.example/intarsia/laws.FnExactGifPut", spec := "fnExactGifPut", inPlace := ["internal/abi.NoEscape"], unfollowed := true, recurses := true, apart := false, narrowed := true }
def FnExactGifPutUptoSaid : Prop := fnExactGifPutUptoRow.holds Try.pinned (OpenSpec.upto fnExactGifPutSpec)

/-- 'laws.FnExactGifGet', WHERE WHAT IT READS IS OF BULK AT MOST 1048576: true; the input reads as it did. -/
def fnExactGifGetUptoRow : OpenClaim := { program := "ytjefdcbljpkmlaa", sum := "63637498df88d3da6541ec5bda75c89e839c419c61fd1a1626fc7af408ee29a9", func := "loop.example/intarsia/laws.FnExactGifGet", spec := "fnExactGifGet", inPlace := ["internal/abi.NoEscape", "internal/bytealg.MakeNoZero"], unfollowed := true, recurses := true, apart := false, narrowed := true }
def FnExactGifGetUptoSaid : Prop := fnExactGifGetUptoRow.holds Try.pinned (OpenSpec.upto fnExactGifGetSpec)

/-- 'laws.FnRep', WHERE WHAT IT READS IS OF BULK AT MOST 1048576: true; the input reads as it did. -/
def fnRepUptoRow : OpenClaim := { program := "ytjefdcbljpkmlaa", sum := "63637498df88d3da6541ec5bda75c89e839c419c61fd1a1626fc7af408ee29a9", func := "loop.example/intarsia/laws.FnRep", spec := "fnRep", unfollowed := true, recurses := true, apart := false, narrowed := true }
def FnRepUptoSaid : Prop := fnRepUptoRow.holds Try.pinned (OpenSpec.upto fnRepSpec)

end Rows
end Go.Proofs.Ytjefdcbljpkmlaa
