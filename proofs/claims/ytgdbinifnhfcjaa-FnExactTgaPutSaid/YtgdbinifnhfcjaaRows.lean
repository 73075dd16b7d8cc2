/-
  No cell of these rows narrows 'for every input' (looked for: loops, veiled, ifaces, maps, wideKeys, modest, calm, conditions, laid).
  DERIVED. THE GIVEN ROWS OF THIS SEAT. 9 by the template 'for every input the law returns true; each argument reads behind the call as it read before'; 0 by the template 'total and deterministic' (their statements: YtgdbinifnhfcjaaTotals.lean).
  GIVEN WITH THE SEED: the statements are not yours to turn. If you find one false, say at which input.
  Laid BY PROGRAM, IN A SANDBOX (cutbox-rows.mjs): the forced cells as the released guide's own fill.sh prints them over the translation 4195336e3930dee5… (all of the seat's roots in one cut). By AI agents, Wed Nov 11 2026. No macro, syntax, notation, axiom, sorry.
-/
import Derived.Test.YtgdbinifnhfcjaaChecked
import GoSem.Claim
import GoSem.ClaimJoined
import GoSem.ClaimMapViews
import Derived.JoinedTies
import Derived.KernelRfl
namespace Go.Proofs.Ytgdbinifnhfcjaa
/- THE CELL 'sum', in the pinned program and in every row, IS THE sha256 OF THE DUMP (.gsa) THAT YtgdbinifnhfcjaaProg.lean LOADS. Nothing in Lean hashes anything: it is a label: what it is worth is what the hold of that sum in a sandbox is worth. -/
noncomputable def Try.pinned : Pinned := { name := "ytgdbinifnhfcjaa", sum := "4195336e3930dee5da24a6847f28fbe22dfc4dea451719e9d8dc583b9f4dfbbd", checked := Try.checked }
namespace Rows
def none {H : Type} : Left H := { results := [], args := [] }

/-- 'laws.FnExactRleGet': WHATEVER THE INPUT: true; the input reads as it did. -/
def fnExactRleGetSpec : ChangeSpec := { name := "fnExactRleGet", fn := fun _ => fun
  | [d1, d2, d3] => { results := [.lit (.bool true)], args := [d1, d2, d3] }
  | _ => none }
def fnExactRleGetRow : OpenClaim := { program := "ytgdbinifnhfcjaa", sum := "4195336e3930dee5da24a6847f28fbe22dfc4dea451719e9d8dc583b9f4dfbbd", func := "loop.example/intarsia/laws.FnExactRleGet", spec := "fnExactRleGet", apart := false }
def FnExactRleGetSaid : Prop := fnExactRleGetRow.holds Try.pinned (OpenSpec.ofChange fnExactRleGetSpec)

/-- ITS FALSE NEIGHBOUR: 'it returns false'. Refute it at one input. -/
def fnExactRleGetWrong : ChangeSpec := { name := "fnExactRleGet", fn := fun _ => fun
  | [d1, d2, d3] => { results := [.lit (.bool false)], args := [d1, d2, d3] }
  | _ => none }
def FnExactRleGetWrongFalsely : Prop := fnExactRleGetRow.holds Try.pinned (OpenSpec.ofChange fnExactRleGetWrong)

/-- 'laws.FnRleGet': WHATEVER THE INPUT: true; the input reads as it did. -/
def fnRleGetSpec : ChangeSpec := { name := "fnRleGet", fn := fun _ => fun
  | [d] => { results := [.lit (.bool true)], args := [d] }
  | _ => none }
def fnRleGetRow : OpenClaim := { program := "ytgdbinifnhfcjaa", sum := "4195336e3930dee5da24a6847f28fbe22dfc4dea451719e9d8dc583b9f4dfbbd", func := "loop.example/intarsia/laws.FnRleGet", spec := "fnRleGet", apart := false }
def FnRleGetSaid : Prop := fnRleGetRow.holds Try.pinned (OpenSpec.ofChange fnRleGetSpec)

/-- ITS FALSE NEIGHBOUR: 'it returns false'. Refute it at one input. -/
def fnRleGetWrong : ChangeSpec := { name := "fnRleGet", fn := fun _ => fun
  | [d] => { results := [.lit (.bool false)], args := [d] }
  | _ => none }
def FnRleGetWrongFalsely : Prop := fnRleGetRow.holds Try.pinned (OpenSpec.ofChange fnRleGetWrong)

/-- 'laws.FnRle': WHATEVER THE INPUT: true; the input reads as it did. -/
def fnRleSpec : ChangeSpec := { name := "fnRle", fn := fun _ => fun
  | [d] => { results := [.lit (.bool true)], args := [d] }
  | _ => none }
def fnRleRow : OpenClaim := { program := "ytgdbinifnhfcjaa", sum := "4195336e3930dee5da24a6847f28fbe22dfc4dea451719e9d8dc583b9f4dfbbd", func := "loop.example/intarsia/laws.FnRle", spec := "fnRle", apart := false }
def FnRleSaid : Prop := fnRleRow.holds Try.pinned (OpenSpec.ofChange fnRleSpec)

/-- ITS FALSE NEIGHBOUR: 'it returns false'. Refute it at one input. -/
def fnRleWrong : ChangeSpec := { name := "fnRle", fn := fun _ => fun
  | [d] => { results := [.lit (.bool false)], args := [d] }
  | _ => none }
def FnRleWrongFalsely : Prop := fnRleRow.holds Try.pinned (OpenSpec.ofChange fnRleWrong)

/-- 'laws.FnExactBmpPut': WHATEVER THE INPUT: true; the input reads as it did. -/
def fnExactBmpPutSpec : ChangeSpec := { name := "fnExactBmpPut", fn := fun _ => fun
  | [d1, d2] => { results := [.lit (.bool true)], args := [d1, d2] }
  | _ => none }
def fnExactBmpPutRow : OpenClaim := { program := "ytgdbinifnhfcjaa", sum := "4195336e3930dee5da24a6847f28fbe22dfc4dea451719e9d8dc583b9f4dfbbd", func := "loop.example/intarsia/laws.FnExactBmpPut", spec := "fnExactBmpPut", unfollowed := true, recurses := true, apart := false }
def FnExactBmpPutSaid : Prop := fnExactBmpPutRow.holds Try.pinned (OpenSpec.ofChange fnExactBmpPutSpec)

/-- ITS FALSE NEIGHBOUR: 'it returns false'. Refute it at one input. -/
def fnExactBmpPutWrong : ChangeSpec := { name := "fnExactBmpPut", fn := fun _ => fun
  | [d1, d2] => { results := [.lit (.bool false)], args := [d1, d2] }
  | _ => none }
def FnExactBmpPutWrongFalsely : Prop := fnExactBmpPutRow.holds Try.pinned (OpenSpec.ofChange fnExactBmpPutWrong)

/-- 'laws.FnExactBmpGet': WHATEVER THE INPUT: true; the input reads as it did. -/
def fnExactBmpGetSpec : ChangeSpec := { name := "fnExactBmpGet", fn := fun _ => fun
  | [d] => { results := [.lit (.bool true)], args := [d] }
  | _ => none }
def fnExactBmpGetRow : OpenClaim := { program := "ytgdbinifnhfcjaa", sum := "4195336e3930dee5da24a6847f28fbe22dfc4dea451719e9d8dc583b9f4dfbbd", func := "loop.example/intarsia/laws.FnExactBmpGet", spec := "fnExactBmpGet", inPlace := ["internal/abi.NoEscape", "internal/bytealg.MakeNoZero"], unfollowed := true, recurses := true, apart := false }
def FnExactBmpGetSaid : Prop := fnExactBmpGetRow.holds Try.pinned (OpenSpec.ofChange fnExactBmpGetSpec)

/-- ITS FALSE NEIGHBOUR: 'it returns false'. Refute it at one input. -/
def fnExactBmpGetWrong : ChangeSpec := { name := "fnExactBmpGet", fn := fun _ => fun
  | [d] => { results := [.lit (.bool false)], args := [d] }
  | _ => none }
def FnExactBmpGetWrongFalsely : Prop := fnExactBmpGetRow.holds Try.pinned (OpenSpec.ofChange fnExactBmpGetWrong)

/-- 'laws.FnBmp': WHATEVER THE INPUT: true; the input reads as it did. -/
def fnBmpSpec : ChangeSpec := { name := "fnBmp", fn := fun _ => fun
  | [d] => { results := [.lit (.bool true)], args := [d] }
  | _ => none }
def fnBmpRow : OpenClaim := { program := "ytgdbinifnhfcjaa", sum := "4195336e3930dee5da24a6847f28fbe22dfc4dea451719e9d8dc583b9f4dfbbd", func := "loop.example/intarsia/laws.FnBmp", spec := "fnBmp", inPlace := ["internal/abi.NoEscape", "internal/bytealg.MakeNoZero"], unfollowed := true, recurses := true, apart := false }
def FnBmpSaid : Prop := fnBmpRow.holds Try.pinned (OpenSpec.ofChange fnBmpSpec)

/-- ITS FALSE NEIGHBOUR: 'it returns false'. Refute it at one input. -/
def fnBmpWrong : ChangeSpec := { name := "fnBmp", fn := fun _ => fun
  | [d] => { results := [.lit (.bool false)], args := [d] }
  | _ => none }
def FnBmpWrongFalsely : Prop := fnBmpRow.holds Try.pinned (OpenSpec.ofChange fnBmpWrong)

/-- 'laws.FnBmpGet': WHATEVER THE INPUT: true; the input reads as it did. -/
def fnBmpGetSpec : ChangeSpec := { name := "fnBmpGet", fn := fun _ => fun
  | [d] => { results := [.lit (.bool true)], args := [d] }
  | _ => none }
def fnBmpGetRow : OpenClaim := { program := "ytgdbinifnhfcjaa", sum := "4195336e3930dee5da24a6847f28fbe22dfc4dea451719e9d8dc583b9f4dfbbd", func := "loop.example/intarsia/laws.FnBmpGet", spec := "fnBmpGet", inPlace := ["internal/abi.NoEscape", "internal/bytealg.MakeNoZero"], unfollowed := true, recurses := true, apart := false }
def FnBmpGetSaid : Prop := fnBmpGetRow.holds Try.pinned (OpenSpec.ofChange fnBmpGetSpec)

/-- ITS FALSE NEIGHBOUR: 'it returns false'. Refute it at one input. -/
def fnBmpGetWrong : ChangeSpec := { name := "fnBmpGet", fn := fun _ => fun
  | [d] => { results := [.lit (.bool false)], args := [d] }
  | _ => none }
def FnBmpGetWrongFalsely : Prop := fnBmpGetRow.holds Try.pinned (OpenSpec.ofChange fnBmpGetWrong)

/-- 'laws.FnExactTgaPut': WHATEVER THE INPUT: true; the input reads as it did. -/
def fnExactTgaPutSpec : ChangeSpec := { name := "fnExactTgaPut", fn := fun _ => fun
  | [d1, d2] => { results := [.lit (.bool true)], args := [d1, d2] }
  | _ => none }
def fnExactTgaPutRow : OpenClaim := { program := "ytgdbinifnhfcjaa", sum := "4195336e3930dee5da24a6847f28fbe22dfc4dea451719e9d8dc583b9f4dfbbd", func := "loop.example/intarsia/laws.FnExactTgaPut", spec := "fnExactTgaPut", unfollowed := true, recurses := true, apart := false }
def FnExactTgaPutSaid : Prop := fnExactTgaPutRow.holds Try.pinned (OpenSpec.ofChange fnExactTgaPutSpec)

/-- ITS FALSE NEIGHBOUR: 'it returns false'. Refute it at one input. -/
def fnExactTgaPutWrong : ChangeSpec := { name := "fnExactTgaPut", fn := fun _ => fun
  | [d1, d2] => { results := [.lit (.bool false)], args := [d1, d2] }
  | _ => none }
def FnExactTgaPutWrongFalsely : Prop := fnExactTgaPutRow.holds Try.pinned (OpenSpec.ofChange fnExactTgaPutWrong)

/-- 'laws.FnExactTgaGet': WHATEVER THE INPUT: true; the input reads as it did. -/
def fnExactTgaGetSpec : ChangeSpec := { name := "fnExactTgaGet", fn := fun _ => fun
  | [d] => { results := [.lit (.bool true)], args := [d] }
  | _ => none }
def fnExactTgaGetRow : OpenClaim := { program := "ytgdbinifnhfcjaa", sum := "4195336e3930dee5da24a6847f28fbe22dfc4dea451719e9d8dc583b9f4dfbbd", func := "loop.example/intarsia/laws.FnExactTgaGet", spec := "fnExactTgaGet", inPlace := ["internal/abi.NoEscape", "internal/bytealg.MakeNoZero"], unfollowed := true, recurses := true, apart := false }
def FnExactTgaGetSaid : Prop := fnExactTgaGetRow.holds Try.pinned (OpenSpec.ofChange fnExactTgaGetSpec)

/-- ITS FALSE NEIGHBOUR: 'it returns false'. Refute it at one input. -/
def fnExactTgaGetWrong : ChangeSpec := { name := "fnExactTgaGet", fn := fun _ => fun
  | [d] => { results := [.lit (.bool false)], args := [d] }
  | _ => none }
def FnExactTgaGetWrongFalsely : Prop := fnExactTgaGetRow.holds Try.pinned (OpenSpec.ofChange fnExactTgaGetWrong)

/- THE SECOND FORM. 'bulk': how many values and letters a reading holds, each counted each time it is reached (what is shared counts as often as it is met; a slice's spare places count too). A statement '..UptoSaid' is the law's where the arguments, and the package variables that the reading takes, are together of bulk at most 1048576: NARROWER than '..Said'. Prove '..Said' where nothing that the law and all that it calls make is longer than what came in: it says more and counts as full. Else prove '..UptoSaid'. A law counts once. -/
mutual
def uptoBulk {H : Type} : DataW H → Nat
  | .lit (.string bytes) => bytes.length + 1
  | .lit _ => 1
  | .nil => 1
  | .ptr d => uptoBulk d + 1
  | .slice elems spare => uptoBulkAll elems + uptoBulkAll spare + 1
  | .agg parts => uptoBulkAll parts + 1
  | .iface _ d => uptoBulk d + 1
  | .map entries => uptoBulkEntries entries + 1
  | .held _ => 1
def uptoBulkAll {H : Type} : List (DataW H) → Nat
  | [] => 0
  | d :: r => uptoBulk d + uptoBulkAll r
def uptoBulkEntries {H : Type} : List (Lit × DataW H) → Nat
  | [] => 0
  | x :: r => uptoBulkEntry x + uptoBulkEntries r
def uptoBulkEntry {H : Type} : Lit × DataW H → Nat
  | (.string bytes, d) => bytes.length + uptoBulk d + 1
  | (_, d) => uptoBulk d + 1
 end
def uptoSmall : (H : Type) → List (DataW H) → Bool := fun _ ds => decide (uptoBulkAll ds ≤ 1048576)
def OpenSpec.upto (s : _root_.Go.ChangeSpec) : _root_.Go.OpenSpec := { _root_.Go.OpenSpec.ofChange s with cond := some uptoSmall }

/-- 'laws.FnExactRleGet', WHERE WHAT IT READS IS OF BULK AT MOST 1048576: true; the input reads as it did. -/
def fnExactRleGetUptoRow : OpenClaim := { program := "ytgdbinifnhfcjaa", sum := "4195336e3930dee5da24a6847f28fbe22dfc4dea451719e9d8dc583b9f4dfbbd", func := "loop.example/intarsia/laws.FnExactRleGet", spec := "fnExactRleGet", apart := false, narrowed := true }
def FnExactRleGetUptoSaid : Prop := fnExactRleGetUptoRow.holds Try.pinned (OpenSpec.upto fnExactRleGetSpec)

/-- 'laws.FnRleGet', WHERE WHAT IT READS IS OF BULK AT MOST 1048576: true; the input reads as it did. -/
def fnRleGetUptoRow : OpenClaim := { program := "ytgdbinifnhfcjaa", sum := "4195336e3930dee5da24a6847f28fbe22dfc4dea451719e9d8dc583b9f4dfbbd", func := "loop.example/intarsia/laws.FnRleGet", spec := "fnRleGet", apart := false, narrowed := true }
def FnRleGetUptoSaid : Prop := fnRleGetUptoRow.holds Try.pinned (OpenSpec.upto fnRleGetSpec)

/-- 'laws.FnRle', WHERE WHAT IT READS IS OF BULK AT MOST 1048576: true; the input reads as it did. -/
def fnRleUptoRow : OpenClaim := { program := "ytgdbinifnhfcjaa", sum := "4195336e3930dee5da24a6847f28fbe22dfc4dea451719e9d8dc583b9f4dfbbd", func := "loop.example/intarsia/laws.FnRle", spec := "fnRle", apart := false, narrowed := true }
def FnRleUptoSaid : Prop := fnRleUptoRow.holds Try.pinned (OpenSpec.upto fnRleSpec)

/-- 'laws.FnExactBmpPut', WHERE WHAT IT READS IS OF BULK AT MOST 1048576: true; the input reads as it did. -/
def fnExactBmpPutUptoRow : OpenClaim := { program := "ytgdbinifnhfcjaa", sum := "4195336e3930dee5da24a6847f28fbe22dfc4dea451719e9d8dc583b9f4dfbbd", func := "loop.example/intarsia/laws.FnExactBmpPut", spec := "fnExactBmpPut", unfollowed := true, recurses := true, apart := false, narrowed := true }
def FnExactBmpPutUptoSaid : Prop := fnExactBmpPutUptoRow.holds Try.pinned (OpenSpec.upto fnExactBmpPutSpec)

/-- 'laws.FnExactBmpGet', WHERE WHAT IT READS IS OF BULK AT MOST 1048576: true; the input reads as it did. -/
def fnExactBmpGetUptoRow : OpenClaim := { program := "ytgdbinifnhfcjaa", sum := "4195336e3930dee5da24a6847f28fbe22dfc4dea451719e9d8dc583b9f4dfbbd", func := "loop.example/intarsia/laws.FnExactBmpGet", spec := "fnExactBmpGet", inPlace := ["internal/abi.NoEscape", "internal/bytealg.MakeNoZero"], unfollowed := true, recurses := true, apart := false, narrowed := true }
def FnExactBmpGetUptoSaid : Prop := fnExactBmpGetUptoRow.holds Try.pinned (OpenSpec.upto fnExactBmpGetSpec)

/-- 'laws.FnBmp', WHERE WHAT IT READS IS OF BULK AT MOST 1048576: true; the input reads as it did. -/
def fnBmpUptoRow : OpenClaim := { program := "ytgdbinifnhfcjaa", sum := "4195336e3930dee5da24a6847f28fbe22dfc4dea451719e9d8dc583b9f4dfbbd", func := "loop.example/intarsia/laws.FnBmp", spec := "fnBmp", inPlace := ["internal/abi.NoEscape", "internal/bytealg.MakeNoZero"], unfollowed := true, recurses := true, apart := false, narrowed := true }
def FnBmpUptoSaid : Prop := fnBmpUptoRow.holds Try.pinned (OpenSpec.upto fnBmpSpec)

/-- 'laws.FnBmpGet', WHERE WHAT IT READS IS OF BULK AT MOST 1048576: true; the input reads as it did. -/
def fnBmpGetUptoRow : OpenClaim := { program := "ytgdbinifnhfcjaa", sum := "4195336e3930dee5da24a6847f28fbe22dfc4dea451719e9d8dc583b9f4dfbbd", func := "loop.example/intarsia/laws.FnBmpGet", spec := "fnBmpGet", inPlace := ["internal/abi.NoEscape", "internal/bytealg.MakeNoZero"], unfollowed := true, recurses := true, apart := false, narrowed := true }
def FnBmpGetUptoSaid : Prop := fnBmpGetUptoRow.holds Try.pinned (OpenSpec.upto fnBmpGetSpec)

/-- 'laws.FnExactTgaPut', WHERE WHAT IT READS IS OF BULK AT MOST 1048576: true; the input reads as it did. -/
def fnExactTgaPutUptoRow : OpenClaim := { program := "ytgdbinifnhfcjaa", sum := "4195336e3930dee5da24a6847f28fbe22dfc4dea451719e9d8dc583b9f4dfbbd", func := "loop.example/intarsia/laws.FnExactTgaPut", spec := "fnExactTgaPut", unfollowed := true, recurses := true, apart := false, narrowed := true }
def FnExactTgaPutUptoSaid : Prop := fnExactTgaPutUptoRow.holds Try.pinned (OpenSpec.upto fnExactTgaPutSpec)

/-- 'laws.FnExactTgaGet', WHERE WHAT IT READS IS OF BULK AT MOST 1048576: true; the input reads as it did. -/
def fnExactTgaGetUptoRow : OpenClaim := { program := "ytgdbinifnhfcjaa", sum := "4195336e3930dee5da24a6847f28fbe22dfc4dea451719e9d8dc583b9f4dfbbd", func := "loop.example/intarsia/laws.FnExactTgaGet", spec := "fnExactTgaGet", inPlace := ["internal/abi.NoEscape", "internal/bytealg.MakeNoZero"], unfollowed := true, recurses := true, apart := false, narrowed := true }
def FnExactTgaGetUptoSaid : Prop := fnExactTgaGetUptoRow.holds Try.pinned (OpenSpec.upto fnExactTgaGetSpec)

end Rows
end Go.Proofs.Ytgdbinifnhfcjaa
