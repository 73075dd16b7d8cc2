/-
  No cell of these rows narrows 'for every input' (looked for: loops, veiled, ifaces, maps, wideKeys, modest, calm, conditions, laid).
  DERIVED. THE GIVEN ROWS OF THIS SEAT. 12 by the template 'for every input the law returns true; each argument reads behind the call as it read before'; 0 by the template 'total and deterministic' (their statements: YteikopjhekhchaaTotals.lean).
  GIVEN WITH THE SEED: the statements are not yours to turn. If you find one false, say at which input.
  Laid BY PROGRAM, IN A SANDBOX (cutbox-rows.mjs): the forced cells as the released guide's own fill.sh prints them over the translation 7018392e98a2a364… (all of the seat's roots in one cut). By AI agents, Wed Nov 11 2026. No macro, syntax, notation, axiom, sorry.
-/
import Derived.Test.YteikopjhekhchaaChecked
import GoSem.Claim
import GoSem.ClaimJoined
import GoSem.ClaimMapViews
import Derived.JoinedTies
import Derived.KernelRfl
namespace Go.Proofs.Yteikopjhekhchaa
/- THE CELL 'sum', in the pinned program and in every row, IS THE sha256 OF THE DUMP (.gsa) THAT YteikopjhekhchaaProg.lean LOADS. Nothing in Lean hashes anything: it is a label: what it is worth is what the hold of that sum in a sandbox is worth. -/
noncomputable def Try.pinned : Pinned := { name := "yteikopjhekhchaa", sum := "7018392e98a2a364eef1d89e9d8218ac388b09f482ffdba35dff44c0d5ffdced", checked := Try.checked }
namespace Rows
def none {H : Type} : Left H := { results := [], args := [] }

/-- 'laws.FnExactWays': WHATEVER THE INPUT: true; the input reads as it did. -/
def fnExactWaysSpec : ChangeSpec := { name := "fnExactWays", fn := fun _ => fun
  | [d] => { results := [.lit (.bool true)], args := [d] }
  | _ => none }
def fnExactWaysRow : OpenClaim := { program := "yteikopjhekhchaa", sum := "7018392e98a2a364eef1d89e9d8218ac388b09f482ffdba35dff44c0d5ffdced", func := "loop.example/intarsia/laws.FnExactWays", spec := "fnExactWays", apart := false }
def FnExactWaysSaid : Prop := fnExactWaysRow.holds Try.pinned (OpenSpec.ofChange fnExactWaysSpec)

/-- ITS FALSE NEIGHBOUR: 'it returns false'. Refute it at one input. -/
def fnExactWaysWrong : ChangeSpec := { name := "fnExactWays", fn := fun _ => fun
  | [d] => { results := [.lit (.bool false)], args := [d] }
  | _ => none }
def FnExactWaysWrongFalsely : Prop := fnExactWaysRow.holds Try.pinned (OpenSpec.ofChange fnExactWaysWrong)

/-- 'laws.FnExactSniff': WHATEVER THE INPUT: true; the input reads as it did. -/
def fnExactSniffSpec : ChangeSpec := { name := "fnExactSniff", fn := fun _ => fun
  | [d] => { results := [.lit (.bool true)], args := [d] }
  | _ => none }
def fnExactSniffRow : OpenClaim := { program := "yteikopjhekhchaa", sum := "7018392e98a2a364eef1d89e9d8218ac388b09f482ffdba35dff44c0d5ffdced", func := "loop.example/intarsia/laws.FnExactSniff", spec := "fnExactSniff", unfollowed := true, recurses := true, apart := false }
def FnExactSniffSaid : Prop := fnExactSniffRow.holds Try.pinned (OpenSpec.ofChange fnExactSniffSpec)

/-- ITS FALSE NEIGHBOUR: 'it returns false'. Refute it at one input. -/
def fnExactSniffWrong : ChangeSpec := { name := "fnExactSniff", fn := fun _ => fun
  | [d] => { results := [.lit (.bool false)], args := [d] }
  | _ => none }
def FnExactSniffWrongFalsely : Prop := fnExactSniffRow.holds Try.pinned (OpenSpec.ofChange fnExactSniffWrong)

/-- 'laws.FnExactBlocksGet': WHATEVER THE INPUT: true; the input reads as it did. -/
def fnExactBlocksGetSpec : ChangeSpec := { name := "fnExactBlocksGet", fn := fun _ => fun
  | [d1, d2] => { results := [.lit (.bool true)], args := [d1, d2] }
  | _ => none }
def fnExactBlocksGetRow : OpenClaim := { program := "yteikopjhekhchaa", sum := "7018392e98a2a364eef1d89e9d8218ac388b09f482ffdba35dff44c0d5ffdced", func := "loop.example/intarsia/laws.FnExactBlocksGet", spec := "fnExactBlocksGet", apart := false }
def FnExactBlocksGetSaid : Prop := fnExactBlocksGetRow.holds Try.pinned (OpenSpec.ofChange fnExactBlocksGetSpec)

/-- ITS FALSE NEIGHBOUR: 'it returns false'. Refute it at one input. -/
def fnExactBlocksGetWrong : ChangeSpec := { name := "fnExactBlocksGet", fn := fun _ => fun
  | [d1, d2] => { results := [.lit (.bool false)], args := [d1, d2] }
  | _ => none }
def FnExactBlocksGetWrongFalsely : Prop := fnExactBlocksGetRow.holds Try.pinned (OpenSpec.ofChange fnExactBlocksGetWrong)

/-- 'laws.FnExactBlocksPut': WHATEVER THE INPUT: true; the input reads as it did. -/
def fnExactBlocksPutSpec : ChangeSpec := { name := "fnExactBlocksPut", fn := fun _ => fun
  | [d] => { results := [.lit (.bool true)], args := [d] }
  | _ => none }
def fnExactBlocksPutRow : OpenClaim := { program := "yteikopjhekhchaa", sum := "7018392e98a2a364eef1d89e9d8218ac388b09f482ffdba35dff44c0d5ffdced", func := "loop.example/intarsia/laws.FnExactBlocksPut", spec := "fnExactBlocksPut", inPlace := ["internal/abi.NoEscape"], apart := false }
def FnExactBlocksPutSaid : Prop := fnExactBlocksPutRow.holds Try.pinned (OpenSpec.ofChange fnExactBlocksPutSpec)

/-- ITS FALSE NEIGHBOUR: 'it returns false'. Refute it at one input. -/
def fnExactBlocksPutWrong : ChangeSpec := { name := "fnExactBlocksPut", fn := fun _ => fun
  | [d] => { results := [.lit (.bool false)], args := [d] }
  | _ => none }
def FnExactBlocksPutWrongFalsely : Prop := fnExactBlocksPutRow.holds Try.pinned (OpenSpec.ofChange fnExactBlocksPutWrong)

/-- 'laws.FnExactWovenRows': WHATEVER THE INPUT: true; the input reads as it did. -/
def fnExactWovenRowsSpec : ChangeSpec := { name := "fnExactWovenRows", fn := fun _ => fun
  | [d] => { results := [.lit (.bool true)], args := [d] }
  | _ => none }
def fnExactWovenRowsRow : OpenClaim := { program := "yteikopjhekhchaa", sum := "7018392e98a2a364eef1d89e9d8218ac388b09f482ffdba35dff44c0d5ffdced", func := "loop.example/intarsia/laws.FnExactWovenRows", spec := "fnExactWovenRows", apart := false }
def FnExactWovenRowsSaid : Prop := fnExactWovenRowsRow.holds Try.pinned (OpenSpec.ofChange fnExactWovenRowsSpec)

/-- ITS FALSE NEIGHBOUR: 'it returns false'. Refute it at one input. -/
def fnExactWovenRowsWrong : ChangeSpec := { name := "fnExactWovenRows", fn := fun _ => fun
  | [d] => { results := [.lit (.bool false)], args := [d] }
  | _ => none }
def FnExactWovenRowsWrongFalsely : Prop := fnExactWovenRowsRow.holds Try.pinned (OpenSpec.ofChange fnExactWovenRowsWrong)

/-- 'laws.FnWovenRows': WHATEVER THE INPUT: true; the input reads as it did. -/
def fnWovenRowsSpec : ChangeSpec := { name := "fnWovenRows", fn := fun _ => fun
  | [d] => { results := [.lit (.bool true)], args := [d] }
  | _ => none }
def fnWovenRowsRow : OpenClaim := { program := "yteikopjhekhchaa", sum := "7018392e98a2a364eef1d89e9d8218ac388b09f482ffdba35dff44c0d5ffdced", func := "loop.example/intarsia/laws.FnWovenRows", spec := "fnWovenRows", apart := false }
def FnWovenRowsSaid : Prop := fnWovenRowsRow.holds Try.pinned (OpenSpec.ofChange fnWovenRowsSpec)

/-- ITS FALSE NEIGHBOUR: 'it returns false'. Refute it at one input. -/
def fnWovenRowsWrong : ChangeSpec := { name := "fnWovenRows", fn := fun _ => fun
  | [d] => { results := [.lit (.bool false)], args := [d] }
  | _ => none }
def FnWovenRowsWrongFalsely : Prop := fnWovenRowsRow.holds Try.pinned (OpenSpec.ofChange fnWovenRowsWrong)

/-- 'laws.FnExactPassesOf': WHATEVER THE INPUT: true; the input reads as it did. -/
def fnExactPassesOfSpec : ChangeSpec := { name := "fnExactPassesOf", fn := fun _ => fun
  | [d1, d2] => { results := [.lit (.bool true)], args := [d1, d2] }
  | _ => none }
def fnExactPassesOfRow : OpenClaim := { program := "yteikopjhekhchaa", sum := "7018392e98a2a364eef1d89e9d8218ac388b09f482ffdba35dff44c0d5ffdced", func := "loop.example/intarsia/laws.FnExactPassesOf", spec := "fnExactPassesOf", apart := false }
def FnExactPassesOfSaid : Prop := fnExactPassesOfRow.holds Try.pinned (OpenSpec.ofChange fnExactPassesOfSpec)

/-- ITS FALSE NEIGHBOUR: 'it returns false'. Refute it at one input. -/
def fnExactPassesOfWrong : ChangeSpec := { name := "fnExactPassesOf", fn := fun _ => fun
  | [d1, d2] => { results := [.lit (.bool false)], args := [d1, d2] }
  | _ => none }
def FnExactPassesOfWrongFalsely : Prop := fnExactPassesOfRow.holds Try.pinned (OpenSpec.ofChange fnExactPassesOfWrong)

/-- 'laws.FnExactRowPut': WHATEVER THE INPUT: true; the input reads as it did. -/
def fnExactRowPutSpec : ChangeSpec := { name := "fnExactRowPut", fn := fun _ => fun
  | [d1, d2] => { results := [.lit (.bool true)], args := [d1, d2] }
  | _ => none }
def fnExactRowPutRow : OpenClaim := { program := "yteikopjhekhchaa", sum := "7018392e98a2a364eef1d89e9d8218ac388b09f482ffdba35dff44c0d5ffdced", func := "loop.example/intarsia/laws.FnExactRowPut", spec := "fnExactRowPut", unfollowed := true, recurses := true, apart := false }
def FnExactRowPutSaid : Prop := fnExactRowPutRow.holds Try.pinned (OpenSpec.ofChange fnExactRowPutSpec)

/-- ITS FALSE NEIGHBOUR: 'it returns false'. Refute it at one input. -/
def fnExactRowPutWrong : ChangeSpec := { name := "fnExactRowPut", fn := fun _ => fun
  | [d1, d2] => { results := [.lit (.bool false)], args := [d1, d2] }
  | _ => none }
def FnExactRowPutWrongFalsely : Prop := fnExactRowPutRow.holds Try.pinned (OpenSpec.ofChange fnExactRowPutWrong)

/-- 'laws.FnExactBitsPut': WHATEVER THE INPUT: true; the input reads as it did. -/
def fnExactBitsPutSpec : ChangeSpec := { name := "fnExactBitsPut", fn := fun _ => fun
  | [d1, d2] => { results := [.lit (.bool true)], args := [d1, d2] }
  | _ => none }
def fnExactBitsPutRow : OpenClaim := { program := "yteikopjhekhchaa", sum := "7018392e98a2a364eef1d89e9d8218ac388b09f482ffdba35dff44c0d5ffdced", func := "loop.example/intarsia/laws.FnExactBitsPut", spec := "fnExactBitsPut", apart := false }
def FnExactBitsPutSaid : Prop := fnExactBitsPutRow.holds Try.pinned (OpenSpec.ofChange fnExactBitsPutSpec)

/-- ITS FALSE NEIGHBOUR: 'it returns false'. Refute it at one input. -/
def fnExactBitsPutWrong : ChangeSpec := { name := "fnExactBitsPut", fn := fun _ => fun
  | [d1, d2] => { results := [.lit (.bool false)], args := [d1, d2] }
  | _ => none }
def FnExactBitsPutWrongFalsely : Prop := fnExactBitsPutRow.holds Try.pinned (OpenSpec.ofChange fnExactBitsPutWrong)

/-- 'laws.FnBitsPut': WHATEVER THE INPUT: true; the input reads as it did. -/
def fnBitsPutSpec : ChangeSpec := { name := "fnBitsPut", fn := fun _ => fun
  | [d] => { results := [.lit (.bool true)], args := [d] }
  | _ => none }
def fnBitsPutRow : OpenClaim := { program := "yteikopjhekhchaa", sum := "7018392e98a2a364eef1d89e9d8218ac388b09f482ffdba35dff44c0d5ffdced", func := "loop.example/intarsia/laws.FnBitsPut", spec := "fnBitsPut", apart := false }
def FnBitsPutSaid : Prop := fnBitsPutRow.holds Try.pinned (OpenSpec.ofChange fnBitsPutSpec)

/-- ITS FALSE NEIGHBOUR: 'it returns false'. Refute it at one input. -/
def fnBitsPutWrong : ChangeSpec := { name := "fnBitsPut", fn := fun _ => fun
  | [d] => { results := [.lit (.bool false)], args := [d] }
  | _ => none }
def FnBitsPutWrongFalsely : Prop := fnBitsPutRow.holds Try.pinned (OpenSpec.ofChange fnBitsPutWrong)

/-- 'laws.FnFilterNone': WHATEVER THE INPUT: true; the input reads as it did. -/
def fnFilterNoneSpec : ChangeSpec := { name := "fnFilterNone", fn := fun _ => fun
  | [d] => { results := [.lit (.bool true)], args := [d] }
  | _ => none }
def fnFilterNoneRow : OpenClaim := { program := "yteikopjhekhchaa", sum := "7018392e98a2a364eef1d89e9d8218ac388b09f482ffdba35dff44c0d5ffdced", func := "loop.example/intarsia/laws.FnFilterNone", spec := "fnFilterNone", apart := false }
def FnFilterNoneSaid : Prop := fnFilterNoneRow.holds Try.pinned (OpenSpec.ofChange fnFilterNoneSpec)

/-- ITS FALSE NEIGHBOUR: 'it returns false'. Refute it at one input. -/
def fnFilterNoneWrong : ChangeSpec := { name := "fnFilterNone", fn := fun _ => fun
  | [d] => { results := [.lit (.bool false)], args := [d] }
  | _ => none }
def FnFilterNoneWrongFalsely : Prop := fnFilterNoneRow.holds Try.pinned (OpenSpec.ofChange fnFilterNoneWrong)

/-- 'laws.FnRow': WHATEVER THE INPUT: true; the input reads as it did. -/
def fnRowSpec : ChangeSpec := { name := "fnRow", fn := fun _ => fun
  | [d] => { results := [.lit (.bool true)], args := [d] }
  | _ => none }
def fnRowRow : OpenClaim := { program := "yteikopjhekhchaa", sum := "7018392e98a2a364eef1d89e9d8218ac388b09f482ffdba35dff44c0d5ffdced", func := "loop.example/intarsia/laws.FnRow", spec := "fnRow", unfollowed := true, recurses := true, apart := false }
def FnRowSaid : Prop := fnRowRow.holds Try.pinned (OpenSpec.ofChange fnRowSpec)

/-- ITS FALSE NEIGHBOUR: 'it returns false'. Refute it at one input. -/
def fnRowWrong : ChangeSpec := { name := "fnRow", fn := fun _ => fun
  | [d] => { results := [.lit (.bool false)], args := [d] }
  | _ => none }
def FnRowWrongFalsely : Prop := fnRowRow.holds Try.pinned (OpenSpec.ofChange fnRowWrong)

/- THE SECOND FORM. 'bulk': how many values and letters a reading holds, each counted each time it is reached (what is shared counts as often as it is met; a slice's spare places count too). A statement '..UptoSaid' is the law's where the arguments, and the package variables that the reading takes, are together of bulk at most 1048576: NARROWER than '..Said'. Prove '..Said' where nothing that the law and all that it calls make is longer than what came in: it says more and counts as full. Else prove '..UptoSaid'. A law counts once. -/
mutual
def uptoBulk {H : Type} : DataW H → Nat
  | .lit (.string bytes) => bytes.length + 1
  | .lit _ => 1
  | .nil => 1
  | .ptr d => uptoBulk d + 1
  | .slice elems spare => uptoBulkAll elems + uptoBulkAll spare + 1
  | .agg parts => uptoBulkAll parts + 1
  | .iface _ d => uptoBulk d + 1
  | .map entries => uptoBulkEntries entries + 1
  | .held _ => 1
def uptoBulkAll {H : Type} : List (DataW H) → Nat
  | [] => 0
  | d :: r => uptoBulk d + uptoBulkAll r
def uptoBulkEntries {H : Type} : List (Lit × DataW H) → Nat
  | [] => 0
  | x :: r => uptoBulkEntry x + uptoBulkEntries r
def uptoBulkEntry {H : Type} : Lit × DataW H → Nat
  | (.string bytes, d) => bytes.length + uptoBulk d + 1
  | (_, d) => uptoBulk d + 1
 end
def uptoSmall : (H : Type) → List (DataW H) → Bool := fun _ ds => decide (uptoBulkAll ds ≤ 1048576)
def OpenSpec.upto (s : _root_.Go.ChangeSpec) : _root_.Go.OpenSpec := { _root_.Go.OpenSpec.ofChange s with cond := some uptoSmall }

/-- 'laws.FnExactWays', WHERE WHAT IT READS IS OF BULK AT MOST 1048576: true; the input reads as it did. -/
def fnExactWaysUptoRow : OpenClaim := { program := "yteikopjhekhchaa", sum := "7018392e98a2a364eef1d89e9d8218ac388b09f482ffdba35dff44c0d5ffdced", func := "loop.example/intarsia/laws.FnExactWays", spec := "fnExactWays", apart := false, narrowed := true }
def FnExactWaysUptoSaid : Prop := fnExactWaysUptoRow.holds Try.pinned (OpenSpec.upto fnExactWaysSpec)

/-- 'laws.FnExactSniff', WHERE WHAT IT READS IS OF BULK AT MOST 1048576: true; the input reads as it did. -/
def fnExactSniffUptoRow : OpenClaim := { program := "yteikopjhekhchaa", sum := "7018392e98a2a364eef1d89e9d8218ac388b09f482ffdba35dff44c0d5ffdced", func := "loop.example/intarsia/laws.FnExactSniff", spec := "fnExactSniff", unfollowed := true, recurses := true, apart := false, narrowed := true }
def FnExactSniffUptoSaid : Prop := fnExactSniffUptoRow.holds Try.pinned (OpenSpec.upto fnExactSniffSpec)

/-- 'laws.FnExactBlocksGet', WHERE WHAT IT READS IS OF BULK AT MOST 1048576: true; the input reads as it did. -/
def fnExactBlocksGetUptoRow : OpenClaim := { program := "yteikopjhekhchaa", sum := "7018392e98a2a364eef1d89e9d8218ac388b09f482ffdba35dff44c0d5ffdced", func := "loop.example/intarsia/laws.FnExactBlocksGet", spec := "fnExactBlocksGet", apart := false, narrowed := true }
def FnExactBlocksGetUptoSaid : Prop := fnExactBlocksGetUptoRow.holds Try.pinned (OpenSpec.upto fnExactBlocksGetSpec)

/-- 'laws.FnExactBlocksPut', WHERE WHAT IT READS IS OF BULK AT MOST 1048576: true; the input reads as it did. -/
def fnExactBlocksPutUptoRow : OpenClaim := { program := "yteikopjhekhchaa", sum := "7018392e98a2a364eef1d89e9d8218ac388b09f482ffdba35dff44c0d5ffdced", func := "loop.example/intarsia/laws.FnExactBlocksPut", spec := "fnExactBlocksPut", inPlace := ["internal/abi.NoEscape"], apart := false, narrowed := true }
def FnExactBlocksPutUptoSaid : Prop := fnExactBlocksPutUptoRow.holds Try.pinned (OpenSpec.upto fnExactBlocksPutSpec)

/-- 'laws.FnExactWovenRows', WHERE WHAT IT READS IS OF BULK AT MOST 1048576: true; the input reads as it did. -/
def fnExactWovenRowsUptoRow : OpenClaim := { program := "yteikopjhekhchaa", sum := "7018392e98a2a364eef1d89e9d8218ac388b09f482ffdba35dff44c0d5ffdced", func := "loop.example/intarsia/laws.FnExactWovenRows", spec := "fnExactWovenRows", apart := false, narrowed := true }
def FnExactWovenRowsUptoSaid : Prop := fnExactWovenRowsUptoRow.holds Try.pinned (OpenSpec.upto fnExactWovenRowsSpec)

/-- 'laws.FnWovenRows', WHERE WHAT IT READS IS OF BULK AT MOST 1048576: true; the input reads as it did. -/
def fnWovenRowsUptoRow : OpenClaim := { program := "yteikopjhekhchaa", sum := "7018392e98a2a364eef1d89e9d8218ac388b09f482ffdba35dff44c0d5ffdced", func := "loop.example/intarsia/laws.FnWovenRows", spec := "fnWovenRows", apart := false, narrowed := true }
def FnWovenRowsUptoSaid : Prop := fnWovenRowsUptoRow.holds Try.pinned (OpenSpec.upto fnWovenRowsSpec)

/-- 'laws.FnExactPassesOf', WHERE WHAT IT READS IS OF BULK AT MOST 1048576: true; the input reads as it did. -/
def fnExactPassesOfUptoRow : OpenClaim := { program := "yteikopjhekhchaa", sum := "7018392e98a2a364eef1d89e9d8218ac388b09f482ffdba35dff44c0d5ffdced", func := "loop.example/intarsia/laws.FnExactPassesOf", spec := "fnExactPassesOf", apart := false, narrowed := true }
def FnExactPassesOfUptoSaid : Prop := fnExactPassesOfUptoRow.holds Try.pinned (OpenSpec.upto fnExactPassesOfSpec)

/-- 'laws.FnExactRowPut', WHERE WHAT IT READS IS OF BULK AT MOST 1048576: true; the input reads as it did. -/
def fnExactRowPutUptoRow : OpenClaim := { program := "yteikopjhekhchaa", sum := "7018392e98a2a364eef1d89e9d8218ac388b09f482ffdba35dff44c0d5ffdced", func := "loop.example/intarsia/laws.FnExactRowPut", spec := "fnExactRowPut", unfollowed := true, recurses := true, apart := false, narrowed := true }
def FnExactRowPutUptoSaid : Prop := fnExactRowPutUptoRow.holds Try.pinned (OpenSpec.upto fnExactRowPutSpec)

/-- 'laws.FnExactBitsPut', WHERE WHAT IT READS IS OF BULK AT MOST 1048576: true; the input reads as it did. -/
def fnExactBitsPutUptoRow : OpenClaim := { program := "yteikopjhekhchaa", sum := "7018392e98a2a364eef1d89e9d8218ac388b09f482ffdba35dff44c0d5ffdced", func := "loop.example/intarsia/laws.FnExactBitsPut", spec := "fnExactBitsPut", apart := false, narrowed := true }
def FnExactBitsPutUptoSaid : Prop := fnExactBitsPutUptoRow.holds Try.pinned (OpenSpec.upto fnExactBitsPutSpec)

/-- 'laws.FnBitsPut', WHERE WHAT IT READS IS OF BULK AT MOST 1048576: true; the input reads as it did. -/
def fnBitsPutUptoRow : OpenClaim := { program := "yteikopjhekhchaa", sum := "7018392e98a2a364eef1d89e9d8218ac388b09f482ffdba35dff44c0d5ffdced", func := "loop.example/intarsia/laws.FnBitsPut", spec := "fnBitsPut", apart := false, narrowed := true }
def FnBitsPutUptoSaid : Prop := fnBitsPutUptoRow.holds Try.pinned (OpenSpec.upto fnBitsPutSpec)

/-- 'laws.FnFilterNone', WHERE WHAT IT READS IS OF BULK AT MOST 1048576: true; the input reads as it did. -/
def fnFilterNoneUptoRow : OpenClaim := { program := "yteikopjhekhchaa", sum := "7018392e98a2a364eef1d89e9d8218ac388b09f482ffdba35dff44c0d5ffdced", func := "loop.example/intarsia/laws.FnFilterNone", spec := "fnFilterNone", apart := false, narrowed := true }
def FnFilterNoneUptoSaid : Prop := fnFilterNoneUptoRow.holds Try.pinned (OpenSpec.upto fnFilterNoneSpec)

/-- 'laws.FnRow', WHERE WHAT IT READS IS OF BULK AT MOST 1048576: true; the input reads as it did. -/
def fnRowUptoRow : OpenClaim := { program := "yteikopjhekhchaa", sum := "7018392e98a2a364eef1d89e9d8218ac388b09f482ffdba35dff44c0d5ffdced", func := "loop.example/intarsia/laws.FnRow", spec := "fnRow", unfollowed := true, recurses := true, apart := false, narrowed := true }
def FnRowUptoSaid : Prop := fnRowUptoRow.holds Try.pinned (OpenSpec.upto fnRowSpec)

end Rows
end Go.Proofs.Yteikopjhekhchaa
