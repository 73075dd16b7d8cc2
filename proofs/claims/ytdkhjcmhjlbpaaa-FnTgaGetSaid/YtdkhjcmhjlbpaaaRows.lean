/-
  No cell of these rows narrows 'for every input' (looked for: loops, veiled, ifaces, maps, wideKeys, modest, calm, conditions, laid).
  DERIVED. THE GIVEN ROWS OF THIS SEAT. 9 by the template 'for every input the law returns true; each argument reads behind the call as it read before'; 0 by the template 'total and deterministic' (their statements: YtdkhjcmhjlbpaaaTotals.lean).
  GIVEN WITH THE SEED: the statements are not yours to turn. If you find one false, say at which input.
  Laid BY PROGRAM, IN A SANDBOX (cutbox-rows.mjs): the forced cells as the released guide's own fill.sh prints them over the translation cbee50a3b05bf2f0… (all of the seat's roots in one cut). By AI agents, Wed Nov 11 2026. No macro, syntax, notation, axiom, sorry.
-/
import Derived.Test.YtdkhjcmhjlbpaaaChecked
import GoSem.Claim
import GoSem.ClaimJoined
import GoSem.ClaimMapViews
import Derived.JoinedTies
import Derived.KernelRfl
namespace Go.Proofs.Ytdkhjcmhjlbpaaa
/- THE CELL 'sum', in the pinned program and in every row, IS THE sha256 OF THE DUMP (.gsa) THAT YtdkhjcmhjlbpaaaProg.lean LOADS. Nothing in Lean hashes anything: it is a label: what it is worth is what the hold of that sum in a sandbox is worth. -/
noncomputable def Try.pinned : Pinned := { name := "ytdkhjcmhjlbpaaa", sum := "cbee50a3b05bf2f0afc2f1a7fd97c6577f70e255cb0fb646f9b80f89e17c1b8d", checked := Try.checked }
namespace Rows
def none {H : Type} : Left H := { results := [], args := [] }

/-- 'laws.FnExactBmpPut': WHATEVER THE INPUT: true; the input reads as it did. -/
def fnExactBmpPutSpec : ChangeSpec := { name := "fnExactBmpPut", fn := fun _ => fun
  | [d1, d2] => { results := [.lit (.bool true)], args := [d1, d2] }
  | _ => none }
def fnExactBmpPutRow : OpenClaim := { program := "ytdkhjcmhjlbpaaa", sum := "cbee50a3b05bf2f0afc2f1a7fd97c6577f70e255cb0fb646f9b80f89e17c1b8d", func := "loop.example/intarsia/laws.FnExactBmpPut", spec := "fnExactBmpPut", unfollowed := true, recurses := true, apart := false }
def FnExactBmpPutSaid : Prop := fnExactBmpPutRow.holds Try.pinned (OpenSpec.ofChange fnExactBmpPutSpec)

/-- ITS FALSE NEIGHBOUR: 'it returns false'. Refute it at one input. -/
def fnExactBmpPutWrong : ChangeSpec := { name := "fnExactBmpPut", fn := fun _ => fun
  | [d1, d2] => { results := [.lit (.bool false)], args := [d1, d2] }
  | _ => none }
def FnExactBmpPutWrongFalsely : Prop := fnExactBmpPutRow.holds Try.pinned (OpenSpec.ofChange fnExactBmpPutWrong)

/-- 'laws.FnExactBmpGet': WHATEVER THE INPUT: true; the input reads as it did. -/
def fnExactBmpGetSpec : ChangeSpec := { name := "fnExactBmpGet", fn := fun _ => fun
  | [d] => { results := [.lit (.bool true)], args := [d] }
  | _ => none }
def fnExactBmpGetRow : OpenClaim := { program := "ytdkhjcmhjlbpaaa", sum := "cbee50a3b05bf2f0afc2f1a7fd97c6577f70e255cb0fb646f9b80f89e17c1b8d", func := "loop.example/intarsia/laws.FnExactBmpGet", spec := "fnExactBmpGet", inPlace := ["internal/abi.NoEscape", "internal/bytealg.MakeNoZero"], unfollowed := true, recurses := true, apart := false }
def FnExactBmpGetSaid : Prop := fnExactBmpGetRow.holds Try.pinned (OpenSpec.ofChange fnExactBmpGetSpec)

/-- ITS FALSE NEIGHBOUR: 'it returns false'. Refute it at one input. -/
def fnExactBmpGetWrong : ChangeSpec := { name := "fnExactBmpGet", fn := fun _ => fun
  | [d] => { results := [.lit (.bool false)], args := [d] }
  | _ => none }
def FnExactBmpGetWrongFalsely : Prop := fnExactBmpGetRow.holds Try.pinned (OpenSpec.ofChange fnExactBmpGetWrong)

/-- 'laws.FnBmp': WHATEVER THE INPUT: true; the input reads as it did. -/
def fnBmpSpec : ChangeSpec := { name := "fnBmp", fn := fun _ => fun
  | [d] => { results := [.lit (.bool true)], args := [d] }
  | _ => none }
def fnBmpRow : OpenClaim := { program := "ytdkhjcmhjlbpaaa", sum := "cbee50a3b05bf2f0afc2f1a7fd97c6577f70e255cb0fb646f9b80f89e17c1b8d", func := "loop.example/intarsia/laws.FnBmp", spec := "fnBmp", inPlace := ["internal/abi.NoEscape", "internal/bytealg.MakeNoZero"], unfollowed := true, recurses := true, apart := false }
def FnBmpSaid : Prop := fnBmpRow.holds Try.pinned (OpenSpec.ofChange fnBmpSpec)

/-- ITS FALSE NEIGHBOUR: 'it returns false'. Refute it at one input. -/
def fnBmpWrong : ChangeSpec := { name := "fnBmp", fn := fun _ => fun
  | [d] => { results := [.lit (.bool false)], args := [d] }
  | _ => none }
def FnBmpWrongFalsely : Prop := fnBmpRow.holds Try.pinned (OpenSpec.ofChange fnBmpWrong)

/-- 'laws.FnBmpGet': WHATEVER THE INPUT: true; the input reads as it did. -/
def fnBmpGetSpec : ChangeSpec := { name := "fnBmpGet", fn := fun _ => fun
  | [d] => { results := [.lit (.bool true)], args := [d] }
  | _ => none }
def fnBmpGetRow : OpenClaim := { program := "ytdkhjcmhjlbpaaa", sum := "cbee50a3b05bf2f0afc2f1a7fd97c6577f70e255cb0fb646f9b80f89e17c1b8d", func := "loop.example/intarsia/laws.FnBmpGet", spec := "fnBmpGet", inPlace := ["internal/abi.NoEscape", "internal/bytealg.MakeNoZero"], unfollowed := true, recurses := true, apart := false }
def FnBmpGetSaid : Prop := fnBmpGetRow.holds Try.pinned (OpenSpec.ofChange fnBmpGetSpec)

/-- ITS FALSE NEIGHBOUR: 'it returns false'. Refute it at one input. -/
def fnBmpGetWrong : ChangeSpec := { name := "fnBmpGet", fn := fun _ => fun
  | [d] => { results := [.lit (.bool false)], args := [d] }
  | _ => none }
def FnBmpGetWrongFalsely : Prop := fnBmpGetRow.holds Try.pinned (OpenSpec.ofChange fnBmpGetWrong)

/-- 'laws.FnExactTgaGet': WHATEVER THE INPUT: true; the input reads as it did. -/
def fnExactTgaGetSpec : ChangeSpec := { name := "fnExactTgaGet", fn := fun _ => fun
  | [d] => { results := [.lit (.bool true)], args := [d] }
  | _ => none }
def fnExactTgaGetRow : OpenClaim := { program := "ytdkhjcmhjlbpaaa", sum := "cbee50a3b05bf2f0afc2f1a7fd97c6577f70e255cb0fb646f9b80f89e17c1b8d", func := "loop.example/intarsia/laws.FnExactTgaGet", spec := "fnExactTgaGet", inPlace := ["internal/abi.NoEscape", "internal/bytealg.MakeNoZero"], unfollowed := true, recurses := true, apart := false }
def FnExactTgaGetSaid : Prop := fnExactTgaGetRow.holds Try.pinned (OpenSpec.ofChange fnExactTgaGetSpec)

/-- ITS FALSE NEIGHBOUR: 'it returns false'. Refute it at one input. -/
def fnExactTgaGetWrong : ChangeSpec := { name := "fnExactTgaGet", fn := fun _ => fun
  | [d] => { results := [.lit (.bool false)], args := [d] }
  | _ => none }
def FnExactTgaGetWrongFalsely : Prop := fnExactTgaGetRow.holds Try.pinned (OpenSpec.ofChange fnExactTgaGetWrong)

/-- 'laws.FnTgaBelow': WHATEVER THE INPUT: true; the input reads as it did. -/
def fnTgaBelowSpec : ChangeSpec := { name := "fnTgaBelow", fn := fun _ => fun
  | [d] => { results := [.lit (.bool true)], args := [d] }
  | _ => none }
def fnTgaBelowRow : OpenClaim := { program := "ytdkhjcmhjlbpaaa", sum := "cbee50a3b05bf2f0afc2f1a7fd97c6577f70e255cb0fb646f9b80f89e17c1b8d", func := "loop.example/intarsia/laws.FnTgaBelow", spec := "fnTgaBelow", inPlace := ["internal/abi.NoEscape", "internal/bytealg.MakeNoZero"], unfollowed := true, recurses := true, apart := false }
def FnTgaBelowSaid : Prop := fnTgaBelowRow.holds Try.pinned (OpenSpec.ofChange fnTgaBelowSpec)

/-- ITS FALSE NEIGHBOUR: 'it returns false'. Refute it at one input. -/
def fnTgaBelowWrong : ChangeSpec := { name := "fnTgaBelow", fn := fun _ => fun
  | [d] => { results := [.lit (.bool false)], args := [d] }
  | _ => none }
def FnTgaBelowWrongFalsely : Prop := fnTgaBelowRow.holds Try.pinned (OpenSpec.ofChange fnTgaBelowWrong)

/-- 'laws.FnTga': WHATEVER THE INPUT: true; the input reads as it did. -/
def fnTgaSpec : ChangeSpec := { name := "fnTga", fn := fun _ => fun
  | [d] => { results := [.lit (.bool true)], args := [d] }
  | _ => none }
def fnTgaRow : OpenClaim := { program := "ytdkhjcmhjlbpaaa", sum := "cbee50a3b05bf2f0afc2f1a7fd97c6577f70e255cb0fb646f9b80f89e17c1b8d", func := "loop.example/intarsia/laws.FnTga", spec := "fnTga", inPlace := ["internal/abi.NoEscape", "internal/bytealg.MakeNoZero"], unfollowed := true, recurses := true, apart := false }
def FnTgaSaid : Prop := fnTgaRow.holds Try.pinned (OpenSpec.ofChange fnTgaSpec)

/-- ITS FALSE NEIGHBOUR: 'it returns false'. Refute it at one input. -/
def fnTgaWrong : ChangeSpec := { name := "fnTga", fn := fun _ => fun
  | [d] => { results := [.lit (.bool false)], args := [d] }
  | _ => none }
def FnTgaWrongFalsely : Prop := fnTgaRow.holds Try.pinned (OpenSpec.ofChange fnTgaWrong)

/-- 'laws.FnTgaGet': WHATEVER THE INPUT: true; the input reads as it did. -/
def fnTgaGetSpec : ChangeSpec := { name := "fnTgaGet", fn := fun _ => fun
  | [d] => { results := [.lit (.bool true)], args := [d] }
  | _ => none }
def fnTgaGetRow : OpenClaim := { program := "ytdkhjcmhjlbpaaa", sum := "cbee50a3b05bf2f0afc2f1a7fd97c6577f70e255cb0fb646f9b80f89e17c1b8d", func := "loop.example/intarsia/laws.FnTgaGet", spec := "fnTgaGet", inPlace := ["internal/abi.NoEscape", "internal/bytealg.MakeNoZero"], unfollowed := true, recurses := true, apart := false }
def FnTgaGetSaid : Prop := fnTgaGetRow.holds Try.pinned (OpenSpec.ofChange fnTgaGetSpec)

/-- ITS FALSE NEIGHBOUR: 'it returns false'. Refute it at one input. -/
def fnTgaGetWrong : ChangeSpec := { name := "fnTgaGet", fn := fun _ => fun
  | [d] => { results := [.lit (.bool false)], args := [d] }
  | _ => none }
def FnTgaGetWrongFalsely : Prop := fnTgaGetRow.holds Try.pinned (OpenSpec.ofChange fnTgaGetWrong)

/-- 'laws.FnExactPnmGet': WHATEVER THE INPUT: true; the input reads as it did. -/
def fnExactPnmGetSpec : ChangeSpec := { name := "fnExactPnmGet", fn := fun _ => fun
  | [d] => { results := [.lit (.bool true)], args := [d] }
  | _ => none }
def fnExactPnmGetRow : OpenClaim := { program := "ytdkhjcmhjlbpaaa", sum := "cbee50a3b05bf2f0afc2f1a7fd97c6577f70e255cb0fb646f9b80f89e17c1b8d", func := "loop.example/intarsia/laws.FnExactPnmGet", spec := "fnExactPnmGet", inPlace := ["internal/abi.NoEscape", "internal/bytealg.MakeNoZero"], unfollowed := true, recurses := true, apart := false }
def FnExactPnmGetSaid : Prop := fnExactPnmGetRow.holds Try.pinned (OpenSpec.ofChange fnExactPnmGetSpec)

/-- ITS FALSE NEIGHBOUR: 'it returns false'. Refute it at one input. -/
def fnExactPnmGetWrong : ChangeSpec := { name := "fnExactPnmGet", fn := fun _ => fun
  | [d] => { results := [.lit (.bool false)], args := [d] }
  | _ => none }
def FnExactPnmGetWrongFalsely : Prop := fnExactPnmGetRow.holds Try.pinned (OpenSpec.ofChange fnExactPnmGetWrong)

/- THE SECOND FORM. 'bulk': how many values and letters a reading holds, each counted each time it is reached (what is shared counts as often as it is met; a slice's spare places count too). A statement '..UptoSaid' is the law's where the arguments, and the package variables that the reading takes, are together of bulk at most 1048576: NARROWER than '..Said'. Prove '..Said' where nothing that the law and all that it calls make is longer than what came in: it says more and counts as full. Else prove '..UptoSaid'. A law counts once. -/
mutual
def uptoBulk {H : Type} : DataW H → Nat
  | .lit (.string bytes) => bytes.length + 1
  | .lit _ => 1
  | .nil => 1
  | .ptr d => uptoBulk d + 1
  | .slice elems spare => uptoBulkAll elems + uptoBulkAll spare + 1
  | .agg parts => uptoBulkAll parts + 1
  | .iface _ d => uptoBulk d + 1
  | .map entries => uptoBulkEntries entries + 1
  | .held _ => 1
def uptoBulkAll {H : Type} : List (DataW H) → Nat
  | [] => 0
  | d :: r => uptoBulk d + uptoBulkAll r
def uptoBulkEntries {H : Type} : List (Lit × DataW H) → Nat
  | [] => 0
  | x :: r => uptoBulkEntry x + uptoBulkEntries r
def uptoBulkEntry {H : Type} : Lit × DataW H → Nat
  | (.string bytes, d) => bytes.length + uptoBulk d + 1
  | (_, d) => uptoBulk d + 1
 end
def uptoSmall : (H : Type) → List (DataW H) → Bool := fun _ ds => decide (uptoBulkAll ds ≤ 1048576)
def OpenSpec.upto (s : _root_.Go.ChangeSpec) : _root_.Go.OpenSpec := { _root_.Go.OpenSpec.ofChange s with cond := some uptoSmall }

/-- 'laws.FnExactBmpPut', WHERE WHAT IT READS IS OF BULK AT MOST 1048576: true; the input reads as it did. -/
def fnExactBmpPutUptoRow : OpenClaim := { program := "ytdkhjcmhjlbpaaa", sum := "cbee50a3b05bf2f0afc2f1a7fd97c6577f70e255cb0fb646f9b80f89e17c1b8d", func := "loop.example/intarsia/laws.FnExactBmpPut", spec := "fnExactBmpPut", unfollowed := true, recurses := true, apart := false, narrowed := true }
def FnExactBmpPutUptoSaid : Prop := fnExactBmpPutUptoRow.holds Try.pinned (OpenSpec.upto fnExactBmpPutSpec)

/-- 'laws.FnExactBmpGet', WHERE WHAT IT READS IS OF BULK AT MOST 1048576: true; the input reads as it did. -/
def fnExactBmpGetUptoRow : OpenClaim := { program := "ytdkhjcmhjlbpaaa", sum := "cbee50a3b05bf2f0afc2f1a7fd97c6577f70e255cb0fb646f9b80f89e17c1b8d", func := "loop.example/intarsia/laws.FnExactBmpGet", spec := "fnExactBmpGet", inPlace := ["internal/abi.NoEscape", "internal/bytealg.MakeNoZero"], unfollowed := true, recurses := true, apart := false, narrowed := true }
def FnExactBmpGetUptoSaid : Prop := fnExactBmpGetUptoRow.holds Try.pinned (OpenSpec.upto fnExactBmpGetSpec)

/-- 'laws.FnBmp', WHERE WHAT IT READS IS OF BULK AT MOST 1048576: true; the input reads as it did. -/
def fnBmpUptoRow : OpenClaim := { program := "ytdkhjcmhjlbpaaa", sum := "cbee50a3b05bf2f0afc2f1a7fd97c6577f70e255cb0fb646f9b80f89e17c1b8d", func := "loop.example/intarsia/laws.FnBmp", spec := "fnBmp", inPlace := ["internal/abi.NoEscape", "internal/bytealg.MakeNoZero"], unfollowed := true, recurses := true, apart := false, narrowed := true }
def FnBmpUptoSaid : Prop := fnBmpUptoRow.holds Try.pinned (OpenSpec.upto fnBmpSpec)

/-- 'laws.FnBmpGet', WHERE WHAT IT READS IS OF BULK AT MOST 1048576: true; the input reads as it did. -/
def fnBmpGetUptoRow : OpenClaim := { program := "ytdkhjcmhjlbpaaa", sum := "cbee50a3b05bf2f0afc2f1a7fd97c6577f70e255cb0fb646f9b80f89e17c1b8d", func := "loop.example/intarsia/laws.FnBmpGet", spec := "fnBmpGet", inPlace := ["internal/abi.NoEscape", "internal/bytealg.MakeNoZero"], unfollowed := true, recurses := true, apart := false, narrowed := true }
def FnBmpGetUptoSaid : Prop := fnBmpGetUptoRow.holds Try.pinned (OpenSpec.upto fnBmpGetSpec)

/-- 'laws.FnExactTgaGet', WHERE WHAT IT READS IS OF BULK AT MOST 1048576: true; the input reads as it did. -/
def fnExactTgaGetUptoRow : OpenClaim := { program := "ytdkhjcmhjlbpaaa", sum := "cbee50a3b05bf2f0afc2f1a7fd97c6577f70e255cb0fb646f9b80f89e17c1b8d", func := "loop.example/intarsia/laws.FnExactTgaGet", spec := "fnExactTgaGet", inPlace := ["internal/abi.NoEscape", "internal/bytealg.MakeNoZero"], unfollowed := true, recurses := true, apart := false, narrowed := true }
def FnExactTgaGetUptoSaid : Prop := fnExactTgaGetUptoRow.holds Try.pinned (OpenSpec.upto fnExactTgaGetSpec)

/-- 'laws.FnTgaBelow', WHERE WHAT IT READS IS OF BULK AT MOST 1048576: true; the input reads as it did. -/
def fnTgaBelowUptoRow : OpenClaim := { program := "ytdkhjcmhjlbpaaa", sum := "cbee50a3b05bf2f0afc2f1a7fd97c6577f70e255cb0fb646f9b80f89e17c1b8d", func := "loop.example/intarsia/laws.FnTgaBelow", spec := "fnTgaBelow", inPlace := ["internal/abi.NoEscape", "internal/bytealg.MakeNoZero"], unfollowed := true, recurses := true, apart := false, narrowed := true }
def FnTgaBelowUptoSaid : Prop := fnTgaBelowUptoRow.holds Try.pinned (OpenSpec.upto fnTgaBelowSpec)

/-- 'laws.FnTga', WHERE WHAT IT READS IS OF BULK AT MOST 1048576: true; the input reads as it did. -/
def fnTgaUptoRow : OpenClaim := { program := "ytdkhjcmhjlbpaaa", sum := "cbee50a3b05bf2f0afc2f1a7fd97c6577f70e255cb0fb646f9b80f89e17c1b8d", func := "loop.example/intarsia/laws.FnTga", spec := "fnTga", inPlace := ["internal/abi.NoEscape", "internal/bytealg.MakeNoZero"], unfollowed := true, recurses := true, apart := false, narrowed := true }
def FnTgaUptoSaid : Prop := fnTgaUptoRow.holds Try.pinned (OpenSpec.upto fnTgaSpec)

/-- 'laws.FnTgaGet', WHERE WHAT IT READS IS OF BULK AT MOST 1048576: true; the input reads as it did. -/
def fnTgaGetUptoRow : OpenClaim := { program := "ytdkhjcmhjlbpaaa", sum := "cbee50a3b05bf2f0afc2f1a7fd97c6577f70e255cb0fb646f9b80f89e17c1b8d", func := "loop.example/intarsia/laws.FnTgaGet", spec := "fnTgaGet", inPlace := ["internal/abi.NoEscape", "internal/bytealg.MakeNoZero"], unfollowed := true, recurses := true, apart := false, narrowed := true }
def FnTgaGetUptoSaid : Prop := fnTgaGetUptoRow.holds Try.pinned (OpenSpec.upto fnTgaGetSpec)

/-- 'laws.FnExactPnmGet', WHERE WHAT IT READS IS OF BULK AT MOST 1048576: true; the input reads as it did. -/
def fnExactPnmGetUptoRow : OpenClaim := { program := "ytdkhjcmhjlbpaaa", sum := "cbee50a3b05bf2f0afc2f1a7fd97c6577f70e255cb0fb646f9b80f89e17c1b8d", func := "loop.example/intarsia/laws.FnExactPnmGet", spec := "fnExactPnmGet", inPlace := ["internal/abi.NoEscape", "internal/bytealg.MakeNoZero"], unfollowed := true, recurses := true, apart := false, narrowed := true }
def FnExactPnmGetUptoSaid : Prop := fnExactPnmGetUptoRow.holds Try.pinned (OpenSpec.upto fnExactPnmGetSpec)

end Rows
end Go.Proofs.Ytdkhjcmhjlbpaaa
