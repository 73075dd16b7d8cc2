/-
  DERIVED. GIVEN WITH THE SEED: THE CARDS: each row of YtdhpekdfpoeboaaDoorRows.lean that lists a variable, with what it lists TIED to the program's text (the seventh form; the later family's looks); each row that meets fmt, with fmt's text TOLD by the authors' own Lean function (tested against real Go, not proved from fmt's source: count such statements apart). THE CARD IS WHAT COUNTS. Prove the row's statement (the work); the ties are given (YtdhpekdfpoeboaaDoorTie.lean); close each card by the builder's one call (the guide's Derived/Test/ToyasCard.lean, 'card_holds'). Laid BY PROGRAM, IN A SANDBOX (cutbox-door.mjs). By AI agents, Wed Nov 11 2026. No macro, syntax, notation, axiom, sorry.
-/
import Derived.Test.YtdhpekdfpoeboaaDoorRows
import GoSem.ClaimSeven
namespace Go.Proofs.YtdhpekdfpoeboaaDoor
namespace Rows

/-- THE TIED CARD OF 'laws.FnExactChunksPut'. -/
def fnExactChunksPutCard : Claim7 := { stood := { row := fnExactChunksPutRow, standIns := [], harness := (true, "f3bf648d4024d40fa03dd283c35b336cc95f1bc177ccae77acdc192ca053be5a"), looks := false }, kinds := [], alts := [], laidByText := true, laidKinds := [.data, .pinned], laidTests := true, laidLooks := .later }
def FnExactChunksPutCardSaid : Prop := Claim7.holds Tryd.pinned (.plain (OpenSpec.ofChange fnExactChunksPutSpec)) fnExactChunksPutCard

/-- THE TIED CARD OF 'laws.FnExactChunksGet'. -/
def fnExactChunksGetCard : Claim7 := { stood := { row := fnExactChunksGetRow, standIns := [], harness := (true, "f3bf648d4024d40fa03dd283c35b336cc95f1bc177ccae77acdc192ca053be5a"), looks := false }, kinds := [], alts := [], laidByText := true, laidKinds := [.data, .pinned], laidTests := true, laidLooks := .later }
def FnExactChunksGetCardSaid : Prop := Claim7.holds Tryd.pinned (.plain (OpenSpec.ofChange fnExactChunksGetSpec)) fnExactChunksGetCard

/-- THE TIED CARD OF 'laws.FnChunksByte'. -/
def fnChunksByteCard : Claim7 := { stood := { row := fnChunksByteRow, standIns := [], harness := (true, "f3bf648d4024d40fa03dd283c35b336cc95f1bc177ccae77acdc192ca053be5a"), looks := false }, kinds := [], alts := [], laidByText := true, laidKinds := [.data, .pinned], laidTests := true, laidLooks := .later }
def FnChunksByteCardSaid : Prop := Claim7.holds Tryd.pinned (.plain (OpenSpec.ofChange fnChunksByteSpec)) fnChunksByteCard

/-- THE TIED CARD OF 'laws.FnChunks'. -/
def fnChunksCard : Claim7 := { stood := { row := fnChunksRow, standIns := [], harness := (true, "f3bf648d4024d40fa03dd283c35b336cc95f1bc177ccae77acdc192ca053be5a"), looks := false }, kinds := [], alts := [], laidByText := true, laidKinds := [.data, .pinned], laidTests := true, laidLooks := .later }
def FnChunksCardSaid : Prop := Claim7.holds Tryd.pinned (.plain (OpenSpec.ofChange fnChunksSpec)) fnChunksCard

/-- THE SECOND FORM's CARD OF 'laws.FnExactChunksPut'. -/
def fnExactChunksPutUptoCard : Claim7 := { stood := { row := fnExactChunksPutUptoRow, standIns := [], harness := (true, "f3bf648d4024d40fa03dd283c35b336cc95f1bc177ccae77acdc192ca053be5a"), looks := false }, kinds := [], alts := [], laidByText := true, laidKinds := [.data, .pinned], laidTests := true, laidLooks := .later }
def FnExactChunksPutUptoCardSaid : Prop := Claim7.holds Tryd.pinned (.plain (OpenSpec.upto fnExactChunksPutSpec)) fnExactChunksPutUptoCard

/-- THE SECOND FORM's CARD OF 'laws.FnExactChunksGet'. -/
def fnExactChunksGetUptoCard : Claim7 := { stood := { row := fnExactChunksGetUptoRow, standIns := [], harness := (true, "f3bf648d4024d40fa03dd283c35b336cc95f1bc177ccae77acdc192ca053be5a"), looks := false }, kinds := [], alts := [], laidByText := true, laidKinds := [.data, .pinned], laidTests := true, laidLooks := .later }
def FnExactChunksGetUptoCardSaid : Prop := Claim7.holds Tryd.pinned (.plain (OpenSpec.upto fnExactChunksGetSpec)) fnExactChunksGetUptoCard

/-- THE SECOND FORM's CARD OF 'laws.FnChunksByte'. -/
def fnChunksByteUptoCard : Claim7 := { stood := { row := fnChunksByteUptoRow, standIns := [], harness := (true, "f3bf648d4024d40fa03dd283c35b336cc95f1bc177ccae77acdc192ca053be5a"), looks := false }, kinds := [], alts := [], laidByText := true, laidKinds := [.data, .pinned], laidTests := true, laidLooks := .later }
def FnChunksByteUptoCardSaid : Prop := Claim7.holds Tryd.pinned (.plain (OpenSpec.upto fnChunksByteSpec)) fnChunksByteUptoCard

/-- THE SECOND FORM's CARD OF 'laws.FnChunks'. -/
def fnChunksUptoCard : Claim7 := { stood := { row := fnChunksUptoRow, standIns := [], harness := (true, "f3bf648d4024d40fa03dd283c35b336cc95f1bc177ccae77acdc192ca053be5a"), looks := false }, kinds := [], alts := [], laidByText := true, laidKinds := [.data, .pinned], laidTests := true, laidLooks := .later }
def FnChunksUptoCardSaid : Prop := Claim7.holds Tryd.pinned (.plain (OpenSpec.upto fnChunksSpec)) fnChunksUptoCard
end Rows
end Go.Proofs.YtdhpekdfpoeboaaDoor
