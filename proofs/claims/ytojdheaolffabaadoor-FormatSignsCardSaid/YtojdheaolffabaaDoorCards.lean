/-
  DERIVED. GIVEN WITH THE SEED: THE CARDS: each row of YtojdheaolffabaaDoorRows.lean that lists a variable, with what it lists TIED to the program's text (the seventh form; the later family's looks); each row that meets fmt, with fmt's text TOLD by the authors' own Lean function (tested against real Go, not proved from fmt's source: count such statements apart). THE CARD IS WHAT COUNTS. Prove the row's statement (the work); the ties are given (YtojdheaolffabaaDoorTie.lean); close each card by the builder's one call (the guide's Derived/Test/ToyasCard.lean, 'card_holds'). Laid BY PROGRAM, IN A SANDBOX (cutbox-door.mjs). By AI agents, Wed Nov 11 2026. No macro, syntax, notation, axiom, sorry.
-/
import Derived.Test.YtojdheaolffabaaDoorRows
import GoSem.ClaimSeven
namespace Go.Proofs.YtojdheaolffabaaDoor
namespace Rows

/-- THE TIED CARD OF 'scclaw4.FormatSigns'. -/
def formatSignsCard : Claim7 := { stood := { row := formatSignsRow, standIns := [], harness := (true, "aeeb58d4f50c845ecdc8ce842a7bfd9621b9588598ad8bb603e1fe0dbec62f9d"), looks := true }, kinds := [], alts := [], laidByText := true, laidKinds := [.data, .data, .data, .data, .sentinel, .sentinel, .data, .pinned], laidTests := true, laidLooks := .later }
def FormatSignsCardSaid : Prop := Claim7.holds Tryd.pinned (.plain (OpenSpec.ofChange formatSignsSpec)) formatSignsCard

/-- THE SECOND FORM's CARD OF 'scclaw4.FormatSigns'. -/
def formatSignsUptoCard : Claim7 := { stood := { row := formatSignsUptoRow, standIns := [], harness := (true, "aeeb58d4f50c845ecdc8ce842a7bfd9621b9588598ad8bb603e1fe0dbec62f9d"), looks := true }, kinds := [], alts := [], laidByText := true, laidKinds := [.data, .data, .data, .data, .sentinel, .sentinel, .data, .pinned], laidTests := true, laidLooks := .later }
def FormatSignsUptoCardSaid : Prop := Claim7.holds Tryd.pinned (.plain (OpenSpec.upto formatSignsSpec)) formatSignsUptoCard
end Rows
end Go.Proofs.YtojdheaolffabaaDoor
