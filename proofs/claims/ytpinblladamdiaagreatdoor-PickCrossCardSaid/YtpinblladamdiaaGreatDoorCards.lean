/-
  DERIVED. GIVEN WITH THE SEED: THE CARDS: each row of YtpinblladamdiaaGreatDoorRows.lean that lists a variable, with what it lists TIED to the program's text (the seventh form; the later family's looks); each row that meets fmt, with fmt's text TOLD by the authors' own Lean function (tested against real Go, not proved from fmt's source: count such statements apart). THE CARD IS WHAT COUNTS. Prove the row's statement (the work); the ties are given (YtpinblladamdiaaGreatDoorTie.lean); close each card by the builder's one call (the guide's Derived/Test/ToyasCard.lean, 'card_holds'). Laid BY PROGRAM, IN A SANDBOX (cutbox-door.mjs). By AI agents, Wed Nov 11 2026. No macro, syntax, notation, axiom, sorry.
-/
import Derived.Test.YtpinblladamdiaaGreatDoorRows
import GoSem.ClaimSeven
namespace Go.Proofs.YtpinblladamdiaaGreatDoor
namespace Rows

/-- THE TIED CARD OF 'scclaw3.PickCross'. -/
def pickCrossCard : Claim7 := { stood := { row := pickCrossRow, standIns := [], harness := (true, "f2a9c24b2958ec60f1b1141839a4cbbdf261e6b13576574f030d76f18de87ef7"), looks := true }, kinds := [], alts := [], laidByText := true, laidKinds := [.data, .data, .data, .data, .handle, .sentinel, .sentinel, .data, .pinned], laidTests := true, laidLooks := .later }
def PickCrossCardSaid : Prop := Claim7.holds Tryz.pinned (.plain (OpenSpec.ofChange pickCrossSpec)) pickCrossCard

/-- THE SECOND FORM's CARD OF 'scclaw3.PickCross'. -/
def pickCrossUptoCard : Claim7 := { stood := { row := pickCrossUptoRow, standIns := [], harness := (true, "f2a9c24b2958ec60f1b1141839a4cbbdf261e6b13576574f030d76f18de87ef7"), looks := true }, kinds := [], alts := [], laidByText := true, laidKinds := [.data, .data, .data, .data, .handle, .sentinel, .sentinel, .data, .pinned], laidTests := true, laidLooks := .later }
def PickCrossUptoCardSaid : Prop := Claim7.holds Tryz.pinned (.plain (OpenSpec.upto pickCrossSpec)) pickCrossUptoCard
end Rows
end Go.Proofs.YtpinblladamdiaaGreatDoor
