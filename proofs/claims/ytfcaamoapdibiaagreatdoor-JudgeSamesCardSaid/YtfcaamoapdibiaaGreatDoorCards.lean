/-
  DERIVED. GIVEN WITH THE SEED: THE CARDS: each row of YtfcaamoapdibiaaGreatDoorRows.lean that lists a variable, with what it lists TIED to the program's text (the seventh form; the later family's looks); each row that meets fmt, with fmt's text TOLD by the authors' own Lean function (tested against real Go, not proved from fmt's source: count such statements apart). THE CARD IS WHAT COUNTS. Prove the row's statement (the work); the ties are given (YtfcaamoapdibiaaGreatDoorTie.lean); close each card by the builder's one call (the guide's Derived/Test/ToyasCard.lean, 'card_holds'). Laid BY PROGRAM, IN A SANDBOX (cutbox-door.mjs). By AI agents, Wed Nov 11 2026. No macro, syntax, notation, axiom, sorry.
-/
import Derived.Test.YtfcaamoapdibiaaGreatDoorRows
import GoSem.ClaimSeven
namespace Go.Proofs.YtfcaamoapdibiaaGreatDoor
namespace Rows

/-- THE TIED CARD OF 'virgatelaw11.JudgeSames'. -/
def judgeSamesCard : Claim7 := { stood := { row := judgeSamesRow, standIns := [], harness := (true, "906a64a780dbedc0f13080315ba54feec86c6581043a658412b2322f7cd8eb6a"), looks := true }, kinds := [], alts := [], laidByText := true, laidKinds := [.data, .data, .data, .sentinel, .sentinel, .listed, .data], laidTests := true, laidLooks := .later }
def JudgeSamesCardSaid : Prop := Claim7.holds Tryz.pinned (.plain (OpenSpec.ofChange judgeSamesSpec)) judgeSamesCard

/-- THE SECOND FORM's CARD OF 'virgatelaw11.JudgeSames'. -/
def judgeSamesUptoCard : Claim7 := { stood := { row := judgeSamesUptoRow, standIns := [], harness := (true, "906a64a780dbedc0f13080315ba54feec86c6581043a658412b2322f7cd8eb6a"), looks := true }, kinds := [], alts := [], laidByText := true, laidKinds := [.data, .data, .data, .sentinel, .sentinel, .listed, .data], laidTests := true, laidLooks := .later }
def JudgeSamesUptoCardSaid : Prop := Claim7.holds Tryz.pinned (.plain (OpenSpec.upto judgeSamesSpec)) judgeSamesUptoCard
end Rows
end Go.Proofs.YtfcaamoapdibiaaGreatDoor
