/-
  DERIVED. GIVEN WITH THE SEED: THE CARDS: each row of YtkabfelhicohnaaGreatDoorRows.lean that lists a variable, with what it lists TIED to the program's text (the seventh form; the later family's looks); each row that meets fmt, with fmt's text TOLD by the authors' own Lean function (tested against real Go, not proved from fmt's source: count such statements apart). THE CARD IS WHAT COUNTS. Prove the row's statement (the work); the ties are given (YtkabfelhicohnaaGreatDoorTie.lean); close each card by the builder's one call (the guide's Derived/Test/ToyasCard.lean, 'card_holds'). Laid BY PROGRAM, IN A SANDBOX (cutbox-door.mjs). By AI agents, Wed Nov 11 2026. No macro, syntax, notation, axiom, sorry.
-/
import Derived.Test.YtkabfelhicohnaaGreatDoorRows
import GoSem.ClaimSeven
namespace Go.Proofs.YtkabfelhicohnaaGreatDoor
namespace Rows

/-- THE TIED CARD OF 'bookplatetop.WholeExchange'. -/
def wholeExchangeCard : Claim7 := { stood := { row := wholeExchangeRow, standIns := [], harness := (true, "f979de3cc1c6a14b911c1483edc89033b2872328b3873fe6cdfd6c4abae684f3"), looks := true }, kinds := [], alts := [], laidByText := true, laidKinds := [.data, .data, .data, .data, .sentinel, .sentinel, .pinned], laidTests := true, laidLooks := .later }
def WholeExchangeCardSaid : Prop := Claim7.holds Tryz.pinned (.plain (OpenSpec.ofChange wholeExchangeSpec)) wholeExchangeCard

/-- THE SECOND FORM's CARD OF 'bookplatetop.WholeExchange'. -/
def wholeExchangeUptoCard : Claim7 := { stood := { row := wholeExchangeUptoRow, standIns := [], harness := (true, "f979de3cc1c6a14b911c1483edc89033b2872328b3873fe6cdfd6c4abae684f3"), looks := true }, kinds := [], alts := [], laidByText := true, laidKinds := [.data, .data, .data, .data, .sentinel, .sentinel, .pinned], laidTests := true, laidLooks := .later }
def WholeExchangeUptoCardSaid : Prop := Claim7.holds Tryz.pinned (.plain (OpenSpec.upto wholeExchangeSpec)) wholeExchangeUptoCard
end Rows
end Go.Proofs.YtkabfelhicohnaaGreatDoor
