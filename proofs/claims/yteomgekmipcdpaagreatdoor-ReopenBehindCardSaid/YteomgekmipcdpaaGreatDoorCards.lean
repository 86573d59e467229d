/-
  DERIVED. GIVEN WITH THE SEED: THE CARDS: each row of YteomgekmipcdpaaGreatDoorRows.lean that lists a variable, with what it lists TIED to the program's text (the seventh form; the later family's looks); each row that meets fmt, with fmt's text TOLD by the authors' own Lean function (tested against real Go, not proved from fmt's source: count such statements apart). THE CARD IS WHAT COUNTS. Prove the row's statement (the work); the ties are given (YteomgekmipcdpaaGreatDoorTie.lean); close each card by the builder's one call (the guide's Derived/Test/ToyasCard.lean, 'card_holds'). Laid BY PROGRAM, IN A SANDBOX (cutbox-door.mjs). By AI agents, Wed Nov 11 2026. No macro, syntax, notation, axiom, sorry.
-/
import Derived.Test.YteomgekmipcdpaaGreatDoorRows
import GoSem.ClaimSeven
namespace Go.Proofs.YteomgekmipcdpaaGreatDoor
namespace Rows

/-- THE TIED CARD OF 'cipherplanlaw39.ReopenBehind'. -/
def reopenBehindCard : Claim7 := { stood := { row := reopenBehindRow, standIns := [], harness := (true, "8d60ea0eec9912188da28ecd9e80a3cf8ae14dd98548e82565a028a2f1a9b80f"), looks := false }, kinds := [], alts := [], laidByText := true, laidKinds := [.data], laidTests := true, laidLooks := .later }
def ReopenBehindCardSaid : Prop := Claim7.holds Tryz.pinned (.plain (OpenSpec.ofChange reopenBehindSpec)) reopenBehindCard

/-- THE SECOND FORM's CARD OF 'cipherplanlaw39.ReopenBehind'. -/
def reopenBehindUptoCard : Claim7 := { stood := { row := reopenBehindUptoRow, standIns := [], harness := (true, "8d60ea0eec9912188da28ecd9e80a3cf8ae14dd98548e82565a028a2f1a9b80f"), looks := false }, kinds := [], alts := [], laidByText := true, laidKinds := [.data], laidTests := true, laidLooks := .later }
def ReopenBehindUptoCardSaid : Prop := Claim7.holds Tryz.pinned (.plain (OpenSpec.upto reopenBehindSpec)) reopenBehindUptoCard
end Rows
end Go.Proofs.YteomgekmipcdpaaGreatDoor
