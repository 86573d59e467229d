/-
  DERIVED. GIVEN WITH THE SEED: THE CARDS: each row of YtkobgkelhcigdaaGreatDoorRows.lean that lists a variable, with what it lists TIED to the program's text (the seventh form; the later family's looks); each row that meets fmt, with fmt's text TOLD by the authors' own Lean function (tested against real Go, not proved from fmt's source: count such statements apart). THE CARD IS WHAT COUNTS. Prove the row's statement (the work); the ties are given (YtkobgkelhcigdaaGreatDoorTie.lean); close each card by the builder's one call (the guide's Derived/Test/ToyasCard.lean, 'card_holds'). Laid BY PROGRAM, IN A SANDBOX (cutbox-door.mjs). By AI agents, Wed Nov 11 2026. No macro, syntax, notation, axiom, sorry.
-/
import Derived.Test.YtkobgkelhcigdaaGreatDoorRows
import GoSem.ClaimSeven
namespace Go.Proofs.YtkobgkelhcigdaaGreatDoor
namespace Rows

/-- THE TIED CARD OF 'cipherplanlaw31.PlanDue'. -/
def planDueCard : Claim7 := { stood := { row := planDueRow, standIns := [], harness := (true, "998d1c6968c934bf496e9e0456a85cb256f685c0a6d5a3cd586efe69e619a861"), looks := false }, kinds := [], alts := [], laidByText := true, laidKinds := [.data], laidTests := true, laidLooks := .later }
def PlanDueCardSaid : Prop := Claim7.holds Tryz.pinned (.plain (OpenSpec.ofChange planDueSpec)) planDueCard

/-- THE SECOND FORM's CARD OF 'cipherplanlaw31.PlanDue'. -/
def planDueUptoCard : Claim7 := { stood := { row := planDueUptoRow, standIns := [], harness := (true, "998d1c6968c934bf496e9e0456a85cb256f685c0a6d5a3cd586efe69e619a861"), looks := false }, kinds := [], alts := [], laidByText := true, laidKinds := [.data], laidTests := true, laidLooks := .later }
def PlanDueUptoCardSaid : Prop := Claim7.holds Tryz.pinned (.plain (OpenSpec.upto planDueSpec)) planDueUptoCard
end Rows
end Go.Proofs.YtkobgkelhcigdaaGreatDoor
