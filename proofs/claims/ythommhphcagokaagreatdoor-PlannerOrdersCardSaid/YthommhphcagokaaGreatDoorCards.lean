/-
  DERIVED. GIVEN WITH THE SEED: THE CARDS: each row of YthommhphcagokaaGreatDoorRows.lean that lists a variable, with what it lists TIED to the program's text (the seventh form; the later family's looks); each row that meets fmt, with fmt's text TOLD by the authors' own Lean function (tested against real Go, not proved from fmt's source: count such statements apart). THE CARD IS WHAT COUNTS. Prove the row's statement (the work); the ties are given (YthommhphcagokaaGreatDoorTie.lean); close each card by the builder's one call (the guide's Derived/Test/ToyasCard.lean, 'card_holds'). Laid BY PROGRAM, IN A SANDBOX (cutbox-door.mjs). By AI agents, Wed Nov 11 2026. No macro, syntax, notation, axiom, sorry.
-/
import Derived.Test.YthommhphcagokaaGreatDoorRows
import GoSem.ClaimSeven
namespace Go.Proofs.YthommhphcagokaaGreatDoor
namespace Rows

/-- THE TIED CARD OF 'cipherplanlaw32.ProofEmpty'. -/
def proofEmptyCard : Claim7 := { stood := { row := proofEmptyRow, standIns := [], harness := (true, "6649c0b29c47fc09e189eb864f8aec470c653549ae1321fdff8454a41df9f4a8"), looks := false }, kinds := [], alts := [], laidByText := true, laidKinds := [.data], laidTests := true, laidLooks := .later }
def ProofEmptyCardSaid : Prop := Claim7.holds Tryz.pinned (.plain (OpenSpec.ofChange proofEmptySpec)) proofEmptyCard

/-- THE TIED CARD OF 'cipherplanlaw33.PlannerOrders'. -/
def plannerOrdersCard : Claim7 := { stood := { row := plannerOrdersRow, standIns := [], harness := (true, "6649c0b29c47fc09e189eb864f8aec470c653549ae1321fdff8454a41df9f4a8"), looks := false }, kinds := [], alts := [], laidByText := true, laidKinds := [.data], laidTests := true, laidLooks := .later }
def PlannerOrdersCardSaid : Prop := Claim7.holds Tryz.pinned (.plain (OpenSpec.ofChange plannerOrdersSpec)) plannerOrdersCard

/-- THE SECOND FORM's CARD OF 'cipherplanlaw32.ProofEmpty'. -/
def proofEmptyUptoCard : Claim7 := { stood := { row := proofEmptyUptoRow, standIns := [], harness := (true, "6649c0b29c47fc09e189eb864f8aec470c653549ae1321fdff8454a41df9f4a8"), looks := false }, kinds := [], alts := [], laidByText := true, laidKinds := [.data], laidTests := true, laidLooks := .later }
def ProofEmptyUptoCardSaid : Prop := Claim7.holds Tryz.pinned (.plain (OpenSpec.upto proofEmptySpec)) proofEmptyUptoCard

/-- THE SECOND FORM's CARD OF 'cipherplanlaw33.PlannerOrders'. -/
def plannerOrdersUptoCard : Claim7 := { stood := { row := plannerOrdersUptoRow, standIns := [], harness := (true, "6649c0b29c47fc09e189eb864f8aec470c653549ae1321fdff8454a41df9f4a8"), looks := false }, kinds := [], alts := [], laidByText := true, laidKinds := [.data], laidTests := true, laidLooks := .later }
def PlannerOrdersUptoCardSaid : Prop := Claim7.holds Tryz.pinned (.plain (OpenSpec.upto plannerOrdersSpec)) plannerOrdersUptoCard
end Rows
end Go.Proofs.YthommhphcagokaaGreatDoor
