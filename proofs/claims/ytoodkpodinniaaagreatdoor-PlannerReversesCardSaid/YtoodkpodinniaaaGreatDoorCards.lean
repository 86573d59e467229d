/-
  DERIVED. GIVEN WITH THE SEED: THE CARDS: each row of YtoodkpodinniaaaGreatDoorRows.lean that lists a variable, with what it lists TIED to the program's text (the seventh form; the later family's looks); each row that meets fmt, with fmt's text TOLD by the authors' own Lean function (tested against real Go, not proved from fmt's source: count such statements apart). THE CARD IS WHAT COUNTS. Prove the row's statement (the work); the ties are given (YtoodkpodinniaaaGreatDoorTie.lean); close each card by the builder's one call (the guide's Derived/Test/ToyasCard.lean, 'card_holds'). Laid BY PROGRAM, IN A SANDBOX (cutbox-door.mjs). By AI agents, Wed Nov 11 2026. No macro, syntax, notation, axiom, sorry.
-/
import Derived.Test.YtoodkpodinniaaaGreatDoorRows
import GoSem.ClaimSeven
namespace Go.Proofs.YtoodkpodinniaaaGreatDoor
namespace Rows

/-- THE TIED CARD OF 'cipherplanlaw32.ProofEmpty'. -/
def proofEmptyCard : Claim7 := { stood := { row := proofEmptyRow, standIns := [], harness := (true, "99ec6e23ba480a74831a4716a4ba48dd0446100ff3eafc327c16bd276c016118"), looks := false }, kinds := [], alts := [], laidByText := true, laidKinds := [.data], laidTests := true, laidLooks := .later }
def ProofEmptyCardSaid : Prop := Claim7.holds Tryz.pinned (.plain (OpenSpec.ofChange proofEmptySpec)) proofEmptyCard

/-- THE TIED CARD OF 'cipherplanlaw33.PlannerReverses'. -/
def plannerReversesCard : Claim7 := { stood := { row := plannerReversesRow, standIns := [], harness := (true, "99ec6e23ba480a74831a4716a4ba48dd0446100ff3eafc327c16bd276c016118"), looks := false }, kinds := [], alts := [], laidByText := true, laidKinds := [.data], laidTests := true, laidLooks := .later }
def PlannerReversesCardSaid : Prop := Claim7.holds Tryz.pinned (.plain (OpenSpec.ofChange plannerReversesSpec)) plannerReversesCard

/-- THE SECOND FORM's CARD OF 'cipherplanlaw32.ProofEmpty'. -/
def proofEmptyUptoCard : Claim7 := { stood := { row := proofEmptyUptoRow, standIns := [], harness := (true, "99ec6e23ba480a74831a4716a4ba48dd0446100ff3eafc327c16bd276c016118"), looks := false }, kinds := [], alts := [], laidByText := true, laidKinds := [.data], laidTests := true, laidLooks := .later }
def ProofEmptyUptoCardSaid : Prop := Claim7.holds Tryz.pinned (.plain (OpenSpec.upto proofEmptySpec)) proofEmptyUptoCard

/-- THE SECOND FORM's CARD OF 'cipherplanlaw33.PlannerReverses'. -/
def plannerReversesUptoCard : Claim7 := { stood := { row := plannerReversesUptoRow, standIns := [], harness := (true, "99ec6e23ba480a74831a4716a4ba48dd0446100ff3eafc327c16bd276c016118"), looks := false }, kinds := [], alts := [], laidByText := true, laidKinds := [.data], laidTests := true, laidLooks := .later }
def PlannerReversesUptoCardSaid : Prop := Claim7.holds Tryz.pinned (.plain (OpenSpec.upto plannerReversesSpec)) plannerReversesUptoCard
end Rows
end Go.Proofs.YtoodkpodinniaaaGreatDoor
