/-
  DERIVED. GIVEN WITH THE SEED: THE CARDS: each row of YtppdobdifkefcaaGreatDoorRows.lean that lists a variable, with what it lists TIED to the program's text (the seventh form; the later family's looks); each row that meets fmt, with fmt's text TOLD by the authors' own Lean function (tested against real Go, not proved from fmt's source: count such statements apart). THE CARD IS WHAT COUNTS. Prove the row's statement (the work); the ties are given (YtppdobdifkefcaaGreatDoorTie.lean); close each card by the builder's one call (the guide's Derived/Test/ToyasCard.lean, 'card_holds'). Laid BY PROGRAM, IN A SANDBOX (cutbox-door.mjs). By AI agents, Wed Nov 11 2026. No macro, syntax, notation, axiom, sorry.
-/
import Derived.Test.YtppdobdifkefcaaGreatDoorRows
import GoSem.ClaimSeven
namespace Go.Proofs.YtppdobdifkefcaaGreatDoor
namespace Rows

/-- THE TIED CARD OF 'cipherplanlaw31.PlanSchedules'. -/
def planSchedulesCard : Claim7 := { stood := { row := planSchedulesRow, standIns := [], harness := (true, "a8a259a12326a0af994d129ee7265ed1b34a8bcf4237cc502f2966d95b119849"), looks := false }, kinds := [], alts := [], laidByText := true, laidKinds := [.data], laidTests := true, laidLooks := .later }
def PlanSchedulesCardSaid : Prop := Claim7.holds Tryz.pinned (.plain (OpenSpec.ofChange planSchedulesSpec)) planSchedulesCard

/-- THE TIED CARD OF 'cipherplanlaw31.PlanTeams'. -/
def planTeamsCard : Claim7 := { stood := { row := planTeamsRow, standIns := [], harness := (true, "a8a259a12326a0af994d129ee7265ed1b34a8bcf4237cc502f2966d95b119849"), looks := false }, kinds := [], alts := [], laidByText := true, laidKinds := [.data], laidTests := true, laidLooks := .later }
def PlanTeamsCardSaid : Prop := Claim7.holds Tryz.pinned (.plain (OpenSpec.ofChange planTeamsSpec)) planTeamsCard

/-- THE SECOND FORM's CARD OF 'cipherplanlaw31.PlanSchedules'. -/
def planSchedulesUptoCard : Claim7 := { stood := { row := planSchedulesUptoRow, standIns := [], harness := (true, "a8a259a12326a0af994d129ee7265ed1b34a8bcf4237cc502f2966d95b119849"), looks := false }, kinds := [], alts := [], laidByText := true, laidKinds := [.data], laidTests := true, laidLooks := .later }
def PlanSchedulesUptoCardSaid : Prop := Claim7.holds Tryz.pinned (.plain (OpenSpec.upto planSchedulesSpec)) planSchedulesUptoCard

/-- THE SECOND FORM's CARD OF 'cipherplanlaw31.PlanTeams'. -/
def planTeamsUptoCard : Claim7 := { stood := { row := planTeamsUptoRow, standIns := [], harness := (true, "a8a259a12326a0af994d129ee7265ed1b34a8bcf4237cc502f2966d95b119849"), looks := false }, kinds := [], alts := [], laidByText := true, laidKinds := [.data], laidTests := true, laidLooks := .later }
def PlanTeamsUptoCardSaid : Prop := Claim7.holds Tryz.pinned (.plain (OpenSpec.upto planTeamsSpec)) planTeamsUptoCard
end Rows
end Go.Proofs.YtppdobdifkefcaaGreatDoor
