/-
  DERIVED. GIVEN WITH THE SEED: THE CARDS: each row of YtmocaapoeefgkaaGreatDoorRows.lean that lists a variable, with what it lists TIED to the program's text (the seventh form; the later family's looks); each row that meets fmt, with fmt's text TOLD by the authors' own Lean function (tested against real Go, not proved from fmt's source: count such statements apart). THE CARD IS WHAT COUNTS. Prove the row's statement (the work); the ties are given (YtmocaapoeefgkaaGreatDoorTie.lean); close each card by the builder's one call (the guide's Derived/Test/ToyasCard.lean, 'card_holds'). Laid BY PROGRAM, IN A SANDBOX (cutbox-door.mjs). By AI agents, Wed Nov 11 2026. No macro, syntax, notation, axiom, sorry.
-/
import Derived.Test.YtmocaapoeefgkaaGreatDoorRows
import GoSem.ClaimSeven
namespace Go.Proofs.YtmocaapoeefgkaaGreatDoor
namespace Rows

/-- THE TIED CARD OF 'cipherplanlaw37.RunnerUndoes'. -/
def runnerUndoesCard : Claim7 := { stood := { row := runnerUndoesRow, standIns := [], harness := (true, "97c57c5b22b6fe7b68b1b48db043875e2ca007dd89d6ca00c5d4b57230b01e41"), looks := false }, kinds := [], alts := [], laidByText := true, laidKinds := [.data], laidTests := true, laidLooks := .later }
def RunnerUndoesCardSaid : Prop := Claim7.holds Tryz.pinned (.plain (OpenSpec.ofChange runnerUndoesSpec)) runnerUndoesCard

/-- THE TIED CARD OF 'cipherplanlaw37.RunnerDays'. -/
def runnerDaysCard : Claim7 := { stood := { row := runnerDaysRow, standIns := [], harness := (true, "97c57c5b22b6fe7b68b1b48db043875e2ca007dd89d6ca00c5d4b57230b01e41"), looks := false }, kinds := [], alts := [], laidByText := true, laidKinds := [.data], laidTests := true, laidLooks := .later }
def RunnerDaysCardSaid : Prop := Claim7.holds Tryz.pinned (.plain (OpenSpec.ofChange runnerDaysSpec)) runnerDaysCard

/-- THE TIED CARD OF 'cipherplanlaw37.RunnerFinishes'. -/
def runnerFinishesCard : Claim7 := { stood := { row := runnerFinishesRow, standIns := [], harness := (true, "97c57c5b22b6fe7b68b1b48db043875e2ca007dd89d6ca00c5d4b57230b01e41"), looks := false }, kinds := [], alts := [], laidByText := true, laidKinds := [.data], laidTests := true, laidLooks := .later }
def RunnerFinishesCardSaid : Prop := Claim7.holds Tryz.pinned (.plain (OpenSpec.ofChange runnerFinishesSpec)) runnerFinishesCard

/-- THE TIED CARD OF 'cipherplanlaw37.RunnerTries'. -/
def runnerTriesCard : Claim7 := { stood := { row := runnerTriesRow, standIns := [], harness := (true, "97c57c5b22b6fe7b68b1b48db043875e2ca007dd89d6ca00c5d4b57230b01e41"), looks := false }, kinds := [], alts := [], laidByText := true, laidKinds := [.data], laidTests := true, laidLooks := .later }
def RunnerTriesCardSaid : Prop := Claim7.holds Tryz.pinned (.plain (OpenSpec.ofChange runnerTriesSpec)) runnerTriesCard

/-- THE TIED CARD OF 'cipherplanlaw37.RunnerAll'. -/
def runnerAllCard : Claim7 := { stood := { row := runnerAllRow, standIns := [], harness := (true, "97c57c5b22b6fe7b68b1b48db043875e2ca007dd89d6ca00c5d4b57230b01e41"), looks := false }, kinds := [], alts := [], laidByText := true, laidKinds := [.data], laidTests := true, laidLooks := .later }
def RunnerAllCardSaid : Prop := Claim7.holds Tryz.pinned (.plain (OpenSpec.ofChange runnerAllSpec)) runnerAllCard

/-- THE TIED CARD OF 'cipherplanlaw37.RunnerStops'. -/
def runnerStopsCard : Claim7 := { stood := { row := runnerStopsRow, standIns := [], harness := (true, "97c57c5b22b6fe7b68b1b48db043875e2ca007dd89d6ca00c5d4b57230b01e41"), looks := false }, kinds := [], alts := [], laidByText := true, laidKinds := [.data], laidTests := true, laidLooks := .later }
def RunnerStopsCardSaid : Prop := Claim7.holds Tryz.pinned (.plain (OpenSpec.ofChange runnerStopsSpec)) runnerStopsCard

/-- THE TIED CARD OF 'cipherplanlaw31.PlanAll'. -/
def planAllCard : Claim7 := { stood := { row := planAllRow, standIns := [], harness := (true, "97c57c5b22b6fe7b68b1b48db043875e2ca007dd89d6ca00c5d4b57230b01e41"), looks := false }, kinds := [], alts := [], laidByText := true, laidKinds := [.data], laidTests := true, laidLooks := .later }
def PlanAllCardSaid : Prop := Claim7.holds Tryz.pinned (.plain (OpenSpec.ofChange planAllSpec)) planAllCard

/-- THE SECOND FORM's CARD OF 'cipherplanlaw37.RunnerUndoes'. -/
def runnerUndoesUptoCard : Claim7 := { stood := { row := runnerUndoesUptoRow, standIns := [], harness := (true, "97c57c5b22b6fe7b68b1b48db043875e2ca007dd89d6ca00c5d4b57230b01e41"), looks := false }, kinds := [], alts := [], laidByText := true, laidKinds := [.data], laidTests := true, laidLooks := .later }
def RunnerUndoesUptoCardSaid : Prop := Claim7.holds Tryz.pinned (.plain (OpenSpec.upto runnerUndoesSpec)) runnerUndoesUptoCard

/-- THE SECOND FORM's CARD OF 'cipherplanlaw37.RunnerDays'. -/
def runnerDaysUptoCard : Claim7 := { stood := { row := runnerDaysUptoRow, standIns := [], harness := (true, "97c57c5b22b6fe7b68b1b48db043875e2ca007dd89d6ca00c5d4b57230b01e41"), looks := false }, kinds := [], alts := [], laidByText := true, laidKinds := [.data], laidTests := true, laidLooks := .later }
def RunnerDaysUptoCardSaid : Prop := Claim7.holds Tryz.pinned (.plain (OpenSpec.upto runnerDaysSpec)) runnerDaysUptoCard

/-- THE SECOND FORM's CARD OF 'cipherplanlaw37.RunnerFinishes'. -/
def runnerFinishesUptoCard : Claim7 := { stood := { row := runnerFinishesUptoRow, standIns := [], harness := (true, "97c57c5b22b6fe7b68b1b48db043875e2ca007dd89d6ca00c5d4b57230b01e41"), looks := false }, kinds := [], alts := [], laidByText := true, laidKinds := [.data], laidTests := true, laidLooks := .later }
def RunnerFinishesUptoCardSaid : Prop := Claim7.holds Tryz.pinned (.plain (OpenSpec.upto runnerFinishesSpec)) runnerFinishesUptoCard

/-- THE SECOND FORM's CARD OF 'cipherplanlaw37.RunnerTries'. -/
def runnerTriesUptoCard : Claim7 := { stood := { row := runnerTriesUptoRow, standIns := [], harness := (true, "97c57c5b22b6fe7b68b1b48db043875e2ca007dd89d6ca00c5d4b57230b01e41"), looks := false }, kinds := [], alts := [], laidByText := true, laidKinds := [.data], laidTests := true, laidLooks := .later }
def RunnerTriesUptoCardSaid : Prop := Claim7.holds Tryz.pinned (.plain (OpenSpec.upto runnerTriesSpec)) runnerTriesUptoCard

/-- THE SECOND FORM's CARD OF 'cipherplanlaw37.RunnerAll'. -/
def runnerAllUptoCard : Claim7 := { stood := { row := runnerAllUptoRow, standIns := [], harness := (true, "97c57c5b22b6fe7b68b1b48db043875e2ca007dd89d6ca00c5d4b57230b01e41"), looks := false }, kinds := [], alts := [], laidByText := true, laidKinds := [.data], laidTests := true, laidLooks := .later }
def RunnerAllUptoCardSaid : Prop := Claim7.holds Tryz.pinned (.plain (OpenSpec.upto runnerAllSpec)) runnerAllUptoCard

/-- THE SECOND FORM's CARD OF 'cipherplanlaw37.RunnerStops'. -/
def runnerStopsUptoCard : Claim7 := { stood := { row := runnerStopsUptoRow, standIns := [], harness := (true, "97c57c5b22b6fe7b68b1b48db043875e2ca007dd89d6ca00c5d4b57230b01e41"), looks := false }, kinds := [], alts := [], laidByText := true, laidKinds := [.data], laidTests := true, laidLooks := .later }
def RunnerStopsUptoCardSaid : Prop := Claim7.holds Tryz.pinned (.plain (OpenSpec.upto runnerStopsSpec)) runnerStopsUptoCard

/-- THE SECOND FORM's CARD OF 'cipherplanlaw31.PlanAll'. -/
def planAllUptoCard : Claim7 := { stood := { row := planAllUptoRow, standIns := [], harness := (true, "97c57c5b22b6fe7b68b1b48db043875e2ca007dd89d6ca00c5d4b57230b01e41"), looks := false }, kinds := [], alts := [], laidByText := true, laidKinds := [.data], laidTests := true, laidLooks := .later }
def PlanAllUptoCardSaid : Prop := Claim7.holds Tryz.pinned (.plain (OpenSpec.upto planAllSpec)) planAllUptoCard
end Rows
end Go.Proofs.YtmocaapoeefgkaaGreatDoor
