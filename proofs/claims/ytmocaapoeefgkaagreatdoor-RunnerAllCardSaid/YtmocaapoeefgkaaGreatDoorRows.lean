/-
  NARROWER THAN 'FOR EVERY INPUT', by the rows' own cells (each row's printed sentence says how): RunnerUndoes: laid · RunnerDays: laid · RunnerFinishes: laid · RunnerTries: laid · RunnerAll: laid · RunnerStops: laid · PlanAll: laid.
  DERIVED. THE GIVEN ROWS OF THIS SEAT. 7 by the template 'for every input the law returns true; each argument reads behind the call as it read before'; 0 by the template 'total and deterministic' (their statements: YtmocaapoeefgkaaGreatDoorTotals.lean).
  GIVEN WITH THE SEED: the statements are not yours to turn. If you find one false, say at which input.
  Laid BY PROGRAM, IN A SANDBOX (cutbox-rows.mjs): the forced cells as the released guide's own fill.sh prints them over the translation 6fbb3c60ff85cf1c… (all of the seat's roots in one cut). By AI agents, Wed Nov 11 2026. No macro, syntax, notation, axiom, sorry.
-/
import Derived.Test.YtmocaapoeefgkaaGreatDoorChecked
import GoSem.Claim
import GoSem.ClaimJoined
import GoSem.ClaimMapViews
import Derived.JoinedTies
import Derived.KernelRfl
namespace Go.Proofs.YtmocaapoeefgkaaGreatDoor
/- THE CELL 'sum', in the pinned program and in every row, IS THE sha256 OF THE DUMP (.gsa) THAT YtmocaapoeefgkaaGreatDoorProg.lean LOADS. Nothing in Lean hashes anything: it is a label: what it is worth is what the hold of that sum in a sandbox is worth. -/
noncomputable def Tryz.pinned : Pinned := { name := "ytmocaapoeefgkaagreatdoor", sum := "6fbb3c60ff85cf1c6a30089d8ad74b09a831d0db524a00e2a27c907514a7c110", checked := Tryz.checked }
namespace Rows
def none {H : Type} : Left H := { results := [], args := [] }

/- WHAT THE LISTED PACKAGE-LEVEL VARIABLES READ AS WHEN THE CALL BEGINS. Each datum BY PROGRAM (the guide's laid-datum.mjs) off the statement by which the dump's own 'gosem.cut.vars' lays the variable. In a bare row this is a premise. The card (YtmocaapoeefgkaaGreatDoorCards.lean) ties it to the program's text. -/
def laid_math_bits_deBruijn32tab {H : Type} : DataW H := .agg [.lit (.int .u8 0), .lit (.int .u8 1), .lit (.int .u8 28), .lit (.int .u8 2), .lit (.int .u8 29), .lit (.int .u8 14), .lit (.int .u8 24), .lit (.int .u8 3), .lit (.int .u8 30), .lit (.int .u8 22), .lit (.int .u8 20), .lit (.int .u8 15), .lit (.int .u8 25), .lit (.int .u8 17), .lit (.int .u8 4), .lit (.int .u8 8), .lit (.int .u8 31), .lit (.int .u8 27), .lit (.int .u8 13), .lit (.int .u8 23), .lit (.int .u8 21), .lit (.int .u8 19), .lit (.int .u8 16), .lit (.int .u8 7), .lit (.int .u8 26), .lit (.int .u8 12), .lit (.int .u8 18), .lit (.int .u8 6), .lit (.int .u8 11), .lit (.int .u8 5), .lit (.int .u8 10), .lit (.int .u8 9)]

/-- 'cipherplanlaw37.RunnerUndoes': WHATEVER THE INPUT: true; the input reads as it did. -/
def runnerUndoesSpec : ChangeSpec := { name := "runnerUndoes", fn := fun _ => fun
  | [d] => { results := [.lit (.bool true)], args := [d] }
  | _ => none }
def runnerUndoesRow : OpenClaim := { program := "ytmocaapoeefgkaagreatdoor", sum := "6fbb3c60ff85cf1c6a30089d8ad74b09a831d0db524a00e2a27c907514a7c110", func := "cipherplan/cipherplanlaw37.RunnerUndoes", spec := "runnerUndoes", unfollowed := true, recurses := true, named := ["math/bits.deBruijn32tab"], apart := false, laid := [("math/bits.deBruijn32tab", laid_math_bits_deBruijn32tab)] }
def RunnerUndoesSaid : Prop := runnerUndoesRow.holds Tryz.pinned (OpenSpec.ofChange runnerUndoesSpec)

/-- ITS FALSE NEIGHBOUR: 'it returns false'. Refute it at one input. -/
def runnerUndoesWrong : ChangeSpec := { name := "runnerUndoes", fn := fun _ => fun
  | [d] => { results := [.lit (.bool false)], args := [d] }
  | _ => none }
def RunnerUndoesWrongFalsely : Prop := runnerUndoesRow.holds Tryz.pinned (OpenSpec.ofChange runnerUndoesWrong)

/-- 'cipherplanlaw37.RunnerDays': WHATEVER THE INPUT: true; the input reads as it did. -/
def runnerDaysSpec : ChangeSpec := { name := "runnerDays", fn := fun _ => fun
  | [d1, d2] => { results := [.lit (.bool true)], args := [d1, d2] }
  | _ => none }
def runnerDaysRow : OpenClaim := { program := "ytmocaapoeefgkaagreatdoor", sum := "6fbb3c60ff85cf1c6a30089d8ad74b09a831d0db524a00e2a27c907514a7c110", func := "cipherplan/cipherplanlaw37.RunnerDays", spec := "runnerDays", unfollowed := true, recurses := true, named := ["math/bits.deBruijn32tab"], apart := false, laid := [("math/bits.deBruijn32tab", laid_math_bits_deBruijn32tab)] }
def RunnerDaysSaid : Prop := runnerDaysRow.holds Tryz.pinned (OpenSpec.ofChange runnerDaysSpec)

/-- ITS FALSE NEIGHBOUR: 'it returns false'. Refute it at one input. -/
def runnerDaysWrong : ChangeSpec := { name := "runnerDays", fn := fun _ => fun
  | [d1, d2] => { results := [.lit (.bool false)], args := [d1, d2] }
  | _ => none }
def RunnerDaysWrongFalsely : Prop := runnerDaysRow.holds Tryz.pinned (OpenSpec.ofChange runnerDaysWrong)

/-- 'cipherplanlaw37.RunnerFinishes': WHATEVER THE INPUT: true; the input reads as it did. -/
def runnerFinishesSpec : ChangeSpec := { name := "runnerFinishes", fn := fun _ => fun
  | [d] => { results := [.lit (.bool true)], args := [d] }
  | _ => none }
def runnerFinishesRow : OpenClaim := { program := "ytmocaapoeefgkaagreatdoor", sum := "6fbb3c60ff85cf1c6a30089d8ad74b09a831d0db524a00e2a27c907514a7c110", func := "cipherplan/cipherplanlaw37.RunnerFinishes", spec := "runnerFinishes", unfollowed := true, recurses := true, named := ["math/bits.deBruijn32tab"], apart := false, laid := [("math/bits.deBruijn32tab", laid_math_bits_deBruijn32tab)] }
def RunnerFinishesSaid : Prop := runnerFinishesRow.holds Tryz.pinned (OpenSpec.ofChange runnerFinishesSpec)

/-- ITS FALSE NEIGHBOUR: 'it returns false'. Refute it at one input. -/
def runnerFinishesWrong : ChangeSpec := { name := "runnerFinishes", fn := fun _ => fun
  | [d] => { results := [.lit (.bool false)], args := [d] }
  | _ => none }
def RunnerFinishesWrongFalsely : Prop := runnerFinishesRow.holds Tryz.pinned (OpenSpec.ofChange runnerFinishesWrong)

/-- 'cipherplanlaw37.RunnerTries': WHATEVER THE INPUT: true; the input reads as it did. -/
def runnerTriesSpec : ChangeSpec := { name := "runnerTries", fn := fun _ => fun
  | [d] => { results := [.lit (.bool true)], args := [d] }
  | _ => none }
def runnerTriesRow : OpenClaim := { program := "ytmocaapoeefgkaagreatdoor", sum := "6fbb3c60ff85cf1c6a30089d8ad74b09a831d0db524a00e2a27c907514a7c110", func := "cipherplan/cipherplanlaw37.RunnerTries", spec := "runnerTries", unfollowed := true, recurses := true, named := ["math/bits.deBruijn32tab"], apart := false, laid := [("math/bits.deBruijn32tab", laid_math_bits_deBruijn32tab)] }
def RunnerTriesSaid : Prop := runnerTriesRow.holds Tryz.pinned (OpenSpec.ofChange runnerTriesSpec)

/-- ITS FALSE NEIGHBOUR: 'it returns false'. Refute it at one input. -/
def runnerTriesWrong : ChangeSpec := { name := "runnerTries", fn := fun _ => fun
  | [d] => { results := [.lit (.bool false)], args := [d] }
  | _ => none }
def RunnerTriesWrongFalsely : Prop := runnerTriesRow.holds Tryz.pinned (OpenSpec.ofChange runnerTriesWrong)

/-- 'cipherplanlaw37.RunnerAll': WHATEVER THE INPUT: true; the input reads as it did. -/
def runnerAllSpec : ChangeSpec := { name := "runnerAll", fn := fun _ => fun
  | [d1, d2, d3] => { results := [.lit (.bool true)], args := [d1, d2, d3] }
  | _ => none }
def runnerAllRow : OpenClaim := { program := "ytmocaapoeefgkaagreatdoor", sum := "6fbb3c60ff85cf1c6a30089d8ad74b09a831d0db524a00e2a27c907514a7c110", func := "cipherplan/cipherplanlaw37.RunnerAll", spec := "runnerAll", unfollowed := true, recurses := true, named := ["math/bits.deBruijn32tab"], apart := false, laid := [("math/bits.deBruijn32tab", laid_math_bits_deBruijn32tab)] }
def RunnerAllSaid : Prop := runnerAllRow.holds Tryz.pinned (OpenSpec.ofChange runnerAllSpec)

/-- ITS FALSE NEIGHBOUR: 'it returns false'. Refute it at one input. -/
def runnerAllWrong : ChangeSpec := { name := "runnerAll", fn := fun _ => fun
  | [d1, d2, d3] => { results := [.lit (.bool false)], args := [d1, d2, d3] }
  | _ => none }
def RunnerAllWrongFalsely : Prop := runnerAllRow.holds Tryz.pinned (OpenSpec.ofChange runnerAllWrong)

/-- 'cipherplanlaw37.RunnerStops': WHATEVER THE INPUT: true; the input reads as it did. -/
def runnerStopsSpec : ChangeSpec := { name := "runnerStops", fn := fun _ => fun
  | [d] => { results := [.lit (.bool true)], args := [d] }
  | _ => none }
def runnerStopsRow : OpenClaim := { program := "ytmocaapoeefgkaagreatdoor", sum := "6fbb3c60ff85cf1c6a30089d8ad74b09a831d0db524a00e2a27c907514a7c110", func := "cipherplan/cipherplanlaw37.RunnerStops", spec := "runnerStops", unfollowed := true, recurses := true, named := ["math/bits.deBruijn32tab"], apart := false, laid := [("math/bits.deBruijn32tab", laid_math_bits_deBruijn32tab)] }
def RunnerStopsSaid : Prop := runnerStopsRow.holds Tryz.pinned (OpenSpec.ofChange runnerStopsSpec)

/-- ITS FALSE NEIGHBOUR: 'it returns false'. Refute it at one input. -/
def runnerStopsWrong : ChangeSpec := { name := "runnerStops", fn := fun _ => fun
  | [d] => { results := [.lit (.bool false)], args := [d] }
  | _ => none }
def RunnerStopsWrongFalsely : Prop := runnerStopsRow.holds Tryz.pinned (OpenSpec.ofChange runnerStopsWrong)

/-- 'cipherplanlaw31.PlanAll': WHATEVER THE INPUT: true; the input reads as it did. -/
def planAllSpec : ChangeSpec := { name := "planAll", fn := fun _ => fun
  | [d1, d2, d3, d4] => { results := [.lit (.bool true)], args := [d1, d2, d3, d4] }
  | _ => none }
def planAllRow : OpenClaim := { program := "ytmocaapoeefgkaagreatdoor", sum := "6fbb3c60ff85cf1c6a30089d8ad74b09a831d0db524a00e2a27c907514a7c110", func := "cipherplan/cipherplanlaw31.PlanAll", spec := "planAll", inPlace := ["internal/bytealg.IndexByteString"], unfollowed := true, recurses := true, named := ["math/bits.deBruijn32tab"], apart := false, laid := [("math/bits.deBruijn32tab", laid_math_bits_deBruijn32tab)] }
def PlanAllSaid : Prop := planAllRow.holds Tryz.pinned (OpenSpec.ofChange planAllSpec)

/-- ITS FALSE NEIGHBOUR: 'it returns false'. Refute it at one input. -/
def planAllWrong : ChangeSpec := { name := "planAll", fn := fun _ => fun
  | [d1, d2, d3, d4] => { results := [.lit (.bool false)], args := [d1, d2, d3, d4] }
  | _ => none }
def PlanAllWrongFalsely : Prop := planAllRow.holds Tryz.pinned (OpenSpec.ofChange planAllWrong)

/- THE SECOND FORM. 'bulk': how many values and letters a reading holds, each counted each time it is reached (what is shared counts as often as it is met; a slice's spare places count too). A statement '..UptoSaid' is the law's where the arguments, and the package variables that the reading takes, are together of bulk at most 1048576: NARROWER than '..Said'. Prove '..Said' where nothing that the law and all that it calls make is longer than what came in: it says more and counts as full. Else prove '..UptoSaid'. A law counts once. -/
mutual
def uptoBulk {H : Type} : DataW H → Nat
  | .lit (.string bytes) => bytes.length + 1
  | .lit _ => 1
  | .nil => 1
  | .ptr d => uptoBulk d + 1
  | .slice elems spare => uptoBulkAll elems + uptoBulkAll spare + 1
  | .agg parts => uptoBulkAll parts + 1
  | .iface _ d => uptoBulk d + 1
  | .map entries => uptoBulkEntries entries + 1
  | .held _ => 1
def uptoBulkAll {H : Type} : List (DataW H) → Nat
  | [] => 0
  | d :: r => uptoBulk d + uptoBulkAll r
def uptoBulkEntries {H : Type} : List (Lit × DataW H) → Nat
  | [] => 0
  | x :: r => uptoBulkEntry x + uptoBulkEntries r
def uptoBulkEntry {H : Type} : Lit × DataW H → Nat
  | (.string bytes, d) => bytes.length + uptoBulk d + 1
  | (_, d) => uptoBulk d + 1
 end
def uptoSmall : (H : Type) → List (DataW H) → Bool := fun _ ds => decide (uptoBulkAll ds ≤ 1048576)
def OpenSpec.upto (s : _root_.Go.ChangeSpec) : _root_.Go.OpenSpec := { _root_.Go.OpenSpec.ofChange s with cond := some uptoSmall }

/-- 'cipherplanlaw37.RunnerUndoes', WHERE WHAT IT READS IS OF BULK AT MOST 1048576: true; the input reads as it did. -/
def runnerUndoesUptoRow : OpenClaim := { program := "ytmocaapoeefgkaagreatdoor", sum := "6fbb3c60ff85cf1c6a30089d8ad74b09a831d0db524a00e2a27c907514a7c110", func := "cipherplan/cipherplanlaw37.RunnerUndoes", spec := "runnerUndoes", unfollowed := true, recurses := true, named := ["math/bits.deBruijn32tab"], apart := false, laid := [("math/bits.deBruijn32tab", laid_math_bits_deBruijn32tab)], narrowed := true }
def RunnerUndoesUptoSaid : Prop := runnerUndoesUptoRow.holds Tryz.pinned (OpenSpec.upto runnerUndoesSpec)

/-- 'cipherplanlaw37.RunnerDays', WHERE WHAT IT READS IS OF BULK AT MOST 1048576: true; the input reads as it did. -/
def runnerDaysUptoRow : OpenClaim := { program := "ytmocaapoeefgkaagreatdoor", sum := "6fbb3c60ff85cf1c6a30089d8ad74b09a831d0db524a00e2a27c907514a7c110", func := "cipherplan/cipherplanlaw37.RunnerDays", spec := "runnerDays", unfollowed := true, recurses := true, named := ["math/bits.deBruijn32tab"], apart := false, laid := [("math/bits.deBruijn32tab", laid_math_bits_deBruijn32tab)], narrowed := true }
def RunnerDaysUptoSaid : Prop := runnerDaysUptoRow.holds Tryz.pinned (OpenSpec.upto runnerDaysSpec)

/-- 'cipherplanlaw37.RunnerFinishes', WHERE WHAT IT READS IS OF BULK AT MOST 1048576: true; the input reads as it did. -/
def runnerFinishesUptoRow : OpenClaim := { program := "ytmocaapoeefgkaagreatdoor", sum := "6fbb3c60ff85cf1c6a30089d8ad74b09a831d0db524a00e2a27c907514a7c110", func := "cipherplan/cipherplanlaw37.RunnerFinishes", spec := "runnerFinishes", unfollowed := true, recurses := true, named := ["math/bits.deBruijn32tab"], apart := false, laid := [("math/bits.deBruijn32tab", laid_math_bits_deBruijn32tab)], narrowed := true }
def RunnerFinishesUptoSaid : Prop := runnerFinishesUptoRow.holds Tryz.pinned (OpenSpec.upto runnerFinishesSpec)

/-- 'cipherplanlaw37.RunnerTries', WHERE WHAT IT READS IS OF BULK AT MOST 1048576: true; the input reads as it did. -/
def runnerTriesUptoRow : OpenClaim := { program := "ytmocaapoeefgkaagreatdoor", sum := "6fbb3c60ff85cf1c6a30089d8ad74b09a831d0db524a00e2a27c907514a7c110", func := "cipherplan/cipherplanlaw37.RunnerTries", spec := "runnerTries", unfollowed := true, recurses := true, named := ["math/bits.deBruijn32tab"], apart := false, laid := [("math/bits.deBruijn32tab", laid_math_bits_deBruijn32tab)], narrowed := true }
def RunnerTriesUptoSaid : Prop := runnerTriesUptoRow.holds Tryz.pinned (OpenSpec.upto runnerTriesSpec)

/-- 'cipherplanlaw37.RunnerAll', WHERE WHAT IT READS IS OF BULK AT MOST 1048576: true; the input reads as it did. -/
def runnerAllUptoRow : OpenClaim := { program := "ytmocaapoeefgkaagreatdoor", sum := "6fbb3c60ff85cf1c6a30089d8ad74b09a831d0db524a00e2a27c907514a7c110", func := "cipherplan/cipherplanlaw37.RunnerAll", spec := "runnerAll", unfollowed := true, recurses := true, named := ["math/bits.deBruijn32tab"], apart := false, laid := [("math/bits.deBruijn32tab", laid_math_bits_deBruijn32tab)], narrowed := true }
def RunnerAllUptoSaid : Prop := runnerAllUptoRow.holds Tryz.pinned (OpenSpec.upto runnerAllSpec)

/-- 'cipherplanlaw37.RunnerStops', WHERE WHAT IT READS IS OF BULK AT MOST 1048576: true; the input reads as it did. -/
def runnerStopsUptoRow : OpenClaim := { program := "ytmocaapoeefgkaagreatdoor", sum := "6fbb3c60ff85cf1c6a30089d8ad74b09a831d0db524a00e2a27c907514a7c110", func := "cipherplan/cipherplanlaw37.RunnerStops", spec := "runnerStops", unfollowed := true, recurses := true, named := ["math/bits.deBruijn32tab"], apart := false, laid := [("math/bits.deBruijn32tab", laid_math_bits_deBruijn32tab)], narrowed := true }
def RunnerStopsUptoSaid : Prop := runnerStopsUptoRow.holds Tryz.pinned (OpenSpec.upto runnerStopsSpec)

/-- 'cipherplanlaw31.PlanAll', WHERE WHAT IT READS IS OF BULK AT MOST 1048576: true; the input reads as it did. -/
def planAllUptoRow : OpenClaim := { program := "ytmocaapoeefgkaagreatdoor", sum := "6fbb3c60ff85cf1c6a30089d8ad74b09a831d0db524a00e2a27c907514a7c110", func := "cipherplan/cipherplanlaw31.PlanAll", spec := "planAll", inPlace := ["internal/bytealg.IndexByteString"], unfollowed := true, recurses := true, named := ["math/bits.deBruijn32tab"], apart := false, laid := [("math/bits.deBruijn32tab", laid_math_bits_deBruijn32tab)], narrowed := true }
def PlanAllUptoSaid : Prop := planAllUptoRow.holds Tryz.pinned (OpenSpec.upto planAllSpec)

end Rows
end Go.Proofs.YtmocaapoeefgkaaGreatDoor
