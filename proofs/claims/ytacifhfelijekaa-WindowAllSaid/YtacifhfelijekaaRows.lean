/-
  No cell of these rows narrows 'for every input' (looked for: loops, veiled, ifaces, maps, wideKeys, modest, calm, conditions, laid).
  DERIVED. THE GIVEN ROWS OF THIS SEAT. 5 by the template 'for every input the law returns true; each argument reads behind the call as it read before'; 0 by the template 'total and deterministic' (their statements: YtacifhfelijekaaTotals.lean).
  GIVEN WITH THE SEED: the statements are not yours to turn. If you find one false, say at which input.
  Laid BY PROGRAM, IN A SANDBOX (cutbox-rows.mjs): the forced cells as the released guide's own fill.sh prints them over the translation cc6f6a4696811f8d… (all of the seat's roots in one cut). By AI agents, Wed Nov 11 2026. No macro, syntax, notation, axiom, sorry.
-/
import Derived.Test.YtacifhfelijekaaChecked
import GoSem.Claim
import GoSem.ClaimJoined
import GoSem.ClaimMapViews
import Derived.JoinedTies
import Derived.KernelRfl
namespace Go.Proofs.Ytacifhfelijekaa
/- THE CELL 'sum', in the pinned program and in every row, IS THE sha256 OF THE DUMP (.gsa) THAT YtacifhfelijekaaProg.lean LOADS. Nothing in Lean hashes anything: it is a label: what it is worth is what the hold of that sum in a sandbox is worth. -/
noncomputable def Try.pinned : Pinned := { name := "ytacifhfelijekaa", sum := "cc6f6a4696811f8dfe14941191ac76cd825e606f48e5287b40ea8e413bef5f7e", checked := Try.checked }
namespace Rows
def none {H : Type} : Left H := { results := [], args := [] }

/-- 'cipherplanlaw30.WindowLoads': WHATEVER THE INPUT: true; the input reads as it did. -/
def windowLoadsSpec : ChangeSpec := { name := "windowLoads", fn := fun _ => fun
  | [d] => { results := [.lit (.bool true)], args := [d] }
  | _ => none }
def windowLoadsRow : OpenClaim := { program := "ytacifhfelijekaa", sum := "cc6f6a4696811f8dfe14941191ac76cd825e606f48e5287b40ea8e413bef5f7e", func := "cipherplan/cipherplanlaw30.WindowLoads", spec := "windowLoads", unfollowed := true, recurses := true, apart := false }
def WindowLoadsSaid : Prop := windowLoadsRow.holds Try.pinned (OpenSpec.ofChange windowLoadsSpec)

/-- ITS FALSE NEIGHBOUR: 'it returns false'. Refute it at one input. -/
def windowLoadsWrong : ChangeSpec := { name := "windowLoads", fn := fun _ => fun
  | [d] => { results := [.lit (.bool false)], args := [d] }
  | _ => none }
def WindowLoadsWrongFalsely : Prop := windowLoadsRow.holds Try.pinned (OpenSpec.ofChange windowLoadsWrong)

/-- 'cipherplanlaw30.WindowEarliest': WHATEVER THE INPUT: true; the input reads as it did. -/
def windowEarliestSpec : ChangeSpec := { name := "windowEarliest", fn := fun _ => fun
  | [d1, d2] => { results := [.lit (.bool true)], args := [d1, d2] }
  | _ => none }
def windowEarliestRow : OpenClaim := { program := "ytacifhfelijekaa", sum := "cc6f6a4696811f8dfe14941191ac76cd825e606f48e5287b40ea8e413bef5f7e", func := "cipherplan/cipherplanlaw30.WindowEarliest", spec := "windowEarliest", unfollowed := true, recurses := true, apart := false }
def WindowEarliestSaid : Prop := windowEarliestRow.holds Try.pinned (OpenSpec.ofChange windowEarliestSpec)

/-- ITS FALSE NEIGHBOUR: 'it returns false'. Refute it at one input. -/
def windowEarliestWrong : ChangeSpec := { name := "windowEarliest", fn := fun _ => fun
  | [d1, d2] => { results := [.lit (.bool false)], args := [d1, d2] }
  | _ => none }
def WindowEarliestWrongFalsely : Prop := windowEarliestRow.holds Try.pinned (OpenSpec.ofChange windowEarliestWrong)

/-- 'cipherplanlaw30.WindowFull': WHATEVER THE INPUT: true; the input reads as it did. -/
def windowFullSpec : ChangeSpec := { name := "windowFull", fn := fun _ => fun
  | [d1, d2, d3] => { results := [.lit (.bool true)], args := [d1, d2, d3] }
  | _ => none }
def windowFullRow : OpenClaim := { program := "ytacifhfelijekaa", sum := "cc6f6a4696811f8dfe14941191ac76cd825e606f48e5287b40ea8e413bef5f7e", func := "cipherplan/cipherplanlaw30.WindowFull", spec := "windowFull", unfollowed := true, recurses := true, apart := false }
def WindowFullSaid : Prop := windowFullRow.holds Try.pinned (OpenSpec.ofChange windowFullSpec)

/-- ITS FALSE NEIGHBOUR: 'it returns false'. Refute it at one input. -/
def windowFullWrong : ChangeSpec := { name := "windowFull", fn := fun _ => fun
  | [d1, d2, d3] => { results := [.lit (.bool false)], args := [d1, d2, d3] }
  | _ => none }
def WindowFullWrongFalsely : Prop := windowFullRow.holds Try.pinned (OpenSpec.ofChange windowFullWrong)

/-- 'cipherplanlaw30.WindowNext': WHATEVER THE INPUT: true; the input reads as it did. -/
def windowNextSpec : ChangeSpec := { name := "windowNext", fn := fun _ => fun
  | [d1, d2] => { results := [.lit (.bool true)], args := [d1, d2] }
  | _ => none }
def windowNextRow : OpenClaim := { program := "ytacifhfelijekaa", sum := "cc6f6a4696811f8dfe14941191ac76cd825e606f48e5287b40ea8e413bef5f7e", func := "cipherplan/cipherplanlaw30.WindowNext", spec := "windowNext", unfollowed := true, recurses := true, apart := false }
def WindowNextSaid : Prop := windowNextRow.holds Try.pinned (OpenSpec.ofChange windowNextSpec)

/-- ITS FALSE NEIGHBOUR: 'it returns false'. Refute it at one input. -/
def windowNextWrong : ChangeSpec := { name := "windowNext", fn := fun _ => fun
  | [d1, d2] => { results := [.lit (.bool false)], args := [d1, d2] }
  | _ => none }
def WindowNextWrongFalsely : Prop := windowNextRow.holds Try.pinned (OpenSpec.ofChange windowNextWrong)

/-- 'cipherplanlaw30.WindowAll': WHATEVER THE INPUT: true; the input reads as it did. -/
def windowAllSpec : ChangeSpec := { name := "windowAll", fn := fun _ => fun
  | [d1, d2, d3, d4, d5] => { results := [.lit (.bool true)], args := [d1, d2, d3, d4, d5] }
  | _ => none }
def windowAllRow : OpenClaim := { program := "ytacifhfelijekaa", sum := "cc6f6a4696811f8dfe14941191ac76cd825e606f48e5287b40ea8e413bef5f7e", func := "cipherplan/cipherplanlaw30.WindowAll", spec := "windowAll", unfollowed := true, recurses := true, apart := false }
def WindowAllSaid : Prop := windowAllRow.holds Try.pinned (OpenSpec.ofChange windowAllSpec)

/-- ITS FALSE NEIGHBOUR: 'it returns false'. Refute it at one input. -/
def windowAllWrong : ChangeSpec := { name := "windowAll", fn := fun _ => fun
  | [d1, d2, d3, d4, d5] => { results := [.lit (.bool false)], args := [d1, d2, d3, d4, d5] }
  | _ => none }
def WindowAllWrongFalsely : Prop := windowAllRow.holds Try.pinned (OpenSpec.ofChange windowAllWrong)

/- THE SECOND FORM. 'bulk': how many values and letters a reading holds, each counted each time it is reached (what is shared counts as often as it is met; a slice's spare places count too). A statement '..UptoSaid' is the law's where the arguments, and the package variables that the reading takes, are together of bulk at most 1048576: NARROWER than '..Said'. Prove '..Said' where nothing that the law and all that it calls make is longer than what came in: it says more and counts as full. Else prove '..UptoSaid'. A law counts once. -/
mutual
def uptoBulk {H : Type} : DataW H → Nat
  | .lit (.string bytes) => bytes.length + 1
  | .lit _ => 1
  | .nil => 1
  | .ptr d => uptoBulk d + 1
  | .slice elems spare => uptoBulkAll elems + uptoBulkAll spare + 1
  | .agg parts => uptoBulkAll parts + 1
  | .iface _ d => uptoBulk d + 1
  | .map entries => uptoBulkEntries entries + 1
  | .held _ => 1
def uptoBulkAll {H : Type} : List (DataW H) → Nat
  | [] => 0
  | d :: r => uptoBulk d + uptoBulkAll r
def uptoBulkEntries {H : Type} : List (Lit × DataW H) → Nat
  | [] => 0
  | x :: r => uptoBulkEntry x + uptoBulkEntries r
def uptoBulkEntry {H : Type} : Lit × DataW H → Nat
  | (.string bytes, d) => bytes.length + uptoBulk d + 1
  | (_, d) => uptoBulk d + 1
 end
def uptoSmall : (H : Type) → List (DataW H) → Bool := fun _ ds => decide (uptoBulkAll ds ≤ 1048576)
def OpenSpec.upto (s : _root_.Go.ChangeSpec) : _root_.Go.OpenSpec := { _root_.Go.OpenSpec.ofChange s with cond := some uptoSmall }

/-- 'cipherplanlaw30.WindowLoads', WHERE WHAT IT READS IS OF BULK AT MOST 1048576: true; the input reads as it did. -/
def windowLoadsUptoRow : OpenClaim := { program := "ytacifhfelijekaa", sum := "cc6f6a4696811f8dfe14941191ac76cd825e606f48e5287b40ea8e413bef5f7e", func := "cipherplan/cipherplanlaw30.WindowLoads", spec := "windowLoads", unfollowed := true, recurses := true, apart := false, narrowed := true }
def WindowLoadsUptoSaid : Prop := windowLoadsUptoRow.holds Try.pinned (OpenSpec.upto windowLoadsSpec)

/-- 'cipherplanlaw30.WindowEarliest', WHERE WHAT IT READS IS OF BULK AT MOST 1048576: true; the input reads as it did. -/
def windowEarliestUptoRow : OpenClaim := { program := "ytacifhfelijekaa", sum := "cc6f6a4696811f8dfe14941191ac76cd825e606f48e5287b40ea8e413bef5f7e", func := "cipherplan/cipherplanlaw30.WindowEarliest", spec := "windowEarliest", unfollowed := true, recurses := true, apart := false, narrowed := true }
def WindowEarliestUptoSaid : Prop := windowEarliestUptoRow.holds Try.pinned (OpenSpec.upto windowEarliestSpec)

/-- 'cipherplanlaw30.WindowFull', WHERE WHAT IT READS IS OF BULK AT MOST 1048576: true; the input reads as it did. -/
def windowFullUptoRow : OpenClaim := { program := "ytacifhfelijekaa", sum := "cc6f6a4696811f8dfe14941191ac76cd825e606f48e5287b40ea8e413bef5f7e", func := "cipherplan/cipherplanlaw30.WindowFull", spec := "windowFull", unfollowed := true, recurses := true, apart := false, narrowed := true }
def WindowFullUptoSaid : Prop := windowFullUptoRow.holds Try.pinned (OpenSpec.upto windowFullSpec)

/-- 'cipherplanlaw30.WindowNext', WHERE WHAT IT READS IS OF BULK AT MOST 1048576: true; the input reads as it did. -/
def windowNextUptoRow : OpenClaim := { program := "ytacifhfelijekaa", sum := "cc6f6a4696811f8dfe14941191ac76cd825e606f48e5287b40ea8e413bef5f7e", func := "cipherplan/cipherplanlaw30.WindowNext", spec := "windowNext", unfollowed := true, recurses := true, apart := false, narrowed := true }
def WindowNextUptoSaid : Prop := windowNextUptoRow.holds Try.pinned (OpenSpec.upto windowNextSpec)

/-- 'cipherplanlaw30.WindowAll', WHERE WHAT IT READS IS OF BULK AT MOST 1048576: true; the input reads as it did. -/
def windowAllUptoRow : OpenClaim := { program := "ytacifhfelijekaa", sum := "cc6f6a4696811f8dfe14941191ac76cd825e606f48e5287b40ea8e413bef5f7e", func := "cipherplan/cipherplanlaw30.WindowAll", spec := "windowAll", unfollowed := true, recurses := true, apart := false, narrowed := true }
def WindowAllUptoSaid : Prop := windowAllUptoRow.holds Try.pinned (OpenSpec.upto windowAllSpec)

end Rows
end Go.Proofs.Ytacifhfelijekaa
