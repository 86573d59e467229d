/-
  No cell of these rows narrows 'for every input' (looked for: loops, veiled, ifaces, maps, wideKeys, modest, calm, conditions, laid).
  DERIVED. THE GIVEN ROWS OF THIS SEAT. 7 by the template 'for every input the law returns true; each argument reads behind the call as it read before'; 0 by the template 'total and deterministic' (their statements: YtppeeogffbpcbaaGreatTotals.lean).
  GIVEN WITH THE SEED: the statements are not yours to turn. If you find one false, say at which input.
  Laid BY PROGRAM, IN A SANDBOX (cutbox-rows.mjs): the forced cells as the released guide's own fill.sh prints them over the translation c2416626b8cc637c… (all of the seat's roots in one cut). By AI agents, Wed Nov 11 2026. No macro, syntax, notation, axiom, sorry.
-/
import Derived.Test.YtppeeogffbpcbaaGreatChecked
import GoSem.Claim
import GoSem.ClaimJoined
import GoSem.ClaimMapViews
import Derived.JoinedTies
import Derived.KernelRfl
namespace Go.Proofs.YtppeeogffbpcbaaGreat
/- THE CELL 'sum', in the pinned program and in every row, IS THE sha256 OF THE DUMP (.gsa) THAT YtppeeogffbpcbaaGreatProg.lean LOADS. Nothing in Lean hashes anything: it is a label: what it is worth is what the hold of that sum in a sandbox is worth. -/
noncomputable def Tryz.pinned : Pinned := { name := "ytppeeogffbpcbaagreat", sum := "c2416626b8cc637c5de7e93fd84f12454fbed40a40284a1e55973173eda9ff01", checked := Tryz.checked }
namespace Rows
def none {H : Type} : Left H := { results := [], args := [] }

/-- 'cipherplanlaw24.ChangeAll': WHATEVER THE INPUT: true; the input reads as it did. -/
def changeAllSpec : ChangeSpec := { name := "changeAll", fn := fun _ => fun
  | [d1, d2, d3] => { results := [.lit (.bool true)], args := [d1, d2, d3] }
  | _ => none }
def changeAllRow : OpenClaim := { program := "ytppeeogffbpcbaagreat", sum := "c2416626b8cc637c5de7e93fd84f12454fbed40a40284a1e55973173eda9ff01", func := "cipherplan/cipherplanlaw24.ChangeAll", spec := "changeAll", inPlace := ["internal/bytealg.IndexByteString", "slices.overlaps[int]", "slices.overlaps[cipherplan/api.Identity]"], unfollowed := true, recurses := true, apart := false }
def ChangeAllSaid : Prop := changeAllRow.holds Tryz.pinned (OpenSpec.ofChange changeAllSpec)

/-- ITS FALSE NEIGHBOUR: 'it returns false'. Refute it at one input. -/
def changeAllWrong : ChangeSpec := { name := "changeAll", fn := fun _ => fun
  | [d1, d2, d3] => { results := [.lit (.bool false)], args := [d1, d2, d3] }
  | _ => none }
def ChangeAllWrongFalsely : Prop := changeAllRow.holds Tryz.pinned (OpenSpec.ofChange changeAllWrong)

/-- 'cipherplanlaw25.EstateSteps': WHATEVER THE INPUT: true; the input reads as it did. -/
def estateStepsSpec : ChangeSpec := { name := "estateSteps", fn := fun _ => fun
  | [d] => { results := [.lit (.bool true)], args := [d] }
  | _ => none }
def estateStepsRow : OpenClaim := { program := "ytppeeogffbpcbaagreat", sum := "c2416626b8cc637c5de7e93fd84f12454fbed40a40284a1e55973173eda9ff01", func := "cipherplan/cipherplanlaw25.EstateSteps", spec := "estateSteps", inPlace := ["internal/bytealg.IndexByteString", "slices.overlaps[int]", "slices.overlaps[cipherplan/api.Identity]"], unfollowed := true, recurses := true, apart := false }
def EstateStepsSaid : Prop := estateStepsRow.holds Tryz.pinned (OpenSpec.ofChange estateStepsSpec)

/-- ITS FALSE NEIGHBOUR: 'it returns false'. Refute it at one input. -/
def estateStepsWrong : ChangeSpec := { name := "estateSteps", fn := fun _ => fun
  | [d] => { results := [.lit (.bool false)], args := [d] }
  | _ => none }
def EstateStepsWrongFalsely : Prop := estateStepsRow.holds Tryz.pinned (OpenSpec.ofChange estateStepsWrong)

/-- 'cipherplanlaw25.EstateOthers': WHATEVER THE INPUT: true; the input reads as it did. -/
def estateOthersSpec : ChangeSpec := { name := "estateOthers", fn := fun _ => fun
  | [d] => { results := [.lit (.bool true)], args := [d] }
  | _ => none }
def estateOthersRow : OpenClaim := { program := "ytppeeogffbpcbaagreat", sum := "c2416626b8cc637c5de7e93fd84f12454fbed40a40284a1e55973173eda9ff01", func := "cipherplan/cipherplanlaw25.EstateOthers", spec := "estateOthers", inPlace := ["internal/bytealg.IndexByteString", "slices.overlaps[int]", "slices.overlaps[cipherplan/api.Identity]"], unfollowed := true, recurses := true, apart := false }
def EstateOthersSaid : Prop := estateOthersRow.holds Tryz.pinned (OpenSpec.ofChange estateOthersSpec)

/-- ITS FALSE NEIGHBOUR: 'it returns false'. Refute it at one input. -/
def estateOthersWrong : ChangeSpec := { name := "estateOthers", fn := fun _ => fun
  | [d] => { results := [.lit (.bool false)], args := [d] }
  | _ => none }
def EstateOthersWrongFalsely : Prop := estateOthersRow.holds Tryz.pinned (OpenSpec.ofChange estateOthersWrong)

/-- 'cipherplanlaw25.EstateAll': WHATEVER THE INPUT: true; the input reads as it did. -/
def estateAllSpec : ChangeSpec := { name := "estateAll", fn := fun _ => fun
  | [d1, d2, d3, d4] => { results := [.lit (.bool true)], args := [d1, d2, d3, d4] }
  | _ => none }
def estateAllRow : OpenClaim := { program := "ytppeeogffbpcbaagreat", sum := "c2416626b8cc637c5de7e93fd84f12454fbed40a40284a1e55973173eda9ff01", func := "cipherplan/cipherplanlaw25.EstateAll", spec := "estateAll", inPlace := ["internal/bytealg.IndexByteString", "slices.overlaps[int]", "slices.overlaps[cipherplan/api.Identity]"], unfollowed := true, recurses := true, apart := false }
def EstateAllSaid : Prop := estateAllRow.holds Tryz.pinned (OpenSpec.ofChange estateAllSpec)

/-- ITS FALSE NEIGHBOUR: 'it returns false'. Refute it at one input. -/
def estateAllWrong : ChangeSpec := { name := "estateAll", fn := fun _ => fun
  | [d1, d2, d3, d4] => { results := [.lit (.bool false)], args := [d1, d2, d3, d4] }
  | _ => none }
def EstateAllWrongFalsely : Prop := estateAllRow.holds Tryz.pinned (OpenSpec.ofChange estateAllWrong)

/-- 'cipherplanlaw25.EstateCommutes': WHATEVER THE INPUT: true; the input reads as it did. -/
def estateCommutesSpec : ChangeSpec := { name := "estateCommutes", fn := fun _ => fun
  | [d] => { results := [.lit (.bool true)], args := [d] }
  | _ => none }
def estateCommutesRow : OpenClaim := { program := "ytppeeogffbpcbaagreat", sum := "c2416626b8cc637c5de7e93fd84f12454fbed40a40284a1e55973173eda9ff01", func := "cipherplan/cipherplanlaw25.EstateCommutes", spec := "estateCommutes", inPlace := ["internal/bytealg.IndexByteString", "slices.overlaps[int]", "slices.overlaps[cipherplan/api.Identity]"], unfollowed := true, recurses := true, apart := false }
def EstateCommutesSaid : Prop := estateCommutesRow.holds Tryz.pinned (OpenSpec.ofChange estateCommutesSpec)

/-- ITS FALSE NEIGHBOUR: 'it returns false'. Refute it at one input. -/
def estateCommutesWrong : ChangeSpec := { name := "estateCommutes", fn := fun _ => fun
  | [d] => { results := [.lit (.bool false)], args := [d] }
  | _ => none }
def EstateCommutesWrongFalsely : Prop := estateCommutesRow.holds Tryz.pinned (OpenSpec.ofChange estateCommutesWrong)

/-- 'cipherplanlaw36.HostAll': WHATEVER THE INPUT: true; the input reads as it did. -/
def hostAllSpec : ChangeSpec := { name := "hostAll", fn := fun _ => fun
  | [d1, d2, d3] => { results := [.lit (.bool true)], args := [d1, d2, d3] }
  | _ => none }
def hostAllRow : OpenClaim := { program := "ytppeeogffbpcbaagreat", sum := "c2416626b8cc637c5de7e93fd84f12454fbed40a40284a1e55973173eda9ff01", func := "cipherplan/cipherplanlaw36.HostAll", spec := "hostAll", inPlace := ["internal/bytealg.IndexByteString", "slices.overlaps[int]", "slices.overlaps[cipherplan/api.Identity]", "internal/bytealg.abigen_runtime_cmpstring"], unfollowed := true, recurses := true, apart := false }
def HostAllSaid : Prop := hostAllRow.holds Tryz.pinned (OpenSpec.ofChange hostAllSpec)

/-- ITS FALSE NEIGHBOUR: 'it returns false'. Refute it at one input. -/
def hostAllWrong : ChangeSpec := { name := "hostAll", fn := fun _ => fun
  | [d1, d2, d3] => { results := [.lit (.bool false)], args := [d1, d2, d3] }
  | _ => none }
def HostAllWrongFalsely : Prop := hostAllRow.holds Tryz.pinned (OpenSpec.ofChange hostAllWrong)

/-- 'cipherplanlaw36.HostDrifts': WHATEVER THE INPUT: true; the input reads as it did. -/
def hostDriftsSpec : ChangeSpec := { name := "hostDrifts", fn := fun _ => fun
  | [d] => { results := [.lit (.bool true)], args := [d] }
  | _ => none }
def hostDriftsRow : OpenClaim := { program := "ytppeeogffbpcbaagreat", sum := "c2416626b8cc637c5de7e93fd84f12454fbed40a40284a1e55973173eda9ff01", func := "cipherplan/cipherplanlaw36.HostDrifts", spec := "hostDrifts", inPlace := ["internal/bytealg.IndexByteString", "slices.overlaps[int]", "slices.overlaps[cipherplan/api.Identity]", "internal/bytealg.abigen_runtime_cmpstring"], unfollowed := true, recurses := true, apart := false }
def HostDriftsSaid : Prop := hostDriftsRow.holds Tryz.pinned (OpenSpec.ofChange hostDriftsSpec)

/-- ITS FALSE NEIGHBOUR: 'it returns false'. Refute it at one input. -/
def hostDriftsWrong : ChangeSpec := { name := "hostDrifts", fn := fun _ => fun
  | [d] => { results := [.lit (.bool false)], args := [d] }
  | _ => none }
def HostDriftsWrongFalsely : Prop := hostDriftsRow.holds Tryz.pinned (OpenSpec.ofChange hostDriftsWrong)

/- THE SECOND FORM. 'bulk': how many values and letters a reading holds, each counted each time it is reached (what is shared counts as often as it is met; a slice's spare places count too). A statement '..UptoSaid' is the law's where the arguments, and the package variables that the reading takes, are together of bulk at most 1048576: NARROWER than '..Said'. Prove '..Said' where nothing that the law and all that it calls make is longer than what came in: it says more and counts as full. Else prove '..UptoSaid'. A law counts once. -/
mutual
def uptoBulk {H : Type} : DataW H → Nat
  | .lit (.string bytes) => bytes.length + 1
  | .lit _ => 1
  | .nil => 1
  | .ptr d => uptoBulk d + 1
  | .slice elems spare => uptoBulkAll elems + uptoBulkAll spare + 1
  | .agg parts => uptoBulkAll parts + 1
  | .iface _ d => uptoBulk d + 1
  | .map entries => uptoBulkEntries entries + 1
  | .held _ => 1
def uptoBulkAll {H : Type} : List (DataW H) → Nat
  | [] => 0
  | d :: r => uptoBulk d + uptoBulkAll r
def uptoBulkEntries {H : Type} : List (Lit × DataW H) → Nat
  | [] => 0
  | x :: r => uptoBulkEntry x + uptoBulkEntries r
def uptoBulkEntry {H : Type} : Lit × DataW H → Nat
  | (.string bytes, d) => bytes.length + uptoBulk d + 1
  | (_, d) => uptoBulk d + 1
 end
def uptoSmall : (H : Type) → List (DataW H) → Bool := fun _ ds => decide (uptoBulkAll ds ≤ 1048576)
def OpenSpec.upto (s : _root_.Go.ChangeSpec) : _root_.Go.OpenSpec := { _root_.Go.OpenSpec.ofChange s with cond := some uptoSmall }

/-- 'cipherplanlaw24.ChangeAll', WHERE WHAT IT READS IS OF BULK AT MOST 1048576: true; the input reads as it did. -/
def changeAllUptoRow : OpenClaim := { program := "ytppeeogffbpcbaagreat", sum := "c2416626b8cc637c5de7e93fd84f12454fbed40a40284a1e55973173eda9ff01", func := "cipherplan/cipherplanlaw24.ChangeAll", spec := "changeAll", inPlace := ["internal/bytealg.IndexByteString", "slices.overlaps[int]", "slices.overlaps[cipherplan/api.Identity]"], unfollowed := true, recurses := true, apart := false, narrowed := true }
def ChangeAllUptoSaid : Prop := changeAllUptoRow.holds Tryz.pinned (OpenSpec.upto changeAllSpec)

/-- 'cipherplanlaw25.EstateSteps', WHERE WHAT IT READS IS OF BULK AT MOST 1048576: true; the input reads as it did. -/
def estateStepsUptoRow : OpenClaim := { program := "ytppeeogffbpcbaagreat", sum := "c2416626b8cc637c5de7e93fd84f12454fbed40a40284a1e55973173eda9ff01", func := "cipherplan/cipherplanlaw25.EstateSteps", spec := "estateSteps", inPlace := ["internal/bytealg.IndexByteString", "slices.overlaps[int]", "slices.overlaps[cipherplan/api.Identity]"], unfollowed := true, recurses := true, apart := false, narrowed := true }
def EstateStepsUptoSaid : Prop := estateStepsUptoRow.holds Tryz.pinned (OpenSpec.upto estateStepsSpec)

/-- 'cipherplanlaw25.EstateOthers', WHERE WHAT IT READS IS OF BULK AT MOST 1048576: true; the input reads as it did. -/
def estateOthersUptoRow : OpenClaim := { program := "ytppeeogffbpcbaagreat", sum := "c2416626b8cc637c5de7e93fd84f12454fbed40a40284a1e55973173eda9ff01", func := "cipherplan/cipherplanlaw25.EstateOthers", spec := "estateOthers", inPlace := ["internal/bytealg.IndexByteString", "slices.overlaps[int]", "slices.overlaps[cipherplan/api.Identity]"], unfollowed := true, recurses := true, apart := false, narrowed := true }
def EstateOthersUptoSaid : Prop := estateOthersUptoRow.holds Tryz.pinned (OpenSpec.upto estateOthersSpec)

/-- 'cipherplanlaw25.EstateAll', WHERE WHAT IT READS IS OF BULK AT MOST 1048576: true; the input reads as it did. -/
def estateAllUptoRow : OpenClaim := { program := "ytppeeogffbpcbaagreat", sum := "c2416626b8cc637c5de7e93fd84f12454fbed40a40284a1e55973173eda9ff01", func := "cipherplan/cipherplanlaw25.EstateAll", spec := "estateAll", inPlace := ["internal/bytealg.IndexByteString", "slices.overlaps[int]", "slices.overlaps[cipherplan/api.Identity]"], unfollowed := true, recurses := true, apart := false, narrowed := true }
def EstateAllUptoSaid : Prop := estateAllUptoRow.holds Tryz.pinned (OpenSpec.upto estateAllSpec)

/-- 'cipherplanlaw25.EstateCommutes', WHERE WHAT IT READS IS OF BULK AT MOST 1048576: true; the input reads as it did. -/
def estateCommutesUptoRow : OpenClaim := { program := "ytppeeogffbpcbaagreat", sum := "c2416626b8cc637c5de7e93fd84f12454fbed40a40284a1e55973173eda9ff01", func := "cipherplan/cipherplanlaw25.EstateCommutes", spec := "estateCommutes", inPlace := ["internal/bytealg.IndexByteString", "slices.overlaps[int]", "slices.overlaps[cipherplan/api.Identity]"], unfollowed := true, recurses := true, apart := false, narrowed := true }
def EstateCommutesUptoSaid : Prop := estateCommutesUptoRow.holds Tryz.pinned (OpenSpec.upto estateCommutesSpec)

/-- 'cipherplanlaw36.HostAll', WHERE WHAT IT READS IS OF BULK AT MOST 1048576: true; the input reads as it did. -/
def hostAllUptoRow : OpenClaim := { program := "ytppeeogffbpcbaagreat", sum := "c2416626b8cc637c5de7e93fd84f12454fbed40a40284a1e55973173eda9ff01", func := "cipherplan/cipherplanlaw36.HostAll", spec := "hostAll", inPlace := ["internal/bytealg.IndexByteString", "slices.overlaps[int]", "slices.overlaps[cipherplan/api.Identity]", "internal/bytealg.abigen_runtime_cmpstring"], unfollowed := true, recurses := true, apart := false, narrowed := true }
def HostAllUptoSaid : Prop := hostAllUptoRow.holds Tryz.pinned (OpenSpec.upto hostAllSpec)

/-- 'cipherplanlaw36.HostDrifts', WHERE WHAT IT READS IS OF BULK AT MOST 1048576: true; the input reads as it did. -/
def hostDriftsUptoRow : OpenClaim := { program := "ytppeeogffbpcbaagreat", sum := "c2416626b8cc637c5de7e93fd84f12454fbed40a40284a1e55973173eda9ff01", func := "cipherplan/cipherplanlaw36.HostDrifts", spec := "hostDrifts", inPlace := ["internal/bytealg.IndexByteString", "slices.overlaps[int]", "slices.overlaps[cipherplan/api.Identity]", "internal/bytealg.abigen_runtime_cmpstring"], unfollowed := true, recurses := true, apart := false, narrowed := true }
def HostDriftsUptoSaid : Prop := hostDriftsUptoRow.holds Tryz.pinned (OpenSpec.upto hostDriftsSpec)

end Rows
end Go.Proofs.YtppeeogffbpcbaaGreat
