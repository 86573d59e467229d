/-
  No cell of these rows narrows 'for every input' (looked for: loops, veiled, ifaces, maps, wideKeys, modest, calm, conditions, laid).
  DERIVED. THE GIVEN ROWS OF THIS SEAT. 5 by the template 'for every input the law returns true; each argument reads behind the call as it read before'; 0 by the template 'total and deterministic' (their statements: YthmnoekgicggnaaGreatTotals.lean).
  GIVEN WITH THE SEED: the statements are not yours to turn. If you find one false, say at which input.
  Laid BY PROGRAM, IN A SANDBOX (cutbox-rows.mjs): the forced cells as the released guide's own fill.sh prints them over the translation 1a7558513450c28e… (all of the seat's roots in one cut). By AI agents, Wed Nov 11 2026. No macro, syntax, notation, axiom, sorry.
-/
import Derived.Test.YthmnoekgicggnaaGreatChecked
import GoSem.Claim
import GoSem.ClaimJoined
import GoSem.ClaimMapViews
import Derived.JoinedTies
import Derived.KernelRfl
namespace Go.Proofs.YthmnoekgicggnaaGreat
/- THE CELL 'sum', in the pinned program and in every row, IS THE sha256 OF THE DUMP (.gsa) THAT YthmnoekgicggnaaGreatProg.lean LOADS. Nothing in Lean hashes anything: it is a label: what it is worth is what the hold of that sum in a sandbox is worth. -/
noncomputable def Tryz.pinned : Pinned := { name := "ythmnoekgicggnaagreat", sum := "1a7558513450c28ebaa01982263fc33141fb5a466a9fdee937352210d8de085f", checked := Tryz.checked }
namespace Rows
def none {H : Type} : Left H := { results := [], args := [] }

/-- 'cipherplanlaw16.AssetDecides': WHATEVER THE INPUT: true; the input reads as it did. -/
def assetDecidesSpec : ChangeSpec := { name := "assetDecides", fn := fun _ => fun
  | [d1, d2, d3] => { results := [.lit (.bool true)], args := [d1, d2, d3] }
  | _ => none }
def assetDecidesRow : OpenClaim := { program := "ythmnoekgicggnaagreat", sum := "1a7558513450c28ebaa01982263fc33141fb5a466a9fdee937352210d8de085f", func := "cipherplan/cipherplanlaw16.AssetDecides", spec := "assetDecides", inPlace := ["internal/bytealg.abigen_runtime_cmpstring"], unfollowed := true, recurses := true, plainKeys := false, apart := false }
def AssetDecidesSaid : Prop := assetDecidesRow.holds Tryz.pinned (OpenSpec.ofChange assetDecidesSpec)

/-- ITS FALSE NEIGHBOUR: 'it returns false'. Refute it at one input. -/
def assetDecidesWrong : ChangeSpec := { name := "assetDecides", fn := fun _ => fun
  | [d1, d2, d3] => { results := [.lit (.bool false)], args := [d1, d2, d3] }
  | _ => none }
def AssetDecidesWrongFalsely : Prop := assetDecidesRow.holds Tryz.pinned (OpenSpec.ofChange assetDecidesWrong)

/-- 'cipherplanlaw16.AssetRaw': WHATEVER THE INPUT: true; the input reads as it did. -/
def assetRawSpec : ChangeSpec := { name := "assetRaw", fn := fun _ => fun
  | [d1, d2, d3, d4] => { results := [.lit (.bool true)], args := [d1, d2, d3, d4] }
  | _ => none }
def assetRawRow : OpenClaim := { program := "ythmnoekgicggnaagreat", sum := "1a7558513450c28ebaa01982263fc33141fb5a466a9fdee937352210d8de085f", func := "cipherplan/cipherplanlaw16.AssetRaw", spec := "assetRaw", inPlace := ["internal/bytealg.abigen_runtime_cmpstring"], unfollowed := true, recurses := true, plainKeys := false, apart := false }
def AssetRawSaid : Prop := assetRawRow.holds Tryz.pinned (OpenSpec.ofChange assetRawSpec)

/-- ITS FALSE NEIGHBOUR: 'it returns false'. Refute it at one input. -/
def assetRawWrong : ChangeSpec := { name := "assetRaw", fn := fun _ => fun
  | [d1, d2, d3, d4] => { results := [.lit (.bool false)], args := [d1, d2, d3, d4] }
  | _ => none }
def AssetRawWrongFalsely : Prop := assetRawRow.holds Tryz.pinned (OpenSpec.ofChange assetRawWrong)

/-- 'cipherplanlaw16.AssetConflicts': WHATEVER THE INPUT: true; the input reads as it did. -/
def assetConflictsSpec : ChangeSpec := { name := "assetConflicts", fn := fun _ => fun
  | [d1, d2, d3] => { results := [.lit (.bool true)], args := [d1, d2, d3] }
  | _ => none }
def assetConflictsRow : OpenClaim := { program := "ythmnoekgicggnaagreat", sum := "1a7558513450c28ebaa01982263fc33141fb5a466a9fdee937352210d8de085f", func := "cipherplan/cipherplanlaw16.AssetConflicts", spec := "assetConflicts", inPlace := ["internal/bytealg.abigen_runtime_cmpstring"], unfollowed := true, recurses := true, plainKeys := false, apart := false }
def AssetConflictsSaid : Prop := assetConflictsRow.holds Tryz.pinned (OpenSpec.ofChange assetConflictsSpec)

/-- ITS FALSE NEIGHBOUR: 'it returns false'. Refute it at one input. -/
def assetConflictsWrong : ChangeSpec := { name := "assetConflicts", fn := fun _ => fun
  | [d1, d2, d3] => { results := [.lit (.bool false)], args := [d1, d2, d3] }
  | _ => none }
def AssetConflictsWrongFalsely : Prop := assetConflictsRow.holds Tryz.pinned (OpenSpec.ofChange assetConflictsWrong)

/-- 'cipherplanlaw16.AssetMade': WHATEVER THE INPUT: true; the input reads as it did. -/
def assetMadeSpec : ChangeSpec := { name := "assetMade", fn := fun _ => fun
  | [d1, d2, d3, d4] => { results := [.lit (.bool true)], args := [d1, d2, d3, d4] }
  | _ => none }
def assetMadeRow : OpenClaim := { program := "ythmnoekgicggnaagreat", sum := "1a7558513450c28ebaa01982263fc33141fb5a466a9fdee937352210d8de085f", func := "cipherplan/cipherplanlaw16.AssetMade", spec := "assetMade", inPlace := ["internal/bytealg.abigen_runtime_cmpstring"], unfollowed := true, recurses := true, plainKeys := false, apart := false }
def AssetMadeSaid : Prop := assetMadeRow.holds Tryz.pinned (OpenSpec.ofChange assetMadeSpec)

/-- ITS FALSE NEIGHBOUR: 'it returns false'. Refute it at one input. -/
def assetMadeWrong : ChangeSpec := { name := "assetMade", fn := fun _ => fun
  | [d1, d2, d3, d4] => { results := [.lit (.bool false)], args := [d1, d2, d3, d4] }
  | _ => none }
def AssetMadeWrongFalsely : Prop := assetMadeRow.holds Tryz.pinned (OpenSpec.ofChange assetMadeWrong)

/-- 'cipherplanlaw16.AssetLate': WHATEVER THE INPUT: true; the input reads as it did. -/
def assetLateSpec : ChangeSpec := { name := "assetLate", fn := fun _ => fun
  | [d1, d2] => { results := [.lit (.bool true)], args := [d1, d2] }
  | _ => none }
def assetLateRow : OpenClaim := { program := "ythmnoekgicggnaagreat", sum := "1a7558513450c28ebaa01982263fc33141fb5a466a9fdee937352210d8de085f", func := "cipherplan/cipherplanlaw16.AssetLate", spec := "assetLate", inPlace := ["internal/bytealg.abigen_runtime_cmpstring"], unfollowed := true, recurses := true, plainKeys := false, apart := false }
def AssetLateSaid : Prop := assetLateRow.holds Tryz.pinned (OpenSpec.ofChange assetLateSpec)

/-- ITS FALSE NEIGHBOUR: 'it returns false'. Refute it at one input. -/
def assetLateWrong : ChangeSpec := { name := "assetLate", fn := fun _ => fun
  | [d1, d2] => { results := [.lit (.bool false)], args := [d1, d2] }
  | _ => none }
def AssetLateWrongFalsely : Prop := assetLateRow.holds Tryz.pinned (OpenSpec.ofChange assetLateWrong)

/- THE SECOND FORM. 'bulk': how many values and letters a reading holds, each counted each time it is reached (what is shared counts as often as it is met; a slice's spare places count too). A statement '..UptoSaid' is the law's where the arguments, and the package variables that the reading takes, are together of bulk at most 1048576: NARROWER than '..Said'. Prove '..Said' where nothing that the law and all that it calls make is longer than what came in: it says more and counts as full. Else prove '..UptoSaid'. A law counts once. -/
mutual
def uptoBulk {H : Type} : DataW H → Nat
  | .lit (.string bytes) => bytes.length + 1
  | .lit _ => 1
  | .nil => 1
  | .ptr d => uptoBulk d + 1
  | .slice elems spare => uptoBulkAll elems + uptoBulkAll spare + 1
  | .agg parts => uptoBulkAll parts + 1
  | .iface _ d => uptoBulk d + 1
  | .map entries => uptoBulkEntries entries + 1
  | .held _ => 1
def uptoBulkAll {H : Type} : List (DataW H) → Nat
  | [] => 0
  | d :: r => uptoBulk d + uptoBulkAll r
def uptoBulkEntries {H : Type} : List (Lit × DataW H) → Nat
  | [] => 0
  | x :: r => uptoBulkEntry x + uptoBulkEntries r
def uptoBulkEntry {H : Type} : Lit × DataW H → Nat
  | (.string bytes, d) => bytes.length + uptoBulk d + 1
  | (_, d) => uptoBulk d + 1
 end
def uptoSmall : (H : Type) → List (DataW H) → Bool := fun _ ds => decide (uptoBulkAll ds ≤ 1048576)
def OpenSpec.upto (s : _root_.Go.ChangeSpec) : _root_.Go.OpenSpec := { _root_.Go.OpenSpec.ofChange s with cond := some uptoSmall }

/-- 'cipherplanlaw16.AssetDecides', WHERE WHAT IT READS IS OF BULK AT MOST 1048576: true; the input reads as it did. -/
def assetDecidesUptoRow : OpenClaim := { program := "ythmnoekgicggnaagreat", sum := "1a7558513450c28ebaa01982263fc33141fb5a466a9fdee937352210d8de085f", func := "cipherplan/cipherplanlaw16.AssetDecides", spec := "assetDecides", inPlace := ["internal/bytealg.abigen_runtime_cmpstring"], unfollowed := true, recurses := true, plainKeys := false, apart := false, narrowed := true }
def AssetDecidesUptoSaid : Prop := assetDecidesUptoRow.holds Tryz.pinned (OpenSpec.upto assetDecidesSpec)

/-- 'cipherplanlaw16.AssetRaw', WHERE WHAT IT READS IS OF BULK AT MOST 1048576: true; the input reads as it did. -/
def assetRawUptoRow : OpenClaim := { program := "ythmnoekgicggnaagreat", sum := "1a7558513450c28ebaa01982263fc33141fb5a466a9fdee937352210d8de085f", func := "cipherplan/cipherplanlaw16.AssetRaw", spec := "assetRaw", inPlace := ["internal/bytealg.abigen_runtime_cmpstring"], unfollowed := true, recurses := true, plainKeys := false, apart := false, narrowed := true }
def AssetRawUptoSaid : Prop := assetRawUptoRow.holds Tryz.pinned (OpenSpec.upto assetRawSpec)

/-- 'cipherplanlaw16.AssetConflicts', WHERE WHAT IT READS IS OF BULK AT MOST 1048576: true; the input reads as it did. -/
def assetConflictsUptoRow : OpenClaim := { program := "ythmnoekgicggnaagreat", sum := "1a7558513450c28ebaa01982263fc33141fb5a466a9fdee937352210d8de085f", func := "cipherplan/cipherplanlaw16.AssetConflicts", spec := "assetConflicts", inPlace := ["internal/bytealg.abigen_runtime_cmpstring"], unfollowed := true, recurses := true, plainKeys := false, apart := false, narrowed := true }
def AssetConflictsUptoSaid : Prop := assetConflictsUptoRow.holds Tryz.pinned (OpenSpec.upto assetConflictsSpec)

/-- 'cipherplanlaw16.AssetMade', WHERE WHAT IT READS IS OF BULK AT MOST 1048576: true; the input reads as it did. -/
def assetMadeUptoRow : OpenClaim := { program := "ythmnoekgicggnaagreat", sum := "1a7558513450c28ebaa01982263fc33141fb5a466a9fdee937352210d8de085f", func := "cipherplan/cipherplanlaw16.AssetMade", spec := "assetMade", inPlace := ["internal/bytealg.abigen_runtime_cmpstring"], unfollowed := true, recurses := true, plainKeys := false, apart := false, narrowed := true }
def AssetMadeUptoSaid : Prop := assetMadeUptoRow.holds Tryz.pinned (OpenSpec.upto assetMadeSpec)

/-- 'cipherplanlaw16.AssetLate', WHERE WHAT IT READS IS OF BULK AT MOST 1048576: true; the input reads as it did. -/
def assetLateUptoRow : OpenClaim := { program := "ythmnoekgicggnaagreat", sum := "1a7558513450c28ebaa01982263fc33141fb5a466a9fdee937352210d8de085f", func := "cipherplan/cipherplanlaw16.AssetLate", spec := "assetLate", inPlace := ["internal/bytealg.abigen_runtime_cmpstring"], unfollowed := true, recurses := true, plainKeys := false, apart := false, narrowed := true }
def AssetLateUptoSaid : Prop := assetLateUptoRow.holds Tryz.pinned (OpenSpec.upto assetLateSpec)

end Rows
end Go.Proofs.YthmnoekgicggnaaGreat
