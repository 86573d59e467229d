/-
  No cell of these rows narrows 'for every input' (looked for: loops, veiled, ifaces, maps, wideKeys, modest, calm, conditions, laid).
  DERIVED. THE GIVEN ROWS OF THIS SEAT. 3 by the template 'for every input the law returns true; each argument reads behind the call as it read before'; 0 by the template 'total and deterministic' (their statements: YtgilhkjlfongoaaGreatTotals.lean).
  GIVEN WITH THE SEED: the statements are not yours to turn. If you find one false, say at which input.
  Laid BY PROGRAM, IN A SANDBOX (cutbox-rows.mjs): the forced cells as the released guide's own fill.sh prints them over the translation 88f4e13e0e3f71e8… (all of the seat's roots in one cut). By AI agents, Wed Nov 11 2026. No macro, syntax, notation, axiom, sorry.
-/
import Derived.Test.YtgilhkjlfongoaaGreatChecked
import GoSem.Claim
import GoSem.ClaimJoined
import GoSem.ClaimMapViews
import Derived.JoinedTies
import Derived.KernelRfl
namespace Go.Proofs.YtgilhkjlfongoaaGreat
/- THE CELL 'sum', in the pinned program and in every row, IS THE sha256 OF THE DUMP (.gsa) THAT YtgilhkjlfongoaaGreatProg.lean LOADS. Nothing in Lean hashes anything: it is a label: what it is worth is what the hold of that sum in a sandbox is worth. -/
noncomputable def Tryz.pinned : Pinned := { name := "ytgilhkjlfongoaagreat", sum := "88f4e13e0e3f71e835375dab319b87620e67c15614dc4ddb3370238898b15930", checked := Tryz.checked }
namespace Rows
def none {H : Type} : Left H := { results := [], args := [] }

/-- 'cipherplanlaw15.IdentityMade': WHATEVER THE INPUT: true; the input reads as it did. -/
def identityMadeSpec : ChangeSpec := { name := "identityMade", fn := fun _ => fun
  | [d1, d2, d3] => { results := [.lit (.bool true)], args := [d1, d2, d3] }
  | _ => none }
def identityMadeRow : OpenClaim := { program := "ytgilhkjlfongoaagreat", sum := "88f4e13e0e3f71e835375dab319b87620e67c15614dc4ddb3370238898b15930", func := "cipherplan/cipherplanlaw15.IdentityMade", spec := "identityMade", inPlace := ["internal/bytealg.abigen_runtime_cmpstring", "slices.overlaps[string]", "slices.overlaps[int]"], unfollowed := true, recurses := true, plainKeys := false, apart := false }
def IdentityMadeSaid : Prop := identityMadeRow.holds Tryz.pinned (OpenSpec.ofChange identityMadeSpec)

/-- ITS FALSE NEIGHBOUR: 'it returns false'. Refute it at one input. -/
def identityMadeWrong : ChangeSpec := { name := "identityMade", fn := fun _ => fun
  | [d1, d2, d3] => { results := [.lit (.bool false)], args := [d1, d2, d3] }
  | _ => none }
def IdentityMadeWrongFalsely : Prop := identityMadeRow.holds Tryz.pinned (OpenSpec.ofChange identityMadeWrong)

/-- 'cipherplanlaw15.IdentityRenamed': WHATEVER THE INPUT: true; the input reads as it did. -/
def identityRenamedSpec : ChangeSpec := { name := "identityRenamed", fn := fun _ => fun
  | [d1, d2, d3, d4] => { results := [.lit (.bool true)], args := [d1, d2, d3, d4] }
  | _ => none }
def identityRenamedRow : OpenClaim := { program := "ytgilhkjlfongoaagreat", sum := "88f4e13e0e3f71e835375dab319b87620e67c15614dc4ddb3370238898b15930", func := "cipherplan/cipherplanlaw15.IdentityRenamed", spec := "identityRenamed", inPlace := ["internal/bytealg.abigen_runtime_cmpstring", "slices.overlaps[string]", "slices.overlaps[int]"], unfollowed := true, recurses := true, plainKeys := false, apart := false }
def IdentityRenamedSaid : Prop := identityRenamedRow.holds Tryz.pinned (OpenSpec.ofChange identityRenamedSpec)

/-- ITS FALSE NEIGHBOUR: 'it returns false'. Refute it at one input. -/
def identityRenamedWrong : ChangeSpec := { name := "identityRenamed", fn := fun _ => fun
  | [d1, d2, d3, d4] => { results := [.lit (.bool false)], args := [d1, d2, d3, d4] }
  | _ => none }
def IdentityRenamedWrongFalsely : Prop := identityRenamedRow.holds Tryz.pinned (OpenSpec.ofChange identityRenamedWrong)

/-- 'cipherplanlaw16.AssetMade': WHATEVER THE INPUT: true; the input reads as it did. -/
def assetMadeSpec : ChangeSpec := { name := "assetMade", fn := fun _ => fun
  | [d1, d2, d3, d4] => { results := [.lit (.bool true)], args := [d1, d2, d3, d4] }
  | _ => none }
def assetMadeRow : OpenClaim := { program := "ytgilhkjlfongoaagreat", sum := "88f4e13e0e3f71e835375dab319b87620e67c15614dc4ddb3370238898b15930", func := "cipherplan/cipherplanlaw16.AssetMade", spec := "assetMade", inPlace := ["internal/bytealg.abigen_runtime_cmpstring"], unfollowed := true, recurses := true, plainKeys := false, apart := false }
def AssetMadeSaid : Prop := assetMadeRow.holds Tryz.pinned (OpenSpec.ofChange assetMadeSpec)

/-- ITS FALSE NEIGHBOUR: 'it returns false'. Refute it at one input. -/
def assetMadeWrong : ChangeSpec := { name := "assetMade", fn := fun _ => fun
  | [d1, d2, d3, d4] => { results := [.lit (.bool false)], args := [d1, d2, d3, d4] }
  | _ => none }
def AssetMadeWrongFalsely : Prop := assetMadeRow.holds Tryz.pinned (OpenSpec.ofChange assetMadeWrong)

/- THE SECOND FORM. 'bulk': how many values and letters a reading holds, each counted each time it is reached (what is shared counts as often as it is met; a slice's spare places count too). A statement '..UptoSaid' is the law's where the arguments, and the package variables that the reading takes, are together of bulk at most 1048576: NARROWER than '..Said'. Prove '..Said' where nothing that the law and all that it calls make is longer than what came in: it says more and counts as full. Else prove '..UptoSaid'. A law counts once. -/
mutual
def uptoBulk {H : Type} : DataW H → Nat
  | .lit (.string bytes) => bytes.length + 1
  | .lit _ => 1
  | .nil => 1
  | .ptr d => uptoBulk d + 1
  | .slice elems spare => uptoBulkAll elems + uptoBulkAll spare + 1
  | .agg parts => uptoBulkAll parts + 1
  | .iface _ d => uptoBulk d + 1
  | .map entries => uptoBulkEntries entries + 1
  | .held _ => 1
def uptoBulkAll {H : Type} : List (DataW H) → Nat
  | [] => 0
  | d :: r => uptoBulk d + uptoBulkAll r
def uptoBulkEntries {H : Type} : List (Lit × DataW H) → Nat
  | [] => 0
  | x :: r => uptoBulkEntry x + uptoBulkEntries r
def uptoBulkEntry {H : Type} : Lit × DataW H → Nat
  | (.string bytes, d) => bytes.length + uptoBulk d + 1
  | (_, d) => uptoBulk d + 1
 end
def uptoSmall : (H : Type) → List (DataW H) → Bool := fun _ ds => decide (uptoBulkAll ds ≤ 1048576)
def OpenSpec.upto (s : _root_.Go.ChangeSpec) : _root_.Go.OpenSpec := { _root_.Go.OpenSpec.ofChange s with cond := some uptoSmall }

/-- 'cipherplanlaw15.IdentityMade', WHERE WHAT IT READS IS OF BULK AT MOST 1048576: true; the input reads as it did. -/
def identityMadeUptoRow : OpenClaim := { program := "ytgilhkjlfongoaagreat", sum := "88f4e13e0e3f71e835375dab319b87620e67c15614dc4ddb3370238898b15930", func := "cipherplan/cipherplanlaw15.IdentityMade", spec := "identityMade", inPlace := ["internal/bytealg.abigen_runtime_cmpstring", "slices.overlaps[string]", "slices.overlaps[int]"], unfollowed := true, recurses := true, plainKeys := false, apart := false, narrowed := true }
def IdentityMadeUptoSaid : Prop := identityMadeUptoRow.holds Tryz.pinned (OpenSpec.upto identityMadeSpec)

/-- 'cipherplanlaw15.IdentityRenamed', WHERE WHAT IT READS IS OF BULK AT MOST 1048576: true; the input reads as it did. -/
def identityRenamedUptoRow : OpenClaim := { program := "ytgilhkjlfongoaagreat", sum := "88f4e13e0e3f71e835375dab319b87620e67c15614dc4ddb3370238898b15930", func := "cipherplan/cipherplanlaw15.IdentityRenamed", spec := "identityRenamed", inPlace := ["internal/bytealg.abigen_runtime_cmpstring", "slices.overlaps[string]", "slices.overlaps[int]"], unfollowed := true, recurses := true, plainKeys := false, apart := false, narrowed := true }
def IdentityRenamedUptoSaid : Prop := identityRenamedUptoRow.holds Tryz.pinned (OpenSpec.upto identityRenamedSpec)

/-- 'cipherplanlaw16.AssetMade', WHERE WHAT IT READS IS OF BULK AT MOST 1048576: true; the input reads as it did. -/
def assetMadeUptoRow : OpenClaim := { program := "ytgilhkjlfongoaagreat", sum := "88f4e13e0e3f71e835375dab319b87620e67c15614dc4ddb3370238898b15930", func := "cipherplan/cipherplanlaw16.AssetMade", spec := "assetMade", inPlace := ["internal/bytealg.abigen_runtime_cmpstring"], unfollowed := true, recurses := true, plainKeys := false, apart := false, narrowed := true }
def AssetMadeUptoSaid : Prop := assetMadeUptoRow.holds Tryz.pinned (OpenSpec.upto assetMadeSpec)

end Rows
end Go.Proofs.YtgilhkjlfongoaaGreat
