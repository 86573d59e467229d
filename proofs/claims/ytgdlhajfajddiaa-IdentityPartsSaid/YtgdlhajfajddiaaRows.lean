/-
  No cell of these rows narrows 'for every input' (looked for: loops, veiled, ifaces, maps, wideKeys, modest, calm, conditions, laid).
  DERIVED. THE GIVEN ROWS OF THIS SEAT. 3 by the template 'for every input the law returns true; each argument reads behind the call as it read before'; 0 by the template 'total and deterministic' (their statements: YtgdlhajfajddiaaTotals.lean).
  GIVEN WITH THE SEED: the statements are not yours to turn. If you find one false, say at which input.
  Laid BY PROGRAM, IN A SANDBOX (cutbox-rows.mjs): the forced cells as the released guide's own fill.sh prints them over the translation 9bc40c699529d96c… (all of the seat's roots in one cut). By AI agents, Wed Nov 11 2026. No macro, syntax, notation, axiom, sorry.
-/
import Derived.Test.YtgdlhajfajddiaaChecked
import GoSem.Claim
import GoSem.ClaimJoined
import GoSem.ClaimMapViews
import Derived.JoinedTies
import Derived.KernelRfl
namespace Go.Proofs.Ytgdlhajfajddiaa
/- THE CELL 'sum', in the pinned program and in every row, IS THE sha256 OF THE DUMP (.gsa) THAT YtgdlhajfajddiaaProg.lean LOADS. Nothing in Lean hashes anything: it is a label: what it is worth is what the hold of that sum in a sandbox is worth. -/
noncomputable def Try.pinned : Pinned := { name := "ytgdlhajfajddiaa", sum := "9bc40c699529d96c77609a8fb8b390e772706e5ee1cbac0d51ef1cf2c135d06e", checked := Try.checked }
namespace Rows
def none {H : Type} : Left H := { results := [], args := [] }

/-- 'cipherplanlaw15.IdentityRaw': WHATEVER THE INPUT: true; the input reads as it did. -/
def identityRawSpec : ChangeSpec := { name := "identityRaw", fn := fun _ => fun
  | [d1, d2, d3, d4] => { results := [.lit (.bool true)], args := [d1, d2, d3, d4] }
  | _ => none }
def identityRawRow : OpenClaim := { program := "ytgdlhajfajddiaa", sum := "9bc40c699529d96c77609a8fb8b390e772706e5ee1cbac0d51ef1cf2c135d06e", func := "cipherplan/cipherplanlaw15.IdentityRaw", spec := "identityRaw", inPlace := ["internal/bytealg.abigen_runtime_cmpstring", "slices.overlaps[string]", "slices.overlaps[int]"], unfollowed := true, recurses := true, apart := false }
def IdentityRawSaid : Prop := identityRawRow.holds Try.pinned (OpenSpec.ofChange identityRawSpec)

/-- ITS FALSE NEIGHBOUR: 'it returns false'. Refute it at one input. -/
def identityRawWrong : ChangeSpec := { name := "identityRaw", fn := fun _ => fun
  | [d1, d2, d3, d4] => { results := [.lit (.bool false)], args := [d1, d2, d3, d4] }
  | _ => none }
def IdentityRawWrongFalsely : Prop := identityRawRow.holds Try.pinned (OpenSpec.ofChange identityRawWrong)

/-- 'cipherplanlaw15.IdentityParts': WHATEVER THE INPUT: true; the input reads as it did. -/
def identityPartsSpec : ChangeSpec := { name := "identityParts", fn := fun _ => fun
  | [d1, d2] => { results := [.lit (.bool true)], args := [d1, d2] }
  | _ => none }
def identityPartsRow : OpenClaim := { program := "ytgdlhajfajddiaa", sum := "9bc40c699529d96c77609a8fb8b390e772706e5ee1cbac0d51ef1cf2c135d06e", func := "cipherplan/cipherplanlaw15.IdentityParts", spec := "identityParts", inPlace := ["internal/bytealg.abigen_runtime_cmpstring", "slices.overlaps[string]", "slices.overlaps[int]"], unfollowed := true, recurses := true, apart := false }
def IdentityPartsSaid : Prop := identityPartsRow.holds Try.pinned (OpenSpec.ofChange identityPartsSpec)

/-- ITS FALSE NEIGHBOUR: 'it returns false'. Refute it at one input. -/
def identityPartsWrong : ChangeSpec := { name := "identityParts", fn := fun _ => fun
  | [d1, d2] => { results := [.lit (.bool false)], args := [d1, d2] }
  | _ => none }
def IdentityPartsWrongFalsely : Prop := identityPartsRow.holds Try.pinned (OpenSpec.ofChange identityPartsWrong)

/-- 'cipherplanlaw15.IdentityGap': WHATEVER THE INPUT: true; the input reads as it did. -/
def identityGapSpec : ChangeSpec := { name := "identityGap", fn := fun _ => fun
  | [d1, d2, d3] => { results := [.lit (.bool true)], args := [d1, d2, d3] }
  | _ => none }
def identityGapRow : OpenClaim := { program := "ytgdlhajfajddiaa", sum := "9bc40c699529d96c77609a8fb8b390e772706e5ee1cbac0d51ef1cf2c135d06e", func := "cipherplan/cipherplanlaw15.IdentityGap", spec := "identityGap", inPlace := ["internal/bytealg.abigen_runtime_cmpstring", "slices.overlaps[string]", "slices.overlaps[int]"], unfollowed := true, recurses := true, apart := false }
def IdentityGapSaid : Prop := identityGapRow.holds Try.pinned (OpenSpec.ofChange identityGapSpec)

/-- ITS FALSE NEIGHBOUR: 'it returns false'. Refute it at one input. -/
def identityGapWrong : ChangeSpec := { name := "identityGap", fn := fun _ => fun
  | [d1, d2, d3] => { results := [.lit (.bool false)], args := [d1, d2, d3] }
  | _ => none }
def IdentityGapWrongFalsely : Prop := identityGapRow.holds Try.pinned (OpenSpec.ofChange identityGapWrong)

/- THE SECOND FORM. 'bulk': how many values and letters a reading holds, each counted each time it is reached (what is shared counts as often as it is met; a slice's spare places count too). A statement '..UptoSaid' is the law's where the arguments, and the package variables that the reading takes, are together of bulk at most 1048576: NARROWER than '..Said'. Prove '..Said' where nothing that the law and all that it calls make is longer than what came in: it says more and counts as full. Else prove '..UptoSaid'. A law counts once. -/
mutual
def uptoBulk {H : Type} : DataW H → Nat
  | .lit (.string bytes) => bytes.length + 1
  | .lit _ => 1
  | .nil => 1
  | .ptr d => uptoBulk d + 1
  | .slice elems spare => uptoBulkAll elems + uptoBulkAll spare + 1
  | .agg parts => uptoBulkAll parts + 1
  | .iface _ d => uptoBulk d + 1
  | .map entries => uptoBulkEntries entries + 1
  | .held _ => 1
def uptoBulkAll {H : Type} : List (DataW H) → Nat
  | [] => 0
  | d :: r => uptoBulk d + uptoBulkAll r
def uptoBulkEntries {H : Type} : List (Lit × DataW H) → Nat
  | [] => 0
  | x :: r => uptoBulkEntry x + uptoBulkEntries r
def uptoBulkEntry {H : Type} : Lit × DataW H → Nat
  | (.string bytes, d) => bytes.length + uptoBulk d + 1
  | (_, d) => uptoBulk d + 1
 end
def uptoSmall : (H : Type) → List (DataW H) → Bool := fun _ ds => decide (uptoBulkAll ds ≤ 1048576)
def OpenSpec.upto (s : _root_.Go.ChangeSpec) : _root_.Go.OpenSpec := { _root_.Go.OpenSpec.ofChange s with cond := some uptoSmall }

/-- 'cipherplanlaw15.IdentityRaw', WHERE WHAT IT READS IS OF BULK AT MOST 1048576: true; the input reads as it did. -/
def identityRawUptoRow : OpenClaim := { program := "ytgdlhajfajddiaa", sum := "9bc40c699529d96c77609a8fb8b390e772706e5ee1cbac0d51ef1cf2c135d06e", func := "cipherplan/cipherplanlaw15.IdentityRaw", spec := "identityRaw", inPlace := ["internal/bytealg.abigen_runtime_cmpstring", "slices.overlaps[string]", "slices.overlaps[int]"], unfollowed := true, recurses := true, apart := false, narrowed := true }
def IdentityRawUptoSaid : Prop := identityRawUptoRow.holds Try.pinned (OpenSpec.upto identityRawSpec)

/-- 'cipherplanlaw15.IdentityParts', WHERE WHAT IT READS IS OF BULK AT MOST 1048576: true; the input reads as it did. -/
def identityPartsUptoRow : OpenClaim := { program := "ytgdlhajfajddiaa", sum := "9bc40c699529d96c77609a8fb8b390e772706e5ee1cbac0d51ef1cf2c135d06e", func := "cipherplan/cipherplanlaw15.IdentityParts", spec := "identityParts", inPlace := ["internal/bytealg.abigen_runtime_cmpstring", "slices.overlaps[string]", "slices.overlaps[int]"], unfollowed := true, recurses := true, apart := false, narrowed := true }
def IdentityPartsUptoSaid : Prop := identityPartsUptoRow.holds Try.pinned (OpenSpec.upto identityPartsSpec)

/-- 'cipherplanlaw15.IdentityGap', WHERE WHAT IT READS IS OF BULK AT MOST 1048576: true; the input reads as it did. -/
def identityGapUptoRow : OpenClaim := { program := "ytgdlhajfajddiaa", sum := "9bc40c699529d96c77609a8fb8b390e772706e5ee1cbac0d51ef1cf2c135d06e", func := "cipherplan/cipherplanlaw15.IdentityGap", spec := "identityGap", inPlace := ["internal/bytealg.abigen_runtime_cmpstring", "slices.overlaps[string]", "slices.overlaps[int]"], unfollowed := true, recurses := true, apart := false, narrowed := true }
def IdentityGapUptoSaid : Prop := identityGapUptoRow.holds Try.pinned (OpenSpec.upto identityGapSpec)

end Rows
end Go.Proofs.Ytgdlhajfajddiaa
