/-
  No cell of these rows narrows 'for every input' (looked for: loops, veiled, ifaces, maps, wideKeys, modest, calm, conditions, laid).
  DERIVED. THE GIVEN ROWS OF THIS SEAT. 3 by the template 'for every input the law returns true; each argument reads behind the call as it read before'; 0 by the template 'total and deterministic' (their statements: YtflodcidhlmaaaaTotals.lean).
  GIVEN WITH THE SEED: the statements are not yours to turn. If you find one false, say at which input.
  Laid BY PROGRAM, IN A SANDBOX (cutbox-rows.mjs): the forced cells as the released guide's own fill.sh prints them over the translation 01bf6850f2e5dfce… (all of the seat's roots in one cut). By AI agents, Wed Nov 11 2026. No macro, syntax, notation, axiom, sorry.
-/
import Derived.Test.YtflodcidhlmaaaaChecked
import GoSem.Claim
import GoSem.ClaimJoined
import GoSem.ClaimMapViews
import Derived.JoinedTies
import Derived.KernelRfl
namespace Go.Proofs.Ytflodcidhlmaaaa
/- THE CELL 'sum', in the pinned program and in every row, IS THE sha256 OF THE DUMP (.gsa) THAT YtflodcidhlmaaaaProg.lean LOADS. Nothing in Lean hashes anything: it is a label: what it is worth is what the hold of that sum in a sandbox is worth. -/
noncomputable def Try.pinned : Pinned := { name := "ytflodcidhlmaaaa", sum := "01bf6850f2e5dfcec119f0ab58311ab704dc7e18d915dd0679f2ad6a24d383f6", checked := Try.checked }
namespace Rows
def none {H : Type} : Left H := { results := [], args := [] }

/-- 'cipherplanlaw36.HostRemembers': WHATEVER THE INPUT: true; the input reads as it did. -/
def hostRemembersSpec : ChangeSpec := { name := "hostRemembers", fn := fun _ => fun
  | [d1, d2] => { results := [.lit (.bool true)], args := [d1, d2] }
  | _ => none }
def hostRemembersRow : OpenClaim := { program := "ytflodcidhlmaaaa", sum := "01bf6850f2e5dfcec119f0ab58311ab704dc7e18d915dd0679f2ad6a24d383f6", func := "cipherplan/cipherplanlaw36.HostRemembers", spec := "hostRemembers", inPlace := ["internal/bytealg.IndexByteString"], unfollowed := true, recurses := true, apart := false }
def HostRemembersSaid : Prop := hostRemembersRow.holds Try.pinned (OpenSpec.ofChange hostRemembersSpec)

/-- ITS FALSE NEIGHBOUR: 'it returns false'. Refute it at one input. -/
def hostRemembersWrong : ChangeSpec := { name := "hostRemembers", fn := fun _ => fun
  | [d1, d2] => { results := [.lit (.bool false)], args := [d1, d2] }
  | _ => none }
def HostRemembersWrongFalsely : Prop := hostRemembersRow.holds Try.pinned (OpenSpec.ofChange hostRemembersWrong)

/-- 'cipherplanlaw36.HostNames': WHATEVER THE INPUT: true; the input reads as it did. -/
def hostNamesSpec : ChangeSpec := { name := "hostNames", fn := fun _ => fun
  | [d1, d2] => { results := [.lit (.bool true)], args := [d1, d2] }
  | _ => none }
def hostNamesRow : OpenClaim := { program := "ytflodcidhlmaaaa", sum := "01bf6850f2e5dfcec119f0ab58311ab704dc7e18d915dd0679f2ad6a24d383f6", func := "cipherplan/cipherplanlaw36.HostNames", spec := "hostNames", inPlace := ["internal/bytealg.IndexByteString"], unfollowed := true, recurses := true, apart := false }
def HostNamesSaid : Prop := hostNamesRow.holds Try.pinned (OpenSpec.ofChange hostNamesSpec)

/-- ITS FALSE NEIGHBOUR: 'it returns false'. Refute it at one input. -/
def hostNamesWrong : ChangeSpec := { name := "hostNames", fn := fun _ => fun
  | [d1, d2] => { results := [.lit (.bool false)], args := [d1, d2] }
  | _ => none }
def HostNamesWrongFalsely : Prop := hostNamesRow.holds Try.pinned (OpenSpec.ofChange hostNamesWrong)

/-- 'cipherplanlaw24.ChangeTwins': WHATEVER THE INPUT: true; the input reads as it did. -/
def changeTwinsSpec : ChangeSpec := { name := "changeTwins", fn := fun _ => fun
  | [d] => { results := [.lit (.bool true)], args := [d] }
  | _ => none }
def changeTwinsRow : OpenClaim := { program := "ytflodcidhlmaaaa", sum := "01bf6850f2e5dfcec119f0ab58311ab704dc7e18d915dd0679f2ad6a24d383f6", func := "cipherplan/cipherplanlaw24.ChangeTwins", spec := "changeTwins", inPlace := ["internal/bytealg.IndexByteString", "slices.overlaps[int]", "slices.overlaps[cipherplan/api.Identity]"], unfollowed := true, recurses := true, apart := false }
def ChangeTwinsSaid : Prop := changeTwinsRow.holds Try.pinned (OpenSpec.ofChange changeTwinsSpec)

/-- ITS FALSE NEIGHBOUR: 'it returns false'. Refute it at one input. -/
def changeTwinsWrong : ChangeSpec := { name := "changeTwins", fn := fun _ => fun
  | [d] => { results := [.lit (.bool false)], args := [d] }
  | _ => none }
def ChangeTwinsWrongFalsely : Prop := changeTwinsRow.holds Try.pinned (OpenSpec.ofChange changeTwinsWrong)

/- THE SECOND FORM. 'bulk': how many values and letters a reading holds, each counted each time it is reached (what is shared counts as often as it is met; a slice's spare places count too). A statement '..UptoSaid' is the law's where the arguments, and the package variables that the reading takes, are together of bulk at most 1048576: NARROWER than '..Said'. Prove '..Said' where nothing that the law and all that it calls make is longer than what came in: it says more and counts as full. Else prove '..UptoSaid'. A law counts once. -/
mutual
def uptoBulk {H : Type} : DataW H → Nat
  | .lit (.string bytes) => bytes.length + 1
  | .lit _ => 1
  | .nil => 1
  | .ptr d => uptoBulk d + 1
  | .slice elems spare => uptoBulkAll elems + uptoBulkAll spare + 1
  | .agg parts => uptoBulkAll parts + 1
  | .iface _ d => uptoBulk d + 1
  | .map entries => uptoBulkEntries entries + 1
  | .held _ => 1
def uptoBulkAll {H : Type} : List (DataW H) → Nat
  | [] => 0
  | d :: r => uptoBulk d + uptoBulkAll r
def uptoBulkEntries {H : Type} : List (Lit × DataW H) → Nat
  | [] => 0
  | x :: r => uptoBulkEntry x + uptoBulkEntries r
def uptoBulkEntry {H : Type} : Lit × DataW H → Nat
  | (.string bytes, d) => bytes.length + uptoBulk d + 1
  | (_, d) => uptoBulk d + 1
 end
def uptoSmall : (H : Type) → List (DataW H) → Bool := fun _ ds => decide (uptoBulkAll ds ≤ 1048576)
def OpenSpec.upto (s : _root_.Go.ChangeSpec) : _root_.Go.OpenSpec := { _root_.Go.OpenSpec.ofChange s with cond := some uptoSmall }

/-- 'cipherplanlaw36.HostRemembers', WHERE WHAT IT READS IS OF BULK AT MOST 1048576: true; the input reads as it did. -/
def hostRemembersUptoRow : OpenClaim := { program := "ytflodcidhlmaaaa", sum := "01bf6850f2e5dfcec119f0ab58311ab704dc7e18d915dd0679f2ad6a24d383f6", func := "cipherplan/cipherplanlaw36.HostRemembers", spec := "hostRemembers", inPlace := ["internal/bytealg.IndexByteString"], unfollowed := true, recurses := true, apart := false, narrowed := true }
def HostRemembersUptoSaid : Prop := hostRemembersUptoRow.holds Try.pinned (OpenSpec.upto hostRemembersSpec)

/-- 'cipherplanlaw36.HostNames', WHERE WHAT IT READS IS OF BULK AT MOST 1048576: true; the input reads as it did. -/
def hostNamesUptoRow : OpenClaim := { program := "ytflodcidhlmaaaa", sum := "01bf6850f2e5dfcec119f0ab58311ab704dc7e18d915dd0679f2ad6a24d383f6", func := "cipherplan/cipherplanlaw36.HostNames", spec := "hostNames", inPlace := ["internal/bytealg.IndexByteString"], unfollowed := true, recurses := true, apart := false, narrowed := true }
def HostNamesUptoSaid : Prop := hostNamesUptoRow.holds Try.pinned (OpenSpec.upto hostNamesSpec)

/-- 'cipherplanlaw24.ChangeTwins', WHERE WHAT IT READS IS OF BULK AT MOST 1048576: true; the input reads as it did. -/
def changeTwinsUptoRow : OpenClaim := { program := "ytflodcidhlmaaaa", sum := "01bf6850f2e5dfcec119f0ab58311ab704dc7e18d915dd0679f2ad6a24d383f6", func := "cipherplan/cipherplanlaw24.ChangeTwins", spec := "changeTwins", inPlace := ["internal/bytealg.IndexByteString", "slices.overlaps[int]", "slices.overlaps[cipherplan/api.Identity]"], unfollowed := true, recurses := true, apart := false, narrowed := true }
def ChangeTwinsUptoSaid : Prop := changeTwinsUptoRow.holds Try.pinned (OpenSpec.upto changeTwinsSpec)

end Rows
end Go.Proofs.Ytflodcidhlmaaaa
