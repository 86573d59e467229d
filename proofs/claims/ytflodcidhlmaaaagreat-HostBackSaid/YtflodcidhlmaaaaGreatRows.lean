/-
  No cell of these rows narrows 'for every input' (looked for: loops, veiled, ifaces, maps, wideKeys, modest, calm, conditions, laid).
  DERIVED. THE GIVEN ROWS OF THIS SEAT. 7 by the template 'for every input the law returns true; each argument reads behind the call as it read before'; 0 by the template 'total and deterministic' (their statements: YtflodcidhlmaaaaGreatTotals.lean).
  GIVEN WITH THE SEED: the statements are not yours to turn. If you find one false, say at which input.
  Laid BY PROGRAM, IN A SANDBOX (cutbox-rows.mjs): the forced cells as the released guide's own fill.sh prints them over the translation 8f6b296282f0c9d6… (all of the seat's roots in one cut). By AI agents, Wed Nov 11 2026. No macro, syntax, notation, axiom, sorry.
-/
import Derived.Test.YtflodcidhlmaaaaGreatChecked
import GoSem.Claim
import GoSem.ClaimJoined
import GoSem.ClaimMapViews
import Derived.JoinedTies
import Derived.KernelRfl
namespace Go.Proofs.YtflodcidhlmaaaaGreat
/- THE CELL 'sum', in the pinned program and in every row, IS THE sha256 OF THE DUMP (.gsa) THAT YtflodcidhlmaaaaGreatProg.lean LOADS. Nothing in Lean hashes anything: it is a label: what it is worth is what the hold of that sum in a sandbox is worth. -/
noncomputable def Tryz.pinned : Pinned := { name := "ytflodcidhlmaaaagreat", sum := "8f6b296282f0c9d6e38393d46b803522a3d4d6b536a45c37239cacdf1cdf6b27", checked := Tryz.checked }
namespace Rows
def none {H : Type} : Left H := { results := [], args := [] }

/-- 'cipherplanlaw36.HostBack': WHATEVER THE INPUT: true; the input reads as it did. -/
def hostBackSpec : ChangeSpec := { name := "hostBack", fn := fun _ => fun
  | [d1, d2] => { results := [.lit (.bool true)], args := [d1, d2] }
  | _ => none }
def hostBackRow : OpenClaim := { program := "ytflodcidhlmaaaagreat", sum := "8f6b296282f0c9d6e38393d46b803522a3d4d6b536a45c37239cacdf1cdf6b27", func := "cipherplan/cipherplanlaw36.HostBack", spec := "hostBack", inPlace := ["internal/bytealg.IndexByteString"], unfollowed := true, recurses := true, apart := false }
def HostBackSaid : Prop := hostBackRow.holds Tryz.pinned (OpenSpec.ofChange hostBackSpec)

/-- ITS FALSE NEIGHBOUR: 'it returns false'. Refute it at one input. -/
def hostBackWrong : ChangeSpec := { name := "hostBack", fn := fun _ => fun
  | [d1, d2] => { results := [.lit (.bool false)], args := [d1, d2] }
  | _ => none }
def HostBackWrongFalsely : Prop := hostBackRow.holds Tryz.pinned (OpenSpec.ofChange hostBackWrong)

/-- 'cipherplanlaw24.ChangePlaces': WHATEVER THE INPUT: true; the input reads as it did. -/
def changePlacesSpec : ChangeSpec := { name := "changePlaces", fn := fun _ => fun
  | [d1, d2, d3] => { results := [.lit (.bool true)], args := [d1, d2, d3] }
  | _ => none }
def changePlacesRow : OpenClaim := { program := "ytflodcidhlmaaaagreat", sum := "8f6b296282f0c9d6e38393d46b803522a3d4d6b536a45c37239cacdf1cdf6b27", func := "cipherplan/cipherplanlaw24.ChangePlaces", spec := "changePlaces", inPlace := ["internal/bytealg.IndexByteString", "slices.overlaps[int]", "slices.overlaps[cipherplan/api.Identity]"], unfollowed := true, recurses := true, apart := false }
def ChangePlacesSaid : Prop := changePlacesRow.holds Tryz.pinned (OpenSpec.ofChange changePlacesSpec)

/-- ITS FALSE NEIGHBOUR: 'it returns false'. Refute it at one input. -/
def changePlacesWrong : ChangeSpec := { name := "changePlaces", fn := fun _ => fun
  | [d1, d2, d3] => { results := [.lit (.bool false)], args := [d1, d2, d3] }
  | _ => none }
def ChangePlacesWrongFalsely : Prop := changePlacesRow.holds Tryz.pinned (OpenSpec.ofChange changePlacesWrong)

/-- 'cipherplanlaw24.ChangeTwice': WHATEVER THE INPUT: true; the input reads as it did. -/
def changeTwiceSpec : ChangeSpec := { name := "changeTwice", fn := fun _ => fun
  | [d] => { results := [.lit (.bool true)], args := [d] }
  | _ => none }
def changeTwiceRow : OpenClaim := { program := "ytflodcidhlmaaaagreat", sum := "8f6b296282f0c9d6e38393d46b803522a3d4d6b536a45c37239cacdf1cdf6b27", func := "cipherplan/cipherplanlaw24.ChangeTwice", spec := "changeTwice", inPlace := ["internal/bytealg.IndexByteString", "slices.overlaps[int]", "slices.overlaps[cipherplan/api.Identity]"], unfollowed := true, recurses := true, apart := false }
def ChangeTwiceSaid : Prop := changeTwiceRow.holds Tryz.pinned (OpenSpec.ofChange changeTwiceSpec)

/-- ITS FALSE NEIGHBOUR: 'it returns false'. Refute it at one input. -/
def changeTwiceWrong : ChangeSpec := { name := "changeTwice", fn := fun _ => fun
  | [d] => { results := [.lit (.bool false)], args := [d] }
  | _ => none }
def ChangeTwiceWrongFalsely : Prop := changeTwiceRow.holds Tryz.pinned (OpenSpec.ofChange changeTwiceWrong)

/-- 'cipherplanlaw24.ChangeBack': WHATEVER THE INPUT: true; the input reads as it did. -/
def changeBackSpec : ChangeSpec := { name := "changeBack", fn := fun _ => fun
  | [d] => { results := [.lit (.bool true)], args := [d] }
  | _ => none }
def changeBackRow : OpenClaim := { program := "ytflodcidhlmaaaagreat", sum := "8f6b296282f0c9d6e38393d46b803522a3d4d6b536a45c37239cacdf1cdf6b27", func := "cipherplan/cipherplanlaw24.ChangeBack", spec := "changeBack", inPlace := ["internal/bytealg.IndexByteString", "slices.overlaps[int]", "slices.overlaps[cipherplan/api.Identity]"], unfollowed := true, recurses := true, apart := false }
def ChangeBackSaid : Prop := changeBackRow.holds Tryz.pinned (OpenSpec.ofChange changeBackSpec)

/-- ITS FALSE NEIGHBOUR: 'it returns false'. Refute it at one input. -/
def changeBackWrong : ChangeSpec := { name := "changeBack", fn := fun _ => fun
  | [d] => { results := [.lit (.bool false)], args := [d] }
  | _ => none }
def ChangeBackWrongFalsely : Prop := changeBackRow.holds Tryz.pinned (OpenSpec.ofChange changeBackWrong)

/-- 'cipherplanlaw24.ChangeAll': WHATEVER THE INPUT: true; the input reads as it did. -/
def changeAllSpec : ChangeSpec := { name := "changeAll", fn := fun _ => fun
  | [d1, d2, d3] => { results := [.lit (.bool true)], args := [d1, d2, d3] }
  | _ => none }
def changeAllRow : OpenClaim := { program := "ytflodcidhlmaaaagreat", sum := "8f6b296282f0c9d6e38393d46b803522a3d4d6b536a45c37239cacdf1cdf6b27", func := "cipherplan/cipherplanlaw24.ChangeAll", spec := "changeAll", inPlace := ["internal/bytealg.IndexByteString", "slices.overlaps[int]", "slices.overlaps[cipherplan/api.Identity]"], unfollowed := true, recurses := true, apart := false }
def ChangeAllSaid : Prop := changeAllRow.holds Tryz.pinned (OpenSpec.ofChange changeAllSpec)

/-- ITS FALSE NEIGHBOUR: 'it returns false'. Refute it at one input. -/
def changeAllWrong : ChangeSpec := { name := "changeAll", fn := fun _ => fun
  | [d1, d2, d3] => { results := [.lit (.bool false)], args := [d1, d2, d3] }
  | _ => none }
def ChangeAllWrongFalsely : Prop := changeAllRow.holds Tryz.pinned (OpenSpec.ofChange changeAllWrong)

/-- 'cipherplanlaw36.HostAll': WHATEVER THE INPUT: true; the input reads as it did. -/
def hostAllSpec : ChangeSpec := { name := "hostAll", fn := fun _ => fun
  | [d1, d2, d3] => { results := [.lit (.bool true)], args := [d1, d2, d3] }
  | _ => none }
def hostAllRow : OpenClaim := { program := "ytflodcidhlmaaaagreat", sum := "8f6b296282f0c9d6e38393d46b803522a3d4d6b536a45c37239cacdf1cdf6b27", func := "cipherplan/cipherplanlaw36.HostAll", spec := "hostAll", inPlace := ["internal/bytealg.IndexByteString", "slices.overlaps[int]", "slices.overlaps[cipherplan/api.Identity]", "internal/bytealg.abigen_runtime_cmpstring"], unfollowed := true, recurses := true, apart := false }
def HostAllSaid : Prop := hostAllRow.holds Tryz.pinned (OpenSpec.ofChange hostAllSpec)

/-- ITS FALSE NEIGHBOUR: 'it returns false'. Refute it at one input. -/
def hostAllWrong : ChangeSpec := { name := "hostAll", fn := fun _ => fun
  | [d1, d2, d3] => { results := [.lit (.bool false)], args := [d1, d2, d3] }
  | _ => none }
def HostAllWrongFalsely : Prop := hostAllRow.holds Tryz.pinned (OpenSpec.ofChange hostAllWrong)

/-- 'cipherplanlaw36.HostDrifts': WHATEVER THE INPUT: true; the input reads as it did. -/
def hostDriftsSpec : ChangeSpec := { name := "hostDrifts", fn := fun _ => fun
  | [d] => { results := [.lit (.bool true)], args := [d] }
  | _ => none }
def hostDriftsRow : OpenClaim := { program := "ytflodcidhlmaaaagreat", sum := "8f6b296282f0c9d6e38393d46b803522a3d4d6b536a45c37239cacdf1cdf6b27", func := "cipherplan/cipherplanlaw36.HostDrifts", spec := "hostDrifts", inPlace := ["internal/bytealg.IndexByteString", "slices.overlaps[int]", "slices.overlaps[cipherplan/api.Identity]", "internal/bytealg.abigen_runtime_cmpstring"], unfollowed := true, recurses := true, apart := false }
def HostDriftsSaid : Prop := hostDriftsRow.holds Tryz.pinned (OpenSpec.ofChange hostDriftsSpec)

/-- ITS FALSE NEIGHBOUR: 'it returns false'. Refute it at one input. -/
def hostDriftsWrong : ChangeSpec := { name := "hostDrifts", fn := fun _ => fun
  | [d] => { results := [.lit (.bool false)], args := [d] }
  | _ => none }
def HostDriftsWrongFalsely : Prop := hostDriftsRow.holds Tryz.pinned (OpenSpec.ofChange hostDriftsWrong)

/- THE SECOND FORM. 'bulk': how many values and letters a reading holds, each counted each time it is reached (what is shared counts as often as it is met; a slice's spare places count too). A statement '..UptoSaid' is the law's where the arguments, and the package variables that the reading takes, are together of bulk at most 1048576: NARROWER than '..Said'. Prove '..Said' where nothing that the law and all that it calls make is longer than what came in: it says more and counts as full. Else prove '..UptoSaid'. A law counts once. -/
mutual
def uptoBulk {H : Type} : DataW H → Nat
  | .lit (.string bytes) => bytes.length + 1
  | .lit _ => 1
  | .nil => 1
  | .ptr d => uptoBulk d + 1
  | .slice elems spare => uptoBulkAll elems + uptoBulkAll spare + 1
  | .agg parts => uptoBulkAll parts + 1
  | .iface _ d => uptoBulk d + 1
  | .map entries => uptoBulkEntries entries + 1
  | .held _ => 1
def uptoBulkAll {H : Type} : List (DataW H) → Nat
  | [] => 0
  | d :: r => uptoBulk d + uptoBulkAll r
def uptoBulkEntries {H : Type} : List (Lit × DataW H) → Nat
  | [] => 0
  | x :: r => uptoBulkEntry x + uptoBulkEntries r
def uptoBulkEntry {H : Type} : Lit × DataW H → Nat
  | (.string bytes, d) => bytes.length + uptoBulk d + 1
  | (_, d) => uptoBulk d + 1
 end
def uptoSmall : (H : Type) → List (DataW H) → Bool := fun _ ds => decide (uptoBulkAll ds ≤ 1048576)
def OpenSpec.upto (s : _root_.Go.ChangeSpec) : _root_.Go.OpenSpec := { _root_.Go.OpenSpec.ofChange s with cond := some uptoSmall }

/-- 'cipherplanlaw36.HostBack', WHERE WHAT IT READS IS OF BULK AT MOST 1048576: true; the input reads as it did. -/
def hostBackUptoRow : OpenClaim := { program := "ytflodcidhlmaaaagreat", sum := "8f6b296282f0c9d6e38393d46b803522a3d4d6b536a45c37239cacdf1cdf6b27", func := "cipherplan/cipherplanlaw36.HostBack", spec := "hostBack", inPlace := ["internal/bytealg.IndexByteString"], unfollowed := true, recurses := true, apart := false, narrowed := true }
def HostBackUptoSaid : Prop := hostBackUptoRow.holds Tryz.pinned (OpenSpec.upto hostBackSpec)

/-- 'cipherplanlaw24.ChangePlaces', WHERE WHAT IT READS IS OF BULK AT MOST 1048576: true; the input reads as it did. -/
def changePlacesUptoRow : OpenClaim := { program := "ytflodcidhlmaaaagreat", sum := "8f6b296282f0c9d6e38393d46b803522a3d4d6b536a45c37239cacdf1cdf6b27", func := "cipherplan/cipherplanlaw24.ChangePlaces", spec := "changePlaces", inPlace := ["internal/bytealg.IndexByteString", "slices.overlaps[int]", "slices.overlaps[cipherplan/api.Identity]"], unfollowed := true, recurses := true, apart := false, narrowed := true }
def ChangePlacesUptoSaid : Prop := changePlacesUptoRow.holds Tryz.pinned (OpenSpec.upto changePlacesSpec)

/-- 'cipherplanlaw24.ChangeTwice', WHERE WHAT IT READS IS OF BULK AT MOST 1048576: true; the input reads as it did. -/
def changeTwiceUptoRow : OpenClaim := { program := "ytflodcidhlmaaaagreat", sum := "8f6b296282f0c9d6e38393d46b803522a3d4d6b536a45c37239cacdf1cdf6b27", func := "cipherplan/cipherplanlaw24.ChangeTwice", spec := "changeTwice", inPlace := ["internal/bytealg.IndexByteString", "slices.overlaps[int]", "slices.overlaps[cipherplan/api.Identity]"], unfollowed := true, recurses := true, apart := false, narrowed := true }
def ChangeTwiceUptoSaid : Prop := changeTwiceUptoRow.holds Tryz.pinned (OpenSpec.upto changeTwiceSpec)

/-- 'cipherplanlaw24.ChangeBack', WHERE WHAT IT READS IS OF BULK AT MOST 1048576: true; the input reads as it did. -/
def changeBackUptoRow : OpenClaim := { program := "ytflodcidhlmaaaagreat", sum := "8f6b296282f0c9d6e38393d46b803522a3d4d6b536a45c37239cacdf1cdf6b27", func := "cipherplan/cipherplanlaw24.ChangeBack", spec := "changeBack", inPlace := ["internal/bytealg.IndexByteString", "slices.overlaps[int]", "slices.overlaps[cipherplan/api.Identity]"], unfollowed := true, recurses := true, apart := false, narrowed := true }
def ChangeBackUptoSaid : Prop := changeBackUptoRow.holds Tryz.pinned (OpenSpec.upto changeBackSpec)

/-- 'cipherplanlaw24.ChangeAll', WHERE WHAT IT READS IS OF BULK AT MOST 1048576: true; the input reads as it did. -/
def changeAllUptoRow : OpenClaim := { program := "ytflodcidhlmaaaagreat", sum := "8f6b296282f0c9d6e38393d46b803522a3d4d6b536a45c37239cacdf1cdf6b27", func := "cipherplan/cipherplanlaw24.ChangeAll", spec := "changeAll", inPlace := ["internal/bytealg.IndexByteString", "slices.overlaps[int]", "slices.overlaps[cipherplan/api.Identity]"], unfollowed := true, recurses := true, apart := false, narrowed := true }
def ChangeAllUptoSaid : Prop := changeAllUptoRow.holds Tryz.pinned (OpenSpec.upto changeAllSpec)

/-- 'cipherplanlaw36.HostAll', WHERE WHAT IT READS IS OF BULK AT MOST 1048576: true; the input reads as it did. -/
def hostAllUptoRow : OpenClaim := { program := "ytflodcidhlmaaaagreat", sum := "8f6b296282f0c9d6e38393d46b803522a3d4d6b536a45c37239cacdf1cdf6b27", func := "cipherplan/cipherplanlaw36.HostAll", spec := "hostAll", inPlace := ["internal/bytealg.IndexByteString", "slices.overlaps[int]", "slices.overlaps[cipherplan/api.Identity]", "internal/bytealg.abigen_runtime_cmpstring"], unfollowed := true, recurses := true, apart := false, narrowed := true }
def HostAllUptoSaid : Prop := hostAllUptoRow.holds Tryz.pinned (OpenSpec.upto hostAllSpec)

/-- 'cipherplanlaw36.HostDrifts', WHERE WHAT IT READS IS OF BULK AT MOST 1048576: true; the input reads as it did. -/
def hostDriftsUptoRow : OpenClaim := { program := "ytflodcidhlmaaaagreat", sum := "8f6b296282f0c9d6e38393d46b803522a3d4d6b536a45c37239cacdf1cdf6b27", func := "cipherplan/cipherplanlaw36.HostDrifts", spec := "hostDrifts", inPlace := ["internal/bytealg.IndexByteString", "slices.overlaps[int]", "slices.overlaps[cipherplan/api.Identity]", "internal/bytealg.abigen_runtime_cmpstring"], unfollowed := true, recurses := true, apart := false, narrowed := true }
def HostDriftsUptoSaid : Prop := hostDriftsUptoRow.holds Tryz.pinned (OpenSpec.upto hostDriftsSpec)

end Rows
end Go.Proofs.YtflodcidhlmaaaaGreat
