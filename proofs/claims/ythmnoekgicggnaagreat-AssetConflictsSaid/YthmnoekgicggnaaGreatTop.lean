/-
  From the arguments of a statement to what we know of their values.
-/
import Derived.Test.YthmnoekgicggnaaGreatTypes
import Derived.Test.YthmnoekgicggnaaGreatRows
import Derived.Test.YthmnoekgicggnaaGreatSlices
namespace Go.Proofs.YthmnoekgicggnaaGreat
open Go Go.RowKit Cp Go.ChangeShapes Go.WideShapes Go.ChangeAt

theorem own0 : ownKnob Tryz.prog.godebug = none := by kernel_rfl
theorem laidOut0 : laidOutB Tryz.prog = true := by kernel_rfl
theorem u8_in {n : Int} (h : (Lit.int .u8 n).wf = true) : 0 ≤ n ∧ n < 256 := by
  simp only [Lit.wf, Bool.and_eq_true, decide_eq_true_eq] at h
  have h1 : IntKind.u8.min = 0 := rfl
  have h2 : IntKind.u8.max = 255 := rfl
  omega
theorem i64_in {n : Int} (h : (Lit.int .i64 n).wf = true) : InI n := by
  simp only [Lit.wf, Bool.and_eq_true, decide_eq_true_eq] at h
  have h1 : IntKind.i64.min = -9223372036854775808 := rfl
  have h2 : IntKind.i64.max = 9223372036854775807 := rfl
  unfold InI; omega
theorem opens_ints {P : Program} {t e : TypeId} (ht : P.underlying t = some (.slice e)) (he : P.underlying e = some (.int .i64)) (hc : P.cellsOf e = 1) : Opens P t (fun l : List Int => l.length ≤ maxLen ∧ ∀ n ∈ l, InI n) (fun l => [ints l]) :=
  (opens_slice ht hc (opens_int he)).map id (fun _ h => ⟨h.2, fun n hn => i64_in (h.1 n hn)⟩) (fun _ => rfl)

end Go.Proofs.YthmnoekgicggnaaGreat
