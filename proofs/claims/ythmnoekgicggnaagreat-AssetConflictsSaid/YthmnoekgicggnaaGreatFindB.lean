/-
  What the functions named below compute, proved from their text; printed by a program of our own.
-/
import Derived.Test.YthmnoekgicggnaaGreatTypes
import Derived.Test.YthmnoekgicggnaaGreatSlices
import Derived.Test.YthmnoekgicggnaaGreatEqs
import Derived.Test.YthmnoekgicggnaaGreatCat
import Derived.Test.YthmnoekgicggnaaGreatCat2
import Derived.Test.YthmnoekgicggnaaGreatCat3
import Derived.Test.YthmnoekgicggnaaGreatCat5
import Derived.Test.YthmnoekgicggnaaGreatFindA
namespace Go.Proofs.YthmnoekgicggnaaGreat
open Go Go.RowKit Cp
set_option maxRecDepth 20000 in
theorem w_R14Check {f : Fnd}  : Fun Tryz.prog 58 [agg (rowF f)] (int (if checkF f then 0 else 24)) := by
  refine Fun.of Tryz.func58 rfl rfl (by exact Nat.le_of_ble_eq_true rfl) fun M0 w0 => ?_
  refine Tr.seq ?_
  refine Tr.reg0 ?_
  refine Ch.op rfl rfl (by decide) (ok_box rfl (VL.le (vl rfl) (agg_cellsP _))) ?_
  refine Ch.op rfl rfl (by decide) (ok_assign rfl (vl rfl)) ?_
  refine Ch.nil ?_
  refine Fin.go ?_
  refine Tr.seq ?_
  refine Tr.seq ?_
  refine Tr.reg0 ?_
  refine Ch.op rfl rfl (by decide) (ok_fieldAddr rfl fo42_0 (vl rfl) rfl) ?_
  refine Ch.op rfl rfl (by decide) (ok_load1 rfl one3 (vl rfl)) ?_
  refine Ch.op rfl rfl (by decide) (ok_int rfl (vl rfl) (vl rfl) rfl) ?_
  refine Ch.op rfl rfl (by decide) (ok_move rfl (vl rfl)) ?_
  refine Ch.cases 10 rfl (fun h1 => ?_) (fun h1 => ?_)
  ·
    have q1 := Nrm.nrm h1
    refine Ch.no rfl rfl rfl (ne_false h1) rfl (by decide) ?_
    refine Ch.no rfl rfl rfl (ne_false h1) rfl (by decide) ?_
    refine Ch.no rfl rfl rfl (ne_false h1) rfl (by decide) ?_
    refine Ch.op rfl rfl (by decide) (ok_pick_t rfl (vl rfl) h1 (vl rfl)) ?_
    refine Ch.op rfl rfl (by decide) (ok_move rfl (vl rfl)) ?_
    refine Ch.no rfl rfl rfl (by decide) rfl (by decide) ?_
    refine Ch.no rfl rfl rfl (by decide) rfl (by decide) ?_
    refine Ch.no rfl rfl rfl (by decide) rfl (by decide) ?_
    refine Ch.no rfl rfl rfl (by decide) rfl (by decide) ?_
    refine Ch.op rfl rfl (by decide) (ok_pick_t rfl (vl rfl) rfl (vl rfl)) ?_
    refine Ch.op rfl rfl (by decide) (ok_move rfl (vl rfl)) ?_
    refine Ch.no rfl rfl rfl (by decide) rfl (by decide) ?_
    refine Ch.no rfl rfl rfl (by decide) rfl (by decide) ?_
    refine Ch.no rfl rfl rfl (by decide) rfl (by decide) ?_
    refine Ch.op rfl rfl (by decide) (ok_pick_t rfl (vl rfl) rfl (vl rfl)) ?_
    refine Ch.op rfl rfl (by decide) (ok_move rfl (vl rfl)) ?_
    refine Ch.no rfl rfl rfl (by decide) rfl (by decide) ?_
    refine Ch.no rfl rfl rfl (by decide) rfl (by decide) ?_
    refine Ch.no rfl rfl rfl (by decide) rfl (by decide) ?_
    refine Ch.op rfl rfl (by decide) (ok_pick_t rfl (vl rfl) rfl (vl rfl)) ?_
    refine Ch.op rfl rfl (by decide) (ok_move rfl (vl rfl)) ?_
    refine Ch.no rfl rfl rfl (by decide) rfl (by decide) ?_
    refine Ch.no rfl rfl rfl (by decide) rfl (by decide) ?_
    refine Ch.no rfl rfl rfl (by decide) rfl (by decide) ?_
    refine Ch.op rfl rfl (by decide) (ok_pick_t rfl (vl rfl) rfl (vl rfl)) ?_
    refine Ch.op rfl rfl (by decide) (ok_move rfl (vl rfl)) ?_
    refine Ch.no rfl rfl rfl (by decide) rfl (by decide) ?_
    refine Ch.no rfl rfl rfl (by decide) rfl (by decide) ?_
    refine Ch.no rfl rfl rfl (by decide) rfl (by decide) ?_
    refine Ch.op rfl rfl (by decide) (ok_pick_t rfl (vl rfl) rfl (vl rfl)) ?_
    refine Ch.op rfl rfl (by decide) (ok_move rfl (vl rfl)) ?_
    refine Ch.no rfl rfl rfl (by decide) rfl (by decide) ?_
    refine Ch.no rfl rfl rfl (by decide) rfl (by decide) ?_
    refine Ch.no rfl rfl rfl (by decide) rfl (by decide) ?_
    refine Ch.op rfl rfl (by decide) (ok_pick_t rfl (vl rfl) rfl (vl rfl)) ?_
    refine Ch.op rfl rfl (by decide) (ok_move rfl (vl rfl)) ?_
    refine Ch.no rfl rfl rfl (by decide) rfl (by decide) ?_
    refine Ch.no rfl rfl rfl (by decide) rfl (by decide) ?_
    refine Ch.no rfl rfl rfl (by decide) rfl (by decide) ?_
    refine Ch.op rfl rfl (by decide) (ok_pick_t rfl (vl rfl) rfl (vl rfl)) ?_
    refine Ch.op rfl rfl (by decide) (ok_move rfl (vl rfl)) ?_
    refine Ch.no rfl rfl rfl (by decide) rfl (by decide) ?_
    refine Ch.no rfl rfl rfl (by decide) rfl (by decide) ?_
    refine Ch.no rfl rfl rfl (by decide) rfl (by decide) ?_
    refine Ch.no rfl rfl rfl (by decide) rfl (by decide) ?_
    refine Ch.op rfl rfl (by decide) (ok_pick_t rfl (vl rfl) rfl (vl rfl)) ?_
    refine Ch.nil ?_
    refine Fin.go ?_
    refine Tr.weak [(1, _), (56, _)] ⟨⟨_, rfl, Pr.le_refl _⟩, ⟨_, rfl, Pr.le_refl _⟩, trivial⟩ ?_
    refine Tr.cond rfl (fun _ => ?_) (fun h => nomatch h)
    refine Tr.seq ?_
    refine Tr.reg0 ?_
    refine Ch.op rfl rfl (by decide) (ok_assign rfl (vl rfl)) ?_
    refine Ch.nil ?_
    refine Fin.go ?_
    refine Tr.ret ?_
    refine Fin.then_ret ?_
    refine Fin.ret1 rfl (OutW.bse _ _) rfl ?_
    · refine int_eq ?_; unfold checkF whereF whenF; first | (simp_all; done) | (simp_all; omega)
  ·
    have q1 := Nrm.nrm h1
    refine Ch.yes rfl rfl rfl h1 rfl (by decide) (ok_fieldAddr rfl fo42_0 (vl rfl) rfl) ?_
    refine Ch.yes rfl rfl rfl h1 rfl (by decide) (ok_load1 rfl one3 (vl rfl)) ?_
    refine Ch.yes rfl rfl rfl h1 rfl (by decide) (ok_int rfl (vl rfl) (vl rfl) rfl) ?_
    refine Ch.op rfl rfl (by decide) (ok_pick_f rfl (vl rfl) h1 (vl rfl)) ?_
    refine Ch.op rfl rfl (by decide) (ok_move rfl (vl rfl)) ?_
    refine Ch.cases 15 rfl (fun h2 => ?_) (fun h2 => ?_)
    ·
      have q2 := Nrm.nrm h2
      refine Ch.no rfl rfl rfl (ne_false h2) rfl (by decide) ?_
      refine Ch.no rfl rfl rfl (ne_false h2) rfl (by decide) ?_
      refine Ch.no rfl rfl rfl (ne_false h2) rfl (by decide) ?_
      refine Ch.no rfl rfl rfl (ne_false h2) rfl (by decide) ?_
      refine Ch.op rfl rfl (by decide) (ok_pick_t rfl (vl rfl) h2 (vl rfl)) ?_
      refine Ch.op rfl rfl (by decide) (ok_move rfl (vl rfl)) ?_
      refine Ch.no rfl rfl rfl (by decide) rfl (by decide) ?_
      refine Ch.no rfl rfl rfl (by decide) rfl (by decide) ?_
      refine Ch.no rfl rfl rfl (by decide) rfl (by decide) ?_
      refine Ch.op rfl rfl (by decide) (ok_pick_t rfl (vl rfl) rfl (vl rfl)) ?_
      refine Ch.op rfl rfl (by decide) (ok_move rfl (vl rfl)) ?_
      refine Ch.no rfl rfl rfl (by decide) rfl (by decide) ?_
      refine Ch.no rfl rfl rfl (by decide) rfl (by decide) ?_
      refine Ch.no rfl rfl rfl (by decide) rfl (by decide) ?_
      refine Ch.op rfl rfl (by decide) (ok_pick_t rfl (vl rfl) rfl (vl rfl)) ?_
      refine Ch.op rfl rfl (by decide) (ok_move rfl (vl rfl)) ?_
      refine Ch.no rfl rfl rfl (by decide) rfl (by decide) ?_
      refine Ch.no rfl rfl rfl (by decide) rfl (by decide) ?_
      refine Ch.no rfl rfl rfl (by decide) rfl (by decide) ?_
      refine Ch.op rfl rfl (by decide) (ok_pick_t rfl (vl rfl) rfl (vl rfl)) ?_
      refine Ch.op rfl rfl (by decide) (ok_move rfl (vl rfl)) ?_
      refine Ch.no rfl rfl rfl (by decide) rfl (by decide) ?_
      refine Ch.no rfl rfl rfl (by decide) rfl (by decide) ?_
      refine Ch.no rfl rfl rfl (by decide) rfl (by decide) ?_
      refine Ch.op rfl rfl (by decide) (ok_pick_t rfl (vl rfl) rfl (vl rfl)) ?_
      refine Ch.op rfl rfl (by decide) (ok_move rfl (vl rfl)) ?_
      refine Ch.no rfl rfl rfl (by decide) rfl (by decide) ?_
      refine Ch.no rfl rfl rfl (by decide) rfl (by decide) ?_
      refine Ch.no rfl rfl rfl (by decide) rfl (by decide) ?_
      refine Ch.op rfl rfl (by decide) (ok_pick_t rfl (vl rfl) rfl (vl rfl)) ?_
      refine Ch.op rfl rfl (by decide) (ok_move rfl (vl rfl)) ?_
      refine Ch.no rfl rfl rfl (by decide) rfl (by decide) ?_
      refine Ch.no rfl rfl rfl (by decide) rfl (by decide) ?_
      refine Ch.no rfl rfl rfl (by decide) rfl (by decide) ?_
      refine Ch.op rfl rfl (by decide) (ok_pick_t rfl (vl rfl) rfl (vl rfl)) ?_
      refine Ch.op rfl rfl (by decide) (ok_move rfl (vl rfl)) ?_
      refine Ch.no rfl rfl rfl (by decide) rfl (by decide) ?_
      refine Ch.no rfl rfl rfl (by decide) rfl (by decide) ?_
      refine Ch.no rfl rfl rfl (by decide) rfl (by decide) ?_
      refine Ch.no rfl rfl rfl (by decide) rfl (by decide) ?_
      refine Ch.op rfl rfl (by decide) (ok_pick_t rfl (vl rfl) rfl (vl rfl)) ?_
      refine Ch.nil ?_
      refine Fin.go ?_
      refine Tr.weak [(1, _), (56, _)] ⟨⟨_, rfl, Pr.le_refl _⟩, ⟨_, rfl, Pr.le_refl _⟩, trivial⟩ ?_
      refine Tr.cond rfl (fun _ => ?_) (fun h => nomatch h)
      refine Tr.seq ?_
      refine Tr.reg0 ?_
      refine Ch.op rfl rfl (by decide) (ok_assign rfl (vl rfl)) ?_
      refine Ch.nil ?_
      refine Fin.go ?_
      refine Tr.ret ?_
      refine Fin.then_ret ?_
      refine Fin.ret1 rfl (OutW.bse _ _) rfl ?_
      · refine int_eq ?_; unfold checkF whereF whenF; first | (simp_all; done) | (simp_all; omega)
    ·
      have q2 := Nrm.nrm h2
      refine Ch.yes rfl rfl rfl h2 rfl (by decide) (ok_fieldAddr rfl fo42_1 (vl rfl) rfl) ?_
      refine Ch.yes rfl rfl rfl h2 rfl (by decide) (ok_load1 rfl one9 (vl rfl)) ?_
      refine Ch.yes rfl rfl rfl h2 rfl (by decide) (ok_call rfl (w_RName) ⟨⟨_, rfl, Pr.le_refl _⟩, trivial⟩) ?_
      refine Ch.yes rfl rfl rfl h2 rfl (by decide) (ok_not rfl (vl rfl)) ?_
      refine Ch.op rfl rfl (by decide) (ok_pick_f rfl (vl rfl) h2 (vl rfl)) ?_
      refine Ch.op rfl rfl (by decide) (ok_move rfl (vl rfl)) ?_
      refine Ch.cases 21 rfl (fun h3 => ?_) (fun h3 => ?_)
      ·
        have q3 := Nrm.nrm h3
        refine Ch.no rfl rfl rfl (ne_false h3) rfl (by decide) ?_
        refine Ch.no rfl rfl rfl (ne_false h3) rfl (by decide) ?_
        refine Ch.no rfl rfl rfl (ne_false h3) rfl (by decide) ?_
        refine Ch.op rfl rfl (by decide) (ok_pick_t rfl (vl rfl) h3 (vl rfl)) ?_
        refine Ch.op rfl rfl (by decide) (ok_move rfl (vl rfl)) ?_
        refine Ch.no rfl rfl rfl (by decide) rfl (by decide) ?_
        refine Ch.no rfl rfl rfl (by decide) rfl (by decide) ?_
        refine Ch.no rfl rfl rfl (by decide) rfl (by decide) ?_
        refine Ch.op rfl rfl (by decide) (ok_pick_t rfl (vl rfl) rfl (vl rfl)) ?_
        refine Ch.op rfl rfl (by decide) (ok_move rfl (vl rfl)) ?_
        refine Ch.no rfl rfl rfl (by decide) rfl (by decide) ?_
        refine Ch.no rfl rfl rfl (by decide) rfl (by decide) ?_
        refine Ch.no rfl rfl rfl (by decide) rfl (by decide) ?_
        refine Ch.op rfl rfl (by decide) (ok_pick_t rfl (vl rfl) rfl (vl rfl)) ?_
        refine Ch.op rfl rfl (by decide) (ok_move rfl (vl rfl)) ?_
        refine Ch.no rfl rfl rfl (by decide) rfl (by decide) ?_
        refine Ch.no rfl rfl rfl (by decide) rfl (by decide) ?_
        refine Ch.no rfl rfl rfl (by decide) rfl (by decide) ?_
        refine Ch.op rfl rfl (by decide) (ok_pick_t rfl (vl rfl) rfl (vl rfl)) ?_
        refine Ch.op rfl rfl (by decide) (ok_move rfl (vl rfl)) ?_
        refine Ch.no rfl rfl rfl (by decide) rfl (by decide) ?_
        refine Ch.no rfl rfl rfl (by decide) rfl (by decide) ?_
        refine Ch.no rfl rfl rfl (by decide) rfl (by decide) ?_
        refine Ch.op rfl rfl (by decide) (ok_pick_t rfl (vl rfl) rfl (vl rfl)) ?_
        refine Ch.op rfl rfl (by decide) (ok_move rfl (vl rfl)) ?_
        refine Ch.no rfl rfl rfl (by decide) rfl (by decide) ?_
        refine Ch.no rfl rfl rfl (by decide) rfl (by decide) ?_
        refine Ch.no rfl rfl rfl (by decide) rfl (by decide) ?_
        refine Ch.op rfl rfl (by decide) (ok_pick_t rfl (vl rfl) rfl (vl rfl)) ?_
        refine Ch.op rfl rfl (by decide) (ok_move rfl (vl rfl)) ?_
        refine Ch.no rfl rfl rfl (by decide) rfl (by decide) ?_
        refine Ch.no rfl rfl rfl (by decide) rfl (by decide) ?_
        refine Ch.no rfl rfl rfl (by decide) rfl (by decide) ?_
        refine Ch.no rfl rfl rfl (by decide) rfl (by decide) ?_
        refine Ch.op rfl rfl (by decide) (ok_pick_t rfl (vl rfl) rfl (vl rfl)) ?_
        refine Ch.nil ?_
        refine Fin.go ?_
        refine Tr.weak [(1, _), (56, _)] ⟨⟨_, rfl, Pr.le_refl _⟩, ⟨_, rfl, Pr.le_refl _⟩, trivial⟩ ?_
        refine Tr.cond rfl (fun _ => ?_) (fun h => nomatch h)
        refine Tr.seq ?_
        refine Tr.reg0 ?_
        refine Ch.op rfl rfl (by decide) (ok_assign rfl (vl rfl)) ?_
        refine Ch.nil ?_
        refine Fin.go ?_
        refine Tr.ret ?_
        refine Fin.then_ret ?_
        refine Fin.ret1 rfl (OutW.bse _ _) rfl ?_
        · refine int_eq ?_; unfold checkF whereF whenF; first | (simp_all; done) | (simp_all; omega)
      ·
        have q3 := Nrm.nrm h3
        refine Ch.yes rfl rfl rfl h3 rfl (by decide) (ok_fieldAddr rfl fo42_2 (vl rfl) rfl) ?_
        refine Ch.yes rfl rfl rfl h3 rfl (by decide) (ok_load1 rfl one3 (vl rfl)) ?_
        refine Ch.yes rfl rfl rfl h3 rfl (by decide) (ok_int rfl (vl rfl) (vl rfl) rfl) ?_
        refine Ch.op rfl rfl (by decide) (ok_pick_f rfl (vl rfl) h3 (vl rfl)) ?_
        refine Ch.op rfl rfl (by decide) (ok_move rfl (vl rfl)) ?_
        refine Ch.cases 26 rfl (fun h4 => ?_) (fun h4 => ?_)
        ·
          have q4 := Nrm.nrm h4
          refine Ch.no rfl rfl rfl (ne_false h4) rfl (by decide) ?_
          refine Ch.no rfl rfl rfl (ne_false h4) rfl (by decide) ?_
          refine Ch.no rfl rfl rfl (ne_false h4) rfl (by decide) ?_
          refine Ch.op rfl rfl (by decide) (ok_pick_t rfl (vl rfl) h4 (vl rfl)) ?_
          refine Ch.op rfl rfl (by decide) (ok_move rfl (vl rfl)) ?_
          refine Ch.no rfl rfl rfl (by decide) rfl (by decide) ?_
          refine Ch.no rfl rfl rfl (by decide) rfl (by decide) ?_
          refine Ch.no rfl rfl rfl (by decide) rfl (by decide) ?_
          refine Ch.op rfl rfl (by decide) (ok_pick_t rfl (vl rfl) rfl (vl rfl)) ?_
          refine Ch.op rfl rfl (by decide) (ok_move rfl (vl rfl)) ?_
          refine Ch.no rfl rfl rfl (by decide) rfl (by decide) ?_
          refine Ch.no rfl rfl rfl (by decide) rfl (by decide) ?_
          refine Ch.no rfl rfl rfl (by decide) rfl (by decide) ?_
          refine Ch.op rfl rfl (by decide) (ok_pick_t rfl (vl rfl) rfl (vl rfl)) ?_
          refine Ch.op rfl rfl (by decide) (ok_move rfl (vl rfl)) ?_
          refine Ch.no rfl rfl rfl (by decide) rfl (by decide) ?_
          refine Ch.no rfl rfl rfl (by decide) rfl (by decide) ?_
          refine Ch.no rfl rfl rfl (by decide) rfl (by decide) ?_
          refine Ch.op rfl rfl (by decide) (ok_pick_t rfl (vl rfl) rfl (vl rfl)) ?_
          refine Ch.op rfl rfl (by decide) (ok_move rfl (vl rfl)) ?_
          refine Ch.no rfl rfl rfl (by decide) rfl (by decide) ?_
          refine Ch.no rfl rfl rfl (by decide) rfl (by decide) ?_
          refine Ch.no rfl rfl rfl (by decide) rfl (by decide) ?_
          refine Ch.op rfl rfl (by decide) (ok_pick_t rfl (vl rfl) rfl (vl rfl)) ?_
          refine Ch.op rfl rfl (by decide) (ok_move rfl (vl rfl)) ?_
          refine Ch.no rfl rfl rfl (by decide) rfl (by decide) ?_
          refine Ch.no rfl rfl rfl (by decide) rfl (by decide) ?_
          refine Ch.no rfl rfl rfl (by decide) rfl (by decide) ?_
          refine Ch.no rfl rfl rfl (by decide) rfl (by decide) ?_
          refine Ch.op rfl rfl (by decide) (ok_pick_t rfl (vl rfl) rfl (vl rfl)) ?_
          refine Ch.nil ?_
          refine Fin.go ?_
          refine Tr.weak [(1, _), (56, _)] ⟨⟨_, rfl, Pr.le_refl _⟩, ⟨_, rfl, Pr.le_refl _⟩, trivial⟩ ?_
          refine Tr.cond rfl (fun _ => ?_) (fun h => nomatch h)
          refine Tr.seq ?_
          refine Tr.reg0 ?_
          refine Ch.op rfl rfl (by decide) (ok_assign rfl (vl rfl)) ?_
          refine Ch.nil ?_
          refine Fin.go ?_
          refine Tr.ret ?_
          refine Fin.then_ret ?_
          refine Fin.ret1 rfl (OutW.bse _ _) rfl ?_
          · refine int_eq ?_; unfold checkF whereF whenF; first | (simp_all; done) | (simp_all; omega)
        ·
          have q4 := Nrm.nrm h4
          refine Ch.yes rfl rfl rfl h4 rfl (by decide) (ok_fieldAddr rfl fo42_2 (vl rfl) rfl) ?_
          refine Ch.yes rfl rfl rfl h4 rfl (by decide) (ok_load1 rfl one3 (vl rfl)) ?_
          refine Ch.yes rfl rfl rfl h4 rfl (by decide) (ok_int rfl (vl rfl) (vl rfl) rfl) ?_
          refine Ch.op rfl rfl (by decide) (ok_pick_f rfl (vl rfl) h4 (vl rfl)) ?_
          refine Ch.op rfl rfl (by decide) (ok_move rfl (vl rfl)) ?_
          refine Ch.cases 31 rfl (fun h5 => ?_) (fun h5 => ?_)
          ·
            have q5 := Nrm.nrm h5
            refine Ch.no rfl rfl rfl (ne_false h5) rfl (by decide) ?_
            refine Ch.no rfl rfl rfl (ne_false h5) rfl (by decide) ?_
            refine Ch.no rfl rfl rfl (ne_false h5) rfl (by decide) ?_
            refine Ch.op rfl rfl (by decide) (ok_pick_t rfl (vl rfl) h5 (vl rfl)) ?_
            refine Ch.op rfl rfl (by decide) (ok_move rfl (vl rfl)) ?_
            refine Ch.no rfl rfl rfl (by decide) rfl (by decide) ?_
            refine Ch.no rfl rfl rfl (by decide) rfl (by decide) ?_
            refine Ch.no rfl rfl rfl (by decide) rfl (by decide) ?_
            refine Ch.op rfl rfl (by decide) (ok_pick_t rfl (vl rfl) rfl (vl rfl)) ?_
            refine Ch.op rfl rfl (by decide) (ok_move rfl (vl rfl)) ?_
            refine Ch.no rfl rfl rfl (by decide) rfl (by decide) ?_
            refine Ch.no rfl rfl rfl (by decide) rfl (by decide) ?_
            refine Ch.no rfl rfl rfl (by decide) rfl (by decide) ?_
            refine Ch.op rfl rfl (by decide) (ok_pick_t rfl (vl rfl) rfl (vl rfl)) ?_
            refine Ch.op rfl rfl (by decide) (ok_move rfl (vl rfl)) ?_
            refine Ch.no rfl rfl rfl (by decide) rfl (by decide) ?_
            refine Ch.no rfl rfl rfl (by decide) rfl (by decide) ?_
            refine Ch.no rfl rfl rfl (by decide) rfl (by decide) ?_
            refine Ch.op rfl rfl (by decide) (ok_pick_t rfl (vl rfl) rfl (vl rfl)) ?_
            refine Ch.op rfl rfl (by decide) (ok_move rfl (vl rfl)) ?_
            refine Ch.no rfl rfl rfl (by decide) rfl (by decide) ?_
            refine Ch.no rfl rfl rfl (by decide) rfl (by decide) ?_
            refine Ch.no rfl rfl rfl (by decide) rfl (by decide) ?_
            refine Ch.no rfl rfl rfl (by decide) rfl (by decide) ?_
            refine Ch.op rfl rfl (by decide) (ok_pick_t rfl (vl rfl) rfl (vl rfl)) ?_
            refine Ch.nil ?_
            refine Fin.go ?_
            refine Tr.weak [(1, _), (56, _)] ⟨⟨_, rfl, Pr.le_refl _⟩, ⟨_, rfl, Pr.le_refl _⟩, trivial⟩ ?_
            refine Tr.cond rfl (fun _ => ?_) (fun h => nomatch h)
            refine Tr.seq ?_
            refine Tr.reg0 ?_
            refine Ch.op rfl rfl (by decide) (ok_assign rfl (vl rfl)) ?_
            refine Ch.nil ?_
            refine Fin.go ?_
            refine Tr.ret ?_
            refine Fin.then_ret ?_
            refine Fin.ret1 rfl (OutW.bse _ _) rfl ?_
            · refine int_eq ?_; unfold checkF whereF whenF; first | (simp_all; done) | (simp_all; omega)
          ·
            have q5 := Nrm.nrm h5
            refine Ch.yes rfl rfl rfl h5 rfl (by decide) (ok_fieldAddr rfl fo42_3 (vl rfl) rfl) ?_
            refine Ch.yes rfl rfl rfl h5 rfl (by decide) (ok_load1 rfl one3 (vl rfl)) ?_
            refine Ch.yes rfl rfl rfl h5 rfl (by decide) (ok_int rfl (vl rfl) (vl rfl) rfl) ?_
            refine Ch.op rfl rfl (by decide) (ok_pick_f rfl (vl rfl) h5 (vl rfl)) ?_
            refine Ch.op rfl rfl (by decide) (ok_move rfl (vl rfl)) ?_
            refine Ch.cases 36 rfl (fun h6 => ?_) (fun h6 => ?_)
            ·
              have q6 := Nrm.nrm h6
              refine Ch.no rfl rfl rfl (ne_false h6) rfl (by decide) ?_
              refine Ch.no rfl rfl rfl (ne_false h6) rfl (by decide) ?_
              refine Ch.no rfl rfl rfl (ne_false h6) rfl (by decide) ?_
              refine Ch.op rfl rfl (by decide) (ok_pick_t rfl (vl rfl) h6 (vl rfl)) ?_
              refine Ch.op rfl rfl (by decide) (ok_move rfl (vl rfl)) ?_
              refine Ch.no rfl rfl rfl (by decide) rfl (by decide) ?_
              refine Ch.no rfl rfl rfl (by decide) rfl (by decide) ?_
              refine Ch.no rfl rfl rfl (by decide) rfl (by decide) ?_
              refine Ch.op rfl rfl (by decide) (ok_pick_t rfl (vl rfl) rfl (vl rfl)) ?_
              refine Ch.op rfl rfl (by decide) (ok_move rfl (vl rfl)) ?_
              refine Ch.no rfl rfl rfl (by decide) rfl (by decide) ?_
              refine Ch.no rfl rfl rfl (by decide) rfl (by decide) ?_
              refine Ch.no rfl rfl rfl (by decide) rfl (by decide) ?_
              refine Ch.op rfl rfl (by decide) (ok_pick_t rfl (vl rfl) rfl (vl rfl)) ?_
              refine Ch.op rfl rfl (by decide) (ok_move rfl (vl rfl)) ?_
              refine Ch.no rfl rfl rfl (by decide) rfl (by decide) ?_
              refine Ch.no rfl rfl rfl (by decide) rfl (by decide) ?_
              refine Ch.no rfl rfl rfl (by decide) rfl (by decide) ?_
              refine Ch.no rfl rfl rfl (by decide) rfl (by decide) ?_
              refine Ch.op rfl rfl (by decide) (ok_pick_t rfl (vl rfl) rfl (vl rfl)) ?_
              refine Ch.nil ?_
              refine Fin.go ?_
              refine Tr.weak [(1, _), (56, _)] ⟨⟨_, rfl, Pr.le_refl _⟩, ⟨_, rfl, Pr.le_refl _⟩, trivial⟩ ?_
              refine Tr.cond rfl (fun _ => ?_) (fun h => nomatch h)
              refine Tr.seq ?_
              refine Tr.reg0 ?_
              refine Ch.op rfl rfl (by decide) (ok_assign rfl (vl rfl)) ?_
              refine Ch.nil ?_
              refine Fin.go ?_
              refine Tr.ret ?_
              refine Fin.then_ret ?_
              refine Fin.ret1 rfl (OutW.bse _ _) rfl ?_
              · refine int_eq ?_; unfold checkF whereF whenF; first | (simp_all; done) | (simp_all; omega)
            ·
              have q6 := Nrm.nrm h6
              refine Ch.yes rfl rfl rfl h6 rfl (by decide) (ok_fieldAddr rfl fo42_3 (vl rfl) rfl) ?_
              refine Ch.yes rfl rfl rfl h6 rfl (by decide) (ok_load1 rfl one3 (vl rfl)) ?_
              refine Ch.yes rfl rfl rfl h6 rfl (by decide) (ok_int rfl (vl rfl) (vl rfl) rfl) ?_
              refine Ch.op rfl rfl (by decide) (ok_pick_f rfl (vl rfl) h6 (vl rfl)) ?_
              refine Ch.op rfl rfl (by decide) (ok_move rfl (vl rfl)) ?_
              refine Ch.cases 41 rfl (fun h7 => ?_) (fun h7 => ?_)
              ·
                have q7 := Nrm.nrm h7
                refine Ch.no rfl rfl rfl (ne_false h7) rfl (by decide) ?_
                refine Ch.no rfl rfl rfl (ne_false h7) rfl (by decide) ?_
                refine Ch.no rfl rfl rfl (ne_false h7) rfl (by decide) ?_
                refine Ch.op rfl rfl (by decide) (ok_pick_t rfl (vl rfl) h7 (vl rfl)) ?_
                refine Ch.op rfl rfl (by decide) (ok_move rfl (vl rfl)) ?_
                refine Ch.no rfl rfl rfl (by decide) rfl (by decide) ?_
                refine Ch.no rfl rfl rfl (by decide) rfl (by decide) ?_
                refine Ch.no rfl rfl rfl (by decide) rfl (by decide) ?_
                refine Ch.op rfl rfl (by decide) (ok_pick_t rfl (vl rfl) rfl (vl rfl)) ?_
                refine Ch.op rfl rfl (by decide) (ok_move rfl (vl rfl)) ?_
                refine Ch.no rfl rfl rfl (by decide) rfl (by decide) ?_
                refine Ch.no rfl rfl rfl (by decide) rfl (by decide) ?_
                refine Ch.no rfl rfl rfl (by decide) rfl (by decide) ?_
                refine Ch.no rfl rfl rfl (by decide) rfl (by decide) ?_
                refine Ch.op rfl rfl (by decide) (ok_pick_t rfl (vl rfl) rfl (vl rfl)) ?_
                refine Ch.nil ?_
                refine Fin.go ?_
                refine Tr.weak [(1, _), (56, _)] ⟨⟨_, rfl, Pr.le_refl _⟩, ⟨_, rfl, Pr.le_refl _⟩, trivial⟩ ?_
                refine Tr.cond rfl (fun _ => ?_) (fun h => nomatch h)
                refine Tr.seq ?_
                refine Tr.reg0 ?_
                refine Ch.op rfl rfl (by decide) (ok_assign rfl (vl rfl)) ?_
                refine Ch.nil ?_
                refine Fin.go ?_
                refine Tr.ret ?_
                refine Fin.then_ret ?_
                refine Fin.ret1 rfl (OutW.bse _ _) rfl ?_
                · refine int_eq ?_; unfold checkF whereF whenF; first | (simp_all; done) | (simp_all; omega)
              ·
                have q7 := Nrm.nrm h7
                refine Ch.yes rfl rfl rfl h7 rfl (by decide) (ok_fieldAddr rfl fo42_4 (vl rfl) rfl) ?_
                refine Ch.yes rfl rfl rfl h7 rfl (by decide) (ok_load1 rfl one3 (vl rfl)) ?_
                refine Ch.yes rfl rfl rfl h7 rfl (by decide) (ok_int rfl (vl rfl) (vl rfl) rfl) ?_
                refine Ch.op rfl rfl (by decide) (ok_pick_f rfl (vl rfl) h7 (vl rfl)) ?_
                refine Ch.op rfl rfl (by decide) (ok_move rfl (vl rfl)) ?_
                refine Ch.cases 46 rfl (fun h8 => ?_) (fun h8 => ?_)
                ·
                  have q8 := Nrm.nrm h8
                  refine Ch.no rfl rfl rfl (ne_false h8) rfl (by decide) ?_
                  refine Ch.no rfl rfl rfl (ne_false h8) rfl (by decide) ?_
                  refine Ch.no rfl rfl rfl (ne_false h8) rfl (by decide) ?_
                  refine Ch.op rfl rfl (by decide) (ok_pick_t rfl (vl rfl) h8 (vl rfl)) ?_
                  refine Ch.op rfl rfl (by decide) (ok_move rfl (vl rfl)) ?_
                  refine Ch.no rfl rfl rfl (by decide) rfl (by decide) ?_
                  refine Ch.no rfl rfl rfl (by decide) rfl (by decide) ?_
                  refine Ch.no rfl rfl rfl (by decide) rfl (by decide) ?_
                  refine Ch.no rfl rfl rfl (by decide) rfl (by decide) ?_
                  refine Ch.op rfl rfl (by decide) (ok_pick_t rfl (vl rfl) rfl (vl rfl)) ?_
                  refine Ch.nil ?_
                  refine Fin.go ?_
                  refine Tr.weak [(1, _), (56, _)] ⟨⟨_, rfl, Pr.le_refl _⟩, ⟨_, rfl, Pr.le_refl _⟩, trivial⟩ ?_
                  refine Tr.cond rfl (fun _ => ?_) (fun h => nomatch h)
                  refine Tr.seq ?_
                  refine Tr.reg0 ?_
                  refine Ch.op rfl rfl (by decide) (ok_assign rfl (vl rfl)) ?_
                  refine Ch.nil ?_
                  refine Fin.go ?_
                  refine Tr.ret ?_
                  refine Fin.then_ret ?_
                  refine Fin.ret1 rfl (OutW.bse _ _) rfl ?_
                  · refine int_eq ?_; unfold checkF whereF whenF; first | (simp_all; done) | (simp_all; omega)
                ·
                  have q8 := Nrm.nrm h8
                  refine Ch.yes rfl rfl rfl h8 rfl (by decide) (ok_fieldAddr rfl fo42_4 (vl rfl) rfl) ?_
                  refine Ch.yes rfl rfl rfl h8 rfl (by decide) (ok_load1 rfl one3 (vl rfl)) ?_
                  refine Ch.yes rfl rfl rfl h8 rfl (by decide) (ok_int rfl (vl rfl) (vl rfl) rfl) ?_
                  refine Ch.op rfl rfl (by decide) (ok_pick_f rfl (vl rfl) h8 (vl rfl)) ?_
                  refine Ch.op rfl rfl (by decide) (ok_move rfl (vl rfl)) ?_
                  refine Ch.cases 51 rfl (fun h9 => ?_) (fun h9 => ?_)
                  ·
                    have q9 := Nrm.nrm h9
                    refine Ch.no rfl rfl rfl (ne_false h9) rfl (by decide) ?_
                    refine Ch.no rfl rfl rfl (ne_false h9) rfl (by decide) ?_
                    refine Ch.no rfl rfl rfl (ne_false h9) rfl (by decide) ?_
                    refine Ch.no rfl rfl rfl (ne_false h9) rfl (by decide) ?_
                    refine Ch.op rfl rfl (by decide) (ok_pick_t rfl (vl rfl) h9 (vl rfl)) ?_
                    refine Ch.nil ?_
                    refine Fin.go ?_
                    refine Tr.weak [(1, _), (56, _)] ⟨⟨_, rfl, Pr.le_refl _⟩, ⟨_, rfl, Pr.le_refl _⟩, trivial⟩ ?_
                    refine Tr.cond rfl (fun _ => ?_) (fun h => nomatch h)
                    refine Tr.seq ?_
                    refine Tr.reg0 ?_
                    refine Ch.op rfl rfl (by decide) (ok_assign rfl (vl rfl)) ?_
                    refine Ch.nil ?_
                    refine Fin.go ?_
                    refine Tr.ret ?_
                    refine Fin.then_ret ?_
                    refine Fin.ret1 rfl (OutW.bse _ _) rfl ?_
                    · refine int_eq ?_; unfold checkF whereF whenF; first | (simp_all; done) | (simp_all; omega)
                  ·
                    have q9 := Nrm.nrm h9
                    refine Ch.yes rfl rfl rfl h9 rfl (by decide) (ok_fieldAddr rfl fo42_6 (vl rfl) rfl) ?_
                    refine Ch.yes rfl rfl rfl h9 rfl (by decide) (ok_load1 rfl one9 (vl rfl)) ?_
                    refine Ch.yes rfl rfl rfl h9 rfl (by decide) (ok_call rfl (w_RName) ⟨⟨_, rfl, Pr.le_refl _⟩, trivial⟩) ?_
                    refine Ch.yes rfl rfl rfl h9 rfl (by decide) (ok_not rfl (vl rfl)) ?_
                    refine Ch.op rfl rfl (by decide) (ok_pick_f rfl (vl rfl) h9 (vl rfl)) ?_
                    refine Ch.nil ?_
                    refine Fin.go ?_
                    refine Tr.weak [(1, _), (56, _)] ⟨⟨_, rfl, Pr.le_refl _⟩, ⟨_, rfl, Pr.le_refl _⟩, trivial⟩ ?_
                    refine Tr.cond rfl (fun h10 => ?_) (fun h10 => ?_)
                    ·
                      have q10 := Nrm.nrm h10
                      refine Tr.seq ?_
                      refine Tr.reg0 ?_
                      refine Ch.op rfl rfl (by decide) (ok_assign rfl (vl rfl)) ?_
                      refine Ch.nil ?_
                      refine Fin.go ?_
                      refine Tr.ret ?_
                      refine Fin.then_ret ?_
                      refine Fin.ret1 rfl (OutW.bse _ _) rfl ?_
                      · refine int_eq ?_; unfold checkF whereF whenF; first | (simp_all; done) | (simp_all; omega)
                    ·
                      have q10 := Nrm.nrm h10
                      refine Tr.skip ?_
                      refine Fin.go ?_
                      refine Tr.seq ?_
                      refine Tr.reg1 mixed (by kernel_rfl) ?_
                      refine Ch.op rfl rfl (by decide) (ok_fieldAddr rfl fo42_7 (vl rfl) rfl) ?_
                      refine Ch.op rfl rfl (by decide) (ok_loadA rfl agg38 sz38 (vl rfl) rfl rfl) ?_
                      refine Ch.op rfl rfl (by decide) (ok_build (rows := []) rfl bl38 zo38 trivial rfl) ?_
                      refine Ch.op rfl rfl (by decide) (ok_eq38 rfl (vl rfl) (vl rfl)) ?_
                      refine Ch.op rfl rfl (by decide) (ok_fieldAddr rfl fo42_8 (vl rfl) rfl) ?_
                      refine Ch.op rfl rfl (by decide) (ok_load1 rfl one3 (vl rfl)) ?_
                      refine Ch.op rfl rfl (by decide) (ok_int rfl (vl rfl) (vl rfl) rfl) ?_
                      refine Ch.op rfl rfl (by decide) (ok_fieldAddr rfl fo42_9 (vl rfl) rfl) ?_
                      refine Ch.op rfl rfl (by decide) (ok_load1 rfl one9 (vl rfl)) ?_
                      refine Ch.op rfl rfl (by decide) (ok_eqs rfl (vl rfl) (vl rfl)) ?_
                      refine Ch.op rfl rfl (by decide) (ok_assign rfl (vl rfl)) ?_
                      refine Ch.op rfl rfl (by decide) (ok_assign rfl (vl rfl)) ?_
                      refine Ch.op rfl rfl (by decide) (ok_assign rfl (vl rfl)) ?_
                      refine Ch.nil ?_
                      refine Fin.go ?_
                      refine Tr.weak [(1, _), (3, _), (4, _), (5, _)] ⟨⟨_, rfl, Pr.le_refl _⟩, ⟨_, rfl, Pr.le_refl _⟩, ⟨_, rfl, Pr.le_refl _⟩, ⟨_, rfl, Pr.le_refl _⟩, trivial⟩ ?_
                      refine Tr.seq ?_
                      refine Tr.reg0 ?_
                      refine Ch.op rfl rfl (by decide) (ok_assign rfl (vl rfl)) ?_
                      refine Ch.nil ?_
                      refine Fin.go ?_
                      refine Tr.cutk [] [(6, bool (contentF f))] (True) ?_ (fun h11 => ?_)
                      ·
                        refine Tr.seq ?_
                        refine Tr.reg0 ?_
                        refine Ch.op rfl rfl (by decide) (ok_fieldAddr rfl fo42_5 (vl rfl) rfl) ?_
                        refine Ch.op rfl rfl (by decide) (ok_load1 rfl one3 (vl rfl)) ?_
                        refine Ch.nil ?_
                        refine Fin.go ?_
                        refine Tr.block ?_
                        refine Tr.seq ?_
                        refine Tr.seq ?_
                        refine Tr.reg0 ?_
                        refine Ch.op rfl rfl (by decide) (ok_int rfl (vl rfl) (vl rfl) rfl) ?_
                        refine Ch.op rfl rfl (by decide) (ok_assign rfl (vl rfl)) ?_
                        refine Ch.nil ?_
                        refine Fin.go ?_
                        refine Tr.cond rfl (fun h12 => ?_) (fun h12 => ?_)
                        ·
                          have q12 := Nrm.nrm h12
                          refine Tr.skip ?_
                          refine Fin.go ?_
                          refine Tr.cond rfl (fun _ => ?_) (fun h => nomatch h12.symm.trans h)
                          refine Tr.reg0 ?_
                          refine Ch.op rfl rfl (by decide) (ok_fieldAddr rfl fo42_7 (vl rfl) rfl) ?_
                          refine Ch.op rfl rfl (by decide) (ok_loadA rfl agg38 sz38 (vl rfl) rfl rfl) ?_
                          refine Ch.op rfl rfl (by decide) (ok_call rfl (w_RValid) ⟨⟨_, rfl, Pr.le_refl _⟩, trivial⟩) ?_
                          refine Ch.op rfl rfl (by decide) (ok_move rfl (vl rfl)) ?_
                          refine Ch.cases 75 rfl (fun h13 => ?_) (fun h13 => ?_)
                          ·
                            have q13 := Nrm.nrm h13
                            refine Ch.yes rfl rfl rfl h13 rfl (by decide) (ok_move rfl (vl rfl)) ?_
                            refine Ch.op rfl rfl (by decide) (ok_pick_t rfl (vl rfl) h13 (vl rfl)) ?_
                            refine Ch.op rfl rfl (by decide) (ok_move rfl (vl rfl)) ?_
                            refine Ch.cases 78 rfl (fun h14 => ?_) (fun h14 => ?_)
                            ·
                              have q14 := Nrm.nrm h14
                              refine Ch.yes rfl rfl rfl h14 rfl (by decide) (ok_move rfl (vl rfl)) ?_
                              refine Ch.op rfl rfl (by decide) (ok_pick_t rfl (vl rfl) h14 (vl rfl)) ?_
                              refine Ch.op rfl rfl (by decide) (ok_assign rfl (vl rfl)) ?_
                              refine Ch.nil ?_
                              refine Fin.block ?_
                              exact Fin.fam_same () (by simp_all) ⟨⟨_, rfl, bool_eq (by unfold contentF bareF; first | (simp_all; done) | (simp_all; omega))⟩, trivial⟩
                            ·
                              have q14 := Nrm.nrm h14
                              refine Ch.no rfl rfl rfl (ne_true h14) rfl (by decide) ?_
                              refine Ch.op rfl rfl (by decide) (ok_pick_f rfl (vl rfl) h14 (vl rfl)) ?_
                              refine Ch.op rfl rfl (by decide) (ok_assign rfl (vl rfl)) ?_
                              refine Ch.nil ?_
                              refine Fin.block ?_
                              exact Fin.fam_same () (by simp_all) ⟨⟨_, rfl, bool_eq (by unfold contentF bareF; first | (simp_all; done) | (simp_all; omega))⟩, trivial⟩
                          ·
                            have q13 := Nrm.nrm h13
                            refine Ch.no rfl rfl rfl (ne_true h13) rfl (by decide) ?_
                            refine Ch.op rfl rfl (by decide) (ok_pick_f rfl (vl rfl) h13 (vl rfl)) ?_
                            refine Ch.op rfl rfl (by decide) (ok_move rfl (vl rfl)) ?_
                            refine Ch.no rfl rfl rfl (by decide) rfl (by decide) ?_
                            refine Ch.op rfl rfl (by decide) (ok_pick_f rfl (vl rfl) rfl (vl rfl)) ?_
                            refine Ch.op rfl rfl (by decide) (ok_assign rfl (vl rfl)) ?_
                            refine Ch.nil ?_
                            refine Fin.block ?_
                            exact Fin.fam_same () (by simp_all) ⟨⟨_, rfl, bool_eq (by unfold contentF bareF; first | (simp_all; done) | (simp_all; omega))⟩, trivial⟩
                        ·
                          have q12 := Nrm.nrm h12
                          refine Tr.reg0 ?_
                          refine Ch.op rfl rfl (by decide) (ok_int rfl (vl rfl) (vl rfl) rfl) ?_
                          refine Ch.op rfl rfl (by decide) (ok_assign rfl (vl rfl)) ?_
                          refine Ch.nil ?_
                          refine Fin.go ?_
                          refine Tr.cond rfl (fun h15 => ?_) (fun h15 => ?_)
                          ·
                            have q15 := Nrm.nrm h15
                            refine Tr.reg0 ?_
                            refine Ch.op rfl rfl (by decide) (ok_fieldAddr rfl fo42_7 (vl rfl) rfl) ?_
                            refine Ch.op rfl rfl (by decide) (ok_loadA rfl agg38 sz38 (vl rfl) rfl rfl) ?_
                            refine Ch.op rfl rfl (by decide) (ok_call rfl (w_RValid) ⟨⟨_, rfl, Pr.le_refl _⟩, trivial⟩) ?_
                            refine Ch.op rfl rfl (by decide) (ok_move rfl (vl rfl)) ?_
                            refine Ch.cases 75 rfl (fun h16 => ?_) (fun h16 => ?_)
                            ·
                              have q16 := Nrm.nrm h16
                              refine Ch.yes rfl rfl rfl h16 rfl (by decide) (ok_move rfl (vl rfl)) ?_
                              refine Ch.op rfl rfl (by decide) (ok_pick_t rfl (vl rfl) h16 (vl rfl)) ?_
                              refine Ch.op rfl rfl (by decide) (ok_move rfl (vl rfl)) ?_
                              refine Ch.cases 78 rfl (fun h17 => ?_) (fun h17 => ?_)
                              ·
                                have q17 := Nrm.nrm h17
                                refine Ch.yes rfl rfl rfl h17 rfl (by decide) (ok_move rfl (vl rfl)) ?_
                                refine Ch.op rfl rfl (by decide) (ok_pick_t rfl (vl rfl) h17 (vl rfl)) ?_
                                refine Ch.op rfl rfl (by decide) (ok_assign rfl (vl rfl)) ?_
                                refine Ch.nil ?_
                                refine Fin.block ?_
                                exact Fin.fam_same () (by simp_all) ⟨⟨_, rfl, bool_eq (by unfold contentF bareF; first | (simp_all; done) | (simp_all; omega))⟩, trivial⟩
                              ·
                                have q17 := Nrm.nrm h17
                                refine Ch.no rfl rfl rfl (ne_true h17) rfl (by decide) ?_
                                refine Ch.op rfl rfl (by decide) (ok_pick_f rfl (vl rfl) h17 (vl rfl)) ?_
                                refine Ch.op rfl rfl (by decide) (ok_assign rfl (vl rfl)) ?_
                                refine Ch.nil ?_
                                refine Fin.block ?_
                                exact Fin.fam_same () (by simp_all) ⟨⟨_, rfl, bool_eq (by unfold contentF bareF; first | (simp_all; done) | (simp_all; omega))⟩, trivial⟩
                            ·
                              have q16 := Nrm.nrm h16
                              refine Ch.no rfl rfl rfl (ne_true h16) rfl (by decide) ?_
                              refine Ch.op rfl rfl (by decide) (ok_pick_f rfl (vl rfl) h16 (vl rfl)) ?_
                              refine Ch.op rfl rfl (by decide) (ok_move rfl (vl rfl)) ?_
                              refine Ch.no rfl rfl rfl (by decide) rfl (by decide) ?_
                              refine Ch.op rfl rfl (by decide) (ok_pick_f rfl (vl rfl) rfl (vl rfl)) ?_
                              refine Ch.op rfl rfl (by decide) (ok_assign rfl (vl rfl)) ?_
                              refine Ch.nil ?_
                              refine Fin.block ?_
                              exact Fin.fam_same () (by simp_all) ⟨⟨_, rfl, bool_eq (by unfold contentF bareF; first | (simp_all; done) | (simp_all; omega))⟩, trivial⟩
                          ·
                            have q15 := Nrm.nrm h15
                            refine Tr.seq ?_
                            refine Tr.reg0 ?_
                            refine Ch.op rfl rfl (by decide) (ok_int rfl (vl rfl) (vl rfl) rfl) ?_
                            refine Ch.op rfl rfl (by decide) (ok_assign rfl (vl rfl)) ?_
                            refine Ch.nil ?_
                            refine Fin.go ?_
                            refine Tr.cond rfl (fun h18 => ?_) (fun h18 => ?_)
                            ·
                              have q18 := Nrm.nrm h18
                              refine Tr.reg0 ?_
                              refine Ch.op rfl rfl (by decide) (ok_move rfl (vl rfl)) ?_
                              refine Ch.op rfl rfl (by decide) (ok_move rfl (vl rfl)) ?_
                              refine Ch.cases 84 rfl (fun h19 => ?_) (fun h19 => ?_)
                              ·
                                have q19 := Nrm.nrm h19
                                refine Ch.yes rfl rfl rfl h19 rfl (by decide) (ok_fieldAddr rfl fo42_8 (vl rfl) rfl) ?_
                                refine Ch.yes rfl rfl rfl h19 rfl (by decide) (ok_load1 rfl one3 (vl rfl)) ?_
                                refine Ch.yes rfl rfl rfl h19 rfl (by decide) (ok_int rfl (vl rfl) (vl rfl) rfl) ?_
                                refine Ch.op rfl rfl (by decide) (ok_pick_t rfl (vl rfl) h19 (vl rfl)) ?_
                                refine Ch.op rfl rfl (by decide) (ok_move rfl (vl rfl)) ?_
                                refine Ch.cases 89 rfl (fun h20 => ?_) (fun h20 => ?_)
                                ·
                                  have q20 := Nrm.nrm h20
                                  refine Ch.yes rfl rfl rfl h20 rfl (by decide) (ok_fieldAddr rfl fo42_8 (vl rfl) rfl) ?_
                                  refine Ch.yes rfl rfl rfl h20 rfl (by decide) (ok_load1 rfl one3 (vl rfl)) ?_
                                  refine Ch.yes rfl rfl rfl h20 rfl (by decide) (ok_int rfl (vl rfl) (vl rfl) rfl) ?_
                                  refine Ch.op rfl rfl (by decide) (ok_pick_t rfl (vl rfl) h20 (vl rfl)) ?_
                                  refine Ch.op rfl rfl (by decide) (ok_move rfl (vl rfl)) ?_
                                  refine Ch.cases 94 rfl (fun h21 => ?_) (fun h21 => ?_)
                                  ·
                                    have q21 := Nrm.nrm h21
                                    refine Ch.yes rfl rfl rfl h21 rfl (by decide) (ok_move rfl (vl rfl)) ?_
                                    refine Ch.op rfl rfl (by decide) (ok_pick_t rfl (vl rfl) h21 (vl rfl)) ?_
                                    refine Ch.op rfl rfl (by decide) (ok_assign rfl (vl rfl)) ?_
                                    refine Ch.nil ?_
                                    refine Fin.block ?_
                                    exact Fin.fam_same () (by simp_all) ⟨⟨_, rfl, bool_eq (by unfold contentF bareF; first | (simp_all; done) | (simp_all; omega))⟩, trivial⟩
                                  ·
                                    have q21 := Nrm.nrm h21
                                    refine Ch.no rfl rfl rfl (ne_true h21) rfl (by decide) ?_
                                    refine Ch.op rfl rfl (by decide) (ok_pick_f rfl (vl rfl) h21 (vl rfl)) ?_
                                    refine Ch.op rfl rfl (by decide) (ok_assign rfl (vl rfl)) ?_
                                    refine Ch.nil ?_
                                    refine Fin.block ?_
                                    exact Fin.fam_same () (by simp_all) ⟨⟨_, rfl, bool_eq (by unfold contentF bareF; first | (simp_all; done) | (simp_all; omega))⟩, trivial⟩
                                ·
                                  have q20 := Nrm.nrm h20
                                  refine Ch.no rfl rfl rfl (ne_true h20) rfl (by decide) ?_
                                  refine Ch.no rfl rfl rfl (ne_true h20) rfl (by decide) ?_
                                  refine Ch.no rfl rfl rfl (ne_true h20) rfl (by decide) ?_
                                  refine Ch.op rfl rfl (by decide) (ok_pick_f rfl (vl rfl) h20 (vl rfl)) ?_
                                  refine Ch.op rfl rfl (by decide) (ok_move rfl (vl rfl)) ?_
                                  refine Ch.no rfl rfl rfl (by decide) rfl (by decide) ?_
                                  refine Ch.op rfl rfl (by decide) (ok_pick_f rfl (vl rfl) rfl (vl rfl)) ?_
                                  refine Ch.op rfl rfl (by decide) (ok_assign rfl (vl rfl)) ?_
                                  refine Ch.nil ?_
                                  refine Fin.block ?_
                                  exact Fin.fam_same () (by simp_all) ⟨⟨_, rfl, bool_eq (by unfold contentF bareF; first | (simp_all; done) | (simp_all; omega))⟩, trivial⟩
                              ·
                                have q19 := Nrm.nrm h19
                                refine Ch.no rfl rfl rfl (ne_true h19) rfl (by decide) ?_
                                refine Ch.no rfl rfl rfl (ne_true h19) rfl (by decide) ?_
                                refine Ch.no rfl rfl rfl (ne_true h19) rfl (by decide) ?_
                                refine Ch.op rfl rfl (by decide) (ok_pick_f rfl (vl rfl) h19 (vl rfl)) ?_
                                refine Ch.op rfl rfl (by decide) (ok_move rfl (vl rfl)) ?_
                                refine Ch.no rfl rfl rfl (by decide) rfl (by decide) ?_
                                refine Ch.no rfl rfl rfl (by decide) rfl (by decide) ?_
                                refine Ch.no rfl rfl rfl (by decide) rfl (by decide) ?_
                                refine Ch.op rfl rfl (by decide) (ok_pick_f rfl (vl rfl) rfl (vl rfl)) ?_
                                refine Ch.op rfl rfl (by decide) (ok_move rfl (vl rfl)) ?_
                                refine Ch.no rfl rfl rfl (by decide) rfl (by decide) ?_
                                refine Ch.op rfl rfl (by decide) (ok_pick_f rfl (vl rfl) rfl (vl rfl)) ?_
                                refine Ch.op rfl rfl (by decide) (ok_assign rfl (vl rfl)) ?_
                                refine Ch.nil ?_
                                refine Fin.block ?_
                                exact Fin.fam_same () (by simp_all) ⟨⟨_, rfl, bool_eq (by unfold contentF bareF; first | (simp_all; done) | (simp_all; omega))⟩, trivial⟩
                            ·
                              have q18 := Nrm.nrm h18
                              refine Tr.seq ?_
                              refine Tr.reg0 ?_
                              refine Ch.op rfl rfl (by decide) (ok_int rfl (vl rfl) (vl rfl) rfl) ?_
                              refine Ch.op rfl rfl (by decide) (ok_assign rfl (vl rfl)) ?_
                              refine Ch.nil ?_
                              refine Fin.go ?_
                              refine Tr.weak [(1, _), (3, _), (4, _), (5, _), (6, _), (68, _), (97, _)] ⟨⟨_, rfl, Pr.le_refl _⟩, ⟨_, rfl, Pr.le_refl _⟩, ⟨_, rfl, Pr.le_refl _⟩, ⟨_, rfl, Pr.le_refl _⟩, ⟨_, rfl, Pr.le_refl _⟩, ⟨_, rfl, Pr.le_refl _⟩, ⟨_, rfl, Pr.le_refl _⟩, trivial⟩ ?_
                              refine Tr.cond rfl (fun h22 => ?_) (fun h22 => ?_)
                              ·
                                have q22 := Nrm.nrm h22
                                refine Tr.reg0 ?_
                                refine Ch.op rfl rfl (by decide) (ok_fieldAddr rfl fo42_7 (vl rfl) rfl) ?_
                                refine Ch.op rfl rfl (by decide) (ok_loadA rfl agg38 sz38 (vl rfl) rfl rfl) ?_
                                refine Ch.op rfl rfl (by decide) (ok_call rfl (w_Signature) ⟨⟨_, rfl, Pr.le_refl _⟩, trivial⟩) ?_
                                refine Ch.op rfl rfl (by decide) (ok_move rfl (vl rfl)) ?_
                                refine Ch.cases 102 rfl (fun h23 => ?_) (fun h23 => ?_)
                                ·
                                  have q23 := Nrm.nrm h23
                                  refine Ch.yes rfl rfl rfl h23 rfl (by decide) (ok_fieldAddr rfl fo42_8 (vl rfl) rfl) ?_
                                  refine Ch.yes rfl rfl rfl h23 rfl (by decide) (ok_load1 rfl one3 (vl rfl)) ?_
                                  refine Ch.yes rfl rfl rfl h23 rfl (by decide) (ok_int rfl (vl rfl) (vl rfl) rfl) ?_
                                  refine Ch.op rfl rfl (by decide) (ok_pick_t rfl (vl rfl) h23 (vl rfl)) ?_
                                  refine Ch.op rfl rfl (by decide) (ok_move rfl (vl rfl)) ?_
                                  refine Ch.cases 107 rfl (fun h24 => ?_) (fun h24 => ?_)
                                  ·
                                    have q24 := Nrm.nrm h24
                                    refine Ch.yes rfl rfl rfl h24 rfl (by decide) (ok_fieldAddr rfl fo42_8 (vl rfl) rfl) ?_
                                    refine Ch.yes rfl rfl rfl h24 rfl (by decide) (ok_load1 rfl one3 (vl rfl)) ?_
                                    refine Ch.yes rfl rfl rfl h24 rfl (by decide) (ok_int rfl (vl rfl) (vl rfl) rfl) ?_
                                    refine Ch.op rfl rfl (by decide) (ok_pick_t rfl (vl rfl) h24 (vl rfl)) ?_
                                    refine Ch.op rfl rfl (by decide) (ok_move rfl (vl rfl)) ?_
                                    refine Ch.cases 112 rfl (fun h25 => ?_) (fun h25 => ?_)
                                    ·
                                      have q25 := Nrm.nrm h25
                                      refine Ch.yes rfl rfl rfl h25 rfl (by decide) (ok_move rfl (vl rfl)) ?_
                                      refine Ch.op rfl rfl (by decide) (ok_pick_t rfl (vl rfl) h25 (vl rfl)) ?_
                                      refine Ch.op rfl rfl (by decide) (ok_assign rfl (vl rfl)) ?_
                                      refine Ch.nil ?_
                                      refine Fin.block ?_
                                      exact Fin.fam_same () (by simp_all) ⟨⟨_, rfl, bool_eq (by unfold contentF bareF; first | (simp_all; done) | (simp_all; omega))⟩, trivial⟩
                                    ·
                                      have q25 := Nrm.nrm h25
                                      refine Ch.no rfl rfl rfl (ne_true h25) rfl (by decide) ?_
                                      refine Ch.op rfl rfl (by decide) (ok_pick_f rfl (vl rfl) h25 (vl rfl)) ?_
                                      refine Ch.op rfl rfl (by decide) (ok_assign rfl (vl rfl)) ?_
                                      refine Ch.nil ?_
                                      refine Fin.block ?_
                                      exact Fin.fam_same () (by simp_all) ⟨⟨_, rfl, bool_eq (by unfold contentF bareF; first | (simp_all; done) | (simp_all; omega))⟩, trivial⟩
                                  ·
                                    have q24 := Nrm.nrm h24
                                    refine Ch.no rfl rfl rfl (ne_true h24) rfl (by decide) ?_
                                    refine Ch.no rfl rfl rfl (ne_true h24) rfl (by decide) ?_
                                    refine Ch.no rfl rfl rfl (ne_true h24) rfl (by decide) ?_
                                    refine Ch.op rfl rfl (by decide) (ok_pick_f rfl (vl rfl) h24 (vl rfl)) ?_
                                    refine Ch.op rfl rfl (by decide) (ok_move rfl (vl rfl)) ?_
                                    refine Ch.no rfl rfl rfl (by decide) rfl (by decide) ?_
                                    refine Ch.op rfl rfl (by decide) (ok_pick_f rfl (vl rfl) rfl (vl rfl)) ?_
                                    refine Ch.op rfl rfl (by decide) (ok_assign rfl (vl rfl)) ?_
                                    refine Ch.nil ?_
                                    refine Fin.block ?_
                                    exact Fin.fam_same () (by simp_all) ⟨⟨_, rfl, bool_eq (by unfold contentF bareF; first | (simp_all; done) | (simp_all; omega))⟩, trivial⟩
                                ·
                                  have q23 := Nrm.nrm h23
                                  refine Ch.no rfl rfl rfl (ne_true h23) rfl (by decide) ?_
                                  refine Ch.no rfl rfl rfl (ne_true h23) rfl (by decide) ?_
                                  refine Ch.no rfl rfl rfl (ne_true h23) rfl (by decide) ?_
                                  refine Ch.op rfl rfl (by decide) (ok_pick_f rfl (vl rfl) h23 (vl rfl)) ?_
                                  refine Ch.op rfl rfl (by decide) (ok_move rfl (vl rfl)) ?_
                                  refine Ch.no rfl rfl rfl (by decide) rfl (by decide) ?_
                                  refine Ch.no rfl rfl rfl (by decide) rfl (by decide) ?_
                                  refine Ch.no rfl rfl rfl (by decide) rfl (by decide) ?_
                                  refine Ch.op rfl rfl (by decide) (ok_pick_f rfl (vl rfl) rfl (vl rfl)) ?_
                                  refine Ch.op rfl rfl (by decide) (ok_move rfl (vl rfl)) ?_
                                  refine Ch.no rfl rfl rfl (by decide) rfl (by decide) ?_
                                  refine Ch.op rfl rfl (by decide) (ok_pick_f rfl (vl rfl) rfl (vl rfl)) ?_
                                  refine Ch.op rfl rfl (by decide) (ok_assign rfl (vl rfl)) ?_
                                  refine Ch.nil ?_
                                  refine Fin.block ?_
                                  exact Fin.fam_same () (by simp_all) ⟨⟨_, rfl, bool_eq (by unfold contentF bareF; first | (simp_all; done) | (simp_all; omega))⟩, trivial⟩
                              ·
                                have q22 := Nrm.nrm h22
                                refine Tr.seq ?_
                                refine Tr.seq ?_
                                refine Tr.reg0 ?_
                                refine Ch.op rfl rfl (by decide) (ok_int rfl (vl rfl) (vl rfl) rfl) ?_
                                refine Ch.op rfl rfl (by decide) (ok_assign rfl (vl rfl)) ?_
                                refine Ch.nil ?_
                                refine Fin.go ?_
                                refine Tr.cond rfl (fun h26 => ?_) (fun h26 => ?_)
                                ·
                                  have q26 := Nrm.nrm h26
                                  refine Tr.skip ?_
                                  refine Fin.go ?_
                                  refine Tr.cond rfl (fun _ => ?_) (fun h => nomatch h26.symm.trans h)
                                  refine Tr.reg0 ?_
                                  refine Ch.op rfl rfl (by decide) (ok_move rfl (vl rfl)) ?_
                                  refine Ch.op rfl rfl (by decide) (ok_move rfl (vl rfl)) ?_
                                  refine Ch.cases 119 rfl (fun h27 => ?_) (fun h27 => ?_)
                                  ·
                                    have q27 := Nrm.nrm h27
                                    refine Ch.yes rfl rfl rfl h27 rfl (by decide) (ok_fieldAddr rfl fo42_8 (vl rfl) rfl) ?_
                                    refine Ch.yes rfl rfl rfl h27 rfl (by decide) (ok_load1 rfl one3 (vl rfl)) ?_
                                    refine Ch.yes rfl rfl rfl h27 rfl (by decide) (ok_int rfl (vl rfl) (vl rfl) rfl) ?_
                                    refine Ch.op rfl rfl (by decide) (ok_pick_t rfl (vl rfl) h27 (vl rfl)) ?_
                                    refine Ch.op rfl rfl (by decide) (ok_move rfl (vl rfl)) ?_
                                    refine Ch.cases 124 rfl (fun h28 => ?_) (fun h28 => ?_)
                                    ·
                                      have q28 := Nrm.nrm h28
                                      refine Ch.yes rfl rfl rfl h28 rfl (by decide) (ok_fieldAddr rfl fo42_8 (vl rfl) rfl) ?_
                                      refine Ch.yes rfl rfl rfl h28 rfl (by decide) (ok_load1 rfl one3 (vl rfl)) ?_
                                      refine Ch.yes rfl rfl rfl h28 rfl (by decide) (ok_int rfl (vl rfl) (vl rfl) rfl) ?_
                                      refine Ch.op rfl rfl (by decide) (ok_pick_t rfl (vl rfl) h28 (vl rfl)) ?_
                                      refine Ch.op rfl rfl (by decide) (ok_move rfl (vl rfl)) ?_
                                      refine Ch.cases 129 rfl (fun h29 => ?_) (fun h29 => ?_)
                                      ·
                                        have q29 := Nrm.nrm h29
                                        refine Ch.yes rfl rfl rfl h29 rfl (by decide) (ok_move rfl (vl rfl)) ?_
                                        refine Ch.op rfl rfl (by decide) (ok_pick_t rfl (vl rfl) h29 (vl rfl)) ?_
                                        refine Ch.op rfl rfl (by decide) (ok_assign rfl (vl rfl)) ?_
                                        refine Ch.nil ?_
                                        refine Fin.block ?_
                                        exact Fin.fam_same () (by simp_all) ⟨⟨_, rfl, bool_eq (by unfold contentF bareF; first | (simp_all; done) | (simp_all; omega))⟩, trivial⟩
                                      ·
                                        have q29 := Nrm.nrm h29
                                        refine Ch.no rfl rfl rfl (ne_true h29) rfl (by decide) ?_
                                        refine Ch.op rfl rfl (by decide) (ok_pick_f rfl (vl rfl) h29 (vl rfl)) ?_
                                        refine Ch.op rfl rfl (by decide) (ok_assign rfl (vl rfl)) ?_
                                        refine Ch.nil ?_
                                        refine Fin.block ?_
                                        exact Fin.fam_same () (by simp_all) ⟨⟨_, rfl, bool_eq (by unfold contentF bareF; first | (simp_all; done) | (simp_all; omega))⟩, trivial⟩
                                    ·
                                      have q28 := Nrm.nrm h28
                                      refine Ch.no rfl rfl rfl (ne_true h28) rfl (by decide) ?_
                                      refine Ch.no rfl rfl rfl (ne_true h28) rfl (by decide) ?_
                                      refine Ch.no rfl rfl rfl (ne_true h28) rfl (by decide) ?_
                                      refine Ch.op rfl rfl (by decide) (ok_pick_f rfl (vl rfl) h28 (vl rfl)) ?_
                                      refine Ch.op rfl rfl (by decide) (ok_move rfl (vl rfl)) ?_
                                      refine Ch.no rfl rfl rfl (by decide) rfl (by decide) ?_
                                      refine Ch.op rfl rfl (by decide) (ok_pick_f rfl (vl rfl) rfl (vl rfl)) ?_
                                      refine Ch.op rfl rfl (by decide) (ok_assign rfl (vl rfl)) ?_
                                      refine Ch.nil ?_
                                      refine Fin.block ?_
                                      exact Fin.fam_same () (by simp_all) ⟨⟨_, rfl, bool_eq (by unfold contentF bareF; first | (simp_all; done) | (simp_all; omega))⟩, trivial⟩
                                  ·
                                    have q27 := Nrm.nrm h27
                                    refine Ch.no rfl rfl rfl (ne_true h27) rfl (by decide) ?_
                                    refine Ch.no rfl rfl rfl (ne_true h27) rfl (by decide) ?_
                                    refine Ch.no rfl rfl rfl (ne_true h27) rfl (by decide) ?_
                                    refine Ch.op rfl rfl (by decide) (ok_pick_f rfl (vl rfl) h27 (vl rfl)) ?_
                                    refine Ch.op rfl rfl (by decide) (ok_move rfl (vl rfl)) ?_
                                    refine Ch.no rfl rfl rfl (by decide) rfl (by decide) ?_
                                    refine Ch.no rfl rfl rfl (by decide) rfl (by decide) ?_
                                    refine Ch.no rfl rfl rfl (by decide) rfl (by decide) ?_
                                    refine Ch.op rfl rfl (by decide) (ok_pick_f rfl (vl rfl) rfl (vl rfl)) ?_
                                    refine Ch.op rfl rfl (by decide) (ok_move rfl (vl rfl)) ?_
                                    refine Ch.no rfl rfl rfl (by decide) rfl (by decide) ?_
                                    refine Ch.op rfl rfl (by decide) (ok_pick_f rfl (vl rfl) rfl (vl rfl)) ?_
                                    refine Ch.op rfl rfl (by decide) (ok_assign rfl (vl rfl)) ?_
                                    refine Ch.nil ?_
                                    refine Fin.block ?_
                                    exact Fin.fam_same () (by simp_all) ⟨⟨_, rfl, bool_eq (by unfold contentF bareF; first | (simp_all; done) | (simp_all; omega))⟩, trivial⟩
                                ·
                                  have q26 := Nrm.nrm h26
                                  refine Tr.reg0 ?_
                                  refine Ch.op rfl rfl (by decide) (ok_int rfl (vl rfl) (vl rfl) rfl) ?_
                                  refine Ch.op rfl rfl (by decide) (ok_assign rfl (vl rfl)) ?_
                                  refine Ch.nil ?_
                                  refine Fin.go ?_
                                  refine Tr.cond rfl (fun h30 => ?_) (fun h30 => ?_)
                                  ·
                                    have q30 := Nrm.nrm h30
                                    refine Tr.reg0 ?_
                                    refine Ch.op rfl rfl (by decide) (ok_move rfl (vl rfl)) ?_
                                    refine Ch.op rfl rfl (by decide) (ok_move rfl (vl rfl)) ?_
                                    refine Ch.cases 119 rfl (fun h31 => ?_) (fun h31 => ?_)
                                    ·
                                      have q31 := Nrm.nrm h31
                                      refine Ch.yes rfl rfl rfl h31 rfl (by decide) (ok_fieldAddr rfl fo42_8 (vl rfl) rfl) ?_
                                      refine Ch.yes rfl rfl rfl h31 rfl (by decide) (ok_load1 rfl one3 (vl rfl)) ?_
                                      refine Ch.yes rfl rfl rfl h31 rfl (by decide) (ok_int rfl (vl rfl) (vl rfl) rfl) ?_
                                      refine Ch.op rfl rfl (by decide) (ok_pick_t rfl (vl rfl) h31 (vl rfl)) ?_
                                      refine Ch.op rfl rfl (by decide) (ok_move rfl (vl rfl)) ?_
                                      refine Ch.cases 124 rfl (fun h32 => ?_) (fun h32 => ?_)
                                      ·
                                        have q32 := Nrm.nrm h32
                                        refine Ch.yes rfl rfl rfl h32 rfl (by decide) (ok_fieldAddr rfl fo42_8 (vl rfl) rfl) ?_
                                        refine Ch.yes rfl rfl rfl h32 rfl (by decide) (ok_load1 rfl one3 (vl rfl)) ?_
                                        refine Ch.yes rfl rfl rfl h32 rfl (by decide) (ok_int rfl (vl rfl) (vl rfl) rfl) ?_
                                        refine Ch.op rfl rfl (by decide) (ok_pick_t rfl (vl rfl) h32 (vl rfl)) ?_
                                        refine Ch.op rfl rfl (by decide) (ok_move rfl (vl rfl)) ?_
                                        refine Ch.cases 129 rfl (fun h33 => ?_) (fun h33 => ?_)
                                        ·
                                          have q33 := Nrm.nrm h33
                                          refine Ch.yes rfl rfl rfl h33 rfl (by decide) (ok_move rfl (vl rfl)) ?_
                                          refine Ch.op rfl rfl (by decide) (ok_pick_t rfl (vl rfl) h33 (vl rfl)) ?_
                                          refine Ch.op rfl rfl (by decide) (ok_assign rfl (vl rfl)) ?_
                                          refine Ch.nil ?_
                                          refine Fin.block ?_
                                          exact Fin.fam_same () (by simp_all) ⟨⟨_, rfl, bool_eq (by unfold contentF bareF; first | (simp_all; done) | (simp_all; omega))⟩, trivial⟩
                                        ·
                                          have q33 := Nrm.nrm h33
                                          refine Ch.no rfl rfl rfl (ne_true h33) rfl (by decide) ?_
                                          refine Ch.op rfl rfl (by decide) (ok_pick_f rfl (vl rfl) h33 (vl rfl)) ?_
                                          refine Ch.op rfl rfl (by decide) (ok_assign rfl (vl rfl)) ?_
                                          refine Ch.nil ?_
                                          refine Fin.block ?_
                                          exact Fin.fam_same () (by simp_all) ⟨⟨_, rfl, bool_eq (by unfold contentF bareF; first | (simp_all; done) | (simp_all; omega))⟩, trivial⟩
                                      ·
                                        have q32 := Nrm.nrm h32
                                        refine Ch.no rfl rfl rfl (ne_true h32) rfl (by decide) ?_
                                        refine Ch.no rfl rfl rfl (ne_true h32) rfl (by decide) ?_
                                        refine Ch.no rfl rfl rfl (ne_true h32) rfl (by decide) ?_
                                        refine Ch.op rfl rfl (by decide) (ok_pick_f rfl (vl rfl) h32 (vl rfl)) ?_
                                        refine Ch.op rfl rfl (by decide) (ok_move rfl (vl rfl)) ?_
                                        refine Ch.no rfl rfl rfl (by decide) rfl (by decide) ?_
                                        refine Ch.op rfl rfl (by decide) (ok_pick_f rfl (vl rfl) rfl (vl rfl)) ?_
                                        refine Ch.op rfl rfl (by decide) (ok_assign rfl (vl rfl)) ?_
                                        refine Ch.nil ?_
                                        refine Fin.block ?_
                                        exact Fin.fam_same () (by simp_all) ⟨⟨_, rfl, bool_eq (by unfold contentF bareF; first | (simp_all; done) | (simp_all; omega))⟩, trivial⟩
                                    ·
                                      have q31 := Nrm.nrm h31
                                      refine Ch.no rfl rfl rfl (ne_true h31) rfl (by decide) ?_
                                      refine Ch.no rfl rfl rfl (ne_true h31) rfl (by decide) ?_
                                      refine Ch.no rfl rfl rfl (ne_true h31) rfl (by decide) ?_
                                      refine Ch.op rfl rfl (by decide) (ok_pick_f rfl (vl rfl) h31 (vl rfl)) ?_
                                      refine Ch.op rfl rfl (by decide) (ok_move rfl (vl rfl)) ?_
                                      refine Ch.no rfl rfl rfl (by decide) rfl (by decide) ?_
                                      refine Ch.no rfl rfl rfl (by decide) rfl (by decide) ?_
                                      refine Ch.no rfl rfl rfl (by decide) rfl (by decide) ?_
                                      refine Ch.op rfl rfl (by decide) (ok_pick_f rfl (vl rfl) rfl (vl rfl)) ?_
                                      refine Ch.op rfl rfl (by decide) (ok_move rfl (vl rfl)) ?_
                                      refine Ch.no rfl rfl rfl (by decide) rfl (by decide) ?_
                                      refine Ch.op rfl rfl (by decide) (ok_pick_f rfl (vl rfl) rfl (vl rfl)) ?_
                                      refine Ch.op rfl rfl (by decide) (ok_assign rfl (vl rfl)) ?_
                                      refine Ch.nil ?_
                                      refine Fin.block ?_
                                      exact Fin.fam_same () (by simp_all) ⟨⟨_, rfl, bool_eq (by unfold contentF bareF; first | (simp_all; done) | (simp_all; omega))⟩, trivial⟩
                                  ·
                                    have q30 := Nrm.nrm h30
                                    refine Tr.seq ?_
                                    refine Tr.reg0 ?_
                                    refine Ch.op rfl rfl (by decide) (ok_int rfl (vl rfl) (vl rfl) rfl) ?_
                                    refine Ch.op rfl rfl (by decide) (ok_assign rfl (vl rfl)) ?_
                                    refine Ch.nil ?_
                                    refine Fin.go ?_
                                    refine Tr.cond rfl (fun h34 => ?_) (fun h34 => ?_)
                                    ·
                                      have q34 := Nrm.nrm h34
                                      refine Tr.reg0 ?_
                                      refine Ch.op rfl rfl (by decide) (ok_move rfl (vl rfl)) ?_
                                      refine Ch.op rfl rfl (by decide) (ok_move rfl (vl rfl)) ?_
                                      refine Ch.cases 135 rfl (fun h35 => ?_) (fun h35 => ?_)
                                      ·
                                        have q35 := Nrm.nrm h35
                                        refine Ch.yes rfl rfl rfl h35 rfl (by decide) (ok_fieldAddr rfl fo42_8 (vl rfl) rfl) ?_
                                        refine Ch.yes rfl rfl rfl h35 rfl (by decide) (ok_load1 rfl one3 (vl rfl)) ?_
                                        refine Ch.yes rfl rfl rfl h35 rfl (by decide) (ok_int rfl (vl rfl) (vl rfl) rfl) ?_
                                        refine Ch.op rfl rfl (by decide) (ok_pick_t rfl (vl rfl) h35 (vl rfl)) ?_
                                        refine Ch.op rfl rfl (by decide) (ok_move rfl (vl rfl)) ?_
                                        refine Ch.cases 140 rfl (fun h36 => ?_) (fun h36 => ?_)
                                        ·
                                          have q36 := Nrm.nrm h36
                                          refine Ch.yes rfl rfl rfl h36 rfl (by decide) (ok_fieldAddr rfl fo42_8 (vl rfl) rfl) ?_
                                          refine Ch.yes rfl rfl rfl h36 rfl (by decide) (ok_load1 rfl one3 (vl rfl)) ?_
                                          refine Ch.yes rfl rfl rfl h36 rfl (by decide) (ok_int rfl (vl rfl) (vl rfl) rfl) ?_
                                          refine Ch.op rfl rfl (by decide) (ok_pick_t rfl (vl rfl) h36 (vl rfl)) ?_
                                          refine Ch.op rfl rfl (by decide) (ok_move rfl (vl rfl)) ?_
                                          refine Ch.cases 145 rfl (fun h37 => ?_) (fun h37 => ?_)
                                          ·
                                            have q37 := Nrm.nrm h37
                                            refine Ch.yes rfl rfl rfl h37 rfl (by decide) (ok_move rfl (vl rfl)) ?_
                                            refine Ch.op rfl rfl (by decide) (ok_pick_t rfl (vl rfl) h37 (vl rfl)) ?_
                                            refine Ch.op rfl rfl (by decide) (ok_assign rfl (vl rfl)) ?_
                                            refine Ch.nil ?_
                                            refine Fin.block ?_
                                            exact Fin.fam_same () (by simp_all) ⟨⟨_, rfl, bool_eq (by unfold contentF bareF; first | (simp_all; done) | (simp_all; omega))⟩, trivial⟩
                                          ·
                                            have q37 := Nrm.nrm h37
                                            refine Ch.no rfl rfl rfl (ne_true h37) rfl (by decide) ?_
                                            refine Ch.op rfl rfl (by decide) (ok_pick_f rfl (vl rfl) h37 (vl rfl)) ?_
                                            refine Ch.op rfl rfl (by decide) (ok_assign rfl (vl rfl)) ?_
                                            refine Ch.nil ?_
                                            refine Fin.block ?_
                                            exact Fin.fam_same () (by simp_all) ⟨⟨_, rfl, bool_eq (by unfold contentF bareF; first | (simp_all; done) | (simp_all; omega))⟩, trivial⟩
                                        ·
                                          have q36 := Nrm.nrm h36
                                          refine Ch.no rfl rfl rfl (ne_true h36) rfl (by decide) ?_
                                          refine Ch.no rfl rfl rfl (ne_true h36) rfl (by decide) ?_
                                          refine Ch.no rfl rfl rfl (ne_true h36) rfl (by decide) ?_
                                          refine Ch.op rfl rfl (by decide) (ok_pick_f rfl (vl rfl) h36 (vl rfl)) ?_
                                          refine Ch.op rfl rfl (by decide) (ok_move rfl (vl rfl)) ?_
                                          refine Ch.no rfl rfl rfl (by decide) rfl (by decide) ?_
                                          refine Ch.op rfl rfl (by decide) (ok_pick_f rfl (vl rfl) rfl (vl rfl)) ?_
                                          refine Ch.op rfl rfl (by decide) (ok_assign rfl (vl rfl)) ?_
                                          refine Ch.nil ?_
                                          refine Fin.block ?_
                                          exact Fin.fam_same () (by simp_all) ⟨⟨_, rfl, bool_eq (by unfold contentF bareF; first | (simp_all; done) | (simp_all; omega))⟩, trivial⟩
                                      ·
                                        have q35 := Nrm.nrm h35
                                        refine Ch.no rfl rfl rfl (ne_true h35) rfl (by decide) ?_
                                        refine Ch.no rfl rfl rfl (ne_true h35) rfl (by decide) ?_
                                        refine Ch.no rfl rfl rfl (ne_true h35) rfl (by decide) ?_
                                        refine Ch.op rfl rfl (by decide) (ok_pick_f rfl (vl rfl) h35 (vl rfl)) ?_
                                        refine Ch.op rfl rfl (by decide) (ok_move rfl (vl rfl)) ?_
                                        refine Ch.no rfl rfl rfl (by decide) rfl (by decide) ?_
                                        refine Ch.no rfl rfl rfl (by decide) rfl (by decide) ?_
                                        refine Ch.no rfl rfl rfl (by decide) rfl (by decide) ?_
                                        refine Ch.op rfl rfl (by decide) (ok_pick_f rfl (vl rfl) rfl (vl rfl)) ?_
                                        refine Ch.op rfl rfl (by decide) (ok_move rfl (vl rfl)) ?_
                                        refine Ch.no rfl rfl rfl (by decide) rfl (by decide) ?_
                                        refine Ch.op rfl rfl (by decide) (ok_pick_f rfl (vl rfl) rfl (vl rfl)) ?_
                                        refine Ch.op rfl rfl (by decide) (ok_assign rfl (vl rfl)) ?_
                                        refine Ch.nil ?_
                                        refine Fin.block ?_
                                        exact Fin.fam_same () (by simp_all) ⟨⟨_, rfl, bool_eq (by unfold contentF bareF; first | (simp_all; done) | (simp_all; omega))⟩, trivial⟩
                                    ·
                                      have q34 := Nrm.nrm h34
                                      refine Tr.seq ?_
                                      refine Tr.reg0 ?_
                                      refine Ch.op rfl rfl (by decide) (ok_int rfl (vl rfl) (vl rfl) rfl) ?_
                                      refine Ch.op rfl rfl (by decide) (ok_assign rfl (vl rfl)) ?_
                                      refine Ch.nil ?_
                                      refine Fin.go ?_
                                      refine Tr.weak [(1, _), (3, _), (4, _), (6, _), (148, _)] ⟨⟨_, rfl, Pr.le_refl _⟩, ⟨_, rfl, Pr.le_refl _⟩, ⟨_, rfl, Pr.le_refl _⟩, ⟨_, rfl, Pr.le_refl _⟩, ⟨_, rfl, Pr.le_refl _⟩, trivial⟩ ?_
                                      refine Tr.cond rfl (fun h38 => ?_) (fun h38 => ?_)
                                      ·
                                        have q38 := Nrm.nrm h38
                                        refine Tr.reg0 ?_
                                        refine Ch.op rfl rfl (by decide) (ok_move rfl (vl rfl)) ?_
                                        refine Ch.op rfl rfl (by decide) (ok_move rfl (vl rfl)) ?_
                                        refine Ch.cases 151 rfl (fun h39 => ?_) (fun h39 => ?_)
                                        ·
                                          have q39 := Nrm.nrm h39
                                          refine Ch.yes rfl rfl rfl h39 rfl (by decide) (ok_move rfl (vl rfl)) ?_
                                          refine Ch.op rfl rfl (by decide) (ok_pick_t rfl (vl rfl) h39 (vl rfl)) ?_
                                          refine Ch.op rfl rfl (by decide) (ok_move rfl (vl rfl)) ?_
                                          refine Ch.cases 154 rfl (fun h40 => ?_) (fun h40 => ?_)
                                          ·
                                            have q40 := Nrm.nrm h40
                                            refine Ch.yes rfl rfl rfl h40 rfl (by decide) (ok_fieldAddr rfl fo42_9 (vl rfl) rfl) ?_
                                            refine Ch.yes rfl rfl rfl h40 rfl (by decide) (ok_load1 rfl one9 (vl rfl)) ?_
                                            refine Ch.yes rfl rfl rfl h40 rfl (by decide) (ok_call rfl (w_RName) ⟨⟨_, rfl, Pr.le_refl _⟩, trivial⟩) ?_
                                            refine Ch.op rfl rfl (by decide) (ok_pick_t rfl (vl rfl) h40 (vl rfl)) ?_
                                            refine Ch.op rfl rfl (by decide) (ok_assign rfl (vl rfl)) ?_
                                            refine Ch.nil ?_
                                            refine Fin.block ?_
                                            exact Fin.fam_same () (by simp_all) ⟨⟨_, rfl, bool_eq (by unfold contentF bareF; first | (simp_all; done) | (simp_all; omega))⟩, trivial⟩
                                          ·
                                            have q40 := Nrm.nrm h40
                                            refine Ch.no rfl rfl rfl (ne_true h40) rfl (by decide) ?_
                                            refine Ch.no rfl rfl rfl (ne_true h40) rfl (by decide) ?_
                                            refine Ch.no rfl rfl rfl (ne_true h40) rfl (by decide) ?_
                                            refine Ch.op rfl rfl (by decide) (ok_pick_f rfl (vl rfl) h40 (vl rfl)) ?_
                                            refine Ch.op rfl rfl (by decide) (ok_assign rfl (vl rfl)) ?_
                                            refine Ch.nil ?_
                                            refine Fin.block ?_
                                            exact Fin.fam_same () (by simp_all) ⟨⟨_, rfl, bool_eq (by unfold contentF bareF; first | (simp_all; done) | (simp_all; omega))⟩, trivial⟩
                                        ·
                                          have q39 := Nrm.nrm h39
                                          refine Ch.no rfl rfl rfl (ne_true h39) rfl (by decide) ?_
                                          refine Ch.op rfl rfl (by decide) (ok_pick_f rfl (vl rfl) h39 (vl rfl)) ?_
                                          refine Ch.op rfl rfl (by decide) (ok_move rfl (vl rfl)) ?_
                                          refine Ch.no rfl rfl rfl (by decide) rfl (by decide) ?_
                                          refine Ch.no rfl rfl rfl (by decide) rfl (by decide) ?_
                                          refine Ch.no rfl rfl rfl (by decide) rfl (by decide) ?_
                                          refine Ch.op rfl rfl (by decide) (ok_pick_f rfl (vl rfl) rfl (vl rfl)) ?_
                                          refine Ch.op rfl rfl (by decide) (ok_assign rfl (vl rfl)) ?_
                                          refine Ch.nil ?_
                                          refine Fin.block ?_
                                          exact Fin.fam_same () (by simp_all) ⟨⟨_, rfl, bool_eq (by unfold contentF bareF; first | (simp_all; done) | (simp_all; omega))⟩, trivial⟩
                                      ·
                                        have q38 := Nrm.nrm h38
                                        refine Tr.skip ?_
                                        refine Fin.block ?_
                                        exact Fin.fam_same () (by simp_all) ⟨⟨_, rfl, bool_eq (by unfold contentF bareF; first | (simp_all; done) | (simp_all; omega))⟩, trivial⟩
                      ·
                        refine Tr.seq ?_
                        refine Tr.seq ?_
                        refine Tr.reg0 ?_
                        refine Ch.op rfl rfl (by decide) (ok_move rfl (vl rfl)) ?_
                        refine Ch.op rfl rfl (by decide) (ok_not rfl (vl rfl)) ?_
                        refine Ch.nil ?_
                        refine Fin.go ?_
                        refine Tr.cond rfl (fun h41 => ?_) (fun h41 => ?_)
                        ·
                          have q41 := Nrm.nrm h41
                          refine Tr.seq ?_
                          refine Tr.reg0 ?_
                          refine Ch.op rfl rfl (by decide) (ok_assign rfl (vl rfl)) ?_
                          refine Ch.nil ?_
                          refine Fin.go ?_
                          refine Tr.ret ?_
                          refine Fin.then_ret ?_
                          refine Fin.ret1 rfl (OutW.bse _ _) rfl ?_
                          · refine int_eq ?_; unfold checkF whereF whenF; first | (simp_all; done) | (simp_all; omega)
                        ·
                          have q41 := Nrm.nrm h41
                          refine Tr.skip ?_
                          refine Fin.go ?_
                          refine Tr.seq ?_
                          refine Tr.reg0 ?_
                          refine Ch.op rfl rfl (by decide) (ok_assign rfl (vl rfl)) ?_
                          refine Ch.nil ?_
                          refine Fin.go ?_
                          refine Tr.ret ?_
                          refine Fin.ret1 rfl (OutW.bse _ _) rfl ?_
                          · refine int_eq ?_; unfold checkF whereF whenF; first | (simp_all; done) | (simp_all; omega)
theorem e_R14Check : Entry Tryz.prog 58 := ⟨_, Tryz.func58, rfl, rfl⟩

/-- The first of some numbers that is not 0. -/
def orL : List Int → Int
  | [] => 0
  | a :: l => if a = 0 then orL l else a
theorem orL_orF : ∀ l, orF l = orL l
  | [] => rfl
  | a :: l => by
    have ih : (l.find? fun x => x != 0).getD 0 = orL l := orL_orF l
    show ((a :: l).find? fun x => x != 0).getD 0 = if a = 0 then orL l else a
    by_cases h : a = 0
    · rw [List.find?_cons_of_neg (by simp [h]), if_pos h]; exact ih
    · rw [List.find?_cons_of_pos (by simpa using h), if_neg h]; rfl
def keysF (a b : Fnd) : List Int := [Lib.compareBytes a.host b.host, cmpI a.machine b.machine, cmpI a.day b.day, Lib.compareBytes a.subj b.subj, cmpI a.kind b.kind, cmpI a.alg b.alg, cmpI a.bits b.bits, cmpI a.num b.num, Lib.compareBytes a.text b.text, cmpI a.src b.src, cmpI a.conf b.conf]
/-- How two findings are ordered. -/
def ordF (a b : Fnd) : Int := orL (keysF a b)

set_option maxRecDepth 20000 in
theorem w_texts {a b : List UInt8}  : Fun Tryz.prog 118 [str a, str b] (int (Lib.compareBytes a b)) := by
  refine Fun.of Tryz.func118 rfl rfl (by exact Nat.le_of_ble_eq_true rfl) fun M0 w0 => ?_
  refine Tr.seq ?_
  refine Tr.reg0 ?_
  refine Ch.op rfl rfl (by decide) (ok_assign rfl (vl rfl)) ?_
  refine Ch.nil ?_
  refine Fin.go ?_
  refine Tr.seq ?_
  refine Tr.seq ?_
  refine Tr.reg0 ?_
  refine Ch.op rfl rfl (by decide) (ok_move rfl (vl rfl)) ?_
  refine Ch.op rfl rfl (by decide) (ok_move rfl (vl rfl)) ?_
  refine Ch.op rfl rfl (by decide) (ok_lts rfl (vl rfl) (vl rfl)) ?_
  refine Ch.nil ?_
  refine Fin.go ?_
  refine Tr.cond rfl (fun h1 => ?_) (fun h1 => ?_)
  ·
    have q1 := Nrm.nrm h1
    refine Tr.seq ?_
    refine Tr.reg0 ?_
    refine Ch.op rfl rfl (by decide) (ok_assign rfl (vl rfl)) ?_
    refine Ch.nil ?_
    refine Fin.go ?_
    refine Tr.ret ?_
    refine Fin.then_ret ?_
    refine Fin.ret1 rfl (OutW.bse _ _) rfl ?_
    · refine int_eq ?_; have h9 := cmp_in a b; simp_all
  ·
    have q1 := Nrm.nrm h1
    refine Tr.skip ?_
    refine Fin.go ?_
    refine Tr.seq ?_
    refine Tr.seq ?_
    refine Tr.reg0 ?_
    refine Ch.op rfl rfl (by decide) (ok_move rfl (vl rfl)) ?_
    refine Ch.op rfl rfl (by decide) (ok_move rfl (vl rfl)) ?_
    refine Ch.op rfl rfl (by decide) (ok_gts rfl (vl rfl) (vl rfl)) ?_
    refine Ch.nil ?_
    refine Fin.go ?_
    refine Tr.cond rfl (fun h2 => ?_) (fun h2 => ?_)
    ·
      have q2 := Nrm.nrm h2
      refine Tr.seq ?_
      refine Tr.reg0 ?_
      refine Ch.op rfl rfl (by decide) (ok_assign rfl (vl rfl)) ?_
      refine Ch.nil ?_
      refine Fin.go ?_
      refine Tr.ret ?_
      refine Fin.then_ret ?_
      refine Fin.ret1 rfl (OutW.bse _ _) rfl ?_
      · refine int_eq ?_; have h9 := cmp_in a b; simp_all
    ·
      have q2 := Nrm.nrm h2
      refine Tr.skip ?_
      refine Fin.go ?_
      refine Tr.seq ?_
      refine Tr.reg0 ?_
      refine Ch.op rfl rfl (by decide) (ok_assign rfl (vl rfl)) ?_
      refine Ch.nil ?_
      refine Fin.go ?_
      refine Tr.ret ?_
      refine Fin.ret1 rfl (OutW.bse _ _) rfl ?_
      · refine int_eq ?_; have h9 := cmp_in a b; simp_all
theorem e_texts : Entry Tryz.prog 118 := ⟨_, Tryz.func118, rfl, rfl⟩

def intsC : List Int → List Int → Int
  | a :: l, b :: m => if cmpI a b = 0 then intsC l m else cmpI a b
  | _, _ => 0
theorem intsC_step {a b : List Int} {k : Nat} {x y : Int} (hx : a[k]? = some x) (hy : b[k]? = some y) : intsC (a.drop k) (b.drop k) = if cmpI x y = 0 then intsC (a.drop (k + 1)) (b.drop (k + 1)) else cmpI x y := by
  rw [drop_cons hx, drop_cons hy]; rfl

set_option maxRecDepth 20000 in
theorem w_intsC {a b : List Int} (hl : a.length ≤ b.length) : Fun Tryz.prog 119 [ints a, ints b] (int (intsC a b)) := by
  refine Fun.of Tryz.func119 rfl rfl (by exact Nat.le_of_ble_eq_true rfl) fun M0 w0 => ?_
  refine Tr.lenm 0 rfl fun hlm_0 => ?_
  refine Tr.seq ?_
  refine Tr.reg0 ?_
  refine Ch.op rfl rfl (by decide) (ok_assign rfl (vl rfl)) ?_
  refine Ch.nil ?_
  refine Fin.go ?_
  refine Tr.seq ?_
  refine Tr.seq ?_
  refine Tr.reg0 ?_
  refine Ch.op rfl rfl (by decide) (ok_assign rfl (vl rfl)) ?_
  refine Ch.nil ?_
  refine Fin.go ?_
  refine Tr.block ?_
  refine Tr.loopw [(0, _), (1, _)] ⟨⟨_, rfl, Pr.le_refl _⟩, ⟨_, rfl, Pr.le_refl _⟩, trivial⟩ (fun k : Nat => [(5, int ((k : Nat) : Int))]) (fun k : Nat => k ≤ (a).length ∧ (intsC a b = intsC (a.drop k) (b.drop k))) (fun k : Nat => (a).length - k) 0 (⟨Nat.zero_le _, rfl⟩) ⟨⟨_, rfl, Pr.le_refl _⟩, trivial⟩ ?_
  rintro k ⟨hle_k, hinv_k⟩
  refine Tr.seq ?_
  refine Tr.seq ?_
  refine Tr.reg0 ?_
  refine Ch.op rfl rfl (by decide) (ok_move rfl (vl rfl)) ?_
  refine Ch.op rfl rfl (by decide) (ok_move rfl (vl rfl)) ?_
  first
    | refine Ch.op rfl rfl (by decide) (ok_lenm rfl Tryz.underlying22 (vl rfl)) ?_
    | refine Ch.op rfl rfl (by decide) (ok_len rfl Tryz.underlying22 (vl rfl)) ?_
  refine Ch.op rfl rfl (by decide) (ok_int rfl (vl rfl) (vl rfl) rfl) ?_
  refine Ch.nil ?_
  refine Fin.go ?_
  refine Tr.cond rfl (fun h1 => ?_) (fun h1 => ?_)
  ·
    have q1 := Nrm.nrm h1
    have hk_k : k < (a).length := lt_of_dec h1
    obtain ⟨x, hx_k⟩ := at_ hk_k
    obtain ⟨y, hy⟩ := at_ (l := b) (k := k) (by omega)
    have hst := intsC_step hx_k hy
    refine Tr.skip ?_
    refine Fin.go ?_
    refine Tr.seq ?_
    refine Tr.block ?_
    refine Tr.seq ?_
    refine Tr.seq ?_
    refine Tr.reg1 mixed (by kernel_rfl) ?_
    refine Ch.op rfl rfl (by decide) (ok_move rfl (vl rfl)) ?_
    refine Ch.op rfl rfl (by decide) (ok_move rfl (vl rfl)) ?_
    refine Ch.op rfl rfl (by decide) (ok_indexAddr rfl Tryz.underlying22 sz3 (vl rfl) (vl rfl) (by omega) (by first | exact row_at (by assumption) | exact row_atI (by assumption) | assumption)) ?_
    refine Ch.op rfl rfl (by decide) (ok_load1 rfl one3 (vl rfl)) ?_
    refine Ch.op rfl rfl (by decide) (ok_move rfl (vl rfl)) ?_
    refine Ch.op rfl rfl (by decide) (ok_move rfl (vl rfl)) ?_
    refine Ch.op rfl rfl (by decide) (ok_indexAddr rfl Tryz.underlying22 sz3 (vl rfl) (vl rfl) (by omega) (by first | exact row_at (by assumption) | exact row_atI (by assumption) | assumption)) ?_
    refine Ch.op rfl rfl (by decide) (ok_load1 rfl one3 (vl rfl)) ?_
    refine Ch.op rfl rfl (by decide) (ok_int rfl (vl rfl) (vl rfl) rfl) ?_
    refine Ch.nil ?_
    refine Fin.go ?_
    refine Tr.weak [(0, _), (1, _), (5, _), (20, _)] ⟨⟨_, rfl, Pr.le_refl _⟩, ⟨_, rfl, Pr.le_refl _⟩, ⟨_, rfl, Pr.le_refl _⟩, ⟨_, rfl, Pr.le_refl _⟩, trivial⟩ ?_
    refine Tr.cond rfl (fun h2 => ?_) (fun h2 => ?_)
    ·
      have q2 := Nrm.nrm h2
      refine Tr.seq ?_
      refine Tr.reg0 ?_
      refine Ch.op rfl rfl (by decide) (ok_assign rfl (vl rfl)) ?_
      refine Ch.nil ?_
      refine Fin.go ?_
      refine Tr.ret ?_
      refine Fin.then_ret ?_
      refine Fin.block_ret ?_
      refine Fin.then_ret ?_
      refine Fin.then_ret ?_
      refine Fin.block_ret ?_
      refine Fin.then_ret ?_
      refine Fin.ret1 rfl (OutW.bse _ _) rfl ?_
      · first | (refine int_eq ?_; rw [hinv_k, hst]; unfold cmpI; (repeat (first | rw [if_pos (by omega)] | rw [if_neg (by omega)])); done) | (refine int_eq ?_; rw [hinv_k, List.drop_length]; cases b <;> rfl)
    ·
      have q2 := Nrm.nrm h2
      refine Tr.skip ?_
      refine Fin.go ?_
      refine Tr.seq ?_
      refine Tr.reg1 mixed (by kernel_rfl) ?_
      refine Ch.op rfl rfl (by decide) (ok_move rfl (vl rfl)) ?_
      refine Ch.op rfl rfl (by decide) (ok_move rfl (vl rfl)) ?_
      refine Ch.op rfl rfl (by decide) (ok_indexAddr rfl Tryz.underlying22 sz3 (vl rfl) (vl rfl) (by omega) (by first | exact row_at (by assumption) | exact row_atI (by assumption) | assumption)) ?_
      refine Ch.op rfl rfl (by decide) (ok_load1 rfl one3 (vl rfl)) ?_
      refine Ch.op rfl rfl (by decide) (ok_move rfl (vl rfl)) ?_
      refine Ch.op rfl rfl (by decide) (ok_move rfl (vl rfl)) ?_
      refine Ch.op rfl rfl (by decide) (ok_indexAddr rfl Tryz.underlying22 sz3 (vl rfl) (vl rfl) (by omega) (by first | exact row_at (by assumption) | exact row_atI (by assumption) | assumption)) ?_
      refine Ch.op rfl rfl (by decide) (ok_load1 rfl one3 (vl rfl)) ?_
      refine Ch.op rfl rfl (by decide) (ok_int rfl (vl rfl) (vl rfl) rfl) ?_
      refine Ch.nil ?_
      refine Fin.go ?_
      refine Tr.cond rfl (fun h3 => ?_) (fun h3 => ?_)
      ·
        have q3 := Nrm.nrm h3
        refine Tr.seq ?_
        refine Tr.reg0 ?_
        refine Ch.op rfl rfl (by decide) (ok_assign rfl (vl rfl)) ?_
        refine Ch.nil ?_
        refine Fin.go ?_
        refine Tr.weak [(4, _)] ⟨⟨_, rfl, Pr.le_refl _⟩, trivial⟩ ?_
        refine Tr.ret ?_
        refine Fin.block_ret ?_
        refine Fin.then_ret ?_
        refine Fin.then_ret ?_
        refine Fin.block_ret ?_
        refine Fin.then_ret ?_
        refine Fin.ret1 rfl (OutW.bse _ _) rfl ?_
        · first | (refine int_eq ?_; rw [hinv_k, hst]; unfold cmpI; (repeat (first | rw [if_pos (by omega)] | rw [if_neg (by omega)])); done) | (refine int_eq ?_; rw [hinv_k, List.drop_length]; cases b <;> rfl)
      ·
        have q3 := Nrm.nrm h3
        refine Tr.skip ?_
        refine Fin.block ?_
        refine Fin.go ?_
        refine Tr.reg0 ?_
        refine Ch.op rfl rfl (by decide) (ok_move rfl (vl rfl)) ?_
        first
          | (refine Ch.op rfl rfl (by decide) (ok_add rfl (vl rfl) (vl rfl) ?hin) ?_; case hin => unfold InI; omega)
          | refine Ch.op rfl rfl (by decide) (ok_int rfl (vl rfl) (vl rfl) rfl) ?_
        refine Ch.op rfl rfl (by decide) (ok_assign rfl (vl rfl)) ?_
        refine Ch.nil ?_
        exact Fin.fam_same (k + 1) ⟨⟨hk_k, (hinv_k.trans (hst.trans (if_pos (by rw [cmpI_zero]; omega))))⟩, by omega⟩ ⟨⟨_, rfl, int_succ k⟩, ⟨_, rfl, Pr.le_refl _⟩, ⟨_, rfl, Pr.le_refl _⟩, trivial⟩
  ·
    have q1 := Nrm.nrm h1
    have he_k : k = (a).length := by have := ge_of_dec h1; omega
    subst he_k
    refine Tr.exit ?_
    refine Fin.then_exit ?_
    refine Fin.then_exit ?_
    refine Fin.block_here ?_
    refine Fin.go ?_
    refine Tr.seq ?_
    refine Tr.reg0 ?_
    refine Ch.op rfl rfl (by decide) (ok_assign rfl (vl rfl)) ?_
    refine Ch.nil ?_
    refine Fin.go ?_
    refine Tr.ret ?_
    refine Fin.ret1 rfl (OutW.bse _ _) rfl ?_
    · first | (refine int_eq ?_; rw [hinv_k, hst]; unfold cmpI; (repeat (first | rw [if_pos (by omega)] | rw [if_neg (by omega)])); done) | (refine int_eq ?_; rw [hinv_k, List.drop_length]; cases b <;> rfl)
theorem e_intsC : Entry Tryz.prog 119 := ⟨_, Tryz.func119, rfl, rfl⟩

theorem or1 (a b : Int) (l : List Int) : orL (a :: b :: l) = orL ((if a = 0 then b else a) :: l) := by
  show (if a = 0 then (if b = 0 then orL l else b) else a) = if (if a = 0 then b else a) = 0 then orL l else (if a = 0 then b else a)
  by_cases h : a = 0 <;> by_cases h2 : b = 0 <;> simp [h, h2]
theorem or_hit {a : Int} {l : List Int} (h : ¬ a = 0) : orL (a :: l) = a := if_neg h
theorem or_miss {a : Int} {l : List Int} (h : a = 0) : orL (a :: l) = orL l := if_pos h
theorem intsC_2 (a b c d : Int) : intsC [a, b] [c, d] = orL [cmpI a c, cmpI b d] := by
  show (if cmpI a c = 0 then (if cmpI b d = 0 then 0 else cmpI b d) else cmpI a c) = if cmpI a c = 0 then (if cmpI b d = 0 then 0 else cmpI b d) else cmpI a c
  rfl
theorem intsC_4 (a b c d e f g h : Int) : intsC [a, b, c, d] [e, f, g, h] = orL [cmpI a e, cmpI b f, cmpI c g, cmpI d h] := rfl
theorem orL_app : ∀ (l m : List Int), orL (l ++ m) = if orL l = 0 then orL m else orL l
  | [], m => by simp [orL]
  | a :: l, m => by
    have ih := orL_app l m
    show (if a = 0 then orL (l ++ m) else a) = if (if a = 0 then orL l else a) = 0 then orL m else (if a = 0 then orL l else a)
    by_cases h : a = 0
    · simp only [h, if_true]; exact ih
    · simp [h]
theorem ordF_eq (a b : Fnd) : ordF a b = orL [Lib.compareBytes a.host b.host, orL [cmpI a.machine b.machine, cmpI a.day b.day], Lib.compareBytes a.subj b.subj, orL [cmpI a.kind b.kind, cmpI a.alg b.alg, cmpI a.bits b.bits, cmpI a.num b.num], Lib.compareBytes a.text b.text, orL [cmpI a.src b.src, cmpI a.conf b.conf]] := by
  have h : ∀ (l : List Int) (m n : List Int), orL (m ++ (orL l :: n)) = orL (m ++ (l ++ n)) := by
    intro l m n
    rw [orL_app, orL_app m, orL_app l n]; rfl
  unfold ordF keysF
  have e1 := h [cmpI a.machine b.machine, cmpI a.day b.day] [Lib.compareBytes a.host b.host] [Lib.compareBytes a.subj b.subj, orL [cmpI a.kind b.kind, cmpI a.alg b.alg, cmpI a.bits b.bits, cmpI a.num b.num], Lib.compareBytes a.text b.text, orL [cmpI a.src b.src, cmpI a.conf b.conf]]
  have e2 := h [cmpI a.kind b.kind, cmpI a.alg b.alg, cmpI a.bits b.bits, cmpI a.num b.num] [Lib.compareBytes a.host b.host, cmpI a.machine b.machine, cmpI a.day b.day, Lib.compareBytes a.subj b.subj] [Lib.compareBytes a.text b.text, orL [cmpI a.src b.src, cmpI a.conf b.conf]]
  have e3 := h [cmpI a.src b.src, cmpI a.conf b.conf] [Lib.compareBytes a.host b.host, cmpI a.machine b.machine, cmpI a.day b.day, Lib.compareBytes a.subj b.subj, cmpI a.kind b.kind, cmpI a.alg b.alg, cmpI a.bits b.bits, cmpI a.num b.num, Lib.compareBytes a.text b.text] []
  exact (e1.trans (e2.trans e3)).symm

set_option maxRecDepth 20000 in
theorem w_R14Order {a b : Fnd}  : Fun Tryz.prog 77 [agg (rowF a), agg (rowF b)] (int (ordF a b)) := by
  refine Fun.of Tryz.func77 rfl rfl (by exact Nat.le_of_ble_eq_true rfl) fun M0 w0 => ?_
  refine Tr.seq ?_
  refine Tr.reg0 ?_
  refine Ch.op rfl rfl (by decide) (ok_box rfl (VL.le (vl rfl) (agg_cellsP _))) ?_
  refine Ch.op rfl rfl (by decide) (ok_box rfl (VL.le (vl rfl) (agg_cellsP _))) ?_
  refine Ch.op rfl rfl (by decide) (ok_assign rfl (vl rfl)) ?_
  refine Ch.nil ?_
  refine Fin.go ?_
  refine Tr.seq ?_
  refine Tr.seq ?_
  refine Tr.reg0 ?_
  refine Ch.op rfl rfl (by decide) (ok_fieldAddr rfl fo42_1 (vl rfl) rfl) ?_
  refine Ch.op rfl rfl (by decide) (ok_load1 rfl one9 (vl rfl)) ?_
  refine Ch.op rfl rfl (by decide) (ok_fieldAddr rfl fo42_1 (vl rfl) rfl) ?_
  refine Ch.op rfl rfl (by decide) (ok_load1 rfl one9 (vl rfl)) ?_
  refine Ch.op rfl rfl (by decide) (ok_call rfl (w_texts) ⟨⟨_, rfl, Pr.le_refl _⟩, ⟨_, rfl, Pr.le_refl _⟩, trivial⟩) ?_
  refine Ch.op rfl rfl (by decide) (ok_assign rfl (vl rfl)) ?_
  refine Ch.nil ?_
  refine Fin.go ?_
  refine Tr.seq ?_
  refine Tr.reg0 ?_
  refine Ch.op rfl rfl (by decide) (ok_move rfl (vl rfl)) ?_
  refine Ch.op rfl rfl (by decide) (ok_int rfl (vl rfl) (vl rfl) rfl) ?_
  refine Ch.nil ?_
  refine Fin.go ?_
  refine Tr.cond rfl (fun h1 => ?_) (fun h1 => ?_)
  ·
    have q1 := Nrm.nrm h1
    refine Tr.seq ?_
    refine Tr.reg0 ?_
    refine Ch.op rfl rfl (by decide) (ok_move rfl (vl rfl)) ?_
    refine Ch.op rfl rfl (by decide) (ok_assign rfl (vl rfl)) ?_
    refine Ch.nil ?_
    refine Fin.go ?_
    refine Tr.ret ?_
    refine Fin.then_ret ?_
    refine Fin.ret1 rfl (OutW.bse _ _) rfl ?_
    · refine int_eq ?_; rw [ordF_eq]; exact (or_hit (by assumption)).symm
  ·
    have q1 := Nrm.nrm h1
    refine Tr.skip ?_
    refine Fin.go ?_
    refine Tr.seq ?_
    refine Tr.seq ?_
    refine Tr.reg0 ?_
    refine Ch.op rfl rfl (by decide) (ok_fieldAddr rfl fo42_2 (vl rfl) rfl) ?_
    refine Ch.op rfl rfl (by decide) (ok_load1 rfl one3 (vl rfl)) ?_
    refine Ch.op rfl rfl (by decide) (ok_fieldAddr rfl fo42_3 (vl rfl) rfl) ?_
    refine Ch.op rfl rfl (by decide) (ok_load1 rfl one3 (vl rfl)) ?_
    refine Ch.op rfl rfl (by decide) (ok_buildSlice (xs := [.tmp 19, .tmp 21]) (rows := [[_], [_]]) rfl rfl Tryz.underlying22 sz3 z3 rfl (by decide) ⟨⟨(by exact rfl), (VL.le (vl rfl) (one_cellsP _))⟩, ⟨⟨(by exact rfl), (VL.le (vl rfl) (one_cellsP _))⟩, trivial⟩⟩ (by decide)) ?_
    refine Ch.op rfl rfl (by decide) (ok_fieldAddr rfl fo42_2 (vl rfl) rfl) ?_
    refine Ch.op rfl rfl (by decide) (ok_load1 rfl one3 (vl rfl)) ?_
    refine Ch.op rfl rfl (by decide) (ok_fieldAddr rfl fo42_3 (vl rfl) rfl) ?_
    refine Ch.op rfl rfl (by decide) (ok_load1 rfl one3 (vl rfl)) ?_
    refine Ch.op rfl rfl (by decide) (ok_buildSlice (xs := [.tmp 24, .tmp 26]) (rows := [[_], [_]]) rfl rfl Tryz.underlying22 sz3 z3 rfl (by decide) ⟨⟨(by exact rfl), (VL.le (vl rfl) (one_cellsP _))⟩, ⟨⟨(by exact rfl), (VL.le (vl rfl) (one_cellsP _))⟩, trivial⟩⟩ (by decide)) ?_
    refine Ch.op rfl rfl (by decide) (ok_call rfl (w_intsC (a := [a.machine, a.day]) (b := [b.machine, b.day]) (by simp)) ⟨⟨_, rfl, full_le _ _⟩, ⟨_, rfl, full_le _ _⟩, trivial⟩) ?_
    refine Ch.op rfl rfl (by decide) (ok_assign rfl (vl rfl)) ?_
    refine Ch.nil ?_
    refine Fin.go ?_
    refine Tr.weak [(2, _), (3, _), (6, _)] ⟨⟨_, rfl, Pr.le_refl _⟩, ⟨_, rfl, Pr.le_refl _⟩, ⟨_, rfl, Pr.le_refl _⟩, trivial⟩ ?_
    refine Tr.seq ?_
    refine Tr.reg0 ?_
    refine Ch.op rfl rfl (by decide) (ok_move rfl (vl rfl)) ?_
    refine Ch.op rfl rfl (by decide) (ok_int rfl (vl rfl) (vl rfl) rfl) ?_
    refine Ch.nil ?_
    refine Fin.go ?_
    refine Tr.cond rfl (fun h2 => ?_) (fun h2 => ?_)
    ·
      have q2 := Nrm.nrm h2
      refine Tr.seq ?_
      refine Tr.reg0 ?_
      refine Ch.op rfl rfl (by decide) (ok_move rfl (vl rfl)) ?_
      refine Ch.op rfl rfl (by decide) (ok_assign rfl (vl rfl)) ?_
      refine Ch.nil ?_
      refine Fin.go ?_
      refine Tr.ret ?_
      refine Fin.then_ret ?_
      refine Fin.ret1 rfl (OutW.bse _ _) rfl ?_
      · refine int_eq ?_; rw [ordF_eq]; rw [or_miss (by assumption)]; exact (or_hit (by assumption)).symm
    ·
      have q2 := Nrm.nrm h2
      refine Tr.skip ?_
      refine Fin.go ?_
      refine Tr.seq ?_
      refine Tr.seq ?_
      refine Tr.reg0 ?_
      refine Ch.op rfl rfl (by decide) (ok_fieldAddr rfl fo42_6 (vl rfl) rfl) ?_
      refine Ch.op rfl rfl (by decide) (ok_load1 rfl one9 (vl rfl)) ?_
      refine Ch.op rfl rfl (by decide) (ok_fieldAddr rfl fo42_6 (vl rfl) rfl) ?_
      refine Ch.op rfl rfl (by decide) (ok_load1 rfl one9 (vl rfl)) ?_
      refine Ch.op rfl rfl (by decide) (ok_call rfl (w_texts) ⟨⟨_, rfl, Pr.le_refl _⟩, ⟨_, rfl, Pr.le_refl _⟩, trivial⟩) ?_
      refine Ch.op rfl rfl (by decide) (ok_assign rfl (vl rfl)) ?_
      refine Ch.nil ?_
      refine Fin.go ?_
      refine Tr.seq ?_
      refine Tr.reg0 ?_
      refine Ch.op rfl rfl (by decide) (ok_move rfl (vl rfl)) ?_
      refine Ch.op rfl rfl (by decide) (ok_int rfl (vl rfl) (vl rfl) rfl) ?_
      refine Ch.nil ?_
      refine Fin.go ?_
      refine Tr.cond rfl (fun h3 => ?_) (fun h3 => ?_)
      ·
        have q3 := Nrm.nrm h3
        refine Tr.seq ?_
        refine Tr.reg0 ?_
        refine Ch.op rfl rfl (by decide) (ok_move rfl (vl rfl)) ?_
        refine Ch.op rfl rfl (by decide) (ok_assign rfl (vl rfl)) ?_
        refine Ch.nil ?_
        refine Fin.go ?_
        refine Tr.weak [(4, _)] ⟨⟨_, rfl, Pr.le_refl _⟩, trivial⟩ ?_
        refine Tr.ret ?_
        refine Fin.then_ret ?_
        refine Fin.ret1 rfl (OutW.bse _ _) rfl ?_
        · refine int_eq ?_; rw [ordF_eq]; rw [or_miss (by assumption), or_miss (by assumption)]; exact (or_hit (by assumption)).symm
      ·
        have q3 := Nrm.nrm h3
        refine Tr.skip ?_
        refine Fin.go ?_
        refine Tr.seq ?_
        refine Tr.seq ?_
        refine Tr.reg0 ?_
        refine Ch.op rfl rfl (by decide) (ok_fieldAddr rfl fo42_5 (vl rfl) rfl) ?_
        refine Ch.op rfl rfl (by decide) (ok_load1 rfl one3 (vl rfl)) ?_
        refine Ch.op rfl rfl (by decide) (ok_fieldAddr rfl fo42_7 (vl rfl) rfl) ?_
        refine Ch.op rfl rfl (by decide) (ok_fieldAddr rfl fo38_0 (vl rfl) rfl) ?_
        refine Ch.op rfl rfl (by decide) (ok_load1 rfl one3 (vl rfl)) ?_
        refine Ch.op rfl rfl (by decide) (ok_fieldAddr rfl fo42_7 (vl rfl) rfl) ?_
        refine Ch.op rfl rfl (by decide) (ok_fieldAddr rfl fo38_1 (vl rfl) rfl) ?_
        refine Ch.op rfl rfl (by decide) (ok_load1 rfl one3 (vl rfl)) ?_
        refine Ch.op rfl rfl (by decide) (ok_fieldAddr rfl fo42_8 (vl rfl) rfl) ?_
        refine Ch.op rfl rfl (by decide) (ok_load1 rfl one3 (vl rfl)) ?_
        refine Ch.op rfl rfl (by decide) (ok_buildSlice (xs := [.tmp 41, .tmp 44, .tmp 47, .tmp 49]) (rows := [[_], [_], [_], [_]]) rfl rfl Tryz.underlying22 sz3 z3 rfl (by decide) ⟨⟨(by exact rfl), (VL.le (vl rfl) (one_cellsP _))⟩, ⟨⟨(by exact rfl), (VL.le (vl rfl) (one_cellsP _))⟩, ⟨⟨(by exact rfl), (VL.le (vl rfl) (one_cellsP _))⟩, ⟨⟨(by exact rfl), (VL.le (vl rfl) (one_cellsP _))⟩, trivial⟩⟩⟩⟩ (by decide)) ?_
        refine Ch.op rfl rfl (by decide) (ok_fieldAddr rfl fo42_5 (vl rfl) rfl) ?_
        refine Ch.op rfl rfl (by decide) (ok_load1 rfl one3 (vl rfl)) ?_
        refine Ch.op rfl rfl (by decide) (ok_fieldAddr rfl fo42_7 (vl rfl) rfl) ?_
        refine Ch.op rfl rfl (by decide) (ok_fieldAddr rfl fo38_0 (vl rfl) rfl) ?_
        refine Ch.op rfl rfl (by decide) (ok_load1 rfl one3 (vl rfl)) ?_
        refine Ch.op rfl rfl (by decide) (ok_fieldAddr rfl fo42_7 (vl rfl) rfl) ?_
        refine Ch.op rfl rfl (by decide) (ok_fieldAddr rfl fo38_1 (vl rfl) rfl) ?_
        refine Ch.op rfl rfl (by decide) (ok_load1 rfl one3 (vl rfl)) ?_
        refine Ch.op rfl rfl (by decide) (ok_fieldAddr rfl fo42_8 (vl rfl) rfl) ?_
        refine Ch.op rfl rfl (by decide) (ok_load1 rfl one3 (vl rfl)) ?_
        refine Ch.op rfl rfl (by decide) (ok_buildSlice (xs := [.tmp 52, .tmp 55, .tmp 58, .tmp 60]) (rows := [[_], [_], [_], [_]]) rfl rfl Tryz.underlying22 sz3 z3 rfl (by decide) ⟨⟨(by exact rfl), (VL.le (vl rfl) (one_cellsP _))⟩, ⟨⟨(by exact rfl), (VL.le (vl rfl) (one_cellsP _))⟩, ⟨⟨(by exact rfl), (VL.le (vl rfl) (one_cellsP _))⟩, ⟨⟨(by exact rfl), (VL.le (vl rfl) (one_cellsP _))⟩, trivial⟩⟩⟩⟩ (by decide)) ?_
        refine Ch.op rfl rfl (by decide) (ok_call rfl (w_intsC (a := [a.kind, a.alg, a.bits, a.num]) (b := [b.kind, b.alg, b.bits, b.num]) (by simp)) ⟨⟨_, rfl, full_le _ _⟩, ⟨_, rfl, full_le _ _⟩, trivial⟩) ?_
        refine Ch.op rfl rfl (by decide) (ok_assign rfl (vl rfl)) ?_
        refine Ch.nil ?_
        refine Fin.go ?_
        refine Tr.weak [(2, _), (3, _), (8, _)] ⟨⟨_, rfl, Pr.le_refl _⟩, ⟨_, rfl, Pr.le_refl _⟩, ⟨_, rfl, Pr.le_refl _⟩, trivial⟩ ?_
        refine Tr.seq ?_
        refine Tr.reg0 ?_
        refine Ch.op rfl rfl (by decide) (ok_move rfl (vl rfl)) ?_
        refine Ch.op rfl rfl (by decide) (ok_int rfl (vl rfl) (vl rfl) rfl) ?_
        refine Ch.nil ?_
        refine Fin.go ?_
        refine Tr.cond rfl (fun h4 => ?_) (fun h4 => ?_)
        ·
          have q4 := Nrm.nrm h4
          refine Tr.seq ?_
          refine Tr.reg0 ?_
          refine Ch.op rfl rfl (by decide) (ok_move rfl (vl rfl)) ?_
          refine Ch.op rfl rfl (by decide) (ok_assign rfl (vl rfl)) ?_
          refine Ch.nil ?_
          refine Fin.go ?_
          refine Tr.ret ?_
          refine Fin.then_ret ?_
          refine Fin.ret1 rfl (OutW.bse _ _) rfl ?_
          · refine int_eq ?_; rw [ordF_eq]; rw [or_miss (by assumption), or_miss (by assumption), or_miss (by assumption)]; exact (or_hit (by assumption)).symm
        ·
          have q4 := Nrm.nrm h4
          refine Tr.skip ?_
          refine Fin.go ?_
          refine Tr.seq ?_
          refine Tr.seq ?_
          refine Tr.reg0 ?_
          refine Ch.op rfl rfl (by decide) (ok_fieldAddr rfl fo42_9 (vl rfl) rfl) ?_
          refine Ch.op rfl rfl (by decide) (ok_load1 rfl one9 (vl rfl)) ?_
          refine Ch.op rfl rfl (by decide) (ok_fieldAddr rfl fo42_9 (vl rfl) rfl) ?_
          refine Ch.op rfl rfl (by decide) (ok_load1 rfl one9 (vl rfl)) ?_
          refine Ch.op rfl rfl (by decide) (ok_call rfl (w_texts) ⟨⟨_, rfl, Pr.le_refl _⟩, ⟨_, rfl, Pr.le_refl _⟩, trivial⟩) ?_
          refine Ch.op rfl rfl (by decide) (ok_assign rfl (vl rfl)) ?_
          refine Ch.nil ?_
          refine Fin.go ?_
          refine Tr.seq ?_
          refine Tr.reg0 ?_
          refine Ch.op rfl rfl (by decide) (ok_move rfl (vl rfl)) ?_
          refine Ch.op rfl rfl (by decide) (ok_int rfl (vl rfl) (vl rfl) rfl) ?_
          refine Ch.nil ?_
          refine Fin.go ?_
          refine Tr.cond rfl (fun h5 => ?_) (fun h5 => ?_)
          ·
            have q5 := Nrm.nrm h5
            refine Tr.seq ?_
            refine Tr.reg0 ?_
            refine Ch.op rfl rfl (by decide) (ok_move rfl (vl rfl)) ?_
            refine Ch.op rfl rfl (by decide) (ok_assign rfl (vl rfl)) ?_
            refine Ch.nil ?_
            refine Fin.go ?_
            refine Tr.weak [(4, _)] ⟨⟨_, rfl, Pr.le_refl _⟩, trivial⟩ ?_
            refine Tr.ret ?_
            refine Fin.then_ret ?_
            refine Fin.ret1 rfl (OutW.bse _ _) rfl ?_
            · refine int_eq ?_; rw [ordF_eq]; rw [or_miss (by assumption), or_miss (by assumption), or_miss (by assumption), or_miss (by assumption)]; exact (or_hit (by assumption)).symm
          ·
            have q5 := Nrm.nrm h5
            refine Tr.skip ?_
            refine Fin.go ?_
            refine Tr.seq ?_
            refine Tr.reg0 ?_
            refine Ch.op rfl rfl (by decide) (ok_fieldAddr rfl fo42_0 (vl rfl) rfl) ?_
            refine Ch.op rfl rfl (by decide) (ok_load1 rfl one3 (vl rfl)) ?_
            refine Ch.op rfl rfl (by decide) (ok_fieldAddr rfl fo42_4 (vl rfl) rfl) ?_
            refine Ch.op rfl rfl (by decide) (ok_load1 rfl one3 (vl rfl)) ?_
            refine Ch.op rfl rfl (by decide) (ok_buildSlice (xs := [.tmp 75, .tmp 77]) (rows := [[_], [_]]) rfl rfl Tryz.underlying22 sz3 z3 rfl (by decide) ⟨⟨(by exact rfl), (VL.le (vl rfl) (one_cellsP _))⟩, ⟨⟨(by exact rfl), (VL.le (vl rfl) (one_cellsP _))⟩, trivial⟩⟩ (by decide)) ?_
            refine Ch.op rfl rfl (by decide) (ok_fieldAddr rfl fo42_0 (vl rfl) rfl) ?_
            refine Ch.op rfl rfl (by decide) (ok_load1 rfl one3 (vl rfl)) ?_
            refine Ch.op rfl rfl (by decide) (ok_fieldAddr rfl fo42_4 (vl rfl) rfl) ?_
            refine Ch.op rfl rfl (by decide) (ok_load1 rfl one3 (vl rfl)) ?_
            refine Ch.op rfl rfl (by decide) (ok_buildSlice (xs := [.tmp 80, .tmp 82]) (rows := [[_], [_]]) rfl rfl Tryz.underlying22 sz3 z3 rfl (by decide) ⟨⟨(by exact rfl), (VL.le (vl rfl) (one_cellsP _))⟩, ⟨⟨(by exact rfl), (VL.le (vl rfl) (one_cellsP _))⟩, trivial⟩⟩ (by decide)) ?_
            refine Ch.op rfl rfl (by decide) (ok_call rfl (w_intsC (a := [a.src, a.conf]) (b := [b.src, b.conf]) (by simp)) ⟨⟨_, rfl, full_le _ _⟩, ⟨_, rfl, full_le _ _⟩, trivial⟩) ?_
            refine Ch.op rfl rfl (by decide) (ok_assign rfl (vl rfl)) ?_
            refine Ch.nil ?_
            refine Fin.go ?_
            refine Tr.weak [(4, _)] ⟨⟨_, rfl, Pr.le_refl _⟩, trivial⟩ ?_
            refine Tr.ret ?_
            refine Fin.ret1 rfl (OutW.bse _ _) rfl ?_
            · refine int_eq ?_; rw [ordF_eq, or_miss (by assumption), or_miss (by assumption), or_miss (by assumption), or_miss (by assumption), or_miss (by assumption)]; rw [intsC_2]; unfold orL; split <;> simp_all [orL]
theorem e_R14Order : Entry Tryz.prog 77 := ⟨_, Tryz.func77, rfl, rfl⟩
end Go.Proofs.YthmnoekgicggnaaGreat
