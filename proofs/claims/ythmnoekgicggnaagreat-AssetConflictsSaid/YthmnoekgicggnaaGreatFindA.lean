/-
  What the functions named below compute, proved from their text; printed by a program of our own.
-/
import Derived.Test.YthmnoekgicggnaaGreatTypes
import Derived.Test.YthmnoekgicggnaaGreatSlices
import Derived.Test.YthmnoekgicggnaaGreatEqs
import Derived.Test.YthmnoekgicggnaaGreatCat
import Derived.Test.YthmnoekgicggnaaGreatCat2
import Derived.Test.YthmnoekgicggnaaGreatCat3
import Derived.Test.YthmnoekgicggnaaGreatCat5
namespace Go.Proofs.YthmnoekgicggnaaGreat
open Go Go.RowKit Cp

/-- A finding. -/
structure Fnd where
  src : Int
  host : List UInt8
  machine : Int
  day : Int
  conf : Int
  kind : Int
  subj : List UInt8
  alg : Int
  bits : Int
  num : Int
  text : List UInt8
abbrev rowF (f : Fnd) : List Pr := [int f.src, str f.host, int f.machine, int f.day, int f.conf, int f.kind, str f.subj, int f.alg, int f.bits, int f.num, str f.text]
abbrev fnds (l : List Fnd) : Pr := slice 11 (l.map rowF)
/-- Its texts are of some length. -/
structure Fnd.fits (f : Fnd) : Prop where
  host : f.host.length ≤ maxLen
  subj : f.subj.length ≤ maxLen
  text : f.text.length ≤ maxLen
def bareF (f : Fnd) : Bool := decide (f.alg = 0 ∧ f.bits = 0) && decide (f.text = [])
def contentF (f : Fnd) : Bool :=
  if f.kind = 1 ∨ f.kind = 8 then decide (strength f.alg f.bits > 0) && decide (f.num = 0) && decide (f.text = [])
  else if f.kind = 2 then bareF f && decide (0 ≤ f.num) && decide (f.num ≤ 65535)
  else if f.kind = 3 then decide (strength f.alg f.bits > 0) && (catOf f.alg).kind == 2 && decide (0 ≤ f.num) && decide (f.num ≤ 2147483648) && decide (f.text = [])
  else if f.kind = 4 ∨ f.kind = 5 then bareF f && decide (1 ≤ f.num) && decide (f.num ≤ 4)
  else if f.kind = 6 then bareF f && decide (0 ≤ f.num) && decide (f.num ≤ 2147483648)
  else if f.kind = 7 then decide (f.alg = 0 ∧ f.bits = 0) && decide (f.num = 0) && named f.text
  else false
def whereF (f : Fnd) : Bool := named f.host && named f.subj && decide (0 ≤ f.machine) && decide (f.machine ≤ 1099511627776)
def whenF (f : Fnd) : Bool := decide (0 ≤ f.day) && decide (f.day ≤ 40000) && decide (1 ≤ f.conf) && decide (f.conf ≤ 100)
def checkF (f : Fnd) : Bool := whereF f && whenF f && decide (1 ≤ f.src) && decide (f.src ≤ 7) && contentF f

set_option maxRecDepth 20000 in
theorem w_content {f : Fnd} (hf : f.fits) : Fun Tryz.prog 89 [agg (rowF f)] (bool (contentF f)) := by
  refine Fun.of Tryz.func89 rfl rfl (by exact Nat.le_of_ble_eq_true rfl) fun M0 w0 => ?_
  refine Tr.seq ?_
  refine Tr.reg0 ?_
  refine Ch.op rfl rfl (by decide) (ok_box rfl (VL.le (vl rfl) (agg_cellsP _))) ?_
  refine Ch.op rfl rfl (by decide) (ok_assign rfl (vl rfl)) ?_
  refine Ch.nil ?_
  refine Fin.go ?_
  refine Tr.weak [(1, _)] ⟨⟨_, rfl, Pr.le_refl _⟩, trivial⟩ ?_
  refine Tr.cutk [1] [(3, bool (bareF f))] (True) ?_ (fun h1 => ?_)
  ·
    refine Tr.reg0 ?_
    refine Ch.op rfl rfl (by decide) (ok_fieldAddr rfl fo42_7 (vl rfl) rfl) ?_
    refine Ch.op rfl rfl (by decide) (ok_loadA rfl agg38 sz38 (vl rfl) rfl rfl) ?_
    refine Ch.op rfl rfl (by decide) (ok_build (rows := []) rfl bl38 zo38 trivial rfl) ?_
    refine Ch.op rfl rfl (by decide) (ok_eq38 rfl (vl rfl) (vl rfl)) ?_
    refine Ch.op rfl rfl (by decide) (ok_move rfl (vl rfl)) ?_
    refine Ch.cases 8 rfl (fun h2 => ?_) (fun h2 => ?_)
    ·
      have q2 := Nrm.nrm h2
      refine Ch.yes rfl rfl rfl h2 rfl (by decide) (ok_fieldAddr rfl fo42_9 (vl rfl) rfl) ?_
      refine Ch.yes rfl rfl rfl h2 rfl (by decide) (ok_load1 rfl one9 (vl rfl)) ?_
      refine Ch.yes rfl rfl rfl h2 rfl (by decide) (ok_eqs rfl (vl rfl) (vl rfl)) ?_
      refine Ch.op rfl rfl (by decide) (ok_pick_t rfl (vl rfl) h2 (vl rfl)) ?_
      refine Ch.op rfl rfl (by decide) (ok_assign rfl (vl rfl)) ?_
      refine Ch.nil ?_
      exact Fin.fam_same () (by simp_all) ⟨⟨_, rfl, bool_eq (by first | (simp_all [bareF]; done) | (simp_all [bareF]; omega))⟩, ⟨_, rfl, Pr.le_refl _⟩, trivial⟩
    ·
      have q2 := Nrm.nrm h2
      refine Ch.no rfl rfl rfl (ne_true h2) rfl (by decide) ?_
      refine Ch.no rfl rfl rfl (ne_true h2) rfl (by decide) ?_
      refine Ch.no rfl rfl rfl (ne_true h2) rfl (by decide) ?_
      refine Ch.op rfl rfl (by decide) (ok_pick_f rfl (vl rfl) h2 (vl rfl)) ?_
      refine Ch.op rfl rfl (by decide) (ok_assign rfl (vl rfl)) ?_
      refine Ch.nil ?_
      exact Fin.fam_same () (by simp_all) ⟨⟨_, rfl, bool_eq (by first | (simp_all [bareF]; done) | (simp_all [bareF]; omega))⟩, ⟨_, rfl, Pr.le_refl _⟩, trivial⟩
  ·
    refine Tr.seq ?_
    refine Tr.seq ?_
    refine Tr.reg0 ?_
    refine Ch.op rfl rfl (by decide) (ok_fieldAddr rfl fo42_5 (vl rfl) rfl) ?_
    refine Ch.op rfl rfl (by decide) (ok_load1 rfl one3 (vl rfl)) ?_
    refine Ch.nil ?_
    refine Fin.go ?_
    refine Tr.block ?_
    refine Tr.seq ?_
    refine Tr.seq ?_
    refine Tr.reg0 ?_
    refine Ch.op rfl rfl (by decide) (ok_int rfl (vl rfl) (vl rfl) rfl) ?_
    refine Ch.op rfl rfl (by decide) (ok_assign rfl (vl rfl)) ?_
    refine Ch.nil ?_
    refine Fin.go ?_
    refine Tr.cond rfl (fun h3 => ?_) (fun h3 => ?_)
    ·
      have q3 := Nrm.nrm h3
      refine Tr.skip ?_
      refine Fin.go ?_
      refine Tr.cond rfl (fun _ => ?_) (fun h => nomatch h3.symm.trans h)
      refine Tr.seq ?_
      refine Tr.reg0 ?_
      refine Ch.op rfl rfl (by decide) (ok_fieldAddr rfl fo42_7 (vl rfl) rfl) ?_
      refine Ch.op rfl rfl (by decide) (ok_loadA rfl agg38 sz38 (vl rfl) rfl rfl) ?_
      refine Ch.op rfl rfl (by decide) (ok_call rfl (w_Valid) ⟨⟨_, rfl, Pr.le_refl _⟩, trivial⟩) ?_
      refine Ch.op rfl rfl (by decide) (ok_move rfl (vl rfl)) ?_
      refine Ch.cases 21 rfl (fun h4 => ?_) (fun h4 => ?_)
      ·
        have q4 := Nrm.nrm h4
        refine Ch.yes rfl rfl rfl h4 rfl (by decide) (ok_fieldAddr rfl fo42_8 (vl rfl) rfl) ?_
        refine Ch.yes rfl rfl rfl h4 rfl (by decide) (ok_load1 rfl one3 (vl rfl)) ?_
        refine Ch.yes rfl rfl rfl h4 rfl (by decide) (ok_int rfl (vl rfl) (vl rfl) rfl) ?_
        refine Ch.op rfl rfl (by decide) (ok_pick_t rfl (vl rfl) h4 (vl rfl)) ?_
        refine Ch.op rfl rfl (by decide) (ok_move rfl (vl rfl)) ?_
        refine Ch.cases 26 rfl (fun h5 => ?_) (fun h5 => ?_)
        ·
          have q5 := Nrm.nrm h5
          refine Ch.yes rfl rfl rfl h5 rfl (by decide) (ok_fieldAddr rfl fo42_9 (vl rfl) rfl) ?_
          refine Ch.yes rfl rfl rfl h5 rfl (by decide) (ok_load1 rfl one9 (vl rfl)) ?_
          refine Ch.yes rfl rfl rfl h5 rfl (by decide) (ok_eqs rfl (vl rfl) (vl rfl)) ?_
          refine Ch.op rfl rfl (by decide) (ok_pick_t rfl (vl rfl) h5 (vl rfl)) ?_
          refine Ch.op rfl rfl (by decide) (ok_assign rfl (vl rfl)) ?_
          refine Ch.nil ?_
          refine Fin.go ?_
          refine Tr.weak [(2, _)] ⟨⟨_, rfl, Pr.le_refl _⟩, trivial⟩ ?_
          refine Tr.ret ?_
          refine Fin.block_ret ?_
          refine Fin.then_ret ?_
          refine Fin.ret1 rfl (OutW.bse _ _) rfl ?_
          · refine bool_eq ?_; unfold contentF; first | (simp_all; done) | (simp_all; omega)
        ·
          have q5 := Nrm.nrm h5
          refine Ch.no rfl rfl rfl (ne_true h5) rfl (by decide) ?_
          refine Ch.no rfl rfl rfl (ne_true h5) rfl (by decide) ?_
          refine Ch.no rfl rfl rfl (ne_true h5) rfl (by decide) ?_
          refine Ch.op rfl rfl (by decide) (ok_pick_f rfl (vl rfl) h5 (vl rfl)) ?_
          refine Ch.op rfl rfl (by decide) (ok_assign rfl (vl rfl)) ?_
          refine Ch.nil ?_
          refine Fin.go ?_
          refine Tr.weak [(2, _)] ⟨⟨_, rfl, Pr.le_refl _⟩, trivial⟩ ?_
          refine Tr.ret ?_
          refine Fin.block_ret ?_
          refine Fin.then_ret ?_
          refine Fin.ret1 rfl (OutW.bse _ _) rfl ?_
          · refine bool_eq ?_; unfold contentF; first | (simp_all; done) | (simp_all; omega)
      ·
        have q4 := Nrm.nrm h4
        refine Ch.no rfl rfl rfl (ne_true h4) rfl (by decide) ?_
        refine Ch.no rfl rfl rfl (ne_true h4) rfl (by decide) ?_
        refine Ch.no rfl rfl rfl (ne_true h4) rfl (by decide) ?_
        refine Ch.op rfl rfl (by decide) (ok_pick_f rfl (vl rfl) h4 (vl rfl)) ?_
        refine Ch.op rfl rfl (by decide) (ok_move rfl (vl rfl)) ?_
        refine Ch.no rfl rfl rfl (by decide) rfl (by decide) ?_
        refine Ch.no rfl rfl rfl (by decide) rfl (by decide) ?_
        refine Ch.no rfl rfl rfl (by decide) rfl (by decide) ?_
        refine Ch.op rfl rfl (by decide) (ok_pick_f rfl (vl rfl) rfl (vl rfl)) ?_
        refine Ch.op rfl rfl (by decide) (ok_assign rfl (vl rfl)) ?_
        refine Ch.nil ?_
        refine Fin.go ?_
        refine Tr.weak [(2, _)] ⟨⟨_, rfl, Pr.le_refl _⟩, trivial⟩ ?_
        refine Tr.ret ?_
        refine Fin.block_ret ?_
        refine Fin.then_ret ?_
        refine Fin.ret1 rfl (OutW.bse _ _) rfl ?_
        · refine bool_eq ?_; unfold contentF; first | (simp_all; done) | (simp_all; omega)
    ·
      have q3 := Nrm.nrm h3
      refine Tr.reg0 ?_
      refine Ch.op rfl rfl (by decide) (ok_int rfl (vl rfl) (vl rfl) rfl) ?_
      refine Ch.op rfl rfl (by decide) (ok_assign rfl (vl rfl)) ?_
      refine Ch.nil ?_
      refine Fin.go ?_
      refine Tr.cond rfl (fun h6 => ?_) (fun h6 => ?_)
      ·
        have q6 := Nrm.nrm h6
        refine Tr.seq ?_
        refine Tr.reg0 ?_
        refine Ch.op rfl rfl (by decide) (ok_fieldAddr rfl fo42_7 (vl rfl) rfl) ?_
        refine Ch.op rfl rfl (by decide) (ok_loadA rfl agg38 sz38 (vl rfl) rfl rfl) ?_
        refine Ch.op rfl rfl (by decide) (ok_call rfl (w_Valid) ⟨⟨_, rfl, Pr.le_refl _⟩, trivial⟩) ?_
        refine Ch.op rfl rfl (by decide) (ok_move rfl (vl rfl)) ?_
        refine Ch.cases 21 rfl (fun h7 => ?_) (fun h7 => ?_)
        ·
          have q7 := Nrm.nrm h7
          refine Ch.yes rfl rfl rfl h7 rfl (by decide) (ok_fieldAddr rfl fo42_8 (vl rfl) rfl) ?_
          refine Ch.yes rfl rfl rfl h7 rfl (by decide) (ok_load1 rfl one3 (vl rfl)) ?_
          refine Ch.yes rfl rfl rfl h7 rfl (by decide) (ok_int rfl (vl rfl) (vl rfl) rfl) ?_
          refine Ch.op rfl rfl (by decide) (ok_pick_t rfl (vl rfl) h7 (vl rfl)) ?_
          refine Ch.op rfl rfl (by decide) (ok_move rfl (vl rfl)) ?_
          refine Ch.cases 26 rfl (fun h8 => ?_) (fun h8 => ?_)
          ·
            have q8 := Nrm.nrm h8
            refine Ch.yes rfl rfl rfl h8 rfl (by decide) (ok_fieldAddr rfl fo42_9 (vl rfl) rfl) ?_
            refine Ch.yes rfl rfl rfl h8 rfl (by decide) (ok_load1 rfl one9 (vl rfl)) ?_
            refine Ch.yes rfl rfl rfl h8 rfl (by decide) (ok_eqs rfl (vl rfl) (vl rfl)) ?_
            refine Ch.op rfl rfl (by decide) (ok_pick_t rfl (vl rfl) h8 (vl rfl)) ?_
            refine Ch.op rfl rfl (by decide) (ok_assign rfl (vl rfl)) ?_
            refine Ch.nil ?_
            refine Fin.go ?_
            refine Tr.weak [(2, _)] ⟨⟨_, rfl, Pr.le_refl _⟩, trivial⟩ ?_
            refine Tr.ret ?_
            refine Fin.block_ret ?_
            refine Fin.then_ret ?_
            refine Fin.ret1 rfl (OutW.bse _ _) rfl ?_
            · refine bool_eq ?_; unfold contentF; first | (simp_all; done) | (simp_all; omega)
          ·
            have q8 := Nrm.nrm h8
            refine Ch.no rfl rfl rfl (ne_true h8) rfl (by decide) ?_
            refine Ch.no rfl rfl rfl (ne_true h8) rfl (by decide) ?_
            refine Ch.no rfl rfl rfl (ne_true h8) rfl (by decide) ?_
            refine Ch.op rfl rfl (by decide) (ok_pick_f rfl (vl rfl) h8 (vl rfl)) ?_
            refine Ch.op rfl rfl (by decide) (ok_assign rfl (vl rfl)) ?_
            refine Ch.nil ?_
            refine Fin.go ?_
            refine Tr.weak [(2, _)] ⟨⟨_, rfl, Pr.le_refl _⟩, trivial⟩ ?_
            refine Tr.ret ?_
            refine Fin.block_ret ?_
            refine Fin.then_ret ?_
            refine Fin.ret1 rfl (OutW.bse _ _) rfl ?_
            · refine bool_eq ?_; unfold contentF; first | (simp_all; done) | (simp_all; omega)
        ·
          have q7 := Nrm.nrm h7
          refine Ch.no rfl rfl rfl (ne_true h7) rfl (by decide) ?_
          refine Ch.no rfl rfl rfl (ne_true h7) rfl (by decide) ?_
          refine Ch.no rfl rfl rfl (ne_true h7) rfl (by decide) ?_
          refine Ch.op rfl rfl (by decide) (ok_pick_f rfl (vl rfl) h7 (vl rfl)) ?_
          refine Ch.op rfl rfl (by decide) (ok_move rfl (vl rfl)) ?_
          refine Ch.no rfl rfl rfl (by decide) rfl (by decide) ?_
          refine Ch.no rfl rfl rfl (by decide) rfl (by decide) ?_
          refine Ch.no rfl rfl rfl (by decide) rfl (by decide) ?_
          refine Ch.op rfl rfl (by decide) (ok_pick_f rfl (vl rfl) rfl (vl rfl)) ?_
          refine Ch.op rfl rfl (by decide) (ok_assign rfl (vl rfl)) ?_
          refine Ch.nil ?_
          refine Fin.go ?_
          refine Tr.weak [(2, _)] ⟨⟨_, rfl, Pr.le_refl _⟩, trivial⟩ ?_
          refine Tr.ret ?_
          refine Fin.block_ret ?_
          refine Fin.then_ret ?_
          refine Fin.ret1 rfl (OutW.bse _ _) rfl ?_
          · refine bool_eq ?_; unfold contentF; first | (simp_all; done) | (simp_all; omega)
      ·
        have q6 := Nrm.nrm h6
        refine Tr.seq ?_
        refine Tr.reg0 ?_
        refine Ch.op rfl rfl (by decide) (ok_int rfl (vl rfl) (vl rfl) rfl) ?_
        refine Ch.op rfl rfl (by decide) (ok_assign rfl (vl rfl)) ?_
        refine Ch.nil ?_
        refine Fin.go ?_
        refine Tr.cond rfl (fun h9 => ?_) (fun h9 => ?_)
        ·
          have q9 := Nrm.nrm h9
          refine Tr.seq ?_
          refine Tr.reg0 ?_
          refine Ch.op rfl rfl (by decide) (ok_move rfl (vl rfl)) ?_
          refine Ch.op rfl rfl (by decide) (ok_move rfl (vl rfl)) ?_
          refine Ch.cases 34 rfl (fun h10 => ?_) (fun h10 => ?_)
          ·
            have q10 := Nrm.nrm h10
            refine Ch.yes rfl rfl rfl h10 rfl (by decide) (ok_fieldAddr rfl fo42_8 (vl rfl) rfl) ?_
            refine Ch.yes rfl rfl rfl h10 rfl (by decide) (ok_load1 rfl one3 (vl rfl)) ?_
            refine Ch.yes rfl rfl rfl h10 rfl (by decide) (ok_int rfl (vl rfl) (vl rfl) rfl) ?_
            refine Ch.op rfl rfl (by decide) (ok_pick_t rfl (vl rfl) h10 (vl rfl)) ?_
            refine Ch.op rfl rfl (by decide) (ok_move rfl (vl rfl)) ?_
            refine Ch.cases 39 rfl (fun h11 => ?_) (fun h11 => ?_)
            ·
              have q11 := Nrm.nrm h11
              refine Ch.yes rfl rfl rfl h11 rfl (by decide) (ok_fieldAddr rfl fo42_8 (vl rfl) rfl) ?_
              refine Ch.yes rfl rfl rfl h11 rfl (by decide) (ok_load1 rfl one3 (vl rfl)) ?_
              refine Ch.yes rfl rfl rfl h11 rfl (by decide) (ok_int rfl (vl rfl) (vl rfl) rfl) ?_
              refine Ch.op rfl rfl (by decide) (ok_pick_t rfl (vl rfl) h11 (vl rfl)) ?_
              refine Ch.op rfl rfl (by decide) (ok_assign rfl (vl rfl)) ?_
              refine Ch.nil ?_
              refine Fin.go ?_
              refine Tr.weak [(2, _)] ⟨⟨_, rfl, Pr.le_refl _⟩, trivial⟩ ?_
              refine Tr.ret ?_
              refine Fin.block_ret ?_
              refine Fin.then_ret ?_
              refine Fin.ret1 rfl (OutW.bse _ _) rfl ?_
              · refine bool_eq ?_; unfold contentF; first | (simp_all; done) | (simp_all; omega)
            ·
              have q11 := Nrm.nrm h11
              refine Ch.no rfl rfl rfl (ne_true h11) rfl (by decide) ?_
              refine Ch.no rfl rfl rfl (ne_true h11) rfl (by decide) ?_
              refine Ch.no rfl rfl rfl (ne_true h11) rfl (by decide) ?_
              refine Ch.op rfl rfl (by decide) (ok_pick_f rfl (vl rfl) h11 (vl rfl)) ?_
              refine Ch.op rfl rfl (by decide) (ok_assign rfl (vl rfl)) ?_
              refine Ch.nil ?_
              refine Fin.go ?_
              refine Tr.weak [(2, _)] ⟨⟨_, rfl, Pr.le_refl _⟩, trivial⟩ ?_
              refine Tr.ret ?_
              refine Fin.block_ret ?_
              refine Fin.then_ret ?_
              refine Fin.ret1 rfl (OutW.bse _ _) rfl ?_
              · refine bool_eq ?_; unfold contentF; first | (simp_all; done) | (simp_all; omega)
          ·
            have q10 := Nrm.nrm h10
            refine Ch.no rfl rfl rfl (ne_true h10) rfl (by decide) ?_
            refine Ch.no rfl rfl rfl (ne_true h10) rfl (by decide) ?_
            refine Ch.no rfl rfl rfl (ne_true h10) rfl (by decide) ?_
            refine Ch.op rfl rfl (by decide) (ok_pick_f rfl (vl rfl) h10 (vl rfl)) ?_
            refine Ch.op rfl rfl (by decide) (ok_move rfl (vl rfl)) ?_
            refine Ch.no rfl rfl rfl (by decide) rfl (by decide) ?_
            refine Ch.no rfl rfl rfl (by decide) rfl (by decide) ?_
            refine Ch.no rfl rfl rfl (by decide) rfl (by decide) ?_
            refine Ch.op rfl rfl (by decide) (ok_pick_f rfl (vl rfl) rfl (vl rfl)) ?_
            refine Ch.op rfl rfl (by decide) (ok_assign rfl (vl rfl)) ?_
            refine Ch.nil ?_
            refine Fin.go ?_
            refine Tr.weak [(2, _)] ⟨⟨_, rfl, Pr.le_refl _⟩, trivial⟩ ?_
            refine Tr.ret ?_
            refine Fin.block_ret ?_
            refine Fin.then_ret ?_
            refine Fin.ret1 rfl (OutW.bse _ _) rfl ?_
            · refine bool_eq ?_; unfold contentF; first | (simp_all; done) | (simp_all; omega)
        ·
          have q9 := Nrm.nrm h9
          refine Tr.seq ?_
          refine Tr.reg0 ?_
          refine Ch.op rfl rfl (by decide) (ok_int rfl (vl rfl) (vl rfl) rfl) ?_
          refine Ch.op rfl rfl (by decide) (ok_assign rfl (vl rfl)) ?_
          refine Ch.nil ?_
          refine Fin.go ?_
          refine Tr.cond rfl (fun h12 => ?_) (fun h12 => ?_)
          ·
            have q12 := Nrm.nrm h12
            refine Tr.seq ?_
            refine Tr.reg0 ?_
            refine Ch.op rfl rfl (by decide) (ok_fieldAddr rfl fo42_7 (vl rfl) rfl) ?_
            refine Ch.op rfl rfl (by decide) (ok_loadA rfl agg38 sz38 (vl rfl) rfl rfl) ?_
            refine Ch.op rfl rfl (by decide) (ok_call rfl (w_Valid) ⟨⟨_, rfl, Pr.le_refl _⟩, trivial⟩) ?_
            refine Ch.op rfl rfl (by decide) (ok_move rfl (vl rfl)) ?_
            refine Ch.cases 49 rfl (fun h13 => ?_) (fun h13 => ?_)
            ·
              have q13 := Nrm.nrm h13
              refine Ch.yes rfl rfl rfl h13 rfl (by decide) (ok_fieldAddr rfl fo42_7 (vl rfl) rfl) ?_
              refine Ch.yes rfl rfl rfl h13 rfl (by decide) (ok_fieldAddr rfl fo38_0 (vl rfl) rfl) ?_
              refine Ch.yes rfl rfl rfl h13 rfl (by decide) (ok_load1 rfl one3 (vl rfl)) ?_
              refine Ch.yes rfl rfl rfl h13 rfl (by decide) (ok_call rfl (w_Kind) ⟨⟨_, rfl, Pr.le_refl _⟩, trivial⟩) ?_
              refine Ch.yes rfl rfl rfl h13 rfl (by decide) (ok_int rfl (vl rfl) (vl rfl) rfl) ?_
              refine Ch.op rfl rfl (by decide) (ok_pick_t rfl (vl rfl) h13 (vl rfl)) ?_
              refine Ch.op rfl rfl (by decide) (ok_move rfl (vl rfl)) ?_
              refine Ch.cases 56 rfl (fun h14 => ?_) (fun h14 => ?_)
              ·
                have q14 := Nrm.nrm h14
                refine Ch.yes rfl rfl rfl h14 rfl (by decide) (ok_fieldAddr rfl fo42_8 (vl rfl) rfl) ?_
                refine Ch.yes rfl rfl rfl h14 rfl (by decide) (ok_load1 rfl one3 (vl rfl)) ?_
                refine Ch.yes rfl rfl rfl h14 rfl (by decide) (ok_int rfl (vl rfl) (vl rfl) rfl) ?_
                refine Ch.op rfl rfl (by decide) (ok_pick_t rfl (vl rfl) h14 (vl rfl)) ?_
                refine Ch.op rfl rfl (by decide) (ok_move rfl (vl rfl)) ?_
                refine Ch.cases 61 rfl (fun h15 => ?_) (fun h15 => ?_)
                ·
                  have q15 := Nrm.nrm h15
                  refine Ch.yes rfl rfl rfl h15 rfl (by decide) (ok_fieldAddr rfl fo42_8 (vl rfl) rfl) ?_
                  refine Ch.yes rfl rfl rfl h15 rfl (by decide) (ok_load1 rfl one3 (vl rfl)) ?_
                  refine Ch.yes rfl rfl rfl h15 rfl (by decide) (ok_int rfl (vl rfl) (vl rfl) rfl) ?_
                  refine Ch.op rfl rfl (by decide) (ok_pick_t rfl (vl rfl) h15 (vl rfl)) ?_
                  refine Ch.op rfl rfl (by decide) (ok_move rfl (vl rfl)) ?_
                  refine Ch.cases 66 rfl (fun h16 => ?_) (fun h16 => ?_)
                  ·
                    have q16 := Nrm.nrm h16
                    refine Ch.yes rfl rfl rfl h16 rfl (by decide) (ok_fieldAddr rfl fo42_9 (vl rfl) rfl) ?_
                    refine Ch.yes rfl rfl rfl h16 rfl (by decide) (ok_load1 rfl one9 (vl rfl)) ?_
                    refine Ch.yes rfl rfl rfl h16 rfl (by decide) (ok_eqs rfl (vl rfl) (vl rfl)) ?_
                    refine Ch.op rfl rfl (by decide) (ok_pick_t rfl (vl rfl) h16 (vl rfl)) ?_
                    refine Ch.op rfl rfl (by decide) (ok_assign rfl (vl rfl)) ?_
                    refine Ch.nil ?_
                    refine Fin.go ?_
                    refine Tr.weak [(2, _)] ⟨⟨_, rfl, Pr.le_refl _⟩, trivial⟩ ?_
                    refine Tr.ret ?_
                    refine Fin.block_ret ?_
                    refine Fin.then_ret ?_
                    refine Fin.ret1 rfl (OutW.bse _ _) rfl ?_
                    · refine bool_eq ?_; unfold contentF; first | (simp_all; done) | (simp_all; omega)
                  ·
                    have q16 := Nrm.nrm h16
                    refine Ch.no rfl rfl rfl (ne_true h16) rfl (by decide) ?_
                    refine Ch.no rfl rfl rfl (ne_true h16) rfl (by decide) ?_
                    refine Ch.no rfl rfl rfl (ne_true h16) rfl (by decide) ?_
                    refine Ch.op rfl rfl (by decide) (ok_pick_f rfl (vl rfl) h16 (vl rfl)) ?_
                    refine Ch.op rfl rfl (by decide) (ok_assign rfl (vl rfl)) ?_
                    refine Ch.nil ?_
                    refine Fin.go ?_
                    refine Tr.weak [(2, _)] ⟨⟨_, rfl, Pr.le_refl _⟩, trivial⟩ ?_
                    refine Tr.ret ?_
                    refine Fin.block_ret ?_
                    refine Fin.then_ret ?_
                    refine Fin.ret1 rfl (OutW.bse _ _) rfl ?_
                    · refine bool_eq ?_; unfold contentF; first | (simp_all; done) | (simp_all; omega)
                ·
                  have q15 := Nrm.nrm h15
                  refine Ch.no rfl rfl rfl (ne_true h15) rfl (by decide) ?_
                  refine Ch.no rfl rfl rfl (ne_true h15) rfl (by decide) ?_
                  refine Ch.no rfl rfl rfl (ne_true h15) rfl (by decide) ?_
                  refine Ch.op rfl rfl (by decide) (ok_pick_f rfl (vl rfl) h15 (vl rfl)) ?_
                  refine Ch.op rfl rfl (by decide) (ok_move rfl (vl rfl)) ?_
                  refine Ch.no rfl rfl rfl (by decide) rfl (by decide) ?_
                  refine Ch.no rfl rfl rfl (by decide) rfl (by decide) ?_
                  refine Ch.no rfl rfl rfl (by decide) rfl (by decide) ?_
                  refine Ch.op rfl rfl (by decide) (ok_pick_f rfl (vl rfl) rfl (vl rfl)) ?_
                  refine Ch.op rfl rfl (by decide) (ok_assign rfl (vl rfl)) ?_
                  refine Ch.nil ?_
                  refine Fin.go ?_
                  refine Tr.weak [(2, _)] ⟨⟨_, rfl, Pr.le_refl _⟩, trivial⟩ ?_
                  refine Tr.ret ?_
                  refine Fin.block_ret ?_
                  refine Fin.then_ret ?_
                  refine Fin.ret1 rfl (OutW.bse _ _) rfl ?_
                  · refine bool_eq ?_; unfold contentF; first | (simp_all; done) | (simp_all; omega)
              ·
                have q14 := Nrm.nrm h14
                refine Ch.no rfl rfl rfl (ne_true h14) rfl (by decide) ?_
                refine Ch.no rfl rfl rfl (ne_true h14) rfl (by decide) ?_
                refine Ch.no rfl rfl rfl (ne_true h14) rfl (by decide) ?_
                refine Ch.op rfl rfl (by decide) (ok_pick_f rfl (vl rfl) h14 (vl rfl)) ?_
                refine Ch.op rfl rfl (by decide) (ok_move rfl (vl rfl)) ?_
                refine Ch.no rfl rfl rfl (by decide) rfl (by decide) ?_
                refine Ch.no rfl rfl rfl (by decide) rfl (by decide) ?_
                refine Ch.no rfl rfl rfl (by decide) rfl (by decide) ?_
                refine Ch.op rfl rfl (by decide) (ok_pick_f rfl (vl rfl) rfl (vl rfl)) ?_
                refine Ch.op rfl rfl (by decide) (ok_move rfl (vl rfl)) ?_
                refine Ch.no rfl rfl rfl (by decide) rfl (by decide) ?_
                refine Ch.no rfl rfl rfl (by decide) rfl (by decide) ?_
                refine Ch.no rfl rfl rfl (by decide) rfl (by decide) ?_
                refine Ch.op rfl rfl (by decide) (ok_pick_f rfl (vl rfl) rfl (vl rfl)) ?_
                refine Ch.op rfl rfl (by decide) (ok_assign rfl (vl rfl)) ?_
                refine Ch.nil ?_
                refine Fin.go ?_
                refine Tr.weak [(2, _)] ⟨⟨_, rfl, Pr.le_refl _⟩, trivial⟩ ?_
                refine Tr.ret ?_
                refine Fin.block_ret ?_
                refine Fin.then_ret ?_
                refine Fin.ret1 rfl (OutW.bse _ _) rfl ?_
                · refine bool_eq ?_; unfold contentF; first | (simp_all; done) | (simp_all; omega)
            ·
              have q13 := Nrm.nrm h13
              refine Ch.no rfl rfl rfl (ne_true h13) rfl (by decide) ?_
              refine Ch.no rfl rfl rfl (ne_true h13) rfl (by decide) ?_
              refine Ch.no rfl rfl rfl (ne_true h13) rfl (by decide) ?_
              refine Ch.no rfl rfl rfl (ne_true h13) rfl (by decide) ?_
              refine Ch.no rfl rfl rfl (ne_true h13) rfl (by decide) ?_
              refine Ch.op rfl rfl (by decide) (ok_pick_f rfl (vl rfl) h13 (vl rfl)) ?_
              refine Ch.op rfl rfl (by decide) (ok_move rfl (vl rfl)) ?_
              refine Ch.no rfl rfl rfl (by decide) rfl (by decide) ?_
              refine Ch.no rfl rfl rfl (by decide) rfl (by decide) ?_
              refine Ch.no rfl rfl rfl (by decide) rfl (by decide) ?_
              refine Ch.op rfl rfl (by decide) (ok_pick_f rfl (vl rfl) rfl (vl rfl)) ?_
              refine Ch.op rfl rfl (by decide) (ok_move rfl (vl rfl)) ?_
              refine Ch.no rfl rfl rfl (by decide) rfl (by decide) ?_
              refine Ch.no rfl rfl rfl (by decide) rfl (by decide) ?_
              refine Ch.no rfl rfl rfl (by decide) rfl (by decide) ?_
              refine Ch.op rfl rfl (by decide) (ok_pick_f rfl (vl rfl) rfl (vl rfl)) ?_
              refine Ch.op rfl rfl (by decide) (ok_move rfl (vl rfl)) ?_
              refine Ch.no rfl rfl rfl (by decide) rfl (by decide) ?_
              refine Ch.no rfl rfl rfl (by decide) rfl (by decide) ?_
              refine Ch.no rfl rfl rfl (by decide) rfl (by decide) ?_
              refine Ch.op rfl rfl (by decide) (ok_pick_f rfl (vl rfl) rfl (vl rfl)) ?_
              refine Ch.op rfl rfl (by decide) (ok_assign rfl (vl rfl)) ?_
              refine Ch.nil ?_
              refine Fin.go ?_
              refine Tr.weak [(2, _)] ⟨⟨_, rfl, Pr.le_refl _⟩, trivial⟩ ?_
              refine Tr.ret ?_
              refine Fin.block_ret ?_
              refine Fin.then_ret ?_
              refine Fin.ret1 rfl (OutW.bse _ _) rfl ?_
              · refine bool_eq ?_; unfold contentF; first | (simp_all; done) | (simp_all; omega)
          ·
            have q12 := Nrm.nrm h12
            refine Tr.seq ?_
            refine Tr.seq ?_
            refine Tr.reg0 ?_
            refine Ch.op rfl rfl (by decide) (ok_int rfl (vl rfl) (vl rfl) rfl) ?_
            refine Ch.op rfl rfl (by decide) (ok_assign rfl (vl rfl)) ?_
            refine Ch.nil ?_
            refine Fin.go ?_
            refine Tr.weak [(1, _), (3, _), (14, _), (71, _)] ⟨⟨_, rfl, Pr.le_refl _⟩, ⟨_, rfl, Pr.le_refl _⟩, ⟨_, rfl, Pr.le_refl _⟩, ⟨_, rfl, Pr.le_refl _⟩, trivial⟩ ?_
            refine Tr.cond rfl (fun h17 => ?_) (fun h17 => ?_)
            ·
              have q17 := Nrm.nrm h17
              refine Tr.skip ?_
              refine Fin.go ?_
              refine Tr.cond rfl (fun _ => ?_) (fun h => nomatch h17.symm.trans h)
              refine Tr.seq ?_
              refine Tr.reg0 ?_
              refine Ch.op rfl rfl (by decide) (ok_move rfl (vl rfl)) ?_
              refine Ch.op rfl rfl (by decide) (ok_move rfl (vl rfl)) ?_
              refine Ch.cases 75 rfl (fun h18 => ?_) (fun h18 => ?_)
              ·
                have q18 := Nrm.nrm h18
                refine Ch.yes rfl rfl rfl h18 rfl (by decide) (ok_fieldAddr rfl fo42_8 (vl rfl) rfl) ?_
                refine Ch.yes rfl rfl rfl h18 rfl (by decide) (ok_load1 rfl one3 (vl rfl)) ?_
                refine Ch.yes rfl rfl rfl h18 rfl (by decide) (ok_int rfl (vl rfl) (vl rfl) rfl) ?_
                refine Ch.op rfl rfl (by decide) (ok_pick_t rfl (vl rfl) h18 (vl rfl)) ?_
                refine Ch.op rfl rfl (by decide) (ok_move rfl (vl rfl)) ?_
                refine Ch.cases 80 rfl (fun h19 => ?_) (fun h19 => ?_)
                ·
                  have q19 := Nrm.nrm h19
                  refine Ch.yes rfl rfl rfl h19 rfl (by decide) (ok_fieldAddr rfl fo42_8 (vl rfl) rfl) ?_
                  refine Ch.yes rfl rfl rfl h19 rfl (by decide) (ok_load1 rfl one3 (vl rfl)) ?_
                  refine Ch.yes rfl rfl rfl h19 rfl (by decide) (ok_int rfl (vl rfl) (vl rfl) rfl) ?_
                  refine Ch.op rfl rfl (by decide) (ok_pick_t rfl (vl rfl) h19 (vl rfl)) ?_
                  refine Ch.op rfl rfl (by decide) (ok_assign rfl (vl rfl)) ?_
                  refine Ch.nil ?_
                  refine Fin.go ?_
                  refine Tr.weak [(2, _)] ⟨⟨_, rfl, Pr.le_refl _⟩, trivial⟩ ?_
                  refine Tr.ret ?_
                  refine Fin.block_ret ?_
                  refine Fin.then_ret ?_
                  refine Fin.ret1 rfl (OutW.bse _ _) rfl ?_
                  · refine bool_eq ?_; unfold contentF; first | (simp_all; done) | (simp_all; omega)
                ·
                  have q19 := Nrm.nrm h19
                  refine Ch.no rfl rfl rfl (ne_true h19) rfl (by decide) ?_
                  refine Ch.no rfl rfl rfl (ne_true h19) rfl (by decide) ?_
                  refine Ch.no rfl rfl rfl (ne_true h19) rfl (by decide) ?_
                  refine Ch.op rfl rfl (by decide) (ok_pick_f rfl (vl rfl) h19 (vl rfl)) ?_
                  refine Ch.op rfl rfl (by decide) (ok_assign rfl (vl rfl)) ?_
                  refine Ch.nil ?_
                  refine Fin.go ?_
                  refine Tr.weak [(2, _)] ⟨⟨_, rfl, Pr.le_refl _⟩, trivial⟩ ?_
                  refine Tr.ret ?_
                  refine Fin.block_ret ?_
                  refine Fin.then_ret ?_
                  refine Fin.ret1 rfl (OutW.bse _ _) rfl ?_
                  · refine bool_eq ?_; unfold contentF; first | (simp_all; done) | (simp_all; omega)
              ·
                have q18 := Nrm.nrm h18
                refine Ch.no rfl rfl rfl (ne_true h18) rfl (by decide) ?_
                refine Ch.no rfl rfl rfl (ne_true h18) rfl (by decide) ?_
                refine Ch.no rfl rfl rfl (ne_true h18) rfl (by decide) ?_
                refine Ch.op rfl rfl (by decide) (ok_pick_f rfl (vl rfl) h18 (vl rfl)) ?_
                refine Ch.op rfl rfl (by decide) (ok_move rfl (vl rfl)) ?_
                refine Ch.no rfl rfl rfl (by decide) rfl (by decide) ?_
                refine Ch.no rfl rfl rfl (by decide) rfl (by decide) ?_
                refine Ch.no rfl rfl rfl (by decide) rfl (by decide) ?_
                refine Ch.op rfl rfl (by decide) (ok_pick_f rfl (vl rfl) rfl (vl rfl)) ?_
                refine Ch.op rfl rfl (by decide) (ok_assign rfl (vl rfl)) ?_
                refine Ch.nil ?_
                refine Fin.go ?_
                refine Tr.weak [(2, _)] ⟨⟨_, rfl, Pr.le_refl _⟩, trivial⟩ ?_
                refine Tr.ret ?_
                refine Fin.block_ret ?_
                refine Fin.then_ret ?_
                refine Fin.ret1 rfl (OutW.bse _ _) rfl ?_
                · refine bool_eq ?_; unfold contentF; first | (simp_all; done) | (simp_all; omega)
            ·
              have q17 := Nrm.nrm h17
              refine Tr.reg0 ?_
              refine Ch.op rfl rfl (by decide) (ok_int rfl (vl rfl) (vl rfl) rfl) ?_
              refine Ch.op rfl rfl (by decide) (ok_assign rfl (vl rfl)) ?_
              refine Ch.nil ?_
              refine Fin.go ?_
              refine Tr.cond rfl (fun h20 => ?_) (fun h20 => ?_)
              ·
                have q20 := Nrm.nrm h20
                refine Tr.seq ?_
                refine Tr.reg0 ?_
                refine Ch.op rfl rfl (by decide) (ok_move rfl (vl rfl)) ?_
                refine Ch.op rfl rfl (by decide) (ok_move rfl (vl rfl)) ?_
                refine Ch.cases 75 rfl (fun h21 => ?_) (fun h21 => ?_)
                ·
                  have q21 := Nrm.nrm h21
                  refine Ch.yes rfl rfl rfl h21 rfl (by decide) (ok_fieldAddr rfl fo42_8 (vl rfl) rfl) ?_
                  refine Ch.yes rfl rfl rfl h21 rfl (by decide) (ok_load1 rfl one3 (vl rfl)) ?_
                  refine Ch.yes rfl rfl rfl h21 rfl (by decide) (ok_int rfl (vl rfl) (vl rfl) rfl) ?_
                  refine Ch.op rfl rfl (by decide) (ok_pick_t rfl (vl rfl) h21 (vl rfl)) ?_
                  refine Ch.op rfl rfl (by decide) (ok_move rfl (vl rfl)) ?_
                  refine Ch.cases 80 rfl (fun h22 => ?_) (fun h22 => ?_)
                  ·
                    have q22 := Nrm.nrm h22
                    refine Ch.yes rfl rfl rfl h22 rfl (by decide) (ok_fieldAddr rfl fo42_8 (vl rfl) rfl) ?_
                    refine Ch.yes rfl rfl rfl h22 rfl (by decide) (ok_load1 rfl one3 (vl rfl)) ?_
                    refine Ch.yes rfl rfl rfl h22 rfl (by decide) (ok_int rfl (vl rfl) (vl rfl) rfl) ?_
                    refine Ch.op rfl rfl (by decide) (ok_pick_t rfl (vl rfl) h22 (vl rfl)) ?_
                    refine Ch.op rfl rfl (by decide) (ok_assign rfl (vl rfl)) ?_
                    refine Ch.nil ?_
                    refine Fin.go ?_
                    refine Tr.weak [(2, _)] ⟨⟨_, rfl, Pr.le_refl _⟩, trivial⟩ ?_
                    refine Tr.ret ?_
                    refine Fin.block_ret ?_
                    refine Fin.then_ret ?_
                    refine Fin.ret1 rfl (OutW.bse _ _) rfl ?_
                    · refine bool_eq ?_; unfold contentF; first | (simp_all; done) | (simp_all; omega)
                  ·
                    have q22 := Nrm.nrm h22
                    refine Ch.no rfl rfl rfl (ne_true h22) rfl (by decide) ?_
                    refine Ch.no rfl rfl rfl (ne_true h22) rfl (by decide) ?_
                    refine Ch.no rfl rfl rfl (ne_true h22) rfl (by decide) ?_
                    refine Ch.op rfl rfl (by decide) (ok_pick_f rfl (vl rfl) h22 (vl rfl)) ?_
                    refine Ch.op rfl rfl (by decide) (ok_assign rfl (vl rfl)) ?_
                    refine Ch.nil ?_
                    refine Fin.go ?_
                    refine Tr.weak [(2, _)] ⟨⟨_, rfl, Pr.le_refl _⟩, trivial⟩ ?_
                    refine Tr.ret ?_
                    refine Fin.block_ret ?_
                    refine Fin.then_ret ?_
                    refine Fin.ret1 rfl (OutW.bse _ _) rfl ?_
                    · refine bool_eq ?_; unfold contentF; first | (simp_all; done) | (simp_all; omega)
                ·
                  have q21 := Nrm.nrm h21
                  refine Ch.no rfl rfl rfl (ne_true h21) rfl (by decide) ?_
                  refine Ch.no rfl rfl rfl (ne_true h21) rfl (by decide) ?_
                  refine Ch.no rfl rfl rfl (ne_true h21) rfl (by decide) ?_
                  refine Ch.op rfl rfl (by decide) (ok_pick_f rfl (vl rfl) h21 (vl rfl)) ?_
                  refine Ch.op rfl rfl (by decide) (ok_move rfl (vl rfl)) ?_
                  refine Ch.no rfl rfl rfl (by decide) rfl (by decide) ?_
                  refine Ch.no rfl rfl rfl (by decide) rfl (by decide) ?_
                  refine Ch.no rfl rfl rfl (by decide) rfl (by decide) ?_
                  refine Ch.op rfl rfl (by decide) (ok_pick_f rfl (vl rfl) rfl (vl rfl)) ?_
                  refine Ch.op rfl rfl (by decide) (ok_assign rfl (vl rfl)) ?_
                  refine Ch.nil ?_
                  refine Fin.go ?_
                  refine Tr.weak [(2, _)] ⟨⟨_, rfl, Pr.le_refl _⟩, trivial⟩ ?_
                  refine Tr.ret ?_
                  refine Fin.block_ret ?_
                  refine Fin.then_ret ?_
                  refine Fin.ret1 rfl (OutW.bse _ _) rfl ?_
                  · refine bool_eq ?_; unfold contentF; first | (simp_all; done) | (simp_all; omega)
              ·
                have q20 := Nrm.nrm h20
                refine Tr.seq ?_
                refine Tr.reg0 ?_
                refine Ch.op rfl rfl (by decide) (ok_int rfl (vl rfl) (vl rfl) rfl) ?_
                refine Ch.op rfl rfl (by decide) (ok_assign rfl (vl rfl)) ?_
                refine Ch.nil ?_
                refine Fin.go ?_
                refine Tr.cond rfl (fun h23 => ?_) (fun h23 => ?_)
                ·
                  have q23 := Nrm.nrm h23
                  refine Tr.seq ?_
                  refine Tr.reg0 ?_
                  refine Ch.op rfl rfl (by decide) (ok_move rfl (vl rfl)) ?_
                  refine Ch.op rfl rfl (by decide) (ok_move rfl (vl rfl)) ?_
                  refine Ch.cases 88 rfl (fun h24 => ?_) (fun h24 => ?_)
                  ·
                    have q24 := Nrm.nrm h24
                    refine Ch.yes rfl rfl rfl h24 rfl (by decide) (ok_fieldAddr rfl fo42_8 (vl rfl) rfl) ?_
                    refine Ch.yes rfl rfl rfl h24 rfl (by decide) (ok_load1 rfl one3 (vl rfl)) ?_
                    refine Ch.yes rfl rfl rfl h24 rfl (by decide) (ok_int rfl (vl rfl) (vl rfl) rfl) ?_
                    refine Ch.op rfl rfl (by decide) (ok_pick_t rfl (vl rfl) h24 (vl rfl)) ?_
                    refine Ch.op rfl rfl (by decide) (ok_move rfl (vl rfl)) ?_
                    refine Ch.cases 93 rfl (fun h25 => ?_) (fun h25 => ?_)
                    ·
                      have q25 := Nrm.nrm h25
                      refine Ch.yes rfl rfl rfl h25 rfl (by decide) (ok_fieldAddr rfl fo42_8 (vl rfl) rfl) ?_
                      refine Ch.yes rfl rfl rfl h25 rfl (by decide) (ok_load1 rfl one3 (vl rfl)) ?_
                      refine Ch.yes rfl rfl rfl h25 rfl (by decide) (ok_int rfl (vl rfl) (vl rfl) rfl) ?_
                      refine Ch.op rfl rfl (by decide) (ok_pick_t rfl (vl rfl) h25 (vl rfl)) ?_
                      refine Ch.op rfl rfl (by decide) (ok_assign rfl (vl rfl)) ?_
                      refine Ch.nil ?_
                      refine Fin.go ?_
                      refine Tr.weak [(2, _)] ⟨⟨_, rfl, Pr.le_refl _⟩, trivial⟩ ?_
                      refine Tr.ret ?_
                      refine Fin.block_ret ?_
                      refine Fin.then_ret ?_
                      refine Fin.ret1 rfl (OutW.bse _ _) rfl ?_
                      · refine bool_eq ?_; unfold contentF; first | (simp_all; done) | (simp_all; omega)
                    ·
                      have q25 := Nrm.nrm h25
                      refine Ch.no rfl rfl rfl (ne_true h25) rfl (by decide) ?_
                      refine Ch.no rfl rfl rfl (ne_true h25) rfl (by decide) ?_
                      refine Ch.no rfl rfl rfl (ne_true h25) rfl (by decide) ?_
                      refine Ch.op rfl rfl (by decide) (ok_pick_f rfl (vl rfl) h25 (vl rfl)) ?_
                      refine Ch.op rfl rfl (by decide) (ok_assign rfl (vl rfl)) ?_
                      refine Ch.nil ?_
                      refine Fin.go ?_
                      refine Tr.weak [(2, _)] ⟨⟨_, rfl, Pr.le_refl _⟩, trivial⟩ ?_
                      refine Tr.ret ?_
                      refine Fin.block_ret ?_
                      refine Fin.then_ret ?_
                      refine Fin.ret1 rfl (OutW.bse _ _) rfl ?_
                      · refine bool_eq ?_; unfold contentF; first | (simp_all; done) | (simp_all; omega)
                  ·
                    have q24 := Nrm.nrm h24
                    refine Ch.no rfl rfl rfl (ne_true h24) rfl (by decide) ?_
                    refine Ch.no rfl rfl rfl (ne_true h24) rfl (by decide) ?_
                    refine Ch.no rfl rfl rfl (ne_true h24) rfl (by decide) ?_
                    refine Ch.op rfl rfl (by decide) (ok_pick_f rfl (vl rfl) h24 (vl rfl)) ?_
                    refine Ch.op rfl rfl (by decide) (ok_move rfl (vl rfl)) ?_
                    refine Ch.no rfl rfl rfl (by decide) rfl (by decide) ?_
                    refine Ch.no rfl rfl rfl (by decide) rfl (by decide) ?_
                    refine Ch.no rfl rfl rfl (by decide) rfl (by decide) ?_
                    refine Ch.op rfl rfl (by decide) (ok_pick_f rfl (vl rfl) rfl (vl rfl)) ?_
                    refine Ch.op rfl rfl (by decide) (ok_assign rfl (vl rfl)) ?_
                    refine Ch.nil ?_
                    refine Fin.go ?_
                    refine Tr.weak [(2, _)] ⟨⟨_, rfl, Pr.le_refl _⟩, trivial⟩ ?_
                    refine Tr.ret ?_
                    refine Fin.block_ret ?_
                    refine Fin.then_ret ?_
                    refine Fin.ret1 rfl (OutW.bse _ _) rfl ?_
                    · refine bool_eq ?_; unfold contentF; first | (simp_all; done) | (simp_all; omega)
                ·
                  have q23 := Nrm.nrm h23
                  refine Tr.seq ?_
                  refine Tr.reg0 ?_
                  refine Ch.op rfl rfl (by decide) (ok_int rfl (vl rfl) (vl rfl) rfl) ?_
                  refine Ch.op rfl rfl (by decide) (ok_assign rfl (vl rfl)) ?_
                  refine Ch.nil ?_
                  refine Fin.go ?_
                  refine Tr.cond rfl (fun h26 => ?_) (fun h26 => ?_)
                  ·
                    have q26 := Nrm.nrm h26
                    refine Tr.seq ?_
                    refine Tr.reg0 ?_
                    refine Ch.op rfl rfl (by decide) (ok_fieldAddr rfl fo42_7 (vl rfl) rfl) ?_
                    refine Ch.op rfl rfl (by decide) (ok_loadA rfl agg38 sz38 (vl rfl) rfl rfl) ?_
                    refine Ch.op rfl rfl (by decide) (ok_build (rows := []) rfl bl38 zo38 trivial rfl) ?_
                    refine Ch.op rfl rfl (by decide) (ok_eq38 rfl (vl rfl) (vl rfl)) ?_
                    refine Ch.op rfl rfl (by decide) (ok_move rfl (vl rfl)) ?_
                    refine Ch.cases 104 rfl (fun h27 => ?_) (fun h27 => ?_)
                    ·
                      have q27 := Nrm.nrm h27
                      refine Ch.yes rfl rfl rfl h27 rfl (by decide) (ok_fieldAddr rfl fo42_8 (vl rfl) rfl) ?_
                      refine Ch.yes rfl rfl rfl h27 rfl (by decide) (ok_load1 rfl one3 (vl rfl)) ?_
                      refine Ch.yes rfl rfl rfl h27 rfl (by decide) (ok_int rfl (vl rfl) (vl rfl) rfl) ?_
                      refine Ch.op rfl rfl (by decide) (ok_pick_t rfl (vl rfl) h27 (vl rfl)) ?_
                      refine Ch.op rfl rfl (by decide) (ok_move rfl (vl rfl)) ?_
                      refine Ch.cases 109 rfl (fun h28 => ?_) (fun h28 => ?_)
                      ·
                        have q28 := Nrm.nrm h28
                        refine Ch.yes rfl rfl rfl h28 rfl (by decide) (ok_fieldAddr rfl fo42_9 (vl rfl) rfl) ?_
                        refine Ch.yes rfl rfl rfl h28 rfl (by decide) (ok_load1 rfl one9 (vl rfl)) ?_
                        refine Ch.yes rfl rfl rfl h28 rfl (by decide) (ok_call rfl (w_Named hf.text) ⟨⟨_, rfl, Pr.le_refl _⟩, trivial⟩) ?_
                        refine Ch.op rfl rfl (by decide) (ok_pick_t rfl (vl rfl) h28 (vl rfl)) ?_
                        refine Ch.op rfl rfl (by decide) (ok_assign rfl (vl rfl)) ?_
                        refine Ch.nil ?_
                        refine Fin.go ?_
                        refine Tr.weak [(2, _)] ⟨⟨_, rfl, Pr.le_refl _⟩, trivial⟩ ?_
                        refine Tr.ret ?_
                        refine Fin.block_ret ?_
                        refine Fin.then_ret ?_
                        refine Fin.ret1 rfl (OutW.bse _ _) rfl ?_
                        · refine bool_eq ?_; unfold contentF; first | (simp_all; done) | (simp_all; omega)
                      ·
                        have q28 := Nrm.nrm h28
                        refine Ch.no rfl rfl rfl (ne_true h28) rfl (by decide) ?_
                        refine Ch.no rfl rfl rfl (ne_true h28) rfl (by decide) ?_
                        refine Ch.no rfl rfl rfl (ne_true h28) rfl (by decide) ?_
                        refine Ch.op rfl rfl (by decide) (ok_pick_f rfl (vl rfl) h28 (vl rfl)) ?_
                        refine Ch.op rfl rfl (by decide) (ok_assign rfl (vl rfl)) ?_
                        refine Ch.nil ?_
                        refine Fin.go ?_
                        refine Tr.weak [(2, _)] ⟨⟨_, rfl, Pr.le_refl _⟩, trivial⟩ ?_
                        refine Tr.ret ?_
                        refine Fin.block_ret ?_
                        refine Fin.then_ret ?_
                        refine Fin.ret1 rfl (OutW.bse _ _) rfl ?_
                        · refine bool_eq ?_; unfold contentF; first | (simp_all; done) | (simp_all; omega)
                    ·
                      have q27 := Nrm.nrm h27
                      refine Ch.no rfl rfl rfl (ne_true h27) rfl (by decide) ?_
                      refine Ch.no rfl rfl rfl (ne_true h27) rfl (by decide) ?_
                      refine Ch.no rfl rfl rfl (ne_true h27) rfl (by decide) ?_
                      refine Ch.op rfl rfl (by decide) (ok_pick_f rfl (vl rfl) h27 (vl rfl)) ?_
                      refine Ch.op rfl rfl (by decide) (ok_move rfl (vl rfl)) ?_
                      refine Ch.no rfl rfl rfl (by decide) rfl (by decide) ?_
                      refine Ch.no rfl rfl rfl (by decide) rfl (by decide) ?_
                      refine Ch.no rfl rfl rfl (by decide) rfl (by decide) ?_
                      refine Ch.op rfl rfl (by decide) (ok_pick_f rfl (vl rfl) rfl (vl rfl)) ?_
                      refine Ch.op rfl rfl (by decide) (ok_assign rfl (vl rfl)) ?_
                      refine Ch.nil ?_
                      refine Fin.go ?_
                      refine Tr.weak [(2, _)] ⟨⟨_, rfl, Pr.le_refl _⟩, trivial⟩ ?_
                      refine Tr.ret ?_
                      refine Fin.block_ret ?_
                      refine Fin.then_ret ?_
                      refine Fin.ret1 rfl (OutW.bse _ _) rfl ?_
                      · refine bool_eq ?_; unfold contentF; first | (simp_all; done) | (simp_all; omega)
                  ·
                    have q26 := Nrm.nrm h26
                    refine Tr.skip ?_
                    refine Fin.block ?_
                    refine Fin.go ?_
                    refine Tr.seq ?_
                    refine Tr.reg0 ?_
                    refine Ch.op rfl rfl (by decide) (ok_assign rfl (vl rfl)) ?_
                    refine Ch.nil ?_
                    refine Fin.go ?_
                    refine Tr.ret ?_
                    refine Fin.ret1 rfl (OutW.bse _ _) rfl ?_
                    · refine bool_eq ?_; unfold contentF; first | (simp_all; done) | (simp_all; omega)
theorem e_content : Entry Tryz.prog 89 := ⟨_, Tryz.func89, rfl, rfl⟩
set_option maxRecDepth 20000 in
theorem w_FCheck {f : Fnd} (hf : f.fits) : Fun Tryz.prog 63 [agg (rowF f)] (int (if checkF f then 0 else 24)) := by
  refine Fun.of Tryz.func63 rfl rfl (by exact Nat.le_of_ble_eq_true rfl) fun M0 w0 => ?_
  refine Tr.seq ?_
  refine Tr.reg0 ?_
  refine Ch.op rfl rfl (by decide) (ok_box rfl (VL.le (vl rfl) (agg_cellsP _))) ?_
  refine Ch.op rfl rfl (by decide) (ok_assign rfl (vl rfl)) ?_
  refine Ch.nil ?_
  refine Fin.go ?_
  refine Tr.weak [(1, _)] ⟨⟨_, rfl, Pr.le_refl _⟩, trivial⟩ ?_
  refine Tr.cutk [1] [(3, bool (whereF f))] (True) ?_ (fun h1 => ?_)
  ·
    refine Tr.reg0 ?_
    refine Ch.op rfl rfl (by decide) (ok_fieldAddr rfl fo42_1 (vl rfl) rfl) ?_
    refine Ch.op rfl rfl (by decide) (ok_load1 rfl one9 (vl rfl)) ?_
    refine Ch.op rfl rfl (by decide) (ok_call rfl (w_Named hf.host) ⟨⟨_, rfl, Pr.le_refl _⟩, trivial⟩) ?_
    refine Ch.op rfl rfl (by decide) (ok_move rfl (vl rfl)) ?_
    refine Ch.cases 8 rfl (fun h2 => ?_) (fun h2 => ?_)
    ·
      have q2 := Nrm.nrm h2
      refine Ch.yes rfl rfl rfl h2 rfl (by decide) (ok_fieldAddr rfl fo42_6 (vl rfl) rfl) ?_
      refine Ch.yes rfl rfl rfl h2 rfl (by decide) (ok_load1 rfl one9 (vl rfl)) ?_
      refine Ch.yes rfl rfl rfl h2 rfl (by decide) (ok_call rfl (w_Named hf.subj) ⟨⟨_, rfl, Pr.le_refl _⟩, trivial⟩) ?_
      refine Ch.op rfl rfl (by decide) (ok_pick_t rfl (vl rfl) h2 (vl rfl)) ?_
      refine Ch.op rfl rfl (by decide) (ok_move rfl (vl rfl)) ?_
      refine Ch.cases 13 rfl (fun h3 => ?_) (fun h3 => ?_)
      ·
        have q3 := Nrm.nrm h3
        refine Ch.yes rfl rfl rfl h3 rfl (by decide) (ok_fieldAddr rfl fo42_2 (vl rfl) rfl) ?_
        refine Ch.yes rfl rfl rfl h3 rfl (by decide) (ok_load1 rfl one3 (vl rfl)) ?_
        refine Ch.yes rfl rfl rfl h3 rfl (by decide) (ok_int rfl (vl rfl) (vl rfl) rfl) ?_
        refine Ch.op rfl rfl (by decide) (ok_pick_t rfl (vl rfl) h3 (vl rfl)) ?_
        refine Ch.op rfl rfl (by decide) (ok_move rfl (vl rfl)) ?_
        refine Ch.cases 18 rfl (fun h4 => ?_) (fun h4 => ?_)
        ·
          have q4 := Nrm.nrm h4
          refine Ch.yes rfl rfl rfl h4 rfl (by decide) (ok_fieldAddr rfl fo42_2 (vl rfl) rfl) ?_
          refine Ch.yes rfl rfl rfl h4 rfl (by decide) (ok_load1 rfl one3 (vl rfl)) ?_
          refine Ch.yes rfl rfl rfl h4 rfl (by decide) (ok_int rfl (vl rfl) (vl rfl) rfl) ?_
          refine Ch.op rfl rfl (by decide) (ok_pick_t rfl (vl rfl) h4 (vl rfl)) ?_
          refine Ch.op rfl rfl (by decide) (ok_assign rfl (vl rfl)) ?_
          refine Ch.nil ?_
          exact Fin.fam_same () (by simp_all) ⟨⟨_, rfl, bool_eq (by first | (simp_all [whereF]; done) | (simp_all [whereF]; omega))⟩, ⟨_, rfl, Pr.le_refl _⟩, trivial⟩
        ·
          have q4 := Nrm.nrm h4
          refine Ch.no rfl rfl rfl (ne_true h4) rfl (by decide) ?_
          refine Ch.no rfl rfl rfl (ne_true h4) rfl (by decide) ?_
          refine Ch.no rfl rfl rfl (ne_true h4) rfl (by decide) ?_
          refine Ch.op rfl rfl (by decide) (ok_pick_f rfl (vl rfl) h4 (vl rfl)) ?_
          refine Ch.op rfl rfl (by decide) (ok_assign rfl (vl rfl)) ?_
          refine Ch.nil ?_
          exact Fin.fam_same () (by simp_all) ⟨⟨_, rfl, bool_eq (by first | (simp_all [whereF]; done) | (simp_all [whereF]; omega))⟩, ⟨_, rfl, Pr.le_refl _⟩, trivial⟩
      ·
        have q3 := Nrm.nrm h3
        refine Ch.no rfl rfl rfl (ne_true h3) rfl (by decide) ?_
        refine Ch.no rfl rfl rfl (ne_true h3) rfl (by decide) ?_
        refine Ch.no rfl rfl rfl (ne_true h3) rfl (by decide) ?_
        refine Ch.op rfl rfl (by decide) (ok_pick_f rfl (vl rfl) h3 (vl rfl)) ?_
        refine Ch.op rfl rfl (by decide) (ok_move rfl (vl rfl)) ?_
        refine Ch.no rfl rfl rfl (by decide) rfl (by decide) ?_
        refine Ch.no rfl rfl rfl (by decide) rfl (by decide) ?_
        refine Ch.no rfl rfl rfl (by decide) rfl (by decide) ?_
        refine Ch.op rfl rfl (by decide) (ok_pick_f rfl (vl rfl) rfl (vl rfl)) ?_
        refine Ch.op rfl rfl (by decide) (ok_assign rfl (vl rfl)) ?_
        refine Ch.nil ?_
        exact Fin.fam_same () (by simp_all) ⟨⟨_, rfl, bool_eq (by first | (simp_all [whereF]; done) | (simp_all [whereF]; omega))⟩, ⟨_, rfl, Pr.le_refl _⟩, trivial⟩
    ·
      have q2 := Nrm.nrm h2
      refine Ch.no rfl rfl rfl (ne_true h2) rfl (by decide) ?_
      refine Ch.no rfl rfl rfl (ne_true h2) rfl (by decide) ?_
      refine Ch.no rfl rfl rfl (ne_true h2) rfl (by decide) ?_
      refine Ch.op rfl rfl (by decide) (ok_pick_f rfl (vl rfl) h2 (vl rfl)) ?_
      refine Ch.op rfl rfl (by decide) (ok_move rfl (vl rfl)) ?_
      refine Ch.no rfl rfl rfl (by decide) rfl (by decide) ?_
      refine Ch.no rfl rfl rfl (by decide) rfl (by decide) ?_
      refine Ch.no rfl rfl rfl (by decide) rfl (by decide) ?_
      refine Ch.op rfl rfl (by decide) (ok_pick_f rfl (vl rfl) rfl (vl rfl)) ?_
      refine Ch.op rfl rfl (by decide) (ok_move rfl (vl rfl)) ?_
      refine Ch.no rfl rfl rfl (by decide) rfl (by decide) ?_
      refine Ch.no rfl rfl rfl (by decide) rfl (by decide) ?_
      refine Ch.no rfl rfl rfl (by decide) rfl (by decide) ?_
      refine Ch.op rfl rfl (by decide) (ok_pick_f rfl (vl rfl) rfl (vl rfl)) ?_
      refine Ch.op rfl rfl (by decide) (ok_assign rfl (vl rfl)) ?_
      refine Ch.nil ?_
      exact Fin.fam_same () (by simp_all) ⟨⟨_, rfl, bool_eq (by first | (simp_all [whereF]; done) | (simp_all [whereF]; omega))⟩, ⟨_, rfl, Pr.le_refl _⟩, trivial⟩
  ·
    refine Tr.weak [(1, _), (3, _)] ⟨⟨_, rfl, Pr.le_refl _⟩, ⟨_, rfl, Pr.le_refl _⟩, trivial⟩ ?_
    refine Tr.cutk [1, 3] [(4, bool (whenF f))] (True) ?_ (fun h5 => ?_)
    ·
      refine Tr.reg0 ?_
      refine Ch.op rfl rfl (by decide) (ok_fieldAddr rfl fo42_3 (vl rfl) rfl) ?_
      refine Ch.op rfl rfl (by decide) (ok_load1 rfl one3 (vl rfl)) ?_
      refine Ch.op rfl rfl (by decide) (ok_int rfl (vl rfl) (vl rfl) rfl) ?_
      refine Ch.op rfl rfl (by decide) (ok_move rfl (vl rfl)) ?_
      refine Ch.cases 26 rfl (fun h6 => ?_) (fun h6 => ?_)
      ·
        have q6 := Nrm.nrm h6
        refine Ch.yes rfl rfl rfl h6 rfl (by decide) (ok_fieldAddr rfl fo42_3 (vl rfl) rfl) ?_
        refine Ch.yes rfl rfl rfl h6 rfl (by decide) (ok_load1 rfl one3 (vl rfl)) ?_
        refine Ch.yes rfl rfl rfl h6 rfl (by decide) (ok_int rfl (vl rfl) (vl rfl) rfl) ?_
        refine Ch.op rfl rfl (by decide) (ok_pick_t rfl (vl rfl) h6 (vl rfl)) ?_
        refine Ch.op rfl rfl (by decide) (ok_move rfl (vl rfl)) ?_
        refine Ch.cases 31 rfl (fun h7 => ?_) (fun h7 => ?_)
        ·
          have q7 := Nrm.nrm h7
          refine Ch.yes rfl rfl rfl h7 rfl (by decide) (ok_fieldAddr rfl fo42_4 (vl rfl) rfl) ?_
          refine Ch.yes rfl rfl rfl h7 rfl (by decide) (ok_load1 rfl one3 (vl rfl)) ?_
          refine Ch.yes rfl rfl rfl h7 rfl (by decide) (ok_int rfl (vl rfl) (vl rfl) rfl) ?_
          refine Ch.op rfl rfl (by decide) (ok_pick_t rfl (vl rfl) h7 (vl rfl)) ?_
          refine Ch.op rfl rfl (by decide) (ok_move rfl (vl rfl)) ?_
          refine Ch.cases 36 rfl (fun h8 => ?_) (fun h8 => ?_)
          ·
            have q8 := Nrm.nrm h8
            refine Ch.yes rfl rfl rfl h8 rfl (by decide) (ok_fieldAddr rfl fo42_4 (vl rfl) rfl) ?_
            refine Ch.yes rfl rfl rfl h8 rfl (by decide) (ok_load1 rfl one3 (vl rfl)) ?_
            refine Ch.yes rfl rfl rfl h8 rfl (by decide) (ok_int rfl (vl rfl) (vl rfl) rfl) ?_
            refine Ch.op rfl rfl (by decide) (ok_pick_t rfl (vl rfl) h8 (vl rfl)) ?_
            refine Ch.op rfl rfl (by decide) (ok_assign rfl (vl rfl)) ?_
            refine Ch.nil ?_
            exact Fin.fam_same () (by simp_all) ⟨⟨_, rfl, bool_eq (by first | (simp_all [whenF]; done) | (simp_all [whenF]; omega))⟩, ⟨_, rfl, Pr.le_refl _⟩, ⟨_, rfl, Pr.le_refl _⟩, trivial⟩
          ·
            have q8 := Nrm.nrm h8
            refine Ch.no rfl rfl rfl (ne_true h8) rfl (by decide) ?_
            refine Ch.no rfl rfl rfl (ne_true h8) rfl (by decide) ?_
            refine Ch.no rfl rfl rfl (ne_true h8) rfl (by decide) ?_
            refine Ch.op rfl rfl (by decide) (ok_pick_f rfl (vl rfl) h8 (vl rfl)) ?_
            refine Ch.op rfl rfl (by decide) (ok_assign rfl (vl rfl)) ?_
            refine Ch.nil ?_
            exact Fin.fam_same () (by simp_all) ⟨⟨_, rfl, bool_eq (by first | (simp_all [whenF]; done) | (simp_all [whenF]; omega))⟩, ⟨_, rfl, Pr.le_refl _⟩, ⟨_, rfl, Pr.le_refl _⟩, trivial⟩
        ·
          have q7 := Nrm.nrm h7
          refine Ch.no rfl rfl rfl (ne_true h7) rfl (by decide) ?_
          refine Ch.no rfl rfl rfl (ne_true h7) rfl (by decide) ?_
          refine Ch.no rfl rfl rfl (ne_true h7) rfl (by decide) ?_
          refine Ch.op rfl rfl (by decide) (ok_pick_f rfl (vl rfl) h7 (vl rfl)) ?_
          refine Ch.op rfl rfl (by decide) (ok_move rfl (vl rfl)) ?_
          refine Ch.no rfl rfl rfl (by decide) rfl (by decide) ?_
          refine Ch.no rfl rfl rfl (by decide) rfl (by decide) ?_
          refine Ch.no rfl rfl rfl (by decide) rfl (by decide) ?_
          refine Ch.op rfl rfl (by decide) (ok_pick_f rfl (vl rfl) rfl (vl rfl)) ?_
          refine Ch.op rfl rfl (by decide) (ok_assign rfl (vl rfl)) ?_
          refine Ch.nil ?_
          exact Fin.fam_same () (by simp_all) ⟨⟨_, rfl, bool_eq (by first | (simp_all [whenF]; done) | (simp_all [whenF]; omega))⟩, ⟨_, rfl, Pr.le_refl _⟩, ⟨_, rfl, Pr.le_refl _⟩, trivial⟩
      ·
        have q6 := Nrm.nrm h6
        refine Ch.no rfl rfl rfl (ne_true h6) rfl (by decide) ?_
        refine Ch.no rfl rfl rfl (ne_true h6) rfl (by decide) ?_
        refine Ch.no rfl rfl rfl (ne_true h6) rfl (by decide) ?_
        refine Ch.op rfl rfl (by decide) (ok_pick_f rfl (vl rfl) h6 (vl rfl)) ?_
        refine Ch.op rfl rfl (by decide) (ok_move rfl (vl rfl)) ?_
        refine Ch.no rfl rfl rfl (by decide) rfl (by decide) ?_
        refine Ch.no rfl rfl rfl (by decide) rfl (by decide) ?_
        refine Ch.no rfl rfl rfl (by decide) rfl (by decide) ?_
        refine Ch.op rfl rfl (by decide) (ok_pick_f rfl (vl rfl) rfl (vl rfl)) ?_
        refine Ch.op rfl rfl (by decide) (ok_move rfl (vl rfl)) ?_
        refine Ch.no rfl rfl rfl (by decide) rfl (by decide) ?_
        refine Ch.no rfl rfl rfl (by decide) rfl (by decide) ?_
        refine Ch.no rfl rfl rfl (by decide) rfl (by decide) ?_
        refine Ch.op rfl rfl (by decide) (ok_pick_f rfl (vl rfl) rfl (vl rfl)) ?_
        refine Ch.op rfl rfl (by decide) (ok_assign rfl (vl rfl)) ?_
        refine Ch.nil ?_
        exact Fin.fam_same () (by simp_all) ⟨⟨_, rfl, bool_eq (by first | (simp_all [whenF]; done) | (simp_all [whenF]; omega))⟩, ⟨_, rfl, Pr.le_refl _⟩, ⟨_, rfl, Pr.le_refl _⟩, trivial⟩
    ·
      refine Tr.seq ?_
      refine Tr.seq ?_
      refine Tr.reg0 ?_
      refine Ch.op rfl rfl (by decide) (ok_move rfl (vl rfl)) ?_
      refine Ch.op rfl rfl (by decide) (ok_not rfl (vl rfl)) ?_
      refine Ch.op rfl rfl (by decide) (ok_move rfl (vl rfl)) ?_
      refine Ch.cases 43 rfl (fun h9 => ?_) (fun h9 => ?_)
      ·
        have q9 := Nrm.nrm h9
        refine Ch.no rfl rfl rfl (ne_false h9) rfl (by decide) ?_
        refine Ch.no rfl rfl rfl (ne_false h9) rfl (by decide) ?_
        refine Ch.op rfl rfl (by decide) (ok_pick_t rfl (vl rfl) h9 (vl rfl)) ?_
        refine Ch.op rfl rfl (by decide) (ok_move rfl (vl rfl)) ?_
        refine Ch.no rfl rfl rfl (by decide) rfl (by decide) ?_
        refine Ch.no rfl rfl rfl (by decide) rfl (by decide) ?_
        refine Ch.no rfl rfl rfl (by decide) rfl (by decide) ?_
        refine Ch.op rfl rfl (by decide) (ok_pick_t rfl (vl rfl) rfl (vl rfl)) ?_
        refine Ch.op rfl rfl (by decide) (ok_move rfl (vl rfl)) ?_
        refine Ch.no rfl rfl rfl (by decide) rfl (by decide) ?_
        refine Ch.no rfl rfl rfl (by decide) rfl (by decide) ?_
        refine Ch.no rfl rfl rfl (by decide) rfl (by decide) ?_
        refine Ch.op rfl rfl (by decide) (ok_pick_t rfl (vl rfl) rfl (vl rfl)) ?_
        refine Ch.op rfl rfl (by decide) (ok_move rfl (vl rfl)) ?_
        refine Ch.no rfl rfl rfl (by decide) rfl (by decide) ?_
        refine Ch.no rfl rfl rfl (by decide) rfl (by decide) ?_
        refine Ch.no rfl rfl rfl (by decide) rfl (by decide) ?_
        refine Ch.op rfl rfl (by decide) (ok_pick_t rfl (vl rfl) rfl (vl rfl)) ?_
        refine Ch.nil ?_
        refine Fin.go ?_
        refine Tr.weak [(61, _)] ⟨⟨_, rfl, Pr.le_refl _⟩, trivial⟩ ?_
        refine Tr.cond rfl (fun _ => ?_) (fun h => nomatch h)
        refine Tr.seq ?_
        refine Tr.reg0 ?_
        refine Ch.op rfl rfl (by decide) (ok_assign rfl (vl rfl)) ?_
        refine Ch.nil ?_
        refine Fin.go ?_
        refine Tr.ret ?_
        refine Fin.then_ret ?_
        refine Fin.ret1 rfl (OutW.bse _ _) rfl ?_
        · refine int_eq ?_; unfold checkF; first | (simp_all; done) | (simp_all; omega)
      ·
        have q9 := Nrm.nrm h9
        refine Ch.yes rfl rfl rfl h9 rfl (by decide) (ok_move rfl (vl rfl)) ?_
        refine Ch.yes rfl rfl rfl h9 rfl (by decide) (ok_not rfl (vl rfl)) ?_
        refine Ch.op rfl rfl (by decide) (ok_pick_f rfl (vl rfl) h9 (vl rfl)) ?_
        refine Ch.op rfl rfl (by decide) (ok_move rfl (vl rfl)) ?_
        refine Ch.cases 47 rfl (fun h10 => ?_) (fun h10 => ?_)
        ·
          have q10 := Nrm.nrm h10
          refine Ch.no rfl rfl rfl (ne_false h10) rfl (by decide) ?_
          refine Ch.no rfl rfl rfl (ne_false h10) rfl (by decide) ?_
          refine Ch.no rfl rfl rfl (ne_false h10) rfl (by decide) ?_
          refine Ch.op rfl rfl (by decide) (ok_pick_t rfl (vl rfl) h10 (vl rfl)) ?_
          refine Ch.op rfl rfl (by decide) (ok_move rfl (vl rfl)) ?_
          refine Ch.no rfl rfl rfl (by decide) rfl (by decide) ?_
          refine Ch.no rfl rfl rfl (by decide) rfl (by decide) ?_
          refine Ch.no rfl rfl rfl (by decide) rfl (by decide) ?_
          refine Ch.op rfl rfl (by decide) (ok_pick_t rfl (vl rfl) rfl (vl rfl)) ?_
          refine Ch.op rfl rfl (by decide) (ok_move rfl (vl rfl)) ?_
          refine Ch.no rfl rfl rfl (by decide) rfl (by decide) ?_
          refine Ch.no rfl rfl rfl (by decide) rfl (by decide) ?_
          refine Ch.no rfl rfl rfl (by decide) rfl (by decide) ?_
          refine Ch.op rfl rfl (by decide) (ok_pick_t rfl (vl rfl) rfl (vl rfl)) ?_
          refine Ch.nil ?_
          refine Fin.go ?_
          refine Tr.weak [(61, _)] ⟨⟨_, rfl, Pr.le_refl _⟩, trivial⟩ ?_
          refine Tr.cond rfl (fun _ => ?_) (fun h => nomatch h)
          refine Tr.seq ?_
          refine Tr.reg0 ?_
          refine Ch.op rfl rfl (by decide) (ok_assign rfl (vl rfl)) ?_
          refine Ch.nil ?_
          refine Fin.go ?_
          refine Tr.ret ?_
          refine Fin.then_ret ?_
          refine Fin.ret1 rfl (OutW.bse _ _) rfl ?_
          · refine int_eq ?_; unfold checkF; first | (simp_all; done) | (simp_all; omega)
        ·
          have q10 := Nrm.nrm h10
          refine Ch.yes rfl rfl rfl h10 rfl (by decide) (ok_fieldAddr rfl fo42_0 (vl rfl) rfl) ?_
          refine Ch.yes rfl rfl rfl h10 rfl (by decide) (ok_load1 rfl one3 (vl rfl)) ?_
          refine Ch.yes rfl rfl rfl h10 rfl (by decide) (ok_int rfl (vl rfl) (vl rfl) rfl) ?_
          refine Ch.op rfl rfl (by decide) (ok_pick_f rfl (vl rfl) h10 (vl rfl)) ?_
          refine Ch.op rfl rfl (by decide) (ok_move rfl (vl rfl)) ?_
          refine Ch.cases 52 rfl (fun h11 => ?_) (fun h11 => ?_)
          ·
            have q11 := Nrm.nrm h11
            refine Ch.no rfl rfl rfl (ne_false h11) rfl (by decide) ?_
            refine Ch.no rfl rfl rfl (ne_false h11) rfl (by decide) ?_
            refine Ch.no rfl rfl rfl (ne_false h11) rfl (by decide) ?_
            refine Ch.op rfl rfl (by decide) (ok_pick_t rfl (vl rfl) h11 (vl rfl)) ?_
            refine Ch.op rfl rfl (by decide) (ok_move rfl (vl rfl)) ?_
            refine Ch.no rfl rfl rfl (by decide) rfl (by decide) ?_
            refine Ch.no rfl rfl rfl (by decide) rfl (by decide) ?_
            refine Ch.no rfl rfl rfl (by decide) rfl (by decide) ?_
            refine Ch.op rfl rfl (by decide) (ok_pick_t rfl (vl rfl) rfl (vl rfl)) ?_
            refine Ch.nil ?_
            refine Fin.go ?_
            refine Tr.weak [(61, _)] ⟨⟨_, rfl, Pr.le_refl _⟩, trivial⟩ ?_
            refine Tr.cond rfl (fun _ => ?_) (fun h => nomatch h)
            refine Tr.seq ?_
            refine Tr.reg0 ?_
            refine Ch.op rfl rfl (by decide) (ok_assign rfl (vl rfl)) ?_
            refine Ch.nil ?_
            refine Fin.go ?_
            refine Tr.ret ?_
            refine Fin.then_ret ?_
            refine Fin.ret1 rfl (OutW.bse _ _) rfl ?_
            · refine int_eq ?_; unfold checkF; first | (simp_all; done) | (simp_all; omega)
          ·
            have q11 := Nrm.nrm h11
            refine Ch.yes rfl rfl rfl h11 rfl (by decide) (ok_fieldAddr rfl fo42_0 (vl rfl) rfl) ?_
            refine Ch.yes rfl rfl rfl h11 rfl (by decide) (ok_load1 rfl one3 (vl rfl)) ?_
            refine Ch.yes rfl rfl rfl h11 rfl (by decide) (ok_int rfl (vl rfl) (vl rfl) rfl) ?_
            refine Ch.op rfl rfl (by decide) (ok_pick_f rfl (vl rfl) h11 (vl rfl)) ?_
            refine Ch.op rfl rfl (by decide) (ok_move rfl (vl rfl)) ?_
            refine Ch.cases 57 rfl (fun h12 => ?_) (fun h12 => ?_)
            ·
              have q12 := Nrm.nrm h12
              refine Ch.no rfl rfl rfl (ne_false h12) rfl (by decide) ?_
              refine Ch.no rfl rfl rfl (ne_false h12) rfl (by decide) ?_
              refine Ch.no rfl rfl rfl (ne_false h12) rfl (by decide) ?_
              refine Ch.op rfl rfl (by decide) (ok_pick_t rfl (vl rfl) h12 (vl rfl)) ?_
              refine Ch.nil ?_
              refine Fin.go ?_
              refine Tr.weak [(61, _)] ⟨⟨_, rfl, Pr.le_refl _⟩, trivial⟩ ?_
              refine Tr.cond rfl (fun _ => ?_) (fun h => nomatch h)
              refine Tr.seq ?_
              refine Tr.reg0 ?_
              refine Ch.op rfl rfl (by decide) (ok_assign rfl (vl rfl)) ?_
              refine Ch.nil ?_
              refine Fin.go ?_
              refine Tr.ret ?_
              refine Fin.then_ret ?_
              refine Fin.ret1 rfl (OutW.bse _ _) rfl ?_
              · refine int_eq ?_; unfold checkF; first | (simp_all; done) | (simp_all; omega)
            ·
              have q12 := Nrm.nrm h12
              refine Ch.yes rfl rfl rfl h12 rfl (by decide) (ok_loadA rfl agg42 sz42 (vl rfl) rfl rfl) ?_
              refine Ch.yes rfl rfl rfl h12 rfl (by decide) (ok_call rfl (w_content (by assumption)) ⟨⟨_, rfl, Pr.le_refl _⟩, trivial⟩) ?_
              refine Ch.yes rfl rfl rfl h12 rfl (by decide) (ok_not rfl (vl rfl)) ?_
              refine Ch.op rfl rfl (by decide) (ok_pick_f rfl (vl rfl) h12 (vl rfl)) ?_
              refine Ch.nil ?_
              refine Fin.go ?_
              refine Tr.weak [(61, _)] ⟨⟨_, rfl, Pr.le_refl _⟩, trivial⟩ ?_
              refine Tr.cond rfl (fun h13 => ?_) (fun h13 => ?_)
              ·
                have q13 := Nrm.nrm h13
                refine Tr.seq ?_
                refine Tr.reg0 ?_
                refine Ch.op rfl rfl (by decide) (ok_assign rfl (vl rfl)) ?_
                refine Ch.nil ?_
                refine Fin.go ?_
                refine Tr.ret ?_
                refine Fin.then_ret ?_
                refine Fin.ret1 rfl (OutW.bse _ _) rfl ?_
                · refine int_eq ?_; unfold checkF; first | (simp_all; done) | (simp_all; omega)
              ·
                have q13 := Nrm.nrm h13
                refine Tr.skip ?_
                refine Fin.go ?_
                refine Tr.seq ?_
                refine Tr.reg0 ?_
                refine Ch.op rfl rfl (by decide) (ok_assign rfl (vl rfl)) ?_
                refine Ch.nil ?_
                refine Fin.go ?_
                refine Tr.ret ?_
                refine Fin.ret1 rfl (OutW.bse _ _) rfl ?_
                · refine int_eq ?_; unfold checkF; first | (simp_all; done) | (simp_all; omega)
theorem e_FCheck : Entry Tryz.prog 63 := ⟨_, Tryz.func63, rfl, rfl⟩
end Go.Proofs.YthmnoekgicggnaaGreat
