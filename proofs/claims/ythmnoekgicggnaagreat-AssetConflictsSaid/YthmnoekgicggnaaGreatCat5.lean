/-
  What the functions named below compute, proved from their text; printed by a program of our own.
-/
import Derived.Test.YthmnoekgicggnaaGreatTypes
import Derived.Test.YthmnoekgicggnaaGreatSlices
import Derived.Test.YthmnoekgicggnaaGreatEqs
import Derived.Test.YthmnoekgicggnaaGreatCat
import Derived.Test.YthmnoekgicggnaaGreatCat2
import Derived.Test.YthmnoekgicggnaaGreatCat3
import Derived.Test.YthmnoekgicggnaaGreatCat4
namespace Go.Proofs.YthmnoekgicggnaaGreat
open Go Go.RowKit Cp

theorem among_0 (b c : Int) : amongI b [0] [c] = if b = 0 then c else 0 := by
  unfold amongI idx
  by_cases h : b = 0
  · subst h; rfl
  · have : List.findIdx? (fun x => b == x) [0] = none := by simp [h]
    rw [this, if_neg h]; rfl
theorem strength_mod {alg b : Int} (h : alg = 5 ∨ alg = 6 ∨ alg = 10 ∨ alg = 11) : rmodI b = strength alg b := by
  rw [rmodI_eq]
  rcases h with rfl | rfl | rfl | rfl <;> rfl
theorem strength_rest {alg b : Int} (h : ¬ (alg = 5 ∨ alg = 6 ∨ alg = 7 ∨ alg = 9 ∨ alg = 10 ∨ alg = 11 ∨ alg = 12 ∨ alg = 13 ∨ alg = 14 ∨ alg = 15 ∨ alg = 16 ∨ alg = 17)) : amongI b [0] [singleI alg] = strength alg b := by
  rw [among_0]
  by_cases hin : 1 ≤ alg ∧ alg ≤ 22
  · have ha : alg = 1 ∨ alg = 2 ∨ alg = 3 ∨ alg = 4 ∨ alg = 8 ∨ alg = 18 ∨ alg = 19 ∨ alg = 20 ∨ alg = 21 ∨ alg = 22 := by omega
    rcases ha with rfl | rfl | rfl | rfl | rfl | rfl | rfl | rfl | rfl | rfl <;> rfl
  · have h1 : singleI alg = 0 := by unfold singleI; (repeat (first | rw [if_pos (by omega)] | rw [if_neg (by omega)]))
    unfold strength
    rw [h1, if_neg hin]; split <;> rfl
theorem strength_cur {alg b : Int} (h : alg = 7 ∨ alg = 12) : strength alg b = if (curvs.any fun x => b == x) = true then b.tdiv 2 else 0 := by
  rcases h with rfl | rfl <;> rfl

set_option maxRecDepth 20000 in
theorem w_RStrength {alg bits : Int}  : Fun Tryz.prog 123 [agg [int alg, int bits]] (int (strength alg bits)) := by
  refine Fun.of Tryz.func123 rfl rfl (by exact Nat.le_of_ble_eq_true rfl) fun M0 w0 => ?_
  refine Tr.seq ?_
  refine Tr.reg0 ?_
  refine Ch.op rfl rfl (by decide) (ok_box rfl (VL.le (vl rfl) (agg_cellsP _))) ?_
  refine Ch.op rfl rfl (by decide) (ok_assign rfl (vl rfl)) ?_
  refine Ch.nil ?_
  refine Fin.go ?_
  refine Tr.seq ?_
  refine Tr.reg0 ?_
  refine Ch.op rfl rfl (by decide) (ok_fieldAddr rfl fo38_1 (vl rfl) rfl) ?_
  refine Ch.op rfl rfl (by decide) (ok_load1 rfl one3 (vl rfl)) ?_
  refine Ch.op rfl rfl (by decide) (ok_assign rfl (vl rfl)) ?_
  refine Ch.nil ?_
  refine Fin.go ?_
  refine Tr.seq ?_
  refine Tr.seq ?_
  refine Tr.reg0 ?_
  refine Ch.op rfl rfl (by decide) (ok_fieldAddr rfl fo38_0 (vl rfl) rfl) ?_
  refine Ch.op rfl rfl (by decide) (ok_load1 rfl one3 (vl rfl)) ?_
  refine Ch.nil ?_
  refine Fin.go ?_
  refine Tr.block ?_
  refine Tr.seq ?_
  refine Tr.seq ?_
  refine Tr.reg0 ?_
  refine Ch.op rfl rfl (by decide) (ok_int rfl (vl rfl) (vl rfl) rfl) ?_
  refine Ch.op rfl rfl (by decide) (ok_assign rfl (vl rfl)) ?_
  refine Ch.nil ?_
  refine Fin.go ?_
  refine Tr.cond rfl (fun h1 => ?_) (fun h1 => ?_)
  ·
    have q1 := Nrm.nrm h1
    refine Tr.skip ?_
    refine Fin.go ?_
    refine Tr.cond rfl (fun _ => ?_) (fun h => nomatch h1.symm.trans h)
    refine Tr.seq ?_
    refine Tr.reg0 ?_
    refine Ch.op rfl rfl (by decide) (ok_move rfl (vl rfl)) ?_
    refine Ch.op rfl rfl (by decide) (ok_call rfl (w_Rmodulus) ⟨⟨_, rfl, Pr.le_refl _⟩, trivial⟩) ?_
    refine Ch.op rfl rfl (by decide) (ok_assign rfl (vl rfl)) ?_
    refine Ch.nil ?_
    refine Fin.go ?_
    refine Tr.ret ?_
    refine Fin.block_ret ?_
    refine Fin.then_ret ?_
    refine Fin.ret1 rfl (OutW.bse _ _) rfl ?_
    · first | (refine int_eq ?_; exact strength_mod (by omega)) | (refine int_eq ?_; rw [strength_cur (by omega)]; have hb : bits = 160 ∨ bits = 224 ∨ bits = 256 ∨ bits = 384 ∨ bits = 521 := (by omega); rcases hb with rfl | rfl | rfl | rfl | rfl <;> rfl; done) | (refine int_eq ?_; rw [strength_cur (by omega), if_neg (by simp [curvs]; omega)]; done) | (refine int_eq ?_; exact strength_rest (by omega)) | (refine int_eq ?_; have ha : alg = 9 := (by omega); rcases ha with rfl <;> rfl; done) | (refine int_eq ?_; have ha : alg = 13 := (by omega); rcases ha with rfl <;> rfl; done) | (refine int_eq ?_; have ha : alg = 14 := (by omega); rcases ha with rfl <;> rfl; done) | (refine int_eq ?_; have ha : alg = 15 := (by omega); rcases ha with rfl <;> rfl; done) | (refine int_eq ?_; have ha : alg = 16 ∨ alg = 17 := (by omega); rcases ha with rfl | rfl <;> rfl; done)
  ·
    have q1 := Nrm.nrm h1
    refine Tr.seq ?_
    refine Tr.reg0 ?_
    refine Ch.op rfl rfl (by decide) (ok_int rfl (vl rfl) (vl rfl) rfl) ?_
    refine Ch.op rfl rfl (by decide) (ok_assign rfl (vl rfl)) ?_
    refine Ch.nil ?_
    refine Fin.go ?_
    refine Tr.cond rfl (fun h2 => ?_) (fun h2 => ?_)
    ·
      have q2 := Nrm.nrm h2
      refine Tr.skip ?_
      refine Fin.go ?_
      refine Tr.cond rfl (fun _ => ?_) (fun h => nomatch h2.symm.trans h)
      refine Tr.seq ?_
      refine Tr.reg0 ?_
      refine Ch.op rfl rfl (by decide) (ok_move rfl (vl rfl)) ?_
      refine Ch.op rfl rfl (by decide) (ok_call rfl (w_Rmodulus) ⟨⟨_, rfl, Pr.le_refl _⟩, trivial⟩) ?_
      refine Ch.op rfl rfl (by decide) (ok_assign rfl (vl rfl)) ?_
      refine Ch.nil ?_
      refine Fin.go ?_
      refine Tr.weak [(2, _)] ⟨⟨_, rfl, Pr.le_refl _⟩, trivial⟩ ?_
      refine Tr.ret ?_
      refine Fin.block_ret ?_
      refine Fin.then_ret ?_
      refine Fin.ret1 rfl (OutW.bse _ _) rfl ?_
      · first | (refine int_eq ?_; exact strength_mod (by omega)) | (refine int_eq ?_; rw [strength_cur (by omega)]; have hb : bits = 160 ∨ bits = 224 ∨ bits = 256 ∨ bits = 384 ∨ bits = 521 := (by omega); rcases hb with rfl | rfl | rfl | rfl | rfl <;> rfl; done) | (refine int_eq ?_; rw [strength_cur (by omega), if_neg (by simp [curvs]; omega)]; done) | (refine int_eq ?_; exact strength_rest (by omega)) | (refine int_eq ?_; have ha : alg = 9 := (by omega); rcases ha with rfl <;> rfl; done) | (refine int_eq ?_; have ha : alg = 13 := (by omega); rcases ha with rfl <;> rfl; done) | (refine int_eq ?_; have ha : alg = 14 := (by omega); rcases ha with rfl <;> rfl; done) | (refine int_eq ?_; have ha : alg = 15 := (by omega); rcases ha with rfl <;> rfl; done) | (refine int_eq ?_; have ha : alg = 16 ∨ alg = 17 := (by omega); rcases ha with rfl | rfl <;> rfl; done)
    ·
      have q2 := Nrm.nrm h2
      refine Tr.seq ?_
      refine Tr.reg0 ?_
      refine Ch.op rfl rfl (by decide) (ok_int rfl (vl rfl) (vl rfl) rfl) ?_
      refine Ch.op rfl rfl (by decide) (ok_assign rfl (vl rfl)) ?_
      refine Ch.nil ?_
      refine Fin.go ?_
      refine Tr.cond rfl (fun h3 => ?_) (fun h3 => ?_)
      ·
        have q3 := Nrm.nrm h3
        refine Tr.skip ?_
        refine Fin.go ?_
        refine Tr.cond rfl (fun _ => ?_) (fun h => nomatch h3.symm.trans h)
        refine Tr.seq ?_
        refine Tr.reg0 ?_
        refine Ch.op rfl rfl (by decide) (ok_move rfl (vl rfl)) ?_
        refine Ch.op rfl rfl (by decide) (ok_call rfl (w_Rmodulus) ⟨⟨_, rfl, Pr.le_refl _⟩, trivial⟩) ?_
        refine Ch.op rfl rfl (by decide) (ok_assign rfl (vl rfl)) ?_
        refine Ch.nil ?_
        refine Fin.go ?_
        refine Tr.weak [(2, _)] ⟨⟨_, rfl, Pr.le_refl _⟩, trivial⟩ ?_
        refine Tr.ret ?_
        refine Fin.block_ret ?_
        refine Fin.then_ret ?_
        refine Fin.ret1 rfl (OutW.bse _ _) rfl ?_
        · first | (refine int_eq ?_; exact strength_mod (by omega)) | (refine int_eq ?_; rw [strength_cur (by omega)]; have hb : bits = 160 ∨ bits = 224 ∨ bits = 256 ∨ bits = 384 ∨ bits = 521 := (by omega); rcases hb with rfl | rfl | rfl | rfl | rfl <;> rfl; done) | (refine int_eq ?_; rw [strength_cur (by omega), if_neg (by simp [curvs]; omega)]; done) | (refine int_eq ?_; exact strength_rest (by omega)) | (refine int_eq ?_; have ha : alg = 9 := (by omega); rcases ha with rfl <;> rfl; done) | (refine int_eq ?_; have ha : alg = 13 := (by omega); rcases ha with rfl <;> rfl; done) | (refine int_eq ?_; have ha : alg = 14 := (by omega); rcases ha with rfl <;> rfl; done) | (refine int_eq ?_; have ha : alg = 15 := (by omega); rcases ha with rfl <;> rfl; done) | (refine int_eq ?_; have ha : alg = 16 ∨ alg = 17 := (by omega); rcases ha with rfl | rfl <;> rfl; done)
      ·
        have q3 := Nrm.nrm h3
        refine Tr.reg0 ?_
        refine Ch.op rfl rfl (by decide) (ok_int rfl (vl rfl) (vl rfl) rfl) ?_
        refine Ch.op rfl rfl (by decide) (ok_assign rfl (vl rfl)) ?_
        refine Ch.nil ?_
        refine Fin.go ?_
        refine Tr.weak [(1, _), (3, _), (7, _), (8, _)] ⟨⟨_, rfl, Pr.le_refl _⟩, ⟨_, rfl, Pr.le_refl _⟩, ⟨_, rfl, Pr.le_refl _⟩, ⟨_, rfl, Pr.le_refl _⟩, trivial⟩ ?_
        refine Tr.cond rfl (fun h4 => ?_) (fun h4 => ?_)
        ·
          have q4 := Nrm.nrm h4
          refine Tr.seq ?_
          refine Tr.reg0 ?_
          refine Ch.op rfl rfl (by decide) (ok_move rfl (vl rfl)) ?_
          refine Ch.op rfl rfl (by decide) (ok_call rfl (w_Rmodulus) ⟨⟨_, rfl, Pr.le_refl _⟩, trivial⟩) ?_
          refine Ch.op rfl rfl (by decide) (ok_assign rfl (vl rfl)) ?_
          refine Ch.nil ?_
          refine Fin.go ?_
          refine Tr.ret ?_
          refine Fin.block_ret ?_
          refine Fin.then_ret ?_
          refine Fin.ret1 rfl (OutW.bse _ _) rfl ?_
          · first | (refine int_eq ?_; exact strength_mod (by omega)) | (refine int_eq ?_; rw [strength_cur (by omega)]; have hb : bits = 160 ∨ bits = 224 ∨ bits = 256 ∨ bits = 384 ∨ bits = 521 := (by omega); rcases hb with rfl | rfl | rfl | rfl | rfl <;> rfl; done) | (refine int_eq ?_; rw [strength_cur (by omega), if_neg (by simp [curvs]; omega)]; done) | (refine int_eq ?_; exact strength_rest (by omega)) | (refine int_eq ?_; have ha : alg = 9 := (by omega); rcases ha with rfl <;> rfl; done) | (refine int_eq ?_; have ha : alg = 13 := (by omega); rcases ha with rfl <;> rfl; done) | (refine int_eq ?_; have ha : alg = 14 := (by omega); rcases ha with rfl <;> rfl; done) | (refine int_eq ?_; have ha : alg = 15 := (by omega); rcases ha with rfl <;> rfl; done) | (refine int_eq ?_; have ha : alg = 16 ∨ alg = 17 := (by omega); rcases ha with rfl | rfl <;> rfl; done)
        ·
          have q4 := Nrm.nrm h4
          refine Tr.seq ?_
          refine Tr.seq ?_
          refine Tr.reg0 ?_
          refine Ch.op rfl rfl (by decide) (ok_int rfl (vl rfl) (vl rfl) rfl) ?_
          refine Ch.op rfl rfl (by decide) (ok_assign rfl (vl rfl)) ?_
          refine Ch.nil ?_
          refine Fin.go ?_
          refine Tr.cond rfl (fun h5 => ?_) (fun h5 => ?_)
          ·
            have q5 := Nrm.nrm h5
            refine Tr.skip ?_
            refine Fin.go ?_
            refine Tr.cond rfl (fun _ => ?_) (fun h => nomatch h5.symm.trans h)
            refine Tr.seq ?_
            refine Tr.seq ?_
            refine Tr.reg0 ?_
            refine Ch.op rfl rfl (by decide) (ok_move rfl (vl rfl)) ?_
            refine Ch.op rfl rfl (by decide) (ok_int rfl (vl rfl) (vl rfl) rfl) ?_
            refine Ch.op rfl rfl (by decide) (ok_move rfl (vl rfl)) ?_
            refine Ch.cases 20 rfl (fun h6 => ?_) (fun h6 => ?_)
            ·
              have q6 := Nrm.nrm h6
              refine Ch.no rfl rfl rfl (ne_false h6) rfl (by decide) ?_
              refine Ch.no rfl rfl rfl (ne_false h6) rfl (by decide) ?_
              refine Ch.op rfl rfl (by decide) (ok_pick_t rfl (vl rfl) h6 (vl rfl)) ?_
              refine Ch.op rfl rfl (by decide) (ok_move rfl (vl rfl)) ?_
              refine Ch.no rfl rfl rfl (by decide) rfl (by decide) ?_
              refine Ch.no rfl rfl rfl (by decide) rfl (by decide) ?_
              refine Ch.op rfl rfl (by decide) (ok_pick_t rfl (vl rfl) rfl (vl rfl)) ?_
              refine Ch.op rfl rfl (by decide) (ok_move rfl (vl rfl)) ?_
              refine Ch.no rfl rfl rfl (by decide) rfl (by decide) ?_
              refine Ch.no rfl rfl rfl (by decide) rfl (by decide) ?_
              refine Ch.op rfl rfl (by decide) (ok_pick_t rfl (vl rfl) rfl (vl rfl)) ?_
              refine Ch.op rfl rfl (by decide) (ok_move rfl (vl rfl)) ?_
              refine Ch.no rfl rfl rfl (by decide) rfl (by decide) ?_
              refine Ch.no rfl rfl rfl (by decide) rfl (by decide) ?_
              refine Ch.op rfl rfl (by decide) (ok_pick_t rfl (vl rfl) rfl (vl rfl)) ?_
              refine Ch.nil ?_
              refine Fin.go ?_
              refine Tr.weak [(3, _), (35, _)] ⟨⟨_, rfl, Pr.le_refl _⟩, ⟨_, rfl, Pr.le_refl _⟩, trivial⟩ ?_
              refine Tr.cond rfl (fun _ => ?_) (fun h => nomatch h)
              refine Tr.seq ?_
              refine Tr.reg0 ?_
              refine Ch.op rfl rfl (by decide) (ok_move rfl (vl rfl)) ?_
              refine Ch.op rfl rfl (by decide) (ok_quo rfl (vl rfl) (vl rfl) (by omega)) ?_
              refine Ch.op rfl rfl (by decide) (ok_assign rfl (vl rfl)) ?_
              refine Ch.nil ?_
              refine Fin.go ?_
              refine Tr.ret ?_
              refine Fin.then_ret ?_
              refine Fin.block_ret ?_
              refine Fin.then_ret ?_
              refine Fin.ret1 rfl (OutW.bse _ _) rfl ?_
              · first | (refine int_eq ?_; exact strength_mod (by omega)) | (refine int_eq ?_; rw [strength_cur (by omega)]; have hb : bits = 160 ∨ bits = 224 ∨ bits = 256 ∨ bits = 384 ∨ bits = 521 := (by omega); rcases hb with rfl | rfl | rfl | rfl | rfl <;> rfl; done) | (refine int_eq ?_; rw [strength_cur (by omega), if_neg (by simp [curvs]; omega)]; done) | (refine int_eq ?_; exact strength_rest (by omega)) | (refine int_eq ?_; have ha : alg = 9 := (by omega); rcases ha with rfl <;> rfl; done) | (refine int_eq ?_; have ha : alg = 13 := (by omega); rcases ha with rfl <;> rfl; done) | (refine int_eq ?_; have ha : alg = 14 := (by omega); rcases ha with rfl <;> rfl; done) | (refine int_eq ?_; have ha : alg = 15 := (by omega); rcases ha with rfl <;> rfl; done) | (refine int_eq ?_; have ha : alg = 16 ∨ alg = 17 := (by omega); rcases ha with rfl | rfl <;> rfl; done)
            ·
              have q6 := Nrm.nrm h6
              refine Ch.yes rfl rfl rfl h6 rfl (by decide) (ok_move rfl (vl rfl)) ?_
              refine Ch.yes rfl rfl rfl h6 rfl (by decide) (ok_int rfl (vl rfl) (vl rfl) rfl) ?_
              refine Ch.op rfl rfl (by decide) (ok_pick_f rfl (vl rfl) h6 (vl rfl)) ?_
              refine Ch.op rfl rfl (by decide) (ok_move rfl (vl rfl)) ?_
              refine Ch.cases 24 rfl (fun h7 => ?_) (fun h7 => ?_)
              ·
                have q7 := Nrm.nrm h7
                refine Ch.no rfl rfl rfl (ne_false h7) rfl (by decide) ?_
                refine Ch.no rfl rfl rfl (ne_false h7) rfl (by decide) ?_
                refine Ch.op rfl rfl (by decide) (ok_pick_t rfl (vl rfl) h7 (vl rfl)) ?_
                refine Ch.op rfl rfl (by decide) (ok_move rfl (vl rfl)) ?_
                refine Ch.no rfl rfl rfl (by decide) rfl (by decide) ?_
                refine Ch.no rfl rfl rfl (by decide) rfl (by decide) ?_
                refine Ch.op rfl rfl (by decide) (ok_pick_t rfl (vl rfl) rfl (vl rfl)) ?_
                refine Ch.op rfl rfl (by decide) (ok_move rfl (vl rfl)) ?_
                refine Ch.no rfl rfl rfl (by decide) rfl (by decide) ?_
                refine Ch.no rfl rfl rfl (by decide) rfl (by decide) ?_
                refine Ch.op rfl rfl (by decide) (ok_pick_t rfl (vl rfl) rfl (vl rfl)) ?_
                refine Ch.nil ?_
                refine Fin.go ?_
                refine Tr.weak [(3, _), (35, _)] ⟨⟨_, rfl, Pr.le_refl _⟩, ⟨_, rfl, Pr.le_refl _⟩, trivial⟩ ?_
                refine Tr.cond rfl (fun _ => ?_) (fun h => nomatch h)
                refine Tr.seq ?_
                refine Tr.reg0 ?_
                refine Ch.op rfl rfl (by decide) (ok_move rfl (vl rfl)) ?_
                refine Ch.op rfl rfl (by decide) (ok_quo rfl (vl rfl) (vl rfl) (by omega)) ?_
                refine Ch.op rfl rfl (by decide) (ok_assign rfl (vl rfl)) ?_
                refine Ch.nil ?_
                refine Fin.go ?_
                refine Tr.ret ?_
                refine Fin.then_ret ?_
                refine Fin.block_ret ?_
                refine Fin.then_ret ?_
                refine Fin.ret1 rfl (OutW.bse _ _) rfl ?_
                · first | (refine int_eq ?_; exact strength_mod (by omega)) | (refine int_eq ?_; rw [strength_cur (by omega)]; have hb : bits = 160 ∨ bits = 224 ∨ bits = 256 ∨ bits = 384 ∨ bits = 521 := (by omega); rcases hb with rfl | rfl | rfl | rfl | rfl <;> rfl; done) | (refine int_eq ?_; rw [strength_cur (by omega), if_neg (by simp [curvs]; omega)]; done) | (refine int_eq ?_; exact strength_rest (by omega)) | (refine int_eq ?_; have ha : alg = 9 := (by omega); rcases ha with rfl <;> rfl; done) | (refine int_eq ?_; have ha : alg = 13 := (by omega); rcases ha with rfl <;> rfl; done) | (refine int_eq ?_; have ha : alg = 14 := (by omega); rcases ha with rfl <;> rfl; done) | (refine int_eq ?_; have ha : alg = 15 := (by omega); rcases ha with rfl <;> rfl; done) | (refine int_eq ?_; have ha : alg = 16 ∨ alg = 17 := (by omega); rcases ha with rfl | rfl <;> rfl; done)
              ·
                have q7 := Nrm.nrm h7
                refine Ch.yes rfl rfl rfl h7 rfl (by decide) (ok_move rfl (vl rfl)) ?_
                refine Ch.yes rfl rfl rfl h7 rfl (by decide) (ok_int rfl (vl rfl) (vl rfl) rfl) ?_
                refine Ch.op rfl rfl (by decide) (ok_pick_f rfl (vl rfl) h7 (vl rfl)) ?_
                refine Ch.op rfl rfl (by decide) (ok_move rfl (vl rfl)) ?_
                refine Ch.cases 28 rfl (fun h8 => ?_) (fun h8 => ?_)
                ·
                  have q8 := Nrm.nrm h8
                  refine Ch.no rfl rfl rfl (ne_false h8) rfl (by decide) ?_
                  refine Ch.no rfl rfl rfl (ne_false h8) rfl (by decide) ?_
                  refine Ch.op rfl rfl (by decide) (ok_pick_t rfl (vl rfl) h8 (vl rfl)) ?_
                  refine Ch.op rfl rfl (by decide) (ok_move rfl (vl rfl)) ?_
                  refine Ch.no rfl rfl rfl (by decide) rfl (by decide) ?_
                  refine Ch.no rfl rfl rfl (by decide) rfl (by decide) ?_
                  refine Ch.op rfl rfl (by decide) (ok_pick_t rfl (vl rfl) rfl (vl rfl)) ?_
                  refine Ch.nil ?_
                  refine Fin.go ?_
                  refine Tr.weak [(3, _), (35, _)] ⟨⟨_, rfl, Pr.le_refl _⟩, ⟨_, rfl, Pr.le_refl _⟩, trivial⟩ ?_
                  refine Tr.cond rfl (fun _ => ?_) (fun h => nomatch h)
                  refine Tr.seq ?_
                  refine Tr.reg0 ?_
                  refine Ch.op rfl rfl (by decide) (ok_move rfl (vl rfl)) ?_
                  refine Ch.op rfl rfl (by decide) (ok_quo rfl (vl rfl) (vl rfl) (by omega)) ?_
                  refine Ch.op rfl rfl (by decide) (ok_assign rfl (vl rfl)) ?_
                  refine Ch.nil ?_
                  refine Fin.go ?_
                  refine Tr.ret ?_
                  refine Fin.then_ret ?_
                  refine Fin.block_ret ?_
                  refine Fin.then_ret ?_
                  refine Fin.ret1 rfl (OutW.bse _ _) rfl ?_
                  · first | (refine int_eq ?_; exact strength_mod (by omega)) | (refine int_eq ?_; rw [strength_cur (by omega)]; have hb : bits = 160 ∨ bits = 224 ∨ bits = 256 ∨ bits = 384 ∨ bits = 521 := (by omega); rcases hb with rfl | rfl | rfl | rfl | rfl <;> rfl; done) | (refine int_eq ?_; rw [strength_cur (by omega), if_neg (by simp [curvs]; omega)]; done) | (refine int_eq ?_; exact strength_rest (by omega)) | (refine int_eq ?_; have ha : alg = 9 := (by omega); rcases ha with rfl <;> rfl; done) | (refine int_eq ?_; have ha : alg = 13 := (by omega); rcases ha with rfl <;> rfl; done) | (refine int_eq ?_; have ha : alg = 14 := (by omega); rcases ha with rfl <;> rfl; done) | (refine int_eq ?_; have ha : alg = 15 := (by omega); rcases ha with rfl <;> rfl; done) | (refine int_eq ?_; have ha : alg = 16 ∨ alg = 17 := (by omega); rcases ha with rfl | rfl <;> rfl; done)
                ·
                  have q8 := Nrm.nrm h8
                  refine Ch.yes rfl rfl rfl h8 rfl (by decide) (ok_move rfl (vl rfl)) ?_
                  refine Ch.yes rfl rfl rfl h8 rfl (by decide) (ok_int rfl (vl rfl) (vl rfl) rfl) ?_
                  refine Ch.op rfl rfl (by decide) (ok_pick_f rfl (vl rfl) h8 (vl rfl)) ?_
                  refine Ch.op rfl rfl (by decide) (ok_move rfl (vl rfl)) ?_
                  refine Ch.cases 32 rfl (fun h9 => ?_) (fun h9 => ?_)
                  ·
                    have q9 := Nrm.nrm h9
                    refine Ch.no rfl rfl rfl (ne_false h9) rfl (by decide) ?_
                    refine Ch.no rfl rfl rfl (ne_false h9) rfl (by decide) ?_
                    refine Ch.op rfl rfl (by decide) (ok_pick_t rfl (vl rfl) h9 (vl rfl)) ?_
                    refine Ch.nil ?_
                    refine Fin.go ?_
                    refine Tr.weak [(3, _), (35, _)] ⟨⟨_, rfl, Pr.le_refl _⟩, ⟨_, rfl, Pr.le_refl _⟩, trivial⟩ ?_
                    refine Tr.cond rfl (fun _ => ?_) (fun h => nomatch h)
                    refine Tr.seq ?_
                    refine Tr.reg0 ?_
                    refine Ch.op rfl rfl (by decide) (ok_move rfl (vl rfl)) ?_
                    refine Ch.op rfl rfl (by decide) (ok_quo rfl (vl rfl) (vl rfl) (by omega)) ?_
                    refine Ch.op rfl rfl (by decide) (ok_assign rfl (vl rfl)) ?_
                    refine Ch.nil ?_
                    refine Fin.go ?_
                    refine Tr.ret ?_
                    refine Fin.then_ret ?_
                    refine Fin.block_ret ?_
                    refine Fin.then_ret ?_
                    refine Fin.ret1 rfl (OutW.bse _ _) rfl ?_
                    · first | (refine int_eq ?_; exact strength_mod (by omega)) | (refine int_eq ?_; rw [strength_cur (by omega)]; have hb : bits = 160 ∨ bits = 224 ∨ bits = 256 ∨ bits = 384 ∨ bits = 521 := (by omega); rcases hb with rfl | rfl | rfl | rfl | rfl <;> rfl; done) | (refine int_eq ?_; rw [strength_cur (by omega), if_neg (by simp [curvs]; omega)]; done) | (refine int_eq ?_; exact strength_rest (by omega)) | (refine int_eq ?_; have ha : alg = 9 := (by omega); rcases ha with rfl <;> rfl; done) | (refine int_eq ?_; have ha : alg = 13 := (by omega); rcases ha with rfl <;> rfl; done) | (refine int_eq ?_; have ha : alg = 14 := (by omega); rcases ha with rfl <;> rfl; done) | (refine int_eq ?_; have ha : alg = 15 := (by omega); rcases ha with rfl <;> rfl; done) | (refine int_eq ?_; have ha : alg = 16 ∨ alg = 17 := (by omega); rcases ha with rfl | rfl <;> rfl; done)
                  ·
                    have q9 := Nrm.nrm h9
                    refine Ch.yes rfl rfl rfl h9 rfl (by decide) (ok_move rfl (vl rfl)) ?_
                    refine Ch.yes rfl rfl rfl h9 rfl (by decide) (ok_int rfl (vl rfl) (vl rfl) rfl) ?_
                    refine Ch.op rfl rfl (by decide) (ok_pick_f rfl (vl rfl) h9 (vl rfl)) ?_
                    refine Ch.nil ?_
                    refine Fin.go ?_
                    refine Tr.weak [(3, _), (35, _)] ⟨⟨_, rfl, Pr.le_refl _⟩, ⟨_, rfl, Pr.le_refl _⟩, trivial⟩ ?_
                    refine Tr.cond rfl (fun h10 => ?_) (fun h10 => ?_)
                    ·
                      have q10 := Nrm.nrm h10
                      refine Tr.seq ?_
                      refine Tr.reg0 ?_
                      refine Ch.op rfl rfl (by decide) (ok_move rfl (vl rfl)) ?_
                      refine Ch.op rfl rfl (by decide) (ok_quo rfl (vl rfl) (vl rfl) (by omega)) ?_
                      refine Ch.op rfl rfl (by decide) (ok_assign rfl (vl rfl)) ?_
                      refine Ch.nil ?_
                      refine Fin.go ?_
                      refine Tr.ret ?_
                      refine Fin.then_ret ?_
                      refine Fin.block_ret ?_
                      refine Fin.then_ret ?_
                      refine Fin.ret1 rfl (OutW.bse _ _) rfl ?_
                      · first | (refine int_eq ?_; exact strength_mod (by omega)) | (refine int_eq ?_; rw [strength_cur (by omega)]; have hb : bits = 160 ∨ bits = 224 ∨ bits = 256 ∨ bits = 384 ∨ bits = 521 := (by omega); rcases hb with rfl | rfl | rfl | rfl | rfl <;> rfl; done) | (refine int_eq ?_; rw [strength_cur (by omega), if_neg (by simp [curvs]; omega)]; done) | (refine int_eq ?_; exact strength_rest (by omega)) | (refine int_eq ?_; have ha : alg = 9 := (by omega); rcases ha with rfl <;> rfl; done) | (refine int_eq ?_; have ha : alg = 13 := (by omega); rcases ha with rfl <;> rfl; done) | (refine int_eq ?_; have ha : alg = 14 := (by omega); rcases ha with rfl <;> rfl; done) | (refine int_eq ?_; have ha : alg = 15 := (by omega); rcases ha with rfl <;> rfl; done) | (refine int_eq ?_; have ha : alg = 16 ∨ alg = 17 := (by omega); rcases ha with rfl | rfl <;> rfl; done)
                    ·
                      have q10 := Nrm.nrm h10
                      refine Tr.skip ?_
                      refine Fin.go ?_
                      refine Tr.seq ?_
                      refine Tr.reg0 ?_
                      refine Ch.op rfl rfl (by decide) (ok_assign rfl (vl rfl)) ?_
                      refine Ch.nil ?_
                      refine Fin.go ?_
                      refine Tr.ret ?_
                      refine Fin.block_ret ?_
                      refine Fin.then_ret ?_
                      refine Fin.ret1 rfl (OutW.bse _ _) rfl ?_
                      · first | (refine int_eq ?_; exact strength_mod (by omega)) | (refine int_eq ?_; rw [strength_cur (by omega)]; have hb : bits = 160 ∨ bits = 224 ∨ bits = 256 ∨ bits = 384 ∨ bits = 521 := (by omega); rcases hb with rfl | rfl | rfl | rfl | rfl <;> rfl; done) | (refine int_eq ?_; rw [strength_cur (by omega), if_neg (by simp [curvs]; omega)]; done) | (refine int_eq ?_; exact strength_rest (by omega)) | (refine int_eq ?_; have ha : alg = 9 := (by omega); rcases ha with rfl <;> rfl; done) | (refine int_eq ?_; have ha : alg = 13 := (by omega); rcases ha with rfl <;> rfl; done) | (refine int_eq ?_; have ha : alg = 14 := (by omega); rcases ha with rfl <;> rfl; done) | (refine int_eq ?_; have ha : alg = 15 := (by omega); rcases ha with rfl <;> rfl; done) | (refine int_eq ?_; have ha : alg = 16 ∨ alg = 17 := (by omega); rcases ha with rfl | rfl <;> rfl; done)
          ·
            have q5 := Nrm.nrm h5
            refine Tr.reg0 ?_
            refine Ch.op rfl rfl (by decide) (ok_int rfl (vl rfl) (vl rfl) rfl) ?_
            refine Ch.op rfl rfl (by decide) (ok_assign rfl (vl rfl)) ?_
            refine Ch.nil ?_
            refine Fin.go ?_
            refine Tr.cond rfl (fun h11 => ?_) (fun h11 => ?_)
            ·
              have q11 := Nrm.nrm h11
              refine Tr.seq ?_
              refine Tr.seq ?_
              refine Tr.reg0 ?_
              refine Ch.op rfl rfl (by decide) (ok_move rfl (vl rfl)) ?_
              refine Ch.op rfl rfl (by decide) (ok_int rfl (vl rfl) (vl rfl) rfl) ?_
              refine Ch.op rfl rfl (by decide) (ok_move rfl (vl rfl)) ?_
              refine Ch.cases 20 rfl (fun h12 => ?_) (fun h12 => ?_)
              ·
                have q12 := Nrm.nrm h12
                refine Ch.no rfl rfl rfl (ne_false h12) rfl (by decide) ?_
                refine Ch.no rfl rfl rfl (ne_false h12) rfl (by decide) ?_
                refine Ch.op rfl rfl (by decide) (ok_pick_t rfl (vl rfl) h12 (vl rfl)) ?_
                refine Ch.op rfl rfl (by decide) (ok_move rfl (vl rfl)) ?_
                refine Ch.no rfl rfl rfl (by decide) rfl (by decide) ?_
                refine Ch.no rfl rfl rfl (by decide) rfl (by decide) ?_
                refine Ch.op rfl rfl (by decide) (ok_pick_t rfl (vl rfl) rfl (vl rfl)) ?_
                refine Ch.op rfl rfl (by decide) (ok_move rfl (vl rfl)) ?_
                refine Ch.no rfl rfl rfl (by decide) rfl (by decide) ?_
                refine Ch.no rfl rfl rfl (by decide) rfl (by decide) ?_
                refine Ch.op rfl rfl (by decide) (ok_pick_t rfl (vl rfl) rfl (vl rfl)) ?_
                refine Ch.op rfl rfl (by decide) (ok_move rfl (vl rfl)) ?_
                refine Ch.no rfl rfl rfl (by decide) rfl (by decide) ?_
                refine Ch.no rfl rfl rfl (by decide) rfl (by decide) ?_
                refine Ch.op rfl rfl (by decide) (ok_pick_t rfl (vl rfl) rfl (vl rfl)) ?_
                refine Ch.nil ?_
                refine Fin.go ?_
                refine Tr.weak [(3, _), (35, _)] ⟨⟨_, rfl, Pr.le_refl _⟩, ⟨_, rfl, Pr.le_refl _⟩, trivial⟩ ?_
                refine Tr.cond rfl (fun _ => ?_) (fun h => nomatch h)
                refine Tr.seq ?_
                refine Tr.reg0 ?_
                refine Ch.op rfl rfl (by decide) (ok_move rfl (vl rfl)) ?_
                refine Ch.op rfl rfl (by decide) (ok_quo rfl (vl rfl) (vl rfl) (by omega)) ?_
                refine Ch.op rfl rfl (by decide) (ok_assign rfl (vl rfl)) ?_
                refine Ch.nil ?_
                refine Fin.go ?_
                refine Tr.ret ?_
                refine Fin.then_ret ?_
                refine Fin.block_ret ?_
                refine Fin.then_ret ?_
                refine Fin.ret1 rfl (OutW.bse _ _) rfl ?_
                · first | (refine int_eq ?_; exact strength_mod (by omega)) | (refine int_eq ?_; rw [strength_cur (by omega)]; have hb : bits = 160 ∨ bits = 224 ∨ bits = 256 ∨ bits = 384 ∨ bits = 521 := (by omega); rcases hb with rfl | rfl | rfl | rfl | rfl <;> rfl; done) | (refine int_eq ?_; rw [strength_cur (by omega), if_neg (by simp [curvs]; omega)]; done) | (refine int_eq ?_; exact strength_rest (by omega)) | (refine int_eq ?_; have ha : alg = 9 := (by omega); rcases ha with rfl <;> rfl; done) | (refine int_eq ?_; have ha : alg = 13 := (by omega); rcases ha with rfl <;> rfl; done) | (refine int_eq ?_; have ha : alg = 14 := (by omega); rcases ha with rfl <;> rfl; done) | (refine int_eq ?_; have ha : alg = 15 := (by omega); rcases ha with rfl <;> rfl; done) | (refine int_eq ?_; have ha : alg = 16 ∨ alg = 17 := (by omega); rcases ha with rfl | rfl <;> rfl; done)
              ·
                have q12 := Nrm.nrm h12
                refine Ch.yes rfl rfl rfl h12 rfl (by decide) (ok_move rfl (vl rfl)) ?_
                refine Ch.yes rfl rfl rfl h12 rfl (by decide) (ok_int rfl (vl rfl) (vl rfl) rfl) ?_
                refine Ch.op rfl rfl (by decide) (ok_pick_f rfl (vl rfl) h12 (vl rfl)) ?_
                refine Ch.op rfl rfl (by decide) (ok_move rfl (vl rfl)) ?_
                refine Ch.cases 24 rfl (fun h13 => ?_) (fun h13 => ?_)
                ·
                  have q13 := Nrm.nrm h13
                  refine Ch.no rfl rfl rfl (ne_false h13) rfl (by decide) ?_
                  refine Ch.no rfl rfl rfl (ne_false h13) rfl (by decide) ?_
                  refine Ch.op rfl rfl (by decide) (ok_pick_t rfl (vl rfl) h13 (vl rfl)) ?_
                  refine Ch.op rfl rfl (by decide) (ok_move rfl (vl rfl)) ?_
                  refine Ch.no rfl rfl rfl (by decide) rfl (by decide) ?_
                  refine Ch.no rfl rfl rfl (by decide) rfl (by decide) ?_
                  refine Ch.op rfl rfl (by decide) (ok_pick_t rfl (vl rfl) rfl (vl rfl)) ?_
                  refine Ch.op rfl rfl (by decide) (ok_move rfl (vl rfl)) ?_
                  refine Ch.no rfl rfl rfl (by decide) rfl (by decide) ?_
                  refine Ch.no rfl rfl rfl (by decide) rfl (by decide) ?_
                  refine Ch.op rfl rfl (by decide) (ok_pick_t rfl (vl rfl) rfl (vl rfl)) ?_
                  refine Ch.nil ?_
                  refine Fin.go ?_
                  refine Tr.weak [(3, _), (35, _)] ⟨⟨_, rfl, Pr.le_refl _⟩, ⟨_, rfl, Pr.le_refl _⟩, trivial⟩ ?_
                  refine Tr.cond rfl (fun _ => ?_) (fun h => nomatch h)
                  refine Tr.seq ?_
                  refine Tr.reg0 ?_
                  refine Ch.op rfl rfl (by decide) (ok_move rfl (vl rfl)) ?_
                  refine Ch.op rfl rfl (by decide) (ok_quo rfl (vl rfl) (vl rfl) (by omega)) ?_
                  refine Ch.op rfl rfl (by decide) (ok_assign rfl (vl rfl)) ?_
                  refine Ch.nil ?_
                  refine Fin.go ?_
                  refine Tr.ret ?_
                  refine Fin.then_ret ?_
                  refine Fin.block_ret ?_
                  refine Fin.then_ret ?_
                  refine Fin.ret1 rfl (OutW.bse _ _) rfl ?_
                  · first | (refine int_eq ?_; exact strength_mod (by omega)) | (refine int_eq ?_; rw [strength_cur (by omega)]; have hb : bits = 160 ∨ bits = 224 ∨ bits = 256 ∨ bits = 384 ∨ bits = 521 := (by omega); rcases hb with rfl | rfl | rfl | rfl | rfl <;> rfl; done) | (refine int_eq ?_; rw [strength_cur (by omega), if_neg (by simp [curvs]; omega)]; done) | (refine int_eq ?_; exact strength_rest (by omega)) | (refine int_eq ?_; have ha : alg = 9 := (by omega); rcases ha with rfl <;> rfl; done) | (refine int_eq ?_; have ha : alg = 13 := (by omega); rcases ha with rfl <;> rfl; done) | (refine int_eq ?_; have ha : alg = 14 := (by omega); rcases ha with rfl <;> rfl; done) | (refine int_eq ?_; have ha : alg = 15 := (by omega); rcases ha with rfl <;> rfl; done) | (refine int_eq ?_; have ha : alg = 16 ∨ alg = 17 := (by omega); rcases ha with rfl | rfl <;> rfl; done)
                ·
                  have q13 := Nrm.nrm h13
                  refine Ch.yes rfl rfl rfl h13 rfl (by decide) (ok_move rfl (vl rfl)) ?_
                  refine Ch.yes rfl rfl rfl h13 rfl (by decide) (ok_int rfl (vl rfl) (vl rfl) rfl) ?_
                  refine Ch.op rfl rfl (by decide) (ok_pick_f rfl (vl rfl) h13 (vl rfl)) ?_
                  refine Ch.op rfl rfl (by decide) (ok_move rfl (vl rfl)) ?_
                  refine Ch.cases 28 rfl (fun h14 => ?_) (fun h14 => ?_)
                  ·
                    have q14 := Nrm.nrm h14
                    refine Ch.no rfl rfl rfl (ne_false h14) rfl (by decide) ?_
                    refine Ch.no rfl rfl rfl (ne_false h14) rfl (by decide) ?_
                    refine Ch.op rfl rfl (by decide) (ok_pick_t rfl (vl rfl) h14 (vl rfl)) ?_
                    refine Ch.op rfl rfl (by decide) (ok_move rfl (vl rfl)) ?_
                    refine Ch.no rfl rfl rfl (by decide) rfl (by decide) ?_
                    refine Ch.no rfl rfl rfl (by decide) rfl (by decide) ?_
                    refine Ch.op rfl rfl (by decide) (ok_pick_t rfl (vl rfl) rfl (vl rfl)) ?_
                    refine Ch.nil ?_
                    refine Fin.go ?_
                    refine Tr.weak [(3, _), (35, _)] ⟨⟨_, rfl, Pr.le_refl _⟩, ⟨_, rfl, Pr.le_refl _⟩, trivial⟩ ?_
                    refine Tr.cond rfl (fun _ => ?_) (fun h => nomatch h)
                    refine Tr.seq ?_
                    refine Tr.reg0 ?_
                    refine Ch.op rfl rfl (by decide) (ok_move rfl (vl rfl)) ?_
                    refine Ch.op rfl rfl (by decide) (ok_quo rfl (vl rfl) (vl rfl) (by omega)) ?_
                    refine Ch.op rfl rfl (by decide) (ok_assign rfl (vl rfl)) ?_
                    refine Ch.nil ?_
                    refine Fin.go ?_
                    refine Tr.ret ?_
                    refine Fin.then_ret ?_
                    refine Fin.block_ret ?_
                    refine Fin.then_ret ?_
                    refine Fin.ret1 rfl (OutW.bse _ _) rfl ?_
                    · first | (refine int_eq ?_; exact strength_mod (by omega)) | (refine int_eq ?_; rw [strength_cur (by omega)]; have hb : bits = 160 ∨ bits = 224 ∨ bits = 256 ∨ bits = 384 ∨ bits = 521 := (by omega); rcases hb with rfl | rfl | rfl | rfl | rfl <;> rfl; done) | (refine int_eq ?_; rw [strength_cur (by omega), if_neg (by simp [curvs]; omega)]; done) | (refine int_eq ?_; exact strength_rest (by omega)) | (refine int_eq ?_; have ha : alg = 9 := (by omega); rcases ha with rfl <;> rfl; done) | (refine int_eq ?_; have ha : alg = 13 := (by omega); rcases ha with rfl <;> rfl; done) | (refine int_eq ?_; have ha : alg = 14 := (by omega); rcases ha with rfl <;> rfl; done) | (refine int_eq ?_; have ha : alg = 15 := (by omega); rcases ha with rfl <;> rfl; done) | (refine int_eq ?_; have ha : alg = 16 ∨ alg = 17 := (by omega); rcases ha with rfl | rfl <;> rfl; done)
                  ·
                    have q14 := Nrm.nrm h14
                    refine Ch.yes rfl rfl rfl h14 rfl (by decide) (ok_move rfl (vl rfl)) ?_
                    refine Ch.yes rfl rfl rfl h14 rfl (by decide) (ok_int rfl (vl rfl) (vl rfl) rfl) ?_
                    refine Ch.op rfl rfl (by decide) (ok_pick_f rfl (vl rfl) h14 (vl rfl)) ?_
                    refine Ch.op rfl rfl (by decide) (ok_move rfl (vl rfl)) ?_
                    refine Ch.cases 32 rfl (fun h15 => ?_) (fun h15 => ?_)
                    ·
                      have q15 := Nrm.nrm h15
                      refine Ch.no rfl rfl rfl (ne_false h15) rfl (by decide) ?_
                      refine Ch.no rfl rfl rfl (ne_false h15) rfl (by decide) ?_
                      refine Ch.op rfl rfl (by decide) (ok_pick_t rfl (vl rfl) h15 (vl rfl)) ?_
                      refine Ch.nil ?_
                      refine Fin.go ?_
                      refine Tr.weak [(3, _), (35, _)] ⟨⟨_, rfl, Pr.le_refl _⟩, ⟨_, rfl, Pr.le_refl _⟩, trivial⟩ ?_
                      refine Tr.cond rfl (fun _ => ?_) (fun h => nomatch h)
                      refine Tr.seq ?_
                      refine Tr.reg0 ?_
                      refine Ch.op rfl rfl (by decide) (ok_move rfl (vl rfl)) ?_
                      refine Ch.op rfl rfl (by decide) (ok_quo rfl (vl rfl) (vl rfl) (by omega)) ?_
                      refine Ch.op rfl rfl (by decide) (ok_assign rfl (vl rfl)) ?_
                      refine Ch.nil ?_
                      refine Fin.go ?_
                      refine Tr.ret ?_
                      refine Fin.then_ret ?_
                      refine Fin.block_ret ?_
                      refine Fin.then_ret ?_
                      refine Fin.ret1 rfl (OutW.bse _ _) rfl ?_
                      · first | (refine int_eq ?_; exact strength_mod (by omega)) | (refine int_eq ?_; rw [strength_cur (by omega)]; have hb : bits = 160 ∨ bits = 224 ∨ bits = 256 ∨ bits = 384 ∨ bits = 521 := (by omega); rcases hb with rfl | rfl | rfl | rfl | rfl <;> rfl; done) | (refine int_eq ?_; rw [strength_cur (by omega), if_neg (by simp [curvs]; omega)]; done) | (refine int_eq ?_; exact strength_rest (by omega)) | (refine int_eq ?_; have ha : alg = 9 := (by omega); rcases ha with rfl <;> rfl; done) | (refine int_eq ?_; have ha : alg = 13 := (by omega); rcases ha with rfl <;> rfl; done) | (refine int_eq ?_; have ha : alg = 14 := (by omega); rcases ha with rfl <;> rfl; done) | (refine int_eq ?_; have ha : alg = 15 := (by omega); rcases ha with rfl <;> rfl; done) | (refine int_eq ?_; have ha : alg = 16 ∨ alg = 17 := (by omega); rcases ha with rfl | rfl <;> rfl; done)
                    ·
                      have q15 := Nrm.nrm h15
                      refine Ch.yes rfl rfl rfl h15 rfl (by decide) (ok_move rfl (vl rfl)) ?_
                      refine Ch.yes rfl rfl rfl h15 rfl (by decide) (ok_int rfl (vl rfl) (vl rfl) rfl) ?_
                      refine Ch.op rfl rfl (by decide) (ok_pick_f rfl (vl rfl) h15 (vl rfl)) ?_
                      refine Ch.nil ?_
                      refine Fin.go ?_
                      refine Tr.weak [(3, _), (35, _)] ⟨⟨_, rfl, Pr.le_refl _⟩, ⟨_, rfl, Pr.le_refl _⟩, trivial⟩ ?_
                      refine Tr.cond rfl (fun h16 => ?_) (fun h16 => ?_)
                      ·
                        have q16 := Nrm.nrm h16
                        refine Tr.seq ?_
                        refine Tr.reg0 ?_
                        refine Ch.op rfl rfl (by decide) (ok_move rfl (vl rfl)) ?_
                        refine Ch.op rfl rfl (by decide) (ok_quo rfl (vl rfl) (vl rfl) (by omega)) ?_
                        refine Ch.op rfl rfl (by decide) (ok_assign rfl (vl rfl)) ?_
                        refine Ch.nil ?_
                        refine Fin.go ?_
                        refine Tr.ret ?_
                        refine Fin.then_ret ?_
                        refine Fin.block_ret ?_
                        refine Fin.then_ret ?_
                        refine Fin.ret1 rfl (OutW.bse _ _) rfl ?_
                        · first | (refine int_eq ?_; exact strength_mod (by omega)) | (refine int_eq ?_; rw [strength_cur (by omega)]; have hb : bits = 160 ∨ bits = 224 ∨ bits = 256 ∨ bits = 384 ∨ bits = 521 := (by omega); rcases hb with rfl | rfl | rfl | rfl | rfl <;> rfl; done) | (refine int_eq ?_; rw [strength_cur (by omega), if_neg (by simp [curvs]; omega)]; done) | (refine int_eq ?_; exact strength_rest (by omega)) | (refine int_eq ?_; have ha : alg = 9 := (by omega); rcases ha with rfl <;> rfl; done) | (refine int_eq ?_; have ha : alg = 13 := (by omega); rcases ha with rfl <;> rfl; done) | (refine int_eq ?_; have ha : alg = 14 := (by omega); rcases ha with rfl <;> rfl; done) | (refine int_eq ?_; have ha : alg = 15 := (by omega); rcases ha with rfl <;> rfl; done) | (refine int_eq ?_; have ha : alg = 16 ∨ alg = 17 := (by omega); rcases ha with rfl | rfl <;> rfl; done)
                      ·
                        have q16 := Nrm.nrm h16
                        refine Tr.skip ?_
                        refine Fin.go ?_
                        refine Tr.seq ?_
                        refine Tr.reg0 ?_
                        refine Ch.op rfl rfl (by decide) (ok_assign rfl (vl rfl)) ?_
                        refine Ch.nil ?_
                        refine Fin.go ?_
                        refine Tr.ret ?_
                        refine Fin.block_ret ?_
                        refine Fin.then_ret ?_
                        refine Fin.ret1 rfl (OutW.bse _ _) rfl ?_
                        · first | (refine int_eq ?_; exact strength_mod (by omega)) | (refine int_eq ?_; rw [strength_cur (by omega)]; have hb : bits = 160 ∨ bits = 224 ∨ bits = 256 ∨ bits = 384 ∨ bits = 521 := (by omega); rcases hb with rfl | rfl | rfl | rfl | rfl <;> rfl; done) | (refine int_eq ?_; rw [strength_cur (by omega), if_neg (by simp [curvs]; omega)]; done) | (refine int_eq ?_; exact strength_rest (by omega)) | (refine int_eq ?_; have ha : alg = 9 := (by omega); rcases ha with rfl <;> rfl; done) | (refine int_eq ?_; have ha : alg = 13 := (by omega); rcases ha with rfl <;> rfl; done) | (refine int_eq ?_; have ha : alg = 14 := (by omega); rcases ha with rfl <;> rfl; done) | (refine int_eq ?_; have ha : alg = 15 := (by omega); rcases ha with rfl <;> rfl; done) | (refine int_eq ?_; have ha : alg = 16 ∨ alg = 17 := (by omega); rcases ha with rfl | rfl <;> rfl; done)
            ·
              have q11 := Nrm.nrm h11
              refine Tr.seq ?_
              refine Tr.reg0 ?_
              refine Ch.op rfl rfl (by decide) (ok_int rfl (vl rfl) (vl rfl) rfl) ?_
              refine Ch.op rfl rfl (by decide) (ok_assign rfl (vl rfl)) ?_
              refine Ch.nil ?_
              refine Fin.go ?_
              refine Tr.cond rfl (fun h17 => ?_) (fun h17 => ?_)
              ·
                have q17 := Nrm.nrm h17
                refine Tr.seq ?_
                refine Tr.reg0 ?_
                refine Ch.op rfl rfl (by decide) (ok_move rfl (vl rfl)) ?_
                refine Ch.op rfl rfl (by decide) (ok_buildSlice (xs := [.const (.int .i64 (44)), .const (.int .i64 (65)), .const (.int .i64 (87))]) (rows := [[_], [_], [_]]) rfl rfl Tryz.underlying22 sz3 z3 rfl (by decide) ⟨⟨(by exact rfl), (VL.le (vl rfl) (one_cellsP _))⟩, ⟨⟨(by exact rfl), (VL.le (vl rfl) (one_cellsP _))⟩, ⟨⟨(by exact rfl), (VL.le (vl rfl) (one_cellsP _))⟩, trivial⟩⟩⟩ (by decide)) ?_
                refine Ch.op rfl rfl (by decide) (ok_buildSlice (xs := [.const (.int .i64 (128)), .const (.int .i64 (192)), .const (.int .i64 (256))]) (rows := [[_], [_], [_]]) rfl rfl Tryz.underlying22 sz3 z3 rfl (by decide) ⟨⟨(by exact rfl), (VL.le (vl rfl) (one_cellsP _))⟩, ⟨⟨(by exact rfl), (VL.le (vl rfl) (one_cellsP _))⟩, ⟨⟨(by exact rfl), (VL.le (vl rfl) (one_cellsP _))⟩, trivial⟩⟩⟩ (by decide)) ?_
                refine Ch.op rfl rfl (by decide) (ok_call rfl (w_among (l := [44, 65, 87]) (m := [128, 192, 256]) (by simp)) ⟨⟨_, rfl, Pr.le_refl _⟩, ⟨_, rfl, full_le _ _⟩, ⟨_, rfl, full_le _ _⟩, trivial⟩) ?_
                refine Ch.op rfl rfl (by decide) (ok_assign rfl (vl rfl)) ?_
                refine Ch.nil ?_
                refine Fin.go ?_
                refine Tr.weak [(2, _)] ⟨⟨_, rfl, Pr.le_refl _⟩, trivial⟩ ?_
                refine Tr.ret ?_
                refine Fin.block_ret ?_
                refine Fin.then_ret ?_
                refine Fin.ret1 rfl (OutW.bse _ _) rfl ?_
                · first | (refine int_eq ?_; exact strength_mod (by omega)) | (refine int_eq ?_; rw [strength_cur (by omega)]; have hb : bits = 160 ∨ bits = 224 ∨ bits = 256 ∨ bits = 384 ∨ bits = 521 := (by omega); rcases hb with rfl | rfl | rfl | rfl | rfl <;> rfl; done) | (refine int_eq ?_; rw [strength_cur (by omega), if_neg (by simp [curvs]; omega)]; done) | (refine int_eq ?_; exact strength_rest (by omega)) | (refine int_eq ?_; have ha : alg = 9 := (by omega); rcases ha with rfl <;> rfl; done) | (refine int_eq ?_; have ha : alg = 13 := (by omega); rcases ha with rfl <;> rfl; done) | (refine int_eq ?_; have ha : alg = 14 := (by omega); rcases ha with rfl <;> rfl; done) | (refine int_eq ?_; have ha : alg = 15 := (by omega); rcases ha with rfl <;> rfl; done) | (refine int_eq ?_; have ha : alg = 16 ∨ alg = 17 := (by omega); rcases ha with rfl | rfl <;> rfl; done)
              ·
                have q17 := Nrm.nrm h17
                refine Tr.seq ?_
                refine Tr.reg0 ?_
                refine Ch.op rfl rfl (by decide) (ok_int rfl (vl rfl) (vl rfl) rfl) ?_
                refine Ch.op rfl rfl (by decide) (ok_assign rfl (vl rfl)) ?_
                refine Ch.nil ?_
                refine Fin.go ?_
                refine Tr.cond rfl (fun h18 => ?_) (fun h18 => ?_)
                ·
                  have q18 := Nrm.nrm h18
                  refine Tr.seq ?_
                  refine Tr.reg0 ?_
                  refine Ch.op rfl rfl (by decide) (ok_move rfl (vl rfl)) ?_
                  refine Ch.op rfl rfl (by decide) (ok_buildSlice (xs := [.const (.int .i64 (512)), .const (.int .i64 (768)), .const (.int .i64 (1024))]) (rows := [[_], [_], [_]]) rfl rfl Tryz.underlying22 sz3 z3 rfl (by decide) ⟨⟨(by exact rfl), (VL.le (vl rfl) (one_cellsP _))⟩, ⟨⟨(by exact rfl), (VL.le (vl rfl) (one_cellsP _))⟩, ⟨⟨(by exact rfl), (VL.le (vl rfl) (one_cellsP _))⟩, trivial⟩⟩⟩ (by decide)) ?_
                  refine Ch.op rfl rfl (by decide) (ok_buildSlice (xs := [.const (.int .i64 (128)), .const (.int .i64 (192)), .const (.int .i64 (256))]) (rows := [[_], [_], [_]]) rfl rfl Tryz.underlying22 sz3 z3 rfl (by decide) ⟨⟨(by exact rfl), (VL.le (vl rfl) (one_cellsP _))⟩, ⟨⟨(by exact rfl), (VL.le (vl rfl) (one_cellsP _))⟩, ⟨⟨(by exact rfl), (VL.le (vl rfl) (one_cellsP _))⟩, trivial⟩⟩⟩ (by decide)) ?_
                  refine Ch.op rfl rfl (by decide) (ok_call rfl (w_among (l := [512, 768, 1024]) (m := [128, 192, 256]) (by simp)) ⟨⟨_, rfl, Pr.le_refl _⟩, ⟨_, rfl, full_le _ _⟩, ⟨_, rfl, full_le _ _⟩, trivial⟩) ?_
                  refine Ch.op rfl rfl (by decide) (ok_assign rfl (vl rfl)) ?_
                  refine Ch.nil ?_
                  refine Fin.go ?_
                  refine Tr.weak [(2, _)] ⟨⟨_, rfl, Pr.le_refl _⟩, trivial⟩ ?_
                  refine Tr.ret ?_
                  refine Fin.block_ret ?_
                  refine Fin.then_ret ?_
                  refine Fin.ret1 rfl (OutW.bse _ _) rfl ?_
                  · first | (refine int_eq ?_; exact strength_mod (by omega)) | (refine int_eq ?_; rw [strength_cur (by omega)]; have hb : bits = 160 ∨ bits = 224 ∨ bits = 256 ∨ bits = 384 ∨ bits = 521 := (by omega); rcases hb with rfl | rfl | rfl | rfl | rfl <;> rfl; done) | (refine int_eq ?_; rw [strength_cur (by omega), if_neg (by simp [curvs]; omega)]; done) | (refine int_eq ?_; exact strength_rest (by omega)) | (refine int_eq ?_; have ha : alg = 9 := (by omega); rcases ha with rfl <;> rfl; done) | (refine int_eq ?_; have ha : alg = 13 := (by omega); rcases ha with rfl <;> rfl; done) | (refine int_eq ?_; have ha : alg = 14 := (by omega); rcases ha with rfl <;> rfl; done) | (refine int_eq ?_; have ha : alg = 15 := (by omega); rcases ha with rfl <;> rfl; done) | (refine int_eq ?_; have ha : alg = 16 ∨ alg = 17 := (by omega); rcases ha with rfl | rfl <;> rfl; done)
                ·
                  have q18 := Nrm.nrm h18
                  refine Tr.seq ?_
                  refine Tr.reg0 ?_
                  refine Ch.op rfl rfl (by decide) (ok_int rfl (vl rfl) (vl rfl) rfl) ?_
                  refine Ch.op rfl rfl (by decide) (ok_assign rfl (vl rfl)) ?_
                  refine Ch.nil ?_
                  refine Fin.go ?_
                  refine Tr.weak [(1, _), (3, _), (7, _), (50, _)] ⟨⟨_, rfl, Pr.le_refl _⟩, ⟨_, rfl, Pr.le_refl _⟩, ⟨_, rfl, Pr.le_refl _⟩, ⟨_, rfl, Pr.le_refl _⟩, trivial⟩ ?_
                  refine Tr.cond rfl (fun h19 => ?_) (fun h19 => ?_)
                  ·
                    have q19 := Nrm.nrm h19
                    refine Tr.seq ?_
                    refine Tr.reg0 ?_
                    refine Ch.op rfl rfl (by decide) (ok_move rfl (vl rfl)) ?_
                    refine Ch.op rfl rfl (by decide) (ok_buildSlice (xs := [.const (.int .i64 (40)), .const (.int .i64 (128))]) (rows := [[_], [_]]) rfl rfl Tryz.underlying22 sz3 z3 rfl (by decide) ⟨⟨(by exact rfl), (VL.le (vl rfl) (one_cellsP _))⟩, ⟨⟨(by exact rfl), (VL.le (vl rfl) (one_cellsP _))⟩, trivial⟩⟩ (by decide)) ?_
                    refine Ch.op rfl rfl (by decide) (ok_buildSlice (xs := [.const (.int .i64 (40)), .const (.int .i64 (60))]) (rows := [[_], [_]]) rfl rfl Tryz.underlying22 sz3 z3 rfl (by decide) ⟨⟨(by exact rfl), (VL.le (vl rfl) (one_cellsP _))⟩, ⟨⟨(by exact rfl), (VL.le (vl rfl) (one_cellsP _))⟩, trivial⟩⟩ (by decide)) ?_
                    refine Ch.op rfl rfl (by decide) (ok_call rfl (w_among (l := [40, 128]) (m := [40, 60]) (by simp)) ⟨⟨_, rfl, Pr.le_refl _⟩, ⟨_, rfl, full_le _ _⟩, ⟨_, rfl, full_le _ _⟩, trivial⟩) ?_
                    refine Ch.op rfl rfl (by decide) (ok_assign rfl (vl rfl)) ?_
                    refine Ch.nil ?_
                    refine Fin.go ?_
                    refine Tr.ret ?_
                    refine Fin.block_ret ?_
                    refine Fin.then_ret ?_
                    refine Fin.ret1 rfl (OutW.bse _ _) rfl ?_
                    · first | (refine int_eq ?_; exact strength_mod (by omega)) | (refine int_eq ?_; rw [strength_cur (by omega)]; have hb : bits = 160 ∨ bits = 224 ∨ bits = 256 ∨ bits = 384 ∨ bits = 521 := (by omega); rcases hb with rfl | rfl | rfl | rfl | rfl <;> rfl; done) | (refine int_eq ?_; rw [strength_cur (by omega), if_neg (by simp [curvs]; omega)]; done) | (refine int_eq ?_; exact strength_rest (by omega)) | (refine int_eq ?_; have ha : alg = 9 := (by omega); rcases ha with rfl <;> rfl; done) | (refine int_eq ?_; have ha : alg = 13 := (by omega); rcases ha with rfl <;> rfl; done) | (refine int_eq ?_; have ha : alg = 14 := (by omega); rcases ha with rfl <;> rfl; done) | (refine int_eq ?_; have ha : alg = 15 := (by omega); rcases ha with rfl <;> rfl; done) | (refine int_eq ?_; have ha : alg = 16 ∨ alg = 17 := (by omega); rcases ha with rfl | rfl <;> rfl; done)
                  ·
                    have q19 := Nrm.nrm h19
                    refine Tr.seq ?_
                    refine Tr.reg0 ?_
                    refine Ch.op rfl rfl (by decide) (ok_int rfl (vl rfl) (vl rfl) rfl) ?_
                    refine Ch.op rfl rfl (by decide) (ok_assign rfl (vl rfl)) ?_
                    refine Ch.nil ?_
                    refine Fin.go ?_
                    refine Tr.cond rfl (fun h20 => ?_) (fun h20 => ?_)
                    ·
                      have q20 := Nrm.nrm h20
                      refine Tr.seq ?_
                      refine Tr.reg0 ?_
                      refine Ch.op rfl rfl (by decide) (ok_move rfl (vl rfl)) ?_
                      refine Ch.op rfl rfl (by decide) (ok_buildSlice (xs := [.const (.int .i64 (112)), .const (.int .i64 (168))]) (rows := [[_], [_]]) rfl rfl Tryz.underlying22 sz3 z3 rfl (by decide) ⟨⟨(by exact rfl), (VL.le (vl rfl) (one_cellsP _))⟩, ⟨⟨(by exact rfl), (VL.le (vl rfl) (one_cellsP _))⟩, trivial⟩⟩ (by decide)) ?_
                      refine Ch.op rfl rfl (by decide) (ok_buildSlice (xs := [.const (.int .i64 (80)), .const (.int .i64 (112))]) (rows := [[_], [_]]) rfl rfl Tryz.underlying22 sz3 z3 rfl (by decide) ⟨⟨(by exact rfl), (VL.le (vl rfl) (one_cellsP _))⟩, ⟨⟨(by exact rfl), (VL.le (vl rfl) (one_cellsP _))⟩, trivial⟩⟩ (by decide)) ?_
                      refine Ch.op rfl rfl (by decide) (ok_call rfl (w_among (l := [112, 168]) (m := [80, 112]) (by simp)) ⟨⟨_, rfl, Pr.le_refl _⟩, ⟨_, rfl, full_le _ _⟩, ⟨_, rfl, full_le _ _⟩, trivial⟩) ?_
                      refine Ch.op rfl rfl (by decide) (ok_assign rfl (vl rfl)) ?_
                      refine Ch.nil ?_
                      refine Fin.go ?_
                      refine Tr.ret ?_
                      refine Fin.block_ret ?_
                      refine Fin.then_ret ?_
                      refine Fin.ret1 rfl (OutW.bse _ _) rfl ?_
                      · first | (refine int_eq ?_; exact strength_mod (by omega)) | (refine int_eq ?_; rw [strength_cur (by omega)]; have hb : bits = 160 ∨ bits = 224 ∨ bits = 256 ∨ bits = 384 ∨ bits = 521 := (by omega); rcases hb with rfl | rfl | rfl | rfl | rfl <;> rfl; done) | (refine int_eq ?_; rw [strength_cur (by omega), if_neg (by simp [curvs]; omega)]; done) | (refine int_eq ?_; exact strength_rest (by omega)) | (refine int_eq ?_; have ha : alg = 9 := (by omega); rcases ha with rfl <;> rfl; done) | (refine int_eq ?_; have ha : alg = 13 := (by omega); rcases ha with rfl <;> rfl; done) | (refine int_eq ?_; have ha : alg = 14 := (by omega); rcases ha with rfl <;> rfl; done) | (refine int_eq ?_; have ha : alg = 15 := (by omega); rcases ha with rfl <;> rfl; done) | (refine int_eq ?_; have ha : alg = 16 ∨ alg = 17 := (by omega); rcases ha with rfl | rfl <;> rfl; done)
                    ·
                      have q20 := Nrm.nrm h20
                      refine Tr.seq ?_
                      refine Tr.seq ?_
                      refine Tr.reg0 ?_
                      refine Ch.op rfl rfl (by decide) (ok_int rfl (vl rfl) (vl rfl) rfl) ?_
                      refine Ch.op rfl rfl (by decide) (ok_assign rfl (vl rfl)) ?_
                      refine Ch.nil ?_
                      refine Fin.go ?_
                      refine Tr.cond rfl (fun h21 => ?_) (fun h21 => ?_)
                      ·
                        have q21 := Nrm.nrm h21
                        refine Tr.skip ?_
                        refine Fin.go ?_
                        refine Tr.cond rfl (fun _ => ?_) (fun h => nomatch h21.symm.trans h)
                        refine Tr.seq ?_
                        refine Tr.reg0 ?_
                        refine Ch.op rfl rfl (by decide) (ok_move rfl (vl rfl)) ?_
                        refine Ch.op rfl rfl (by decide) (ok_buildSlice (xs := [.const (.int .i64 (128)), .const (.int .i64 (256))]) (rows := [[_], [_]]) rfl rfl Tryz.underlying22 sz3 z3 rfl (by decide) ⟨⟨(by exact rfl), (VL.le (vl rfl) (one_cellsP _))⟩, ⟨⟨(by exact rfl), (VL.le (vl rfl) (one_cellsP _))⟩, trivial⟩⟩ (by decide)) ?_
                        refine Ch.op rfl rfl (by decide) (ok_buildSlice (xs := [.const (.int .i64 (128)), .const (.int .i64 (256))]) (rows := [[_], [_]]) rfl rfl Tryz.underlying22 sz3 z3 rfl (by decide) ⟨⟨(by exact rfl), (VL.le (vl rfl) (one_cellsP _))⟩, ⟨⟨(by exact rfl), (VL.le (vl rfl) (one_cellsP _))⟩, trivial⟩⟩ (by decide)) ?_
                        refine Ch.op rfl rfl (by decide) (ok_call rfl (w_among (l := [128, 256]) (m := [128, 256]) (by simp)) ⟨⟨_, rfl, Pr.le_refl _⟩, ⟨_, rfl, full_le _ _⟩, ⟨_, rfl, full_le _ _⟩, trivial⟩) ?_
                        refine Ch.op rfl rfl (by decide) (ok_assign rfl (vl rfl)) ?_
                        refine Ch.nil ?_
                        refine Fin.go ?_
                        refine Tr.ret ?_
                        refine Fin.block_ret ?_
                        refine Fin.then_ret ?_
                        refine Fin.ret1 rfl (OutW.bse _ _) rfl ?_
                        · first | (refine int_eq ?_; exact strength_mod (by omega)) | (refine int_eq ?_; rw [strength_cur (by omega)]; have hb : bits = 160 ∨ bits = 224 ∨ bits = 256 ∨ bits = 384 ∨ bits = 521 := (by omega); rcases hb with rfl | rfl | rfl | rfl | rfl <;> rfl; done) | (refine int_eq ?_; rw [strength_cur (by omega), if_neg (by simp [curvs]; omega)]; done) | (refine int_eq ?_; exact strength_rest (by omega)) | (refine int_eq ?_; have ha : alg = 9 := (by omega); rcases ha with rfl <;> rfl; done) | (refine int_eq ?_; have ha : alg = 13 := (by omega); rcases ha with rfl <;> rfl; done) | (refine int_eq ?_; have ha : alg = 14 := (by omega); rcases ha with rfl <;> rfl; done) | (refine int_eq ?_; have ha : alg = 15 := (by omega); rcases ha with rfl <;> rfl; done) | (refine int_eq ?_; have ha : alg = 16 ∨ alg = 17 := (by omega); rcases ha with rfl | rfl <;> rfl; done)
                      ·
                        have q21 := Nrm.nrm h21
                        refine Tr.reg0 ?_
                        refine Ch.op rfl rfl (by decide) (ok_int rfl (vl rfl) (vl rfl) rfl) ?_
                        refine Ch.op rfl rfl (by decide) (ok_assign rfl (vl rfl)) ?_
                        refine Ch.nil ?_
                        refine Fin.go ?_
                        refine Tr.cond rfl (fun h22 => ?_) (fun h22 => ?_)
                        ·
                          have q22 := Nrm.nrm h22
                          refine Tr.seq ?_
                          refine Tr.reg0 ?_
                          refine Ch.op rfl rfl (by decide) (ok_move rfl (vl rfl)) ?_
                          refine Ch.op rfl rfl (by decide) (ok_buildSlice (xs := [.const (.int .i64 (128)), .const (.int .i64 (256))]) (rows := [[_], [_]]) rfl rfl Tryz.underlying22 sz3 z3 rfl (by decide) ⟨⟨(by exact rfl), (VL.le (vl rfl) (one_cellsP _))⟩, ⟨⟨(by exact rfl), (VL.le (vl rfl) (one_cellsP _))⟩, trivial⟩⟩ (by decide)) ?_
                          refine Ch.op rfl rfl (by decide) (ok_buildSlice (xs := [.const (.int .i64 (128)), .const (.int .i64 (256))]) (rows := [[_], [_]]) rfl rfl Tryz.underlying22 sz3 z3 rfl (by decide) ⟨⟨(by exact rfl), (VL.le (vl rfl) (one_cellsP _))⟩, ⟨⟨(by exact rfl), (VL.le (vl rfl) (one_cellsP _))⟩, trivial⟩⟩ (by decide)) ?_
                          refine Ch.op rfl rfl (by decide) (ok_call rfl (w_among (l := [128, 256]) (m := [128, 256]) (by simp)) ⟨⟨_, rfl, Pr.le_refl _⟩, ⟨_, rfl, full_le _ _⟩, ⟨_, rfl, full_le _ _⟩, trivial⟩) ?_
                          refine Ch.op rfl rfl (by decide) (ok_assign rfl (vl rfl)) ?_
                          refine Ch.nil ?_
                          refine Fin.go ?_
                          refine Tr.weak [(2, _)] ⟨⟨_, rfl, Pr.le_refl _⟩, trivial⟩ ?_
                          refine Tr.ret ?_
                          refine Fin.block_ret ?_
                          refine Fin.then_ret ?_
                          refine Fin.ret1 rfl (OutW.bse _ _) rfl ?_
                          · first | (refine int_eq ?_; exact strength_mod (by omega)) | (refine int_eq ?_; rw [strength_cur (by omega)]; have hb : bits = 160 ∨ bits = 224 ∨ bits = 256 ∨ bits = 384 ∨ bits = 521 := (by omega); rcases hb with rfl | rfl | rfl | rfl | rfl <;> rfl; done) | (refine int_eq ?_; rw [strength_cur (by omega), if_neg (by simp [curvs]; omega)]; done) | (refine int_eq ?_; exact strength_rest (by omega)) | (refine int_eq ?_; have ha : alg = 9 := (by omega); rcases ha with rfl <;> rfl; done) | (refine int_eq ?_; have ha : alg = 13 := (by omega); rcases ha with rfl <;> rfl; done) | (refine int_eq ?_; have ha : alg = 14 := (by omega); rcases ha with rfl <;> rfl; done) | (refine int_eq ?_; have ha : alg = 15 := (by omega); rcases ha with rfl <;> rfl; done) | (refine int_eq ?_; have ha : alg = 16 ∨ alg = 17 := (by omega); rcases ha with rfl | rfl <;> rfl; done)
                        ·
                          have q22 := Nrm.nrm h22
                          refine Tr.skip ?_
                          refine Fin.block ?_
                          refine Fin.go ?_
                          refine Tr.seq ?_
                          refine Tr.reg0 ?_
                          refine Ch.op rfl rfl (by decide) (ok_move rfl (vl rfl)) ?_
                          refine Ch.op rfl rfl (by decide) (ok_buildSlice (xs := [.const (.int .i64 (0))]) (rows := [[_]]) rfl rfl Tryz.underlying22 sz3 z3 rfl (by decide) ⟨⟨(by exact rfl), (VL.le (vl rfl) (one_cellsP _))⟩, trivial⟩ (by decide)) ?_
                          refine Ch.op rfl rfl (by decide) (ok_fieldAddr rfl fo38_0 (vl rfl) rfl) ?_
                          refine Ch.op rfl rfl (by decide) (ok_load1 rfl one3 (vl rfl)) ?_
                          refine Ch.op rfl rfl (by decide) (ok_call rfl (w_single) ⟨⟨_, rfl, Pr.le_refl _⟩, trivial⟩) ?_
                          refine Ch.op rfl rfl (by decide) (ok_buildSlice (xs := [.tmp 73]) (rows := [[_]]) rfl rfl Tryz.underlying22 sz3 z3 rfl (by decide) ⟨⟨(by exact rfl), (VL.le (vl rfl) (one_cellsP _))⟩, trivial⟩ (by decide)) ?_
                          refine Ch.op rfl rfl (by decide) (ok_call rfl (w_among (l := [0]) (m := [singleI alg]) (by simp)) ⟨⟨_, rfl, Pr.le_refl _⟩, ⟨_, rfl, full_le _ _⟩, ⟨_, rfl, full_le _ _⟩, trivial⟩) ?_
                          refine Ch.op rfl rfl (by decide) (ok_assign rfl (vl rfl)) ?_
                          refine Ch.nil ?_
                          refine Fin.go ?_
                          refine Tr.weak [(2, _)] ⟨⟨_, rfl, Pr.le_refl _⟩, trivial⟩ ?_
                          refine Tr.ret ?_
                          refine Fin.ret1 rfl (OutW.bse _ _) rfl ?_
                          · first | (refine int_eq ?_; exact strength_mod (by omega)) | (refine int_eq ?_; rw [strength_cur (by omega)]; have hb : bits = 160 ∨ bits = 224 ∨ bits = 256 ∨ bits = 384 ∨ bits = 521 := (by omega); rcases hb with rfl | rfl | rfl | rfl | rfl <;> rfl; done) | (refine int_eq ?_; rw [strength_cur (by omega), if_neg (by simp [curvs]; omega)]; done) | (refine int_eq ?_; exact strength_rest (by omega)) | (refine int_eq ?_; have ha : alg = 9 := (by omega); rcases ha with rfl <;> rfl; done) | (refine int_eq ?_; have ha : alg = 13 := (by omega); rcases ha with rfl <;> rfl; done) | (refine int_eq ?_; have ha : alg = 14 := (by omega); rcases ha with rfl <;> rfl; done) | (refine int_eq ?_; have ha : alg = 15 := (by omega); rcases ha with rfl <;> rfl; done) | (refine int_eq ?_; have ha : alg = 16 ∨ alg = 17 := (by omega); rcases ha with rfl | rfl <;> rfl; done)
theorem e_RStrength : Entry Tryz.prog 123 := ⟨_, Tryz.func123, rfl, rfl⟩
set_option maxRecDepth 20000 in
theorem w_RValid {alg bits : Int}  : Fun Tryz.prog 85 [agg [int alg, int bits]] (bool (decide (strength alg bits > 0))) := by
  refine Fun.of Tryz.func85 rfl rfl (by exact Nat.le_of_ble_eq_true rfl) fun M0 w0 => ?_
  refine Tr.seq ?_
  refine Tr.reg0 ?_
  refine Ch.op rfl rfl (by decide) (ok_box rfl (VL.le (vl rfl) (agg_cellsP _))) ?_
  refine Ch.op rfl rfl (by decide) (ok_assign rfl (vl rfl)) ?_
  refine Ch.nil ?_
  refine Fin.go ?_
  refine Tr.seq ?_
  refine Tr.reg0 ?_
  refine Ch.op rfl rfl (by decide) (ok_loadA rfl agg38 sz38 (vl rfl) rfl rfl) ?_
  refine Ch.op rfl rfl (by decide) (ok_call rfl (w_RStrength) ⟨⟨_, rfl, Pr.le_refl _⟩, trivial⟩) ?_
  refine Ch.op rfl rfl (by decide) (ok_int rfl (vl rfl) (vl rfl) rfl) ?_
  refine Ch.op rfl rfl (by decide) (ok_assign rfl (vl rfl)) ?_
  refine Ch.nil ?_
  refine Fin.go ?_
  refine Tr.ret ?_
  refine Fin.ret1 rfl (OutW.bse _ _) rfl ?_
  · first | exact Pr.le_refl _ | (refine int_eq ?_; simp_all; done) | (refine bool_eq ?_; simp_all; done) | (refine bool_eq ?_; simp_all; omega) | (refine int_eq ?_; omega)
theorem e_RValid : Entry Tryz.prog 85 := ⟨_, Tryz.func85, rfl, rfl⟩

def rtab : List (List UInt8 × Int) := catTable.map fun r => (r.name, r.kind)
theorem rtab_at {alg : Int} (h : 1 ≤ alg ∧ alg ≤ 22) : rtab[alg.toNat]? = some ((catOf alg).name, (catOf alg).kind) := by
  unfold rtab; rw [List.getElem?_map, catTable_at h]; rfl

set_option maxRecDepth 20000 in
theorem w_Rrows   : Fun Tryz.prog 153 [] (slice 2 (rtab.map fun r => [str r.1, int r.2])) := by
  refine Fun.of Tryz.func153 rfl rfl (by exact Nat.le_of_ble_eq_true rfl) fun M0 w0 => ?_
  refine Tr.seq ?_
  refine Tr.reg0 ?_
  refine Ch.op rfl rfl (by decide) (ok_assign rfl (vl rfl)) ?_
  refine Ch.nil ?_
  refine Fin.go ?_
  refine Tr.seq ?_
  refine Tr.reg0 ?_
  refine Ch.op rfl rfl (by decide) (ok_build (rows := []) rfl bl164 zo164 trivial rfl) ?_
  refine Ch.op rfl rfl (by decide) (ok_build (rows := [(0, [_]), (1, [_])]) rfl bl164 zo164 ⟨⟨rfl, (VL.le (vl rfl) (one_cellsP _))⟩, ⟨⟨rfl, (VL.le (vl rfl) (one_cellsP _))⟩, trivial⟩⟩ rfl) ?_
  refine Ch.op rfl rfl (by decide) (ok_build (rows := [(0, [_]), (1, [_])]) rfl bl164 zo164 ⟨⟨rfl, (VL.le (vl rfl) (one_cellsP _))⟩, ⟨⟨rfl, (VL.le (vl rfl) (one_cellsP _))⟩, trivial⟩⟩ rfl) ?_
  refine Ch.op rfl rfl (by decide) (ok_build (rows := [(0, [_]), (1, [_])]) rfl bl164 zo164 ⟨⟨rfl, (VL.le (vl rfl) (one_cellsP _))⟩, ⟨⟨rfl, (VL.le (vl rfl) (one_cellsP _))⟩, trivial⟩⟩ rfl) ?_
  refine Ch.op rfl rfl (by decide) (ok_build (rows := [(0, [_]), (1, [_])]) rfl bl164 zo164 ⟨⟨rfl, (VL.le (vl rfl) (one_cellsP _))⟩, ⟨⟨rfl, (VL.le (vl rfl) (one_cellsP _))⟩, trivial⟩⟩ rfl) ?_
  refine Ch.op rfl rfl (by decide) (ok_build (rows := [(0, [_]), (1, [_])]) rfl bl164 zo164 ⟨⟨rfl, (VL.le (vl rfl) (one_cellsP _))⟩, ⟨⟨rfl, (VL.le (vl rfl) (one_cellsP _))⟩, trivial⟩⟩ rfl) ?_
  refine Ch.op rfl rfl (by decide) (ok_build (rows := [(0, [_]), (1, [_])]) rfl bl164 zo164 ⟨⟨rfl, (VL.le (vl rfl) (one_cellsP _))⟩, ⟨⟨rfl, (VL.le (vl rfl) (one_cellsP _))⟩, trivial⟩⟩ rfl) ?_
  refine Ch.op rfl rfl (by decide) (ok_build (rows := [(0, [_]), (1, [_])]) rfl bl164 zo164 ⟨⟨rfl, (VL.le (vl rfl) (one_cellsP _))⟩, ⟨⟨rfl, (VL.le (vl rfl) (one_cellsP _))⟩, trivial⟩⟩ rfl) ?_
  refine Ch.op rfl rfl (by decide) (ok_build (rows := [(0, [_]), (1, [_])]) rfl bl164 zo164 ⟨⟨rfl, (VL.le (vl rfl) (one_cellsP _))⟩, ⟨⟨rfl, (VL.le (vl rfl) (one_cellsP _))⟩, trivial⟩⟩ rfl) ?_
  refine Ch.op rfl rfl (by decide) (ok_build (rows := [(0, [_]), (1, [_])]) rfl bl164 zo164 ⟨⟨rfl, (VL.le (vl rfl) (one_cellsP _))⟩, ⟨⟨rfl, (VL.le (vl rfl) (one_cellsP _))⟩, trivial⟩⟩ rfl) ?_
  refine Ch.op rfl rfl (by decide) (ok_build (rows := [(0, [_]), (1, [_])]) rfl bl164 zo164 ⟨⟨rfl, (VL.le (vl rfl) (one_cellsP _))⟩, ⟨⟨rfl, (VL.le (vl rfl) (one_cellsP _))⟩, trivial⟩⟩ rfl) ?_
  refine Ch.op rfl rfl (by decide) (ok_build (rows := [(0, [_]), (1, [_])]) rfl bl164 zo164 ⟨⟨rfl, (VL.le (vl rfl) (one_cellsP _))⟩, ⟨⟨rfl, (VL.le (vl rfl) (one_cellsP _))⟩, trivial⟩⟩ rfl) ?_
  refine Ch.op rfl rfl (by decide) (ok_build (rows := [(0, [_]), (1, [_])]) rfl bl164 zo164 ⟨⟨rfl, (VL.le (vl rfl) (one_cellsP _))⟩, ⟨⟨rfl, (VL.le (vl rfl) (one_cellsP _))⟩, trivial⟩⟩ rfl) ?_
  refine Ch.op rfl rfl (by decide) (ok_build (rows := [(0, [_]), (1, [_])]) rfl bl164 zo164 ⟨⟨rfl, (VL.le (vl rfl) (one_cellsP _))⟩, ⟨⟨rfl, (VL.le (vl rfl) (one_cellsP _))⟩, trivial⟩⟩ rfl) ?_
  refine Ch.op rfl rfl (by decide) (ok_build (rows := [(0, [_]), (1, [_])]) rfl bl164 zo164 ⟨⟨rfl, (VL.le (vl rfl) (one_cellsP _))⟩, ⟨⟨rfl, (VL.le (vl rfl) (one_cellsP _))⟩, trivial⟩⟩ rfl) ?_
  refine Ch.op rfl rfl (by decide) (ok_build (rows := [(0, [_]), (1, [_])]) rfl bl164 zo164 ⟨⟨rfl, (VL.le (vl rfl) (one_cellsP _))⟩, ⟨⟨rfl, (VL.le (vl rfl) (one_cellsP _))⟩, trivial⟩⟩ rfl) ?_
  refine Ch.op rfl rfl (by decide) (ok_build (rows := [(0, [_]), (1, [_])]) rfl bl164 zo164 ⟨⟨rfl, (VL.le (vl rfl) (one_cellsP _))⟩, ⟨⟨rfl, (VL.le (vl rfl) (one_cellsP _))⟩, trivial⟩⟩ rfl) ?_
  refine Ch.op rfl rfl (by decide) (ok_build (rows := [(0, [_]), (1, [_])]) rfl bl164 zo164 ⟨⟨rfl, (VL.le (vl rfl) (one_cellsP _))⟩, ⟨⟨rfl, (VL.le (vl rfl) (one_cellsP _))⟩, trivial⟩⟩ rfl) ?_
  refine Ch.op rfl rfl (by decide) (ok_build (rows := [(0, [_]), (1, [_])]) rfl bl164 zo164 ⟨⟨rfl, (VL.le (vl rfl) (one_cellsP _))⟩, ⟨⟨rfl, (VL.le (vl rfl) (one_cellsP _))⟩, trivial⟩⟩ rfl) ?_
  refine Ch.op rfl rfl (by decide) (ok_build (rows := [(0, [_]), (1, [_])]) rfl bl164 zo164 ⟨⟨rfl, (VL.le (vl rfl) (one_cellsP _))⟩, ⟨⟨rfl, (VL.le (vl rfl) (one_cellsP _))⟩, trivial⟩⟩ rfl) ?_
  refine Ch.op rfl rfl (by decide) (ok_build (rows := [(0, [_]), (1, [_])]) rfl bl164 zo164 ⟨⟨rfl, (VL.le (vl rfl) (one_cellsP _))⟩, ⟨⟨rfl, (VL.le (vl rfl) (one_cellsP _))⟩, trivial⟩⟩ rfl) ?_
  refine Ch.op rfl rfl (by decide) (ok_build (rows := [(0, [_]), (1, [_])]) rfl bl164 zo164 ⟨⟨rfl, (VL.le (vl rfl) (one_cellsP _))⟩, ⟨⟨rfl, (VL.le (vl rfl) (one_cellsP _))⟩, trivial⟩⟩ rfl) ?_
  refine Ch.op rfl rfl (by decide) (ok_build (rows := [(0, [_]), (1, [_])]) rfl bl164 zo164 ⟨⟨rfl, (VL.le (vl rfl) (one_cellsP _))⟩, ⟨⟨rfl, (VL.le (vl rfl) (one_cellsP _))⟩, trivial⟩⟩ rfl) ?_
  refine Ch.op rfl rfl (by decide) (ok_buildSlice (xs := [.tmp 1, .tmp 2, .tmp 3, .tmp 4, .tmp 5, .tmp 6, .tmp 7, .tmp 8, .tmp 9, .tmp 10, .tmp 11, .tmp 12, .tmp 13, .tmp 14, .tmp 15, .tmp 16, .tmp 17, .tmp 18, .tmp 19, .tmp 20, .tmp 21, .tmp 22, .tmp 23]) (rows := [_, _, _, _, _, _, _, _, _, _, _, _, _, _, _, _, _, _, _, _, _, _, _]) rfl rfl Tryz.underlying165 sz164 z164 rfl (by decide) ⟨⟨(by exact rfl), (VL.le (vl rfl) (agg_cellsP _))⟩, ⟨⟨(by exact rfl), (VL.le (vl rfl) (agg_cellsP _))⟩, ⟨⟨(by exact rfl), (VL.le (vl rfl) (agg_cellsP _))⟩, ⟨⟨(by exact rfl), (VL.le (vl rfl) (agg_cellsP _))⟩, ⟨⟨(by exact rfl), (VL.le (vl rfl) (agg_cellsP _))⟩, ⟨⟨(by exact rfl), (VL.le (vl rfl) (agg_cellsP _))⟩, ⟨⟨(by exact rfl), (VL.le (vl rfl) (agg_cellsP _))⟩, ⟨⟨(by exact rfl), (VL.le (vl rfl) (agg_cellsP _))⟩, ⟨⟨(by exact rfl), (VL.le (vl rfl) (agg_cellsP _))⟩, ⟨⟨(by exact rfl), (VL.le (vl rfl) (agg_cellsP _))⟩, ⟨⟨(by exact rfl), (VL.le (vl rfl) (agg_cellsP _))⟩, ⟨⟨(by exact rfl), (VL.le (vl rfl) (agg_cellsP _))⟩, ⟨⟨(by exact rfl), (VL.le (vl rfl) (agg_cellsP _))⟩, ⟨⟨(by exact rfl), (VL.le (vl rfl) (agg_cellsP _))⟩, ⟨⟨(by exact rfl), (VL.le (vl rfl) (agg_cellsP _))⟩, ⟨⟨(by exact rfl), (VL.le (vl rfl) (agg_cellsP _))⟩, ⟨⟨(by exact rfl), (VL.le (vl rfl) (agg_cellsP _))⟩, ⟨⟨(by exact rfl), (VL.le (vl rfl) (agg_cellsP _))⟩, ⟨⟨(by exact rfl), (VL.le (vl rfl) (agg_cellsP _))⟩, ⟨⟨(by exact rfl), (VL.le (vl rfl) (agg_cellsP _))⟩, ⟨⟨(by exact rfl), (VL.le (vl rfl) (agg_cellsP _))⟩, ⟨⟨(by exact rfl), (VL.le (vl rfl) (agg_cellsP _))⟩, ⟨⟨(by exact rfl), (VL.le (vl rfl) (agg_cellsP _))⟩, trivial⟩⟩⟩⟩⟩⟩⟩⟩⟩⟩⟩⟩⟩⟩⟩⟩⟩⟩⟩⟩⟩⟩⟩ (by decide)) ?_
  refine Ch.op rfl rfl (by decide) (ok_assign rfl (vl rfl)) ?_
  refine Ch.nil ?_
  refine Fin.go ?_
  refine Tr.weak [(0, _)] ⟨⟨_, rfl, Pr.le_refl _⟩, trivial⟩ ?_
  refine Tr.ret ?_
  refine Fin.ret1 rfl (OutW.bse _ _) rfl ?_
  · exact full_le _ _
theorem e_Rrows : Entry Tryz.prog 153 := ⟨_, Tryz.func153, rfl, rfl⟩
set_option maxRecDepth 20000 in
theorem w_RKind {alg : Int}  : Fun Tryz.prog 124 [int alg] (int (catOf alg).kind) := by
  refine Fun.of Tryz.func124 rfl rfl (by exact Nat.le_of_ble_eq_true rfl) fun M0 w0 => ?_
  refine Tr.seq ?_
  refine Tr.reg0 ?_
  refine Ch.op rfl rfl (by decide) (ok_assign rfl (vl rfl)) ?_
  refine Ch.nil ?_
  refine Fin.go ?_
  refine Tr.seq ?_
  refine Tr.seq ?_
  refine Tr.reg0 ?_
  refine Ch.op rfl rfl (by decide) (ok_move rfl (vl rfl)) ?_
  refine Ch.op rfl rfl (by decide) (ok_int rfl (vl rfl) (vl rfl) rfl) ?_
  refine Ch.op rfl rfl (by decide) (ok_move rfl (vl rfl)) ?_
  refine Ch.cases 5 rfl (fun h1 => ?_) (fun h1 => ?_)
  ·
    have q1 := Nrm.nrm h1
    refine Ch.no rfl rfl rfl (ne_false h1) rfl (by decide) ?_
    refine Ch.no rfl rfl rfl (ne_false h1) rfl (by decide) ?_
    refine Ch.op rfl rfl (by decide) (ok_pick_t rfl (vl rfl) h1 (vl rfl)) ?_
    refine Ch.nil ?_
    refine Fin.go ?_
    refine Tr.cond rfl (fun _ => ?_) (fun h => nomatch h)
    refine Tr.seq ?_
    refine Tr.reg0 ?_
    refine Ch.op rfl rfl (by decide) (ok_assign rfl (vl rfl)) ?_
    refine Ch.nil ?_
    refine Fin.go ?_
    refine Tr.ret ?_
    refine Fin.then_ret ?_
    refine Fin.ret1 rfl (OutW.bse _ _) rfl ?_
    · refine int_eq ?_; unfold catOf; rw [if_neg (by omega)]; rfl
  ·
    have q1 := Nrm.nrm h1
    refine Ch.yes rfl rfl rfl h1 rfl (by decide) (ok_move rfl (vl rfl)) ?_
    refine Ch.yes rfl rfl rfl h1 rfl (by decide) (ok_int rfl (vl rfl) (vl rfl) rfl) ?_
    refine Ch.op rfl rfl (by decide) (ok_pick_f rfl (vl rfl) h1 (vl rfl)) ?_
    refine Ch.nil ?_
    refine Fin.go ?_
    refine Tr.cond rfl (fun h2 => ?_) (fun h2 => ?_)
    ·
      have q2 := Nrm.nrm h2
      refine Tr.seq ?_
      refine Tr.reg0 ?_
      refine Ch.op rfl rfl (by decide) (ok_assign rfl (vl rfl)) ?_
      refine Ch.nil ?_
      refine Fin.go ?_
      refine Tr.ret ?_
      refine Fin.then_ret ?_
      refine Fin.ret1 rfl (OutW.bse _ _) rfl ?_
      · refine int_eq ?_; unfold catOf; rw [if_neg (by omega)]; rfl
    ·
      have q2 := Nrm.nrm h2
      have hin : 1 ≤ alg ∧ alg ≤ 22 := by omega
      refine Tr.skip ?_
      refine Fin.go ?_
      refine Tr.seq ?_
      refine Tr.reg0 ?_
      refine Ch.op rfl rfl (by decide) (ok_call rfl (w_Rrows) trivial) ?_
      refine Ch.op rfl rfl (by decide) (ok_move rfl (vl rfl)) ?_
      refine Ch.op rfl rfl (by decide) (ok_indexAddr rfl Tryz.underlying165 sz164 (vl rfl) (vl rfl) (by omega) (row_atI (f := fun r : List UInt8 × Int => [str r.1, int r.2]) (rtab_at hin))) ?_
      refine Ch.op rfl rfl (by decide) (ok_fieldAddr rfl fo164_1 (vl rfl) rfl) ?_
      refine Ch.op rfl rfl (by decide) (ok_load1 rfl one3 (vl rfl)) ?_
      refine Ch.op rfl rfl (by decide) (ok_assign rfl (vl rfl)) ?_
      refine Ch.nil ?_
      refine Fin.go ?_
      refine Tr.ret ?_
      refine Fin.ret1 rfl (OutW.bse _ _) rfl ?_
      · first | exact Pr.le_refl _ | (refine int_eq ?_; simp_all; done) | (refine bool_eq ?_; simp_all; done) | (refine bool_eq ?_; simp_all; omega) | (refine int_eq ?_; omega)
theorem e_RKind : Entry Tryz.prog 124 := ⟨_, Tryz.func124, rfl, rfl⟩
set_option maxRecDepth 20000 in
theorem w_Signature {alg bits : Int}  : Fun Tryz.prog 86 [agg [int alg, int bits]] (bool (decide (strength alg bits > 0) && (catOf alg).kind == 2)) := by
  refine Fun.of Tryz.func86 rfl rfl (by exact Nat.le_of_ble_eq_true rfl) fun M0 w0 => ?_
  refine Tr.seq ?_
  refine Tr.reg0 ?_
  refine Ch.op rfl rfl (by decide) (ok_box rfl (VL.le (vl rfl) (agg_cellsP _))) ?_
  refine Ch.op rfl rfl (by decide) (ok_assign rfl (vl rfl)) ?_
  refine Ch.nil ?_
  refine Fin.go ?_
  refine Tr.seq ?_
  refine Tr.reg0 ?_
  refine Ch.op rfl rfl (by decide) (ok_loadA rfl agg38 sz38 (vl rfl) rfl rfl) ?_
  refine Ch.op rfl rfl (by decide) (ok_call rfl (w_RValid) ⟨⟨_, rfl, Pr.le_refl _⟩, trivial⟩) ?_
  refine Ch.op rfl rfl (by decide) (ok_move rfl (vl rfl)) ?_
  refine Ch.cases 5 rfl (fun h1 => ?_) (fun h1 => ?_)
  ·
    have q1 := Nrm.nrm h1
    refine Ch.yes rfl rfl rfl h1 rfl (by decide) (ok_fieldAddr rfl fo38_0 (vl rfl) rfl) ?_
    refine Ch.yes rfl rfl rfl h1 rfl (by decide) (ok_load1 rfl one3 (vl rfl)) ?_
    refine Ch.yes rfl rfl rfl h1 rfl (by decide) (ok_call rfl (w_RKind) ⟨⟨_, rfl, Pr.le_refl _⟩, trivial⟩) ?_
    refine Ch.yes rfl rfl rfl h1 rfl (by decide) (ok_int rfl (vl rfl) (vl rfl) rfl) ?_
    refine Ch.op rfl rfl (by decide) (ok_pick_t rfl (vl rfl) h1 (vl rfl)) ?_
    refine Ch.op rfl rfl (by decide) (ok_assign rfl (vl rfl)) ?_
    refine Ch.nil ?_
    refine Fin.go ?_
    refine Tr.ret ?_
    refine Fin.ret1 rfl (OutW.bse _ _) rfl ?_
    · first | exact Pr.le_refl _ | (refine int_eq ?_; simp_all; done) | (refine bool_eq ?_; simp_all; done) | (refine bool_eq ?_; simp_all; omega) | (refine int_eq ?_; omega)
  ·
    have q1 := Nrm.nrm h1
    refine Ch.no rfl rfl rfl (ne_true h1) rfl (by decide) ?_
    refine Ch.no rfl rfl rfl (ne_true h1) rfl (by decide) ?_
    refine Ch.no rfl rfl rfl (ne_true h1) rfl (by decide) ?_
    refine Ch.no rfl rfl rfl (ne_true h1) rfl (by decide) ?_
    refine Ch.op rfl rfl (by decide) (ok_pick_f rfl (vl rfl) h1 (vl rfl)) ?_
    refine Ch.op rfl rfl (by decide) (ok_assign rfl (vl rfl)) ?_
    refine Ch.nil ?_
    refine Fin.go ?_
    refine Tr.ret ?_
    refine Fin.ret1 rfl (OutW.bse _ _) rfl ?_
    · first | exact Pr.le_refl _ | (refine int_eq ?_; simp_all; done) | (refine bool_eq ?_; simp_all; done) | (refine bool_eq ?_; simp_all; omega) | (refine int_eq ?_; omega)
theorem e_Signature : Entry Tryz.prog 86 := ⟨_, Tryz.func86, rfl, rfl⟩
end Go.Proofs.YthmnoekgicggnaaGreat
