/-
  Part 3 of the texts that prove this claim, merged.
-/
import Derived.Test.YtgdlhajfajddiaaGreatIdLateP2
set_option linter.all false
namespace Go.Proofs.YtgdlhajfajddiaaGreat
open Go Go.RowKit Cp

theorem among_0 (b c : Int) : amongI b [0] [c] = if b = 0 then c else 0 := by
  unfold amongI idx
  by_cases h : b = 0
  · subst h; rfl
  · have : List.findIdx? (fun x => b == x) [0] = none := by simp [h]
    rw [this, if_neg h]; rfl
theorem strength_mod {alg b : Int} (h : alg = 5 ∨ alg = 6 ∨ alg = 10 ∨ alg = 11) : rmodI b = strength alg b := by
  rw [rmodI_eq]
  rcases h with rfl | rfl | rfl | rfl <;> rfl
theorem strength_rest {alg b : Int} (h : ¬ (alg = 5 ∨ alg = 6 ∨ alg = 7 ∨ alg = 9 ∨ alg = 10 ∨ alg = 11 ∨ alg = 12 ∨ alg = 13 ∨ alg = 14 ∨ alg = 15 ∨ alg = 16 ∨ alg = 17)) : amongI b [0] [singleI alg] = strength alg b := by
  rw [among_0]
  by_cases hin : 1 ≤ alg ∧ alg ≤ 22
  · have ha : alg = 1 ∨ alg = 2 ∨ alg = 3 ∨ alg = 4 ∨ alg = 8 ∨ alg = 18 ∨ alg = 19 ∨ alg = 20 ∨ alg = 21 ∨ alg = 22 := by omega
    rcases ha with rfl | rfl | rfl | rfl | rfl | rfl | rfl | rfl | rfl | rfl <;> rfl
  · have h1 : singleI alg = 0 := by unfold singleI; (repeat (first | rw [if_pos (by omega)] | rw [if_neg (by omega)]))
    unfold strength
    rw [h1, if_neg hin]; split <;> rfl
theorem strength_cur {alg b : Int} (h : alg = 7 ∨ alg = 12) : strength alg b = if (curvs.any fun x => b == x) = true then b.tdiv 2 else 0 := by
  rcases h with rfl | rfl <;> rfl

set_option maxRecDepth 20000 in
theorem w_RStrength {alg bits : Int}  : Fun Tryz.prog 188 [agg [int alg, int bits]] (int (strength alg bits)) := by
 refine Fun.of Tryz.func188 rfl rfl (by exact Nat.le_of_ble_eq_true rfl) fun M0 w0 => ?_
 refine Tr.seq (Tr.reg0 ?_)
 refine Ch.oo rfl rfl rfl (ok_box rfl (VL.le (vl rfl) (agg_cellsP _))) ?_
 refine Ch.as rfl rfl rfl rfl rfl ?_
 refine Ch.nil (Fin.go (Tr.seq (Tr.reg0 ?_)))
 refine Ch.oo rfl rfl rfl (ok_fieldAddr rfl fo24_1 (vl rfl) rfl) ?_
 refine Ch.oo rfl rfl rfl (ok_load1 rfl one3 (vl rfl)) ?_
 refine Ch.as rfl rfl rfl rfl rfl ?_
 refine Ch.nil (Fin.go (Tr.seq (Tr.seq (Tr.reg0 ?_))))
 refine Ch.oo rfl rfl rfl (ok_fieldAddr rfl fo24_0 (vl rfl) rfl) ?_
 refine Ch.oo rfl rfl rfl (ok_load1 rfl one3 (vl rfl)) ?_
 refine Ch.nil (Fin.go (Tr.block (Tr.seq (Tr.seq (Tr.reg0 ?_)))))
 refine Ch.oo rfl rfl rfl (ok_int rfl (vl rfl) (vl rfl) rfl) ?_
 refine Ch.as rfl rfl rfl rfl rfl ?_
 refine Ch.nil (Fin.go ?_)
 refine Tr.cn rfl (fun h1 q1 => ?_) (fun h1 q1 => ?_)
 ·
  refine Tr.skip (Fin.go ?_)
  refine Tr.cond rfl (fun _ => ?_) (fun h => nomatch h1.symm.trans h)
  refine Tr.seq (Tr.reg0 ?_)
  refine Ch.mv rfl rfl rfl rfl rfl ?_
  refine Ch.oo rfl rfl rfl (ok_call rfl (w_Rmodulus) ⟨ke rfl, trivial⟩) ?_
  refine Ch.as rfl rfl rfl rfl rfl ?_
  refine Ch.nil (Fin.go (Tr.ret ?_))
  refine Fin.block_ret ?_
  refine Fin.then_ret ?_
  refine Fin.ret1 rfl (OutW.bse _ _) rfl ?_
  · first | (refine int_eq ?_; exact strength_mod (by omega)) | (refine int_eq ?_; rw [strength_cur (by omega)]; have hb : bits = 160 ∨ bits = 224 ∨ bits = 256 ∨ bits = 384 ∨ bits = 521 := (by omega); rcases hb with rfl | rfl | rfl | rfl | rfl <;> rfl; done) | (refine int_eq ?_; rw [strength_cur (by omega), if_neg (by simp [curvs]; omega)]; done) | (refine int_eq ?_; exact strength_rest (by omega)) | (refine int_eq ?_; have ha : alg = 9 := (by omega); rcases ha with rfl <;> rfl; done) | (refine int_eq ?_; have ha : alg = 13 := (by omega); rcases ha with rfl <;> rfl; done) | (refine int_eq ?_; have ha : alg = 14 := (by omega); rcases ha with rfl <;> rfl; done) | (refine int_eq ?_; have ha : alg = 15 := (by omega); rcases ha with rfl <;> rfl; done) | (refine int_eq ?_; have ha : alg = 16 ∨ alg = 17 := (by omega); rcases ha with rfl | rfl <;> rfl; done)
 ·
  refine Tr.seq (Tr.reg0 ?_)
  refine Ch.oo rfl rfl rfl (ok_int rfl (vl rfl) (vl rfl) rfl) ?_
  refine Ch.as rfl rfl rfl rfl rfl ?_
  refine Ch.nil (Fin.go ?_)
  refine Tr.cn rfl (fun h2 q2 => ?_) (fun h2 q2 => ?_)
  ·
   refine Tr.skip (Fin.go ?_)
   refine Tr.cond rfl (fun _ => ?_) (fun h => nomatch h2.symm.trans h)
   refine Tr.seq (Tr.reg0 ?_)
   refine Ch.mv rfl rfl rfl rfl rfl ?_
   refine Ch.oo rfl rfl rfl (ok_call rfl (w_Rmodulus) ⟨ke rfl, trivial⟩) ?_
   refine Ch.as rfl rfl rfl rfl rfl ?_
   refine Ch.nil (Fin.go ?_)
   refine Tr.w1 2 rfl ?_
   refine Tr.ret ?_
   refine Fin.block_ret ?_
   refine Fin.then_ret ?_
   refine Fin.ret1 rfl (OutW.bse _ _) rfl ?_
   · first | (refine int_eq ?_; exact strength_mod (by omega)) | (refine int_eq ?_; rw [strength_cur (by omega)]; have hb : bits = 160 ∨ bits = 224 ∨ bits = 256 ∨ bits = 384 ∨ bits = 521 := (by omega); rcases hb with rfl | rfl | rfl | rfl | rfl <;> rfl; done) | (refine int_eq ?_; rw [strength_cur (by omega), if_neg (by simp [curvs]; omega)]; done) | (refine int_eq ?_; exact strength_rest (by omega)) | (refine int_eq ?_; have ha : alg = 9 := (by omega); rcases ha with rfl <;> rfl; done) | (refine int_eq ?_; have ha : alg = 13 := (by omega); rcases ha with rfl <;> rfl; done) | (refine int_eq ?_; have ha : alg = 14 := (by omega); rcases ha with rfl <;> rfl; done) | (refine int_eq ?_; have ha : alg = 15 := (by omega); rcases ha with rfl <;> rfl; done) | (refine int_eq ?_; have ha : alg = 16 ∨ alg = 17 := (by omega); rcases ha with rfl | rfl <;> rfl; done)
  ·
   refine Tr.seq (Tr.reg0 ?_)
   refine Ch.oo rfl rfl rfl (ok_int rfl (vl rfl) (vl rfl) rfl) ?_
   refine Ch.as rfl rfl rfl rfl rfl ?_
   refine Ch.nil (Fin.go ?_)
   refine Tr.cn rfl (fun h3 q3 => ?_) (fun h3 q3 => ?_)
   ·
    refine Tr.skip (Fin.go ?_)
    refine Tr.cond rfl (fun _ => ?_) (fun h => nomatch h3.symm.trans h)
    refine Tr.seq (Tr.reg0 ?_)
    refine Ch.mv rfl rfl rfl rfl rfl ?_
    refine Ch.oo rfl rfl rfl (ok_call rfl (w_Rmodulus) ⟨ke rfl, trivial⟩) ?_
    refine Ch.as rfl rfl rfl rfl rfl ?_
    refine Ch.nil (Fin.go ?_)
    refine Tr.w1 2 rfl ?_
    refine Tr.ret ?_
    refine Fin.block_ret ?_
    refine Fin.then_ret ?_
    refine Fin.ret1 rfl (OutW.bse _ _) rfl ?_
    · first | (refine int_eq ?_; exact strength_mod (by omega)) | (refine int_eq ?_; rw [strength_cur (by omega)]; have hb : bits = 160 ∨ bits = 224 ∨ bits = 256 ∨ bits = 384 ∨ bits = 521 := (by omega); rcases hb with rfl | rfl | rfl | rfl | rfl <;> rfl; done) | (refine int_eq ?_; rw [strength_cur (by omega), if_neg (by simp [curvs]; omega)]; done) | (refine int_eq ?_; exact strength_rest (by omega)) | (refine int_eq ?_; have ha : alg = 9 := (by omega); rcases ha with rfl <;> rfl; done) | (refine int_eq ?_; have ha : alg = 13 := (by omega); rcases ha with rfl <;> rfl; done) | (refine int_eq ?_; have ha : alg = 14 := (by omega); rcases ha with rfl <;> rfl; done) | (refine int_eq ?_; have ha : alg = 15 := (by omega); rcases ha with rfl <;> rfl; done) | (refine int_eq ?_; have ha : alg = 16 ∨ alg = 17 := (by omega); rcases ha with rfl | rfl <;> rfl; done)
   ·
    refine Tr.reg0 ?_
    refine Ch.oo rfl rfl rfl (ok_int rfl (vl rfl) (vl rfl) rfl) ?_
    refine Ch.as rfl rfl rfl rfl rfl ?_
    refine Ch.nil (Fin.go ?_)
    refine Tr.w4 1 3 7 8 rfl rfl rfl rfl ?_
    refine Tr.cn rfl (fun h4 q4 => ?_) (fun h4 q4 => ?_)
    ·
     refine Tr.seq (Tr.reg0 ?_)
     refine Ch.mv rfl rfl rfl rfl rfl ?_
     refine Ch.oo rfl rfl rfl (ok_call rfl (w_Rmodulus) ⟨ke rfl, trivial⟩) ?_
     refine Ch.as rfl rfl rfl rfl rfl ?_
     refine Ch.nil (Fin.go (Tr.ret ?_))
     refine Fin.block_ret ?_
     refine Fin.then_ret ?_
     refine Fin.ret1 rfl (OutW.bse _ _) rfl ?_
     · first | (refine int_eq ?_; exact strength_mod (by omega)) | (refine int_eq ?_; rw [strength_cur (by omega)]; have hb : bits = 160 ∨ bits = 224 ∨ bits = 256 ∨ bits = 384 ∨ bits = 521 := (by omega); rcases hb with rfl | rfl | rfl | rfl | rfl <;> rfl; done) | (refine int_eq ?_; rw [strength_cur (by omega), if_neg (by simp [curvs]; omega)]; done) | (refine int_eq ?_; exact strength_rest (by omega)) | (refine int_eq ?_; have ha : alg = 9 := (by omega); rcases ha with rfl <;> rfl; done) | (refine int_eq ?_; have ha : alg = 13 := (by omega); rcases ha with rfl <;> rfl; done) | (refine int_eq ?_; have ha : alg = 14 := (by omega); rcases ha with rfl <;> rfl; done) | (refine int_eq ?_; have ha : alg = 15 := (by omega); rcases ha with rfl <;> rfl; done) | (refine int_eq ?_; have ha : alg = 16 ∨ alg = 17 := (by omega); rcases ha with rfl | rfl <;> rfl; done)
    ·
     refine Tr.seq (Tr.seq (Tr.reg0 ?_))
     refine Ch.oo rfl rfl rfl (ok_int rfl (vl rfl) (vl rfl) rfl) ?_
     refine Ch.as rfl rfl rfl rfl rfl ?_
     refine Ch.nil (Fin.go ?_)
     refine Tr.cn rfl (fun h5 q5 => ?_) (fun h5 q5 => ?_)
     ·
      refine Tr.skip (Fin.go ?_)
      refine Tr.cond rfl (fun _ => ?_) (fun h => nomatch h5.symm.trans h)
      refine Tr.seq (Tr.seq (Tr.reg0 ?_))
      refine Ch.mv rfl rfl rfl rfl rfl ?_
      refine Ch.oo rfl rfl rfl (ok_int rfl (vl rfl) (vl rfl) rfl) ?_
      refine Ch.mv rfl rfl rfl rfl rfl ?_
      refine Ch.cs 20 rfl (fun h6 q6 => ?_) (fun h6 q6 => ?_)
      ·
       refine Ch.nf h6 rfl rfl rfl rfl rfl ?_
       refine Ch.nf h6 rfl rfl rfl rfl rfl ?_
       refine Ch.oo rfl rfl rfl (ok_pick_t rfl (vl rfl) h6 (vl rfl)) ?_
       refine Ch.mv rfl rfl rfl rfl rfl ?_
       refine Ch.nd rfl rfl rfl rfl rfl rfl ?_
       refine Ch.nd rfl rfl rfl rfl rfl rfl ?_
       refine Ch.oo rfl rfl rfl (ok_pick_t rfl (vl rfl) rfl (vl rfl)) ?_
       refine Ch.mv rfl rfl rfl rfl rfl ?_
       refine Ch.nd rfl rfl rfl rfl rfl rfl ?_
       refine Ch.nd rfl rfl rfl rfl rfl rfl ?_
       refine Ch.oo rfl rfl rfl (ok_pick_t rfl (vl rfl) rfl (vl rfl)) ?_
       refine Ch.mv rfl rfl rfl rfl rfl ?_
       refine Ch.nd rfl rfl rfl rfl rfl rfl ?_
       refine Ch.nd rfl rfl rfl rfl rfl rfl ?_
       refine Ch.oo rfl rfl rfl (ok_pick_t rfl (vl rfl) rfl (vl rfl)) ?_
       refine Ch.nil (Fin.go ?_)
       refine Tr.w2 3 35 rfl rfl ?_
       refine Tr.cond rfl (fun _ => ?_) (fun h => nomatch h)
       refine Tr.seq (Tr.reg0 ?_)
       refine Ch.mv rfl rfl rfl rfl rfl ?_
       refine Ch.oo rfl rfl rfl (ok_quo rfl (vl rfl) (vl rfl) (by omega)) ?_
       refine Ch.as rfl rfl rfl rfl rfl ?_
       refine Ch.nil (Fin.go (Tr.ret ?_))
       refine Fin.then_ret ?_
       refine Fin.block_ret ?_
       refine Fin.then_ret ?_
       refine Fin.ret1 rfl (OutW.bse _ _) rfl ?_
       · first | (refine int_eq ?_; exact strength_mod (by omega)) | (refine int_eq ?_; rw [strength_cur (by omega)]; have hb : bits = 160 ∨ bits = 224 ∨ bits = 256 ∨ bits = 384 ∨ bits = 521 := (by omega); rcases hb with rfl | rfl | rfl | rfl | rfl <;> rfl; done) | (refine int_eq ?_; rw [strength_cur (by omega), if_neg (by simp [curvs]; omega)]; done) | (refine int_eq ?_; exact strength_rest (by omega)) | (refine int_eq ?_; have ha : alg = 9 := (by omega); rcases ha with rfl <;> rfl; done) | (refine int_eq ?_; have ha : alg = 13 := (by omega); rcases ha with rfl <;> rfl; done) | (refine int_eq ?_; have ha : alg = 14 := (by omega); rcases ha with rfl <;> rfl; done) | (refine int_eq ?_; have ha : alg = 15 := (by omega); rcases ha with rfl <;> rfl; done) | (refine int_eq ?_; have ha : alg = 16 ∨ alg = 17 := (by omega); rcases ha with rfl | rfl <;> rfl; done)
      ·
       refine Ch.ym h6 rfl rfl rfl rfl rfl rfl rfl ?_
       refine Ch.y h6 rfl rfl rfl rfl rfl (ok_int rfl (vl rfl) (vl rfl) rfl) ?_
       refine Ch.oo rfl rfl rfl (ok_pick_f rfl (vl rfl) h6 (vl rfl)) ?_
       refine Ch.mv rfl rfl rfl rfl rfl ?_
       refine Ch.cs 24 rfl (fun h7 q7 => ?_) (fun h7 q7 => ?_)
       ·
        refine Ch.nf h7 rfl rfl rfl rfl rfl ?_
        refine Ch.nf h7 rfl rfl rfl rfl rfl ?_
        refine Ch.oo rfl rfl rfl (ok_pick_t rfl (vl rfl) h7 (vl rfl)) ?_
        refine Ch.mv rfl rfl rfl rfl rfl ?_
        refine Ch.nd rfl rfl rfl rfl rfl rfl ?_
        refine Ch.nd rfl rfl rfl rfl rfl rfl ?_
        refine Ch.oo rfl rfl rfl (ok_pick_t rfl (vl rfl) rfl (vl rfl)) ?_
        refine Ch.mv rfl rfl rfl rfl rfl ?_
        refine Ch.nd rfl rfl rfl rfl rfl rfl ?_
        refine Ch.nd rfl rfl rfl rfl rfl rfl ?_
        refine Ch.oo rfl rfl rfl (ok_pick_t rfl (vl rfl) rfl (vl rfl)) ?_
        refine Ch.nil (Fin.go ?_)
        refine Tr.w2 3 35 rfl rfl ?_
        refine Tr.cond rfl (fun _ => ?_) (fun h => nomatch h)
        refine Tr.seq (Tr.reg0 ?_)
        refine Ch.mv rfl rfl rfl rfl rfl ?_
        refine Ch.oo rfl rfl rfl (ok_quo rfl (vl rfl) (vl rfl) (by omega)) ?_
        refine Ch.as rfl rfl rfl rfl rfl ?_
        refine Ch.nil (Fin.go (Tr.ret ?_))
        refine Fin.then_ret ?_
        refine Fin.block_ret ?_
        refine Fin.then_ret ?_
        refine Fin.ret1 rfl (OutW.bse _ _) rfl ?_
        · first | (refine int_eq ?_; exact strength_mod (by omega)) | (refine int_eq ?_; rw [strength_cur (by omega)]; have hb : bits = 160 ∨ bits = 224 ∨ bits = 256 ∨ bits = 384 ∨ bits = 521 := (by omega); rcases hb with rfl | rfl | rfl | rfl | rfl <;> rfl; done) | (refine int_eq ?_; rw [strength_cur (by omega), if_neg (by simp [curvs]; omega)]; done) | (refine int_eq ?_; exact strength_rest (by omega)) | (refine int_eq ?_; have ha : alg = 9 := (by omega); rcases ha with rfl <;> rfl; done) | (refine int_eq ?_; have ha : alg = 13 := (by omega); rcases ha with rfl <;> rfl; done) | (refine int_eq ?_; have ha : alg = 14 := (by omega); rcases ha with rfl <;> rfl; done) | (refine int_eq ?_; have ha : alg = 15 := (by omega); rcases ha with rfl <;> rfl; done) | (refine int_eq ?_; have ha : alg = 16 ∨ alg = 17 := (by omega); rcases ha with rfl | rfl <;> rfl; done)
       ·
        refine Ch.ym h7 rfl rfl rfl rfl rfl rfl rfl ?_
        refine Ch.y h7 rfl rfl rfl rfl rfl (ok_int rfl (vl rfl) (vl rfl) rfl) ?_
        refine Ch.oo rfl rfl rfl (ok_pick_f rfl (vl rfl) h7 (vl rfl)) ?_
        refine Ch.mv rfl rfl rfl rfl rfl ?_
        refine Ch.cs 28 rfl (fun h8 q8 => ?_) (fun h8 q8 => ?_)
        ·
         refine Ch.nf h8 rfl rfl rfl rfl rfl ?_
         refine Ch.nf h8 rfl rfl rfl rfl rfl ?_
         refine Ch.oo rfl rfl rfl (ok_pick_t rfl (vl rfl) h8 (vl rfl)) ?_
         refine Ch.mv rfl rfl rfl rfl rfl ?_
         refine Ch.nd rfl rfl rfl rfl rfl rfl ?_
         refine Ch.nd rfl rfl rfl rfl rfl rfl ?_
         refine Ch.oo rfl rfl rfl (ok_pick_t rfl (vl rfl) rfl (vl rfl)) ?_
         refine Ch.nil (Fin.go ?_)
         refine Tr.w2 3 35 rfl rfl ?_
         refine Tr.cond rfl (fun _ => ?_) (fun h => nomatch h)
         refine Tr.seq (Tr.reg0 ?_)
         refine Ch.mv rfl rfl rfl rfl rfl ?_
         refine Ch.oo rfl rfl rfl (ok_quo rfl (vl rfl) (vl rfl) (by omega)) ?_
         refine Ch.as rfl rfl rfl rfl rfl ?_
         refine Ch.nil (Fin.go (Tr.ret ?_))
         refine Fin.then_ret ?_
         refine Fin.block_ret ?_
         refine Fin.then_ret ?_
         refine Fin.ret1 rfl (OutW.bse _ _) rfl ?_
         · first | (refine int_eq ?_; exact strength_mod (by omega)) | (refine int_eq ?_; rw [strength_cur (by omega)]; have hb : bits = 160 ∨ bits = 224 ∨ bits = 256 ∨ bits = 384 ∨ bits = 521 := (by omega); rcases hb with rfl | rfl | rfl | rfl | rfl <;> rfl; done) | (refine int_eq ?_; rw [strength_cur (by omega), if_neg (by simp [curvs]; omega)]; done) | (refine int_eq ?_; exact strength_rest (by omega)) | (refine int_eq ?_; have ha : alg = 9 := (by omega); rcases ha with rfl <;> rfl; done) | (refine int_eq ?_; have ha : alg = 13 := (by omega); rcases ha with rfl <;> rfl; done) | (refine int_eq ?_; have ha : alg = 14 := (by omega); rcases ha with rfl <;> rfl; done) | (refine int_eq ?_; have ha : alg = 15 := (by omega); rcases ha with rfl <;> rfl; done) | (refine int_eq ?_; have ha : alg = 16 ∨ alg = 17 := (by omega); rcases ha with rfl | rfl <;> rfl; done)
        ·
         refine Ch.ym h8 rfl rfl rfl rfl rfl rfl rfl ?_
         refine Ch.y h8 rfl rfl rfl rfl rfl (ok_int rfl (vl rfl) (vl rfl) rfl) ?_
         refine Ch.oo rfl rfl rfl (ok_pick_f rfl (vl rfl) h8 (vl rfl)) ?_
         refine Ch.mv rfl rfl rfl rfl rfl ?_
         refine Ch.cs 32 rfl (fun h9 q9 => ?_) (fun h9 q9 => ?_)
         ·
          refine Ch.nf h9 rfl rfl rfl rfl rfl ?_
          refine Ch.nf h9 rfl rfl rfl rfl rfl ?_
          refine Ch.oo rfl rfl rfl (ok_pick_t rfl (vl rfl) h9 (vl rfl)) ?_
          refine Ch.nil (Fin.go ?_)
          refine Tr.w2 3 35 rfl rfl ?_
          refine Tr.cond rfl (fun _ => ?_) (fun h => nomatch h)
          refine Tr.seq (Tr.reg0 ?_)
          refine Ch.mv rfl rfl rfl rfl rfl ?_
          refine Ch.oo rfl rfl rfl (ok_quo rfl (vl rfl) (vl rfl) (by omega)) ?_
          refine Ch.as rfl rfl rfl rfl rfl ?_
          refine Ch.nil (Fin.go (Tr.ret ?_))
          refine Fin.then_ret ?_
          refine Fin.block_ret ?_
          refine Fin.then_ret ?_
          refine Fin.ret1 rfl (OutW.bse _ _) rfl ?_
          · first | (refine int_eq ?_; exact strength_mod (by omega)) | (refine int_eq ?_; rw [strength_cur (by omega)]; have hb : bits = 160 ∨ bits = 224 ∨ bits = 256 ∨ bits = 384 ∨ bits = 521 := (by omega); rcases hb with rfl | rfl | rfl | rfl | rfl <;> rfl; done) | (refine int_eq ?_; rw [strength_cur (by omega), if_neg (by simp [curvs]; omega)]; done) | (refine int_eq ?_; exact strength_rest (by omega)) | (refine int_eq ?_; have ha : alg = 9 := (by omega); rcases ha with rfl <;> rfl; done) | (refine int_eq ?_; have ha : alg = 13 := (by omega); rcases ha with rfl <;> rfl; done) | (refine int_eq ?_; have ha : alg = 14 := (by omega); rcases ha with rfl <;> rfl; done) | (refine int_eq ?_; have ha : alg = 15 := (by omega); rcases ha with rfl <;> rfl; done) | (refine int_eq ?_; have ha : alg = 16 ∨ alg = 17 := (by omega); rcases ha with rfl | rfl <;> rfl; done)
         ·
          refine Ch.ym h9 rfl rfl rfl rfl rfl rfl rfl ?_
          refine Ch.y h9 rfl rfl rfl rfl rfl (ok_int rfl (vl rfl) (vl rfl) rfl) ?_
          refine Ch.oo rfl rfl rfl (ok_pick_f rfl (vl rfl) h9 (vl rfl)) ?_
          refine Ch.nil (Fin.go ?_)
          refine Tr.w2 3 35 rfl rfl ?_
          refine Tr.cn rfl (fun h10 q10 => ?_) (fun h10 q10 => ?_)
          ·
           refine Tr.seq (Tr.reg0 ?_)
           refine Ch.mv rfl rfl rfl rfl rfl ?_
           refine Ch.oo rfl rfl rfl (ok_quo rfl (vl rfl) (vl rfl) (by omega)) ?_
           refine Ch.as rfl rfl rfl rfl rfl ?_
           refine Ch.nil (Fin.go (Tr.ret ?_))
           refine Fin.then_ret ?_
           refine Fin.block_ret ?_
           refine Fin.then_ret ?_
           refine Fin.ret1 rfl (OutW.bse _ _) rfl ?_
           · first | (refine int_eq ?_; exact strength_mod (by omega)) | (refine int_eq ?_; rw [strength_cur (by omega)]; have hb : bits = 160 ∨ bits = 224 ∨ bits = 256 ∨ bits = 384 ∨ bits = 521 := (by omega); rcases hb with rfl | rfl | rfl | rfl | rfl <;> rfl; done) | (refine int_eq ?_; rw [strength_cur (by omega), if_neg (by simp [curvs]; omega)]; done) | (refine int_eq ?_; exact strength_rest (by omega)) | (refine int_eq ?_; have ha : alg = 9 := (by omega); rcases ha with rfl <;> rfl; done) | (refine int_eq ?_; have ha : alg = 13 := (by omega); rcases ha with rfl <;> rfl; done) | (refine int_eq ?_; have ha : alg = 14 := (by omega); rcases ha with rfl <;> rfl; done) | (refine int_eq ?_; have ha : alg = 15 := (by omega); rcases ha with rfl <;> rfl; done) | (refine int_eq ?_; have ha : alg = 16 ∨ alg = 17 := (by omega); rcases ha with rfl | rfl <;> rfl; done)
          ·
           refine Tr.skip (Fin.go (Tr.seq (Tr.reg0 ?_)))
           refine Ch.as rfl rfl rfl rfl rfl ?_
           refine Ch.nil (Fin.go (Tr.ret ?_))
           refine Fin.block_ret ?_
           refine Fin.then_ret ?_
           refine Fin.ret1 rfl (OutW.bse _ _) rfl ?_
           · first | (refine int_eq ?_; exact strength_mod (by omega)) | (refine int_eq ?_; rw [strength_cur (by omega)]; have hb : bits = 160 ∨ bits = 224 ∨ bits = 256 ∨ bits = 384 ∨ bits = 521 := (by omega); rcases hb with rfl | rfl | rfl | rfl | rfl <;> rfl; done) | (refine int_eq ?_; rw [strength_cur (by omega), if_neg (by simp [curvs]; omega)]; done) | (refine int_eq ?_; exact strength_rest (by omega)) | (refine int_eq ?_; have ha : alg = 9 := (by omega); rcases ha with rfl <;> rfl; done) | (refine int_eq ?_; have ha : alg = 13 := (by omega); rcases ha with rfl <;> rfl; done) | (refine int_eq ?_; have ha : alg = 14 := (by omega); rcases ha with rfl <;> rfl; done) | (refine int_eq ?_; have ha : alg = 15 := (by omega); rcases ha with rfl <;> rfl; done) | (refine int_eq ?_; have ha : alg = 16 ∨ alg = 17 := (by omega); rcases ha with rfl | rfl <;> rfl; done)
     ·
      refine Tr.reg0 ?_
      refine Ch.oo rfl rfl rfl (ok_int rfl (vl rfl) (vl rfl) rfl) ?_
      refine Ch.as rfl rfl rfl rfl rfl ?_
      refine Ch.nil (Fin.go ?_)
      refine Tr.cn rfl (fun h11 q11 => ?_) (fun h11 q11 => ?_)
      ·
       refine Tr.seq (Tr.seq (Tr.reg0 ?_))
       refine Ch.mv rfl rfl rfl rfl rfl ?_
       refine Ch.oo rfl rfl rfl (ok_int rfl (vl rfl) (vl rfl) rfl) ?_
       refine Ch.mv rfl rfl rfl rfl rfl ?_
       refine Ch.cs 20 rfl (fun h12 q12 => ?_) (fun h12 q12 => ?_)
       ·
        refine Ch.nf h12 rfl rfl rfl rfl rfl ?_
        refine Ch.nf h12 rfl rfl rfl rfl rfl ?_
        refine Ch.oo rfl rfl rfl (ok_pick_t rfl (vl rfl) h12 (vl rfl)) ?_
        refine Ch.mv rfl rfl rfl rfl rfl ?_
        refine Ch.nd rfl rfl rfl rfl rfl rfl ?_
        refine Ch.nd rfl rfl rfl rfl rfl rfl ?_
        refine Ch.oo rfl rfl rfl (ok_pick_t rfl (vl rfl) rfl (vl rfl)) ?_
        refine Ch.mv rfl rfl rfl rfl rfl ?_
        refine Ch.nd rfl rfl rfl rfl rfl rfl ?_
        refine Ch.nd rfl rfl rfl rfl rfl rfl ?_
        refine Ch.oo rfl rfl rfl (ok_pick_t rfl (vl rfl) rfl (vl rfl)) ?_
        refine Ch.mv rfl rfl rfl rfl rfl ?_
        refine Ch.nd rfl rfl rfl rfl rfl rfl ?_
        refine Ch.nd rfl rfl rfl rfl rfl rfl ?_
        refine Ch.oo rfl rfl rfl (ok_pick_t rfl (vl rfl) rfl (vl rfl)) ?_
        refine Ch.nil (Fin.go ?_)
        refine Tr.w2 3 35 rfl rfl ?_
        refine Tr.cond rfl (fun _ => ?_) (fun h => nomatch h)
        refine Tr.seq (Tr.reg0 ?_)
        refine Ch.mv rfl rfl rfl rfl rfl ?_
        refine Ch.oo rfl rfl rfl (ok_quo rfl (vl rfl) (vl rfl) (by omega)) ?_
        refine Ch.as rfl rfl rfl rfl rfl ?_
        refine Ch.nil (Fin.go (Tr.ret ?_))
        refine Fin.then_ret ?_
        refine Fin.block_ret ?_
        refine Fin.then_ret ?_
        refine Fin.ret1 rfl (OutW.bse _ _) rfl ?_
        · first | (refine int_eq ?_; exact strength_mod (by omega)) | (refine int_eq ?_; rw [strength_cur (by omega)]; have hb : bits = 160 ∨ bits = 224 ∨ bits = 256 ∨ bits = 384 ∨ bits = 521 := (by omega); rcases hb with rfl | rfl | rfl | rfl | rfl <;> rfl; done) | (refine int_eq ?_; rw [strength_cur (by omega), if_neg (by simp [curvs]; omega)]; done) | (refine int_eq ?_; exact strength_rest (by omega)) | (refine int_eq ?_; have ha : alg = 9 := (by omega); rcases ha with rfl <;> rfl; done) | (refine int_eq ?_; have ha : alg = 13 := (by omega); rcases ha with rfl <;> rfl; done) | (refine int_eq ?_; have ha : alg = 14 := (by omega); rcases ha with rfl <;> rfl; done) | (refine int_eq ?_; have ha : alg = 15 := (by omega); rcases ha with rfl <;> rfl; done) | (refine int_eq ?_; have ha : alg = 16 ∨ alg = 17 := (by omega); rcases ha with rfl | rfl <;> rfl; done)
       ·
        refine Ch.ym h12 rfl rfl rfl rfl rfl rfl rfl ?_
        refine Ch.y h12 rfl rfl rfl rfl rfl (ok_int rfl (vl rfl) (vl rfl) rfl) ?_
        refine Ch.oo rfl rfl rfl (ok_pick_f rfl (vl rfl) h12 (vl rfl)) ?_
        refine Ch.mv rfl rfl rfl rfl rfl ?_
        refine Ch.cs 24 rfl (fun h13 q13 => ?_) (fun h13 q13 => ?_)
        ·
         refine Ch.nf h13 rfl rfl rfl rfl rfl ?_
         refine Ch.nf h13 rfl rfl rfl rfl rfl ?_
         refine Ch.oo rfl rfl rfl (ok_pick_t rfl (vl rfl) h13 (vl rfl)) ?_
         refine Ch.mv rfl rfl rfl rfl rfl ?_
         refine Ch.nd rfl rfl rfl rfl rfl rfl ?_
         refine Ch.nd rfl rfl rfl rfl rfl rfl ?_
         refine Ch.oo rfl rfl rfl (ok_pick_t rfl (vl rfl) rfl (vl rfl)) ?_
         refine Ch.mv rfl rfl rfl rfl rfl ?_
         refine Ch.nd rfl rfl rfl rfl rfl rfl ?_
         refine Ch.nd rfl rfl rfl rfl rfl rfl ?_
         refine Ch.oo rfl rfl rfl (ok_pick_t rfl (vl rfl) rfl (vl rfl)) ?_
         refine Ch.nil (Fin.go ?_)
         refine Tr.w2 3 35 rfl rfl ?_
         refine Tr.cond rfl (fun _ => ?_) (fun h => nomatch h)
         refine Tr.seq (Tr.reg0 ?_)
         refine Ch.mv rfl rfl rfl rfl rfl ?_
         refine Ch.oo rfl rfl rfl (ok_quo rfl (vl rfl) (vl rfl) (by omega)) ?_
         refine Ch.as rfl rfl rfl rfl rfl ?_
         refine Ch.nil (Fin.go (Tr.ret ?_))
         refine Fin.then_ret ?_
         refine Fin.block_ret ?_
         refine Fin.then_ret ?_
         refine Fin.ret1 rfl (OutW.bse _ _) rfl ?_
         · first | (refine int_eq ?_; exact strength_mod (by omega)) | (refine int_eq ?_; rw [strength_cur (by omega)]; have hb : bits = 160 ∨ bits = 224 ∨ bits = 256 ∨ bits = 384 ∨ bits = 521 := (by omega); rcases hb with rfl | rfl | rfl | rfl | rfl <;> rfl; done) | (refine int_eq ?_; rw [strength_cur (by omega), if_neg (by simp [curvs]; omega)]; done) | (refine int_eq ?_; exact strength_rest (by omega)) | (refine int_eq ?_; have ha : alg = 9 := (by omega); rcases ha with rfl <;> rfl; done) | (refine int_eq ?_; have ha : alg = 13 := (by omega); rcases ha with rfl <;> rfl; done) | (refine int_eq ?_; have ha : alg = 14 := (by omega); rcases ha with rfl <;> rfl; done) | (refine int_eq ?_; have ha : alg = 15 := (by omega); rcases ha with rfl <;> rfl; done) | (refine int_eq ?_; have ha : alg = 16 ∨ alg = 17 := (by omega); rcases ha with rfl | rfl <;> rfl; done)
        ·
         refine Ch.ym h13 rfl rfl rfl rfl rfl rfl rfl ?_
         refine Ch.y h13 rfl rfl rfl rfl rfl (ok_int rfl (vl rfl) (vl rfl) rfl) ?_
         refine Ch.oo rfl rfl rfl (ok_pick_f rfl (vl rfl) h13 (vl rfl)) ?_
         refine Ch.mv rfl rfl rfl rfl rfl ?_
         refine Ch.cs 28 rfl (fun h14 q14 => ?_) (fun h14 q14 => ?_)
         ·
          refine Ch.nf h14 rfl rfl rfl rfl rfl ?_
          refine Ch.nf h14 rfl rfl rfl rfl rfl ?_
          refine Ch.oo rfl rfl rfl (ok_pick_t rfl (vl rfl) h14 (vl rfl)) ?_
          refine Ch.mv rfl rfl rfl rfl rfl ?_
          refine Ch.nd rfl rfl rfl rfl rfl rfl ?_
          refine Ch.nd rfl rfl rfl rfl rfl rfl ?_
          refine Ch.oo rfl rfl rfl (ok_pick_t rfl (vl rfl) rfl (vl rfl)) ?_
          refine Ch.nil (Fin.go ?_)
          refine Tr.w2 3 35 rfl rfl ?_
          refine Tr.cond rfl (fun _ => ?_) (fun h => nomatch h)
          refine Tr.seq (Tr.reg0 ?_)
          refine Ch.mv rfl rfl rfl rfl rfl ?_
          refine Ch.oo rfl rfl rfl (ok_quo rfl (vl rfl) (vl rfl) (by omega)) ?_
          refine Ch.as rfl rfl rfl rfl rfl ?_
          refine Ch.nil (Fin.go (Tr.ret ?_))
          refine Fin.then_ret ?_
          refine Fin.block_ret ?_
          refine Fin.then_ret ?_
          refine Fin.ret1 rfl (OutW.bse _ _) rfl ?_
          · first | (refine int_eq ?_; exact strength_mod (by omega)) | (refine int_eq ?_; rw [strength_cur (by omega)]; have hb : bits = 160 ∨ bits = 224 ∨ bits = 256 ∨ bits = 384 ∨ bits = 521 := (by omega); rcases hb with rfl | rfl | rfl | rfl | rfl <;> rfl; done) | (refine int_eq ?_; rw [strength_cur (by omega), if_neg (by simp [curvs]; omega)]; done) | (refine int_eq ?_; exact strength_rest (by omega)) | (refine int_eq ?_; have ha : alg = 9 := (by omega); rcases ha with rfl <;> rfl; done) | (refine int_eq ?_; have ha : alg = 13 := (by omega); rcases ha with rfl <;> rfl; done) | (refine int_eq ?_; have ha : alg = 14 := (by omega); rcases ha with rfl <;> rfl; done) | (refine int_eq ?_; have ha : alg = 15 := (by omega); rcases ha with rfl <;> rfl; done) | (refine int_eq ?_; have ha : alg = 16 ∨ alg = 17 := (by omega); rcases ha with rfl | rfl <;> rfl; done)
         ·
          refine Ch.ym h14 rfl rfl rfl rfl rfl rfl rfl ?_
          refine Ch.y h14 rfl rfl rfl rfl rfl (ok_int rfl (vl rfl) (vl rfl) rfl) ?_
          refine Ch.oo rfl rfl rfl (ok_pick_f rfl (vl rfl) h14 (vl rfl)) ?_
          refine Ch.mv rfl rfl rfl rfl rfl ?_
          refine Ch.cs 32 rfl (fun h15 q15 => ?_) (fun h15 q15 => ?_)
          ·
           refine Ch.nf h15 rfl rfl rfl rfl rfl ?_
           refine Ch.nf h15 rfl rfl rfl rfl rfl ?_
           refine Ch.oo rfl rfl rfl (ok_pick_t rfl (vl rfl) h15 (vl rfl)) ?_
           refine Ch.nil (Fin.go ?_)
           refine Tr.w2 3 35 rfl rfl ?_
           refine Tr.cond rfl (fun _ => ?_) (fun h => nomatch h)
           refine Tr.seq (Tr.reg0 ?_)
           refine Ch.mv rfl rfl rfl rfl rfl ?_
           refine Ch.oo rfl rfl rfl (ok_quo rfl (vl rfl) (vl rfl) (by omega)) ?_
           refine Ch.as rfl rfl rfl rfl rfl ?_
           refine Ch.nil (Fin.go (Tr.ret ?_))
           refine Fin.then_ret ?_
           refine Fin.block_ret ?_
           refine Fin.then_ret ?_
           refine Fin.ret1 rfl (OutW.bse _ _) rfl ?_
           · first | (refine int_eq ?_; exact strength_mod (by omega)) | (refine int_eq ?_; rw [strength_cur (by omega)]; have hb : bits = 160 ∨ bits = 224 ∨ bits = 256 ∨ bits = 384 ∨ bits = 521 := (by omega); rcases hb with rfl | rfl | rfl | rfl | rfl <;> rfl; done) | (refine int_eq ?_; rw [strength_cur (by omega), if_neg (by simp [curvs]; omega)]; done) | (refine int_eq ?_; exact strength_rest (by omega)) | (refine int_eq ?_; have ha : alg = 9 := (by omega); rcases ha with rfl <;> rfl; done) | (refine int_eq ?_; have ha : alg = 13 := (by omega); rcases ha with rfl <;> rfl; done) | (refine int_eq ?_; have ha : alg = 14 := (by omega); rcases ha with rfl <;> rfl; done) | (refine int_eq ?_; have ha : alg = 15 := (by omega); rcases ha with rfl <;> rfl; done) | (refine int_eq ?_; have ha : alg = 16 ∨ alg = 17 := (by omega); rcases ha with rfl | rfl <;> rfl; done)
          ·
           refine Ch.ym h15 rfl rfl rfl rfl rfl rfl rfl ?_
           refine Ch.y h15 rfl rfl rfl rfl rfl (ok_int rfl (vl rfl) (vl rfl) rfl) ?_
           refine Ch.oo rfl rfl rfl (ok_pick_f rfl (vl rfl) h15 (vl rfl)) ?_
           refine Ch.nil (Fin.go ?_)
           refine Tr.w2 3 35 rfl rfl ?_
           refine Tr.cn rfl (fun h16 q16 => ?_) (fun h16 q16 => ?_)
           ·
            refine Tr.seq (Tr.reg0 ?_)
            refine Ch.mv rfl rfl rfl rfl rfl ?_
            refine Ch.oo rfl rfl rfl (ok_quo rfl (vl rfl) (vl rfl) (by omega)) ?_
            refine Ch.as rfl rfl rfl rfl rfl ?_
            refine Ch.nil (Fin.go (Tr.ret ?_))
            refine Fin.then_ret ?_
            refine Fin.block_ret ?_
            refine Fin.then_ret ?_
            refine Fin.ret1 rfl (OutW.bse _ _) rfl ?_
            · first | (refine int_eq ?_; exact strength_mod (by omega)) | (refine int_eq ?_; rw [strength_cur (by omega)]; have hb : bits = 160 ∨ bits = 224 ∨ bits = 256 ∨ bits = 384 ∨ bits = 521 := (by omega); rcases hb with rfl | rfl | rfl | rfl | rfl <;> rfl; done) | (refine int_eq ?_; rw [strength_cur (by omega), if_neg (by simp [curvs]; omega)]; done) | (refine int_eq ?_; exact strength_rest (by omega)) | (refine int_eq ?_; have ha : alg = 9 := (by omega); rcases ha with rfl <;> rfl; done) | (refine int_eq ?_; have ha : alg = 13 := (by omega); rcases ha with rfl <;> rfl; done) | (refine int_eq ?_; have ha : alg = 14 := (by omega); rcases ha with rfl <;> rfl; done) | (refine int_eq ?_; have ha : alg = 15 := (by omega); rcases ha with rfl <;> rfl; done) | (refine int_eq ?_; have ha : alg = 16 ∨ alg = 17 := (by omega); rcases ha with rfl | rfl <;> rfl; done)
           ·
            refine Tr.skip (Fin.go (Tr.seq (Tr.reg0 ?_)))
            refine Ch.as rfl rfl rfl rfl rfl ?_
            refine Ch.nil (Fin.go (Tr.ret ?_))
            refine Fin.block_ret ?_
            refine Fin.then_ret ?_
            refine Fin.ret1 rfl (OutW.bse _ _) rfl ?_
            · first | (refine int_eq ?_; exact strength_mod (by omega)) | (refine int_eq ?_; rw [strength_cur (by omega)]; have hb : bits = 160 ∨ bits = 224 ∨ bits = 256 ∨ bits = 384 ∨ bits = 521 := (by omega); rcases hb with rfl | rfl | rfl | rfl | rfl <;> rfl; done) | (refine int_eq ?_; rw [strength_cur (by omega), if_neg (by simp [curvs]; omega)]; done) | (refine int_eq ?_; exact strength_rest (by omega)) | (refine int_eq ?_; have ha : alg = 9 := (by omega); rcases ha with rfl <;> rfl; done) | (refine int_eq ?_; have ha : alg = 13 := (by omega); rcases ha with rfl <;> rfl; done) | (refine int_eq ?_; have ha : alg = 14 := (by omega); rcases ha with rfl <;> rfl; done) | (refine int_eq ?_; have ha : alg = 15 := (by omega); rcases ha with rfl <;> rfl; done) | (refine int_eq ?_; have ha : alg = 16 ∨ alg = 17 := (by omega); rcases ha with rfl | rfl <;> rfl; done)
      ·
       refine Tr.seq (Tr.reg0 ?_)
       refine Ch.oo rfl rfl rfl (ok_int rfl (vl rfl) (vl rfl) rfl) ?_
       refine Ch.as rfl rfl rfl rfl rfl ?_
       refine Ch.nil (Fin.go ?_)
       refine Tr.cn rfl (fun h17 q17 => ?_) (fun h17 q17 => ?_)
       ·
        refine Tr.seq (Tr.reg0 ?_)
        refine Ch.mv rfl rfl rfl rfl rfl ?_
        refine Ch.oo rfl rfl rfl (ok_buildSlice (xs := [.const (.int .i64 (44)), .const (.int .i64 (65)), .const (.int .i64 (87))]) (rows := [[_], [_], [_]]) rfl rfl Tryz.underlying22 sz3 z3 rfl (by decide) ⟨⟨(by exact rfl), (VL.le (vl rfl) (one_cellsP _))⟩, ⟨⟨(by exact rfl), (VL.le (vl rfl) (one_cellsP _))⟩, ⟨⟨(by exact rfl), (VL.le (vl rfl) (one_cellsP _))⟩, trivial⟩⟩⟩ (by decide)) ?_
        refine Ch.oo rfl rfl rfl (ok_buildSlice (xs := [.const (.int .i64 (128)), .const (.int .i64 (192)), .const (.int .i64 (256))]) (rows := [[_], [_], [_]]) rfl rfl Tryz.underlying22 sz3 z3 rfl (by decide) ⟨⟨(by exact rfl), (VL.le (vl rfl) (one_cellsP _))⟩, ⟨⟨(by exact rfl), (VL.le (vl rfl) (one_cellsP _))⟩, ⟨⟨(by exact rfl), (VL.le (vl rfl) (one_cellsP _))⟩, trivial⟩⟩⟩ (by decide)) ?_
        refine Ch.oo rfl rfl rfl (ok_call rfl (w_among (l := [44, 65, 87]) (m := [128, 192, 256]) (by simp)) ⟨ke rfl, ⟨_, rfl, full_le _ _⟩, ⟨_, rfl, full_le _ _⟩, trivial⟩) ?_
        refine Ch.as rfl rfl rfl rfl rfl ?_
        refine Ch.nil (Fin.go ?_)
        refine Tr.w1 2 rfl ?_
        refine Tr.ret ?_
        refine Fin.block_ret ?_
        refine Fin.then_ret ?_
        refine Fin.ret1 rfl (OutW.bse _ _) rfl ?_
        · first | (refine int_eq ?_; exact strength_mod (by omega)) | (refine int_eq ?_; rw [strength_cur (by omega)]; have hb : bits = 160 ∨ bits = 224 ∨ bits = 256 ∨ bits = 384 ∨ bits = 521 := (by omega); rcases hb with rfl | rfl | rfl | rfl | rfl <;> rfl; done) | (refine int_eq ?_; rw [strength_cur (by omega), if_neg (by simp [curvs]; omega)]; done) | (refine int_eq ?_; exact strength_rest (by omega)) | (refine int_eq ?_; have ha : alg = 9 := (by omega); rcases ha with rfl <;> rfl; done) | (refine int_eq ?_; have ha : alg = 13 := (by omega); rcases ha with rfl <;> rfl; done) | (refine int_eq ?_; have ha : alg = 14 := (by omega); rcases ha with rfl <;> rfl; done) | (refine int_eq ?_; have ha : alg = 15 := (by omega); rcases ha with rfl <;> rfl; done) | (refine int_eq ?_; have ha : alg = 16 ∨ alg = 17 := (by omega); rcases ha with rfl | rfl <;> rfl; done)
       ·
        refine Tr.seq (Tr.reg0 ?_)
        refine Ch.oo rfl rfl rfl (ok_int rfl (vl rfl) (vl rfl) rfl) ?_
        refine Ch.as rfl rfl rfl rfl rfl ?_
        refine Ch.nil (Fin.go ?_)
        refine Tr.cn rfl (fun h18 q18 => ?_) (fun h18 q18 => ?_)
        ·
         refine Tr.seq (Tr.reg0 ?_)
         refine Ch.mv rfl rfl rfl rfl rfl ?_
         refine Ch.oo rfl rfl rfl (ok_buildSlice (xs := [.const (.int .i64 (512)), .const (.int .i64 (768)), .const (.int .i64 (1024))]) (rows := [[_], [_], [_]]) rfl rfl Tryz.underlying22 sz3 z3 rfl (by decide) ⟨⟨(by exact rfl), (VL.le (vl rfl) (one_cellsP _))⟩, ⟨⟨(by exact rfl), (VL.le (vl rfl) (one_cellsP _))⟩, ⟨⟨(by exact rfl), (VL.le (vl rfl) (one_cellsP _))⟩, trivial⟩⟩⟩ (by decide)) ?_
         refine Ch.oo rfl rfl rfl (ok_buildSlice (xs := [.const (.int .i64 (128)), .const (.int .i64 (192)), .const (.int .i64 (256))]) (rows := [[_], [_], [_]]) rfl rfl Tryz.underlying22 sz3 z3 rfl (by decide) ⟨⟨(by exact rfl), (VL.le (vl rfl) (one_cellsP _))⟩, ⟨⟨(by exact rfl), (VL.le (vl rfl) (one_cellsP _))⟩, ⟨⟨(by exact rfl), (VL.le (vl rfl) (one_cellsP _))⟩, trivial⟩⟩⟩ (by decide)) ?_
         refine Ch.oo rfl rfl rfl (ok_call rfl (w_among (l := [512, 768, 1024]) (m := [128, 192, 256]) (by simp)) ⟨ke rfl, ⟨_, rfl, full_le _ _⟩, ⟨_, rfl, full_le _ _⟩, trivial⟩) ?_
         refine Ch.as rfl rfl rfl rfl rfl ?_
         refine Ch.nil (Fin.go ?_)
         refine Tr.w1 2 rfl ?_
         refine Tr.ret ?_
         refine Fin.block_ret ?_
         refine Fin.then_ret ?_
         refine Fin.ret1 rfl (OutW.bse _ _) rfl ?_
         · first | (refine int_eq ?_; exact strength_mod (by omega)) | (refine int_eq ?_; rw [strength_cur (by omega)]; have hb : bits = 160 ∨ bits = 224 ∨ bits = 256 ∨ bits = 384 ∨ bits = 521 := (by omega); rcases hb with rfl | rfl | rfl | rfl | rfl <;> rfl; done) | (refine int_eq ?_; rw [strength_cur (by omega), if_neg (by simp [curvs]; omega)]; done) | (refine int_eq ?_; exact strength_rest (by omega)) | (refine int_eq ?_; have ha : alg = 9 := (by omega); rcases ha with rfl <;> rfl; done) | (refine int_eq ?_; have ha : alg = 13 := (by omega); rcases ha with rfl <;> rfl; done) | (refine int_eq ?_; have ha : alg = 14 := (by omega); rcases ha with rfl <;> rfl; done) | (refine int_eq ?_; have ha : alg = 15 := (by omega); rcases ha with rfl <;> rfl; done) | (refine int_eq ?_; have ha : alg = 16 ∨ alg = 17 := (by omega); rcases ha with rfl | rfl <;> rfl; done)
        ·
         refine Tr.seq (Tr.reg0 ?_)
         refine Ch.oo rfl rfl rfl (ok_int rfl (vl rfl) (vl rfl) rfl) ?_
         refine Ch.as rfl rfl rfl rfl rfl ?_
         refine Ch.nil (Fin.go ?_)
         refine Tr.w4 1 3 7 50 rfl rfl rfl rfl ?_
         refine Tr.cn rfl (fun h19 q19 => ?_) (fun h19 q19 => ?_)
         ·
          refine Tr.seq (Tr.reg0 ?_)
          refine Ch.mv rfl rfl rfl rfl rfl ?_
          refine Ch.oo rfl rfl rfl (ok_buildSlice (xs := [.const (.int .i64 (40)), .const (.int .i64 (128))]) (rows := [[_], [_]]) rfl rfl Tryz.underlying22 sz3 z3 rfl (by decide) ⟨⟨(by exact rfl), (VL.le (vl rfl) (one_cellsP _))⟩, ⟨⟨(by exact rfl), (VL.le (vl rfl) (one_cellsP _))⟩, trivial⟩⟩ (by decide)) ?_
          refine Ch.oo rfl rfl rfl (ok_buildSlice (xs := [.const (.int .i64 (40)), .const (.int .i64 (60))]) (rows := [[_], [_]]) rfl rfl Tryz.underlying22 sz3 z3 rfl (by decide) ⟨⟨(by exact rfl), (VL.le (vl rfl) (one_cellsP _))⟩, ⟨⟨(by exact rfl), (VL.le (vl rfl) (one_cellsP _))⟩, trivial⟩⟩ (by decide)) ?_
          refine Ch.oo rfl rfl rfl (ok_call rfl (w_among (l := [40, 128]) (m := [40, 60]) (by simp)) ⟨ke rfl, ⟨_, rfl, full_le _ _⟩, ⟨_, rfl, full_le _ _⟩, trivial⟩) ?_
          refine Ch.as rfl rfl rfl rfl rfl ?_
          refine Ch.nil (Fin.go (Tr.ret ?_))
          refine Fin.block_ret ?_
          refine Fin.then_ret ?_
          refine Fin.ret1 rfl (OutW.bse _ _) rfl ?_
          · first | (refine int_eq ?_; exact strength_mod (by omega)) | (refine int_eq ?_; rw [strength_cur (by omega)]; have hb : bits = 160 ∨ bits = 224 ∨ bits = 256 ∨ bits = 384 ∨ bits = 521 := (by omega); rcases hb with rfl | rfl | rfl | rfl | rfl <;> rfl; done) | (refine int_eq ?_; rw [strength_cur (by omega), if_neg (by simp [curvs]; omega)]; done) | (refine int_eq ?_; exact strength_rest (by omega)) | (refine int_eq ?_; have ha : alg = 9 := (by omega); rcases ha with rfl <;> rfl; done) | (refine int_eq ?_; have ha : alg = 13 := (by omega); rcases ha with rfl <;> rfl; done) | (refine int_eq ?_; have ha : alg = 14 := (by omega); rcases ha with rfl <;> rfl; done) | (refine int_eq ?_; have ha : alg = 15 := (by omega); rcases ha with rfl <;> rfl; done) | (refine int_eq ?_; have ha : alg = 16 ∨ alg = 17 := (by omega); rcases ha with rfl | rfl <;> rfl; done)
         ·
          refine Tr.seq (Tr.reg0 ?_)
          refine Ch.oo rfl rfl rfl (ok_int rfl (vl rfl) (vl rfl) rfl) ?_
          refine Ch.as rfl rfl rfl rfl rfl ?_
          refine Ch.nil (Fin.go ?_)
          refine Tr.cn rfl (fun h20 q20 => ?_) (fun h20 q20 => ?_)
          ·
           refine Tr.seq (Tr.reg0 ?_)
           refine Ch.mv rfl rfl rfl rfl rfl ?_
           refine Ch.oo rfl rfl rfl (ok_buildSlice (xs := [.const (.int .i64 (112)), .const (.int .i64 (168))]) (rows := [[_], [_]]) rfl rfl Tryz.underlying22 sz3 z3 rfl (by decide) ⟨⟨(by exact rfl), (VL.le (vl rfl) (one_cellsP _))⟩, ⟨⟨(by exact rfl), (VL.le (vl rfl) (one_cellsP _))⟩, trivial⟩⟩ (by decide)) ?_
           refine Ch.oo rfl rfl rfl (ok_buildSlice (xs := [.const (.int .i64 (80)), .const (.int .i64 (112))]) (rows := [[_], [_]]) rfl rfl Tryz.underlying22 sz3 z3 rfl (by decide) ⟨⟨(by exact rfl), (VL.le (vl rfl) (one_cellsP _))⟩, ⟨⟨(by exact rfl), (VL.le (vl rfl) (one_cellsP _))⟩, trivial⟩⟩ (by decide)) ?_
           refine Ch.oo rfl rfl rfl (ok_call rfl (w_among (l := [112, 168]) (m := [80, 112]) (by simp)) ⟨ke rfl, ⟨_, rfl, full_le _ _⟩, ⟨_, rfl, full_le _ _⟩, trivial⟩) ?_
           refine Ch.as rfl rfl rfl rfl rfl ?_
           refine Ch.nil (Fin.go (Tr.ret ?_))
           refine Fin.block_ret ?_
           refine Fin.then_ret ?_
           refine Fin.ret1 rfl (OutW.bse _ _) rfl ?_
           · first | (refine int_eq ?_; exact strength_mod (by omega)) | (refine int_eq ?_; rw [strength_cur (by omega)]; have hb : bits = 160 ∨ bits = 224 ∨ bits = 256 ∨ bits = 384 ∨ bits = 521 := (by omega); rcases hb with rfl | rfl | rfl | rfl | rfl <;> rfl; done) | (refine int_eq ?_; rw [strength_cur (by omega), if_neg (by simp [curvs]; omega)]; done) | (refine int_eq ?_; exact strength_rest (by omega)) | (refine int_eq ?_; have ha : alg = 9 := (by omega); rcases ha with rfl <;> rfl; done) | (refine int_eq ?_; have ha : alg = 13 := (by omega); rcases ha with rfl <;> rfl; done) | (refine int_eq ?_; have ha : alg = 14 := (by omega); rcases ha with rfl <;> rfl; done) | (refine int_eq ?_; have ha : alg = 15 := (by omega); rcases ha with rfl <;> rfl; done) | (refine int_eq ?_; have ha : alg = 16 ∨ alg = 17 := (by omega); rcases ha with rfl | rfl <;> rfl; done)
          ·
           refine Tr.seq (Tr.seq (Tr.reg0 ?_))
           refine Ch.oo rfl rfl rfl (ok_int rfl (vl rfl) (vl rfl) rfl) ?_
           refine Ch.as rfl rfl rfl rfl rfl ?_
           refine Ch.nil (Fin.go ?_)
           refine Tr.cn rfl (fun h21 q21 => ?_) (fun h21 q21 => ?_)
           ·
            refine Tr.skip (Fin.go ?_)
            refine Tr.cond rfl (fun _ => ?_) (fun h => nomatch h21.symm.trans h)
            refine Tr.seq (Tr.reg0 ?_)
            refine Ch.mv rfl rfl rfl rfl rfl ?_
            refine Ch.oo rfl rfl rfl (ok_buildSlice (xs := [.const (.int .i64 (128)), .const (.int .i64 (256))]) (rows := [[_], [_]]) rfl rfl Tryz.underlying22 sz3 z3 rfl (by decide) ⟨⟨(by exact rfl), (VL.le (vl rfl) (one_cellsP _))⟩, ⟨⟨(by exact rfl), (VL.le (vl rfl) (one_cellsP _))⟩, trivial⟩⟩ (by decide)) ?_
            refine Ch.oo rfl rfl rfl (ok_buildSlice (xs := [.const (.int .i64 (128)), .const (.int .i64 (256))]) (rows := [[_], [_]]) rfl rfl Tryz.underlying22 sz3 z3 rfl (by decide) ⟨⟨(by exact rfl), (VL.le (vl rfl) (one_cellsP _))⟩, ⟨⟨(by exact rfl), (VL.le (vl rfl) (one_cellsP _))⟩, trivial⟩⟩ (by decide)) ?_
            refine Ch.oo rfl rfl rfl (ok_call rfl (w_among (l := [128, 256]) (m := [128, 256]) (by simp)) ⟨ke rfl, ⟨_, rfl, full_le _ _⟩, ⟨_, rfl, full_le _ _⟩, trivial⟩) ?_
            refine Ch.as rfl rfl rfl rfl rfl ?_
            refine Ch.nil (Fin.go (Tr.ret ?_))
            refine Fin.block_ret ?_
            refine Fin.then_ret ?_
            refine Fin.ret1 rfl (OutW.bse _ _) rfl ?_
            · first | (refine int_eq ?_; exact strength_mod (by omega)) | (refine int_eq ?_; rw [strength_cur (by omega)]; have hb : bits = 160 ∨ bits = 224 ∨ bits = 256 ∨ bits = 384 ∨ bits = 521 := (by omega); rcases hb with rfl | rfl | rfl | rfl | rfl <;> rfl; done) | (refine int_eq ?_; rw [strength_cur (by omega), if_neg (by simp [curvs]; omega)]; done) | (refine int_eq ?_; exact strength_rest (by omega)) | (refine int_eq ?_; have ha : alg = 9 := (by omega); rcases ha with rfl <;> rfl; done) | (refine int_eq ?_; have ha : alg = 13 := (by omega); rcases ha with rfl <;> rfl; done) | (refine int_eq ?_; have ha : alg = 14 := (by omega); rcases ha with rfl <;> rfl; done) | (refine int_eq ?_; have ha : alg = 15 := (by omega); rcases ha with rfl <;> rfl; done) | (refine int_eq ?_; have ha : alg = 16 ∨ alg = 17 := (by omega); rcases ha with rfl | rfl <;> rfl; done)
           ·
            refine Tr.reg0 ?_
            refine Ch.oo rfl rfl rfl (ok_int rfl (vl rfl) (vl rfl) rfl) ?_
            refine Ch.as rfl rfl rfl rfl rfl ?_
            refine Ch.nil (Fin.go ?_)
            refine Tr.cn rfl (fun h22 q22 => ?_) (fun h22 q22 => ?_)
            ·
             refine Tr.seq (Tr.reg0 ?_)
             refine Ch.mv rfl rfl rfl rfl rfl ?_
             refine Ch.oo rfl rfl rfl (ok_buildSlice (xs := [.const (.int .i64 (128)), .const (.int .i64 (256))]) (rows := [[_], [_]]) rfl rfl Tryz.underlying22 sz3 z3 rfl (by decide) ⟨⟨(by exact rfl), (VL.le (vl rfl) (one_cellsP _))⟩, ⟨⟨(by exact rfl), (VL.le (vl rfl) (one_cellsP _))⟩, trivial⟩⟩ (by decide)) ?_
             refine Ch.oo rfl rfl rfl (ok_buildSlice (xs := [.const (.int .i64 (128)), .const (.int .i64 (256))]) (rows := [[_], [_]]) rfl rfl Tryz.underlying22 sz3 z3 rfl (by decide) ⟨⟨(by exact rfl), (VL.le (vl rfl) (one_cellsP _))⟩, ⟨⟨(by exact rfl), (VL.le (vl rfl) (one_cellsP _))⟩, trivial⟩⟩ (by decide)) ?_
             refine Ch.oo rfl rfl rfl (ok_call rfl (w_among (l := [128, 256]) (m := [128, 256]) (by simp)) ⟨ke rfl, ⟨_, rfl, full_le _ _⟩, ⟨_, rfl, full_le _ _⟩, trivial⟩) ?_
             refine Ch.as rfl rfl rfl rfl rfl ?_
             refine Ch.nil (Fin.go ?_)
             refine Tr.w1 2 rfl ?_
             refine Tr.ret ?_
             refine Fin.block_ret ?_
             refine Fin.then_ret ?_
             refine Fin.ret1 rfl (OutW.bse _ _) rfl ?_
             · first | (refine int_eq ?_; exact strength_mod (by omega)) | (refine int_eq ?_; rw [strength_cur (by omega)]; have hb : bits = 160 ∨ bits = 224 ∨ bits = 256 ∨ bits = 384 ∨ bits = 521 := (by omega); rcases hb with rfl | rfl | rfl | rfl | rfl <;> rfl; done) | (refine int_eq ?_; rw [strength_cur (by omega), if_neg (by simp [curvs]; omega)]; done) | (refine int_eq ?_; exact strength_rest (by omega)) | (refine int_eq ?_; have ha : alg = 9 := (by omega); rcases ha with rfl <;> rfl; done) | (refine int_eq ?_; have ha : alg = 13 := (by omega); rcases ha with rfl <;> rfl; done) | (refine int_eq ?_; have ha : alg = 14 := (by omega); rcases ha with rfl <;> rfl; done) | (refine int_eq ?_; have ha : alg = 15 := (by omega); rcases ha with rfl <;> rfl; done) | (refine int_eq ?_; have ha : alg = 16 ∨ alg = 17 := (by omega); rcases ha with rfl | rfl <;> rfl; done)
            ·
             refine Tr.skip (Fin.block (Fin.go (Tr.seq (Tr.reg0 ?_))))
             refine Ch.mv rfl rfl rfl rfl rfl ?_
             refine Ch.oo rfl rfl rfl (ok_buildSlice (xs := [.const (.int .i64 (0))]) (rows := [[_]]) rfl rfl Tryz.underlying22 sz3 z3 rfl (by decide) ⟨⟨(by exact rfl), (VL.le (vl rfl) (one_cellsP _))⟩, trivial⟩ (by decide)) ?_
             refine Ch.oo rfl rfl rfl (ok_fieldAddr rfl fo24_0 (vl rfl) rfl) ?_
             refine Ch.oo rfl rfl rfl (ok_load1 rfl one3 (vl rfl)) ?_
             refine Ch.oo rfl rfl rfl (ok_call rfl (w_single) ⟨ke rfl, trivial⟩) ?_
             refine Ch.oo rfl rfl rfl (ok_buildSlice (xs := [.tmp 73]) (rows := [[_]]) rfl rfl Tryz.underlying22 sz3 z3 rfl (by decide) ⟨⟨(by exact rfl), (VL.le (vl rfl) (one_cellsP _))⟩, trivial⟩ (by decide)) ?_
             refine Ch.oo rfl rfl rfl (ok_call rfl (w_among (l := [0]) (m := [singleI alg]) (by simp)) ⟨ke rfl, ⟨_, rfl, full_le _ _⟩, ⟨_, rfl, full_le _ _⟩, trivial⟩) ?_
             refine Ch.as rfl rfl rfl rfl rfl ?_
             refine Ch.nil (Fin.go ?_)
             refine Tr.w1 2 rfl ?_
             refine Tr.ret ?_
             refine Fin.ret1 rfl (OutW.bse _ _) rfl ?_
             · first | (refine int_eq ?_; exact strength_mod (by omega)) | (refine int_eq ?_; rw [strength_cur (by omega)]; have hb : bits = 160 ∨ bits = 224 ∨ bits = 256 ∨ bits = 384 ∨ bits = 521 := (by omega); rcases hb with rfl | rfl | rfl | rfl | rfl <;> rfl; done) | (refine int_eq ?_; rw [strength_cur (by omega), if_neg (by simp [curvs]; omega)]; done) | (refine int_eq ?_; exact strength_rest (by omega)) | (refine int_eq ?_; have ha : alg = 9 := (by omega); rcases ha with rfl <;> rfl; done) | (refine int_eq ?_; have ha : alg = 13 := (by omega); rcases ha with rfl <;> rfl; done) | (refine int_eq ?_; have ha : alg = 14 := (by omega); rcases ha with rfl <;> rfl; done) | (refine int_eq ?_; have ha : alg = 15 := (by omega); rcases ha with rfl <;> rfl; done) | (refine int_eq ?_; have ha : alg = 16 ∨ alg = 17 := (by omega); rcases ha with rfl | rfl <;> rfl; done)
set_option maxRecDepth 20000 in
theorem w_RValid {alg bits : Int}  : Fun Tryz.prog 127 [agg [int alg, int bits]] (bool (decide (strength alg bits > 0))) := by
 refine Fun.of Tryz.func127 rfl rfl (by exact Nat.le_of_ble_eq_true rfl) fun M0 w0 => ?_
 refine Tr.seq (Tr.reg0 ?_)
 refine Ch.oo rfl rfl rfl (ok_box rfl (VL.le (vl rfl) (agg_cellsP _))) ?_
 refine Ch.as rfl rfl rfl rfl rfl ?_
 refine Ch.nil (Fin.go (Tr.seq (Tr.reg0 ?_)))
 refine Ch.oo rfl rfl rfl (ok_loadA rfl agg24 sz24 (vl rfl) rfl rfl) ?_
 refine Ch.oo rfl rfl rfl (ok_call rfl (w_RStrength) ⟨ke rfl, trivial⟩) ?_
 refine Ch.oo rfl rfl rfl (ok_int rfl (vl rfl) (vl rfl) rfl) ?_
 refine Ch.as rfl rfl rfl rfl rfl ?_
 refine Ch.nil (Fin.go (Tr.ret ?_))
 refine Fin.ret1 rfl (OutW.bse _ _) rfl ?_
 · first | exact Pr.le_refl _ | (refine int_eq ?_; simp_all; done) | (refine bool_eq ?_; simp_all; done) | (refine bool_eq ?_; simp_all; omega) | (refine int_eq ?_; omega)
def rtab : List (List UInt8 × Int) := catTable.map fun r => (r.name, r.kind)
theorem rtab_at {alg : Int} (h : 1 ≤ alg ∧ alg ≤ 22) : rtab[alg.toNat]? = some ((catOf alg).name, (catOf alg).kind) := by
  unfold rtab; rw [List.getElem?_map, catTable_at h]; rfl

set_option maxRecDepth 20000 in
theorem w_Rrows   : Fun Tryz.prog 225 [] (slice 2 (rtab.map fun r => [str r.1, int r.2])) := by
 refine Fun.of Tryz.func225 rfl rfl (by exact Nat.le_of_ble_eq_true rfl) fun M0 w0 => ?_
 refine Tr.seq (Tr.reg0 ?_)
 refine Ch.as rfl rfl rfl rfl rfl ?_
 refine Ch.nil (Fin.go (Tr.seq (Tr.reg0 ?_)))
 refine Ch.oo rfl rfl rfl (ok_build (rows := []) rfl bl223 zo223 trivial rfl) ?_
 refine Ch.oo rfl rfl rfl (ok_build (rows := [(0, [_]), (1, [_])]) rfl bl223 zo223 ⟨⟨rfl, (VL.le (vl rfl) (one_cellsP _))⟩, ⟨⟨rfl, (VL.le (vl rfl) (one_cellsP _))⟩, trivial⟩⟩ rfl) ?_
 refine Ch.oo rfl rfl rfl (ok_build (rows := [(0, [_]), (1, [_])]) rfl bl223 zo223 ⟨⟨rfl, (VL.le (vl rfl) (one_cellsP _))⟩, ⟨⟨rfl, (VL.le (vl rfl) (one_cellsP _))⟩, trivial⟩⟩ rfl) ?_
 refine Ch.oo rfl rfl rfl (ok_build (rows := [(0, [_]), (1, [_])]) rfl bl223 zo223 ⟨⟨rfl, (VL.le (vl rfl) (one_cellsP _))⟩, ⟨⟨rfl, (VL.le (vl rfl) (one_cellsP _))⟩, trivial⟩⟩ rfl) ?_
 refine Ch.oo rfl rfl rfl (ok_build (rows := [(0, [_]), (1, [_])]) rfl bl223 zo223 ⟨⟨rfl, (VL.le (vl rfl) (one_cellsP _))⟩, ⟨⟨rfl, (VL.le (vl rfl) (one_cellsP _))⟩, trivial⟩⟩ rfl) ?_
 refine Ch.oo rfl rfl rfl (ok_build (rows := [(0, [_]), (1, [_])]) rfl bl223 zo223 ⟨⟨rfl, (VL.le (vl rfl) (one_cellsP _))⟩, ⟨⟨rfl, (VL.le (vl rfl) (one_cellsP _))⟩, trivial⟩⟩ rfl) ?_
 refine Ch.oo rfl rfl rfl (ok_build (rows := [(0, [_]), (1, [_])]) rfl bl223 zo223 ⟨⟨rfl, (VL.le (vl rfl) (one_cellsP _))⟩, ⟨⟨rfl, (VL.le (vl rfl) (one_cellsP _))⟩, trivial⟩⟩ rfl) ?_
 refine Ch.oo rfl rfl rfl (ok_build (rows := [(0, [_]), (1, [_])]) rfl bl223 zo223 ⟨⟨rfl, (VL.le (vl rfl) (one_cellsP _))⟩, ⟨⟨rfl, (VL.le (vl rfl) (one_cellsP _))⟩, trivial⟩⟩ rfl) ?_
 refine Ch.oo rfl rfl rfl (ok_build (rows := [(0, [_]), (1, [_])]) rfl bl223 zo223 ⟨⟨rfl, (VL.le (vl rfl) (one_cellsP _))⟩, ⟨⟨rfl, (VL.le (vl rfl) (one_cellsP _))⟩, trivial⟩⟩ rfl) ?_
 refine Ch.oo rfl rfl rfl (ok_build (rows := [(0, [_]), (1, [_])]) rfl bl223 zo223 ⟨⟨rfl, (VL.le (vl rfl) (one_cellsP _))⟩, ⟨⟨rfl, (VL.le (vl rfl) (one_cellsP _))⟩, trivial⟩⟩ rfl) ?_
 refine Ch.oo rfl rfl rfl (ok_build (rows := [(0, [_]), (1, [_])]) rfl bl223 zo223 ⟨⟨rfl, (VL.le (vl rfl) (one_cellsP _))⟩, ⟨⟨rfl, (VL.le (vl rfl) (one_cellsP _))⟩, trivial⟩⟩ rfl) ?_
 refine Ch.oo rfl rfl rfl (ok_build (rows := [(0, [_]), (1, [_])]) rfl bl223 zo223 ⟨⟨rfl, (VL.le (vl rfl) (one_cellsP _))⟩, ⟨⟨rfl, (VL.le (vl rfl) (one_cellsP _))⟩, trivial⟩⟩ rfl) ?_
 refine Ch.oo rfl rfl rfl (ok_build (rows := [(0, [_]), (1, [_])]) rfl bl223 zo223 ⟨⟨rfl, (VL.le (vl rfl) (one_cellsP _))⟩, ⟨⟨rfl, (VL.le (vl rfl) (one_cellsP _))⟩, trivial⟩⟩ rfl) ?_
 refine Ch.oo rfl rfl rfl (ok_build (rows := [(0, [_]), (1, [_])]) rfl bl223 zo223 ⟨⟨rfl, (VL.le (vl rfl) (one_cellsP _))⟩, ⟨⟨rfl, (VL.le (vl rfl) (one_cellsP _))⟩, trivial⟩⟩ rfl) ?_
 refine Ch.oo rfl rfl rfl (ok_build (rows := [(0, [_]), (1, [_])]) rfl bl223 zo223 ⟨⟨rfl, (VL.le (vl rfl) (one_cellsP _))⟩, ⟨⟨rfl, (VL.le (vl rfl) (one_cellsP _))⟩, trivial⟩⟩ rfl) ?_
 refine Ch.oo rfl rfl rfl (ok_build (rows := [(0, [_]), (1, [_])]) rfl bl223 zo223 ⟨⟨rfl, (VL.le (vl rfl) (one_cellsP _))⟩, ⟨⟨rfl, (VL.le (vl rfl) (one_cellsP _))⟩, trivial⟩⟩ rfl) ?_
 refine Ch.oo rfl rfl rfl (ok_build (rows := [(0, [_]), (1, [_])]) rfl bl223 zo223 ⟨⟨rfl, (VL.le (vl rfl) (one_cellsP _))⟩, ⟨⟨rfl, (VL.le (vl rfl) (one_cellsP _))⟩, trivial⟩⟩ rfl) ?_
 refine Ch.oo rfl rfl rfl (ok_build (rows := [(0, [_]), (1, [_])]) rfl bl223 zo223 ⟨⟨rfl, (VL.le (vl rfl) (one_cellsP _))⟩, ⟨⟨rfl, (VL.le (vl rfl) (one_cellsP _))⟩, trivial⟩⟩ rfl) ?_
 refine Ch.oo rfl rfl rfl (ok_build (rows := [(0, [_]), (1, [_])]) rfl bl223 zo223 ⟨⟨rfl, (VL.le (vl rfl) (one_cellsP _))⟩, ⟨⟨rfl, (VL.le (vl rfl) (one_cellsP _))⟩, trivial⟩⟩ rfl) ?_
 refine Ch.oo rfl rfl rfl (ok_build (rows := [(0, [_]), (1, [_])]) rfl bl223 zo223 ⟨⟨rfl, (VL.le (vl rfl) (one_cellsP _))⟩, ⟨⟨rfl, (VL.le (vl rfl) (one_cellsP _))⟩, trivial⟩⟩ rfl) ?_
 refine Ch.oo rfl rfl rfl (ok_build (rows := [(0, [_]), (1, [_])]) rfl bl223 zo223 ⟨⟨rfl, (VL.le (vl rfl) (one_cellsP _))⟩, ⟨⟨rfl, (VL.le (vl rfl) (one_cellsP _))⟩, trivial⟩⟩ rfl) ?_
 refine Ch.oo rfl rfl rfl (ok_build (rows := [(0, [_]), (1, [_])]) rfl bl223 zo223 ⟨⟨rfl, (VL.le (vl rfl) (one_cellsP _))⟩, ⟨⟨rfl, (VL.le (vl rfl) (one_cellsP _))⟩, trivial⟩⟩ rfl) ?_
 refine Ch.oo rfl rfl rfl (ok_build (rows := [(0, [_]), (1, [_])]) rfl bl223 zo223 ⟨⟨rfl, (VL.le (vl rfl) (one_cellsP _))⟩, ⟨⟨rfl, (VL.le (vl rfl) (one_cellsP _))⟩, trivial⟩⟩ rfl) ?_
 refine Ch.oo rfl rfl rfl (ok_buildSlice (xs := [.tmp 1, .tmp 2, .tmp 3, .tmp 4, .tmp 5, .tmp 6, .tmp 7, .tmp 8, .tmp 9, .tmp 10, .tmp 11, .tmp 12, .tmp 13, .tmp 14, .tmp 15, .tmp 16, .tmp 17, .tmp 18, .tmp 19, .tmp 20, .tmp 21, .tmp 22, .tmp 23]) (rows := [_, _, _, _, _, _, _, _, _, _, _, _, _, _, _, _, _, _, _, _, _, _, _]) rfl rfl Tryz.underlying224 sz223 z223 rfl (by decide) ⟨⟨(by exact rfl), (VL.le (vl rfl) (agg_cellsP _))⟩, ⟨⟨(by exact rfl), (VL.le (vl rfl) (agg_cellsP _))⟩, ⟨⟨(by exact rfl), (VL.le (vl rfl) (agg_cellsP _))⟩, ⟨⟨(by exact rfl), (VL.le (vl rfl) (agg_cellsP _))⟩, ⟨⟨(by exact rfl), (VL.le (vl rfl) (agg_cellsP _))⟩, ⟨⟨(by exact rfl), (VL.le (vl rfl) (agg_cellsP _))⟩, ⟨⟨(by exact rfl), (VL.le (vl rfl) (agg_cellsP _))⟩, ⟨⟨(by exact rfl), (VL.le (vl rfl) (agg_cellsP _))⟩, ⟨⟨(by exact rfl), (VL.le (vl rfl) (agg_cellsP _))⟩, ⟨⟨(by exact rfl), (VL.le (vl rfl) (agg_cellsP _))⟩, ⟨⟨(by exact rfl), (VL.le (vl rfl) (agg_cellsP _))⟩, ⟨⟨(by exact rfl), (VL.le (vl rfl) (agg_cellsP _))⟩, ⟨⟨(by exact rfl), (VL.le (vl rfl) (agg_cellsP _))⟩, ⟨⟨(by exact rfl), (VL.le (vl rfl) (agg_cellsP _))⟩, ⟨⟨(by exact rfl), (VL.le (vl rfl) (agg_cellsP _))⟩, ⟨⟨(by exact rfl), (VL.le (vl rfl) (agg_cellsP _))⟩, ⟨⟨(by exact rfl), (VL.le (vl rfl) (agg_cellsP _))⟩, ⟨⟨(by exact rfl), (VL.le (vl rfl) (agg_cellsP _))⟩, ⟨⟨(by exact rfl), (VL.le (vl rfl) (agg_cellsP _))⟩, ⟨⟨(by exact rfl), (VL.le (vl rfl) (agg_cellsP _))⟩, ⟨⟨(by exact rfl), (VL.le (vl rfl) (agg_cellsP _))⟩, ⟨⟨(by exact rfl), (VL.le (vl rfl) (agg_cellsP _))⟩, ⟨⟨(by exact rfl), (VL.le (vl rfl) (agg_cellsP _))⟩, trivial⟩⟩⟩⟩⟩⟩⟩⟩⟩⟩⟩⟩⟩⟩⟩⟩⟩⟩⟩⟩⟩⟩⟩ (by decide)) ?_
 refine Ch.as rfl rfl rfl rfl rfl ?_
 refine Ch.nil (Fin.go ?_)
 refine Tr.w1 0 rfl ?_
 refine Tr.ret ?_
 refine Fin.ret1 rfl (OutW.bse _ _) rfl ?_
 · exact full_le _ _
set_option maxRecDepth 20000 in
theorem w_RKind {alg : Int}  : Fun Tryz.prog 189 [int alg] (int (catOf alg).kind) := by
 refine Fun.of Tryz.func189 rfl rfl (by exact Nat.le_of_ble_eq_true rfl) fun M0 w0 => ?_
 refine Tr.seq (Tr.reg0 ?_)
 refine Ch.as rfl rfl rfl rfl rfl ?_
 refine Ch.nil (Fin.go (Tr.seq (Tr.seq (Tr.reg0 ?_))))
 refine Ch.mv rfl rfl rfl rfl rfl ?_
 refine Ch.oo rfl rfl rfl (ok_int rfl (vl rfl) (vl rfl) rfl) ?_
 refine Ch.mv rfl rfl rfl rfl rfl ?_
 refine Ch.cs 5 rfl (fun h1 q1 => ?_) (fun h1 q1 => ?_)
 ·
  refine Ch.nf h1 rfl rfl rfl rfl rfl ?_
  refine Ch.nf h1 rfl rfl rfl rfl rfl ?_
  refine Ch.oo rfl rfl rfl (ok_pick_t rfl (vl rfl) h1 (vl rfl)) ?_
  refine Ch.nil (Fin.go ?_)
  refine Tr.cond rfl (fun _ => ?_) (fun h => nomatch h)
  refine Tr.seq (Tr.reg0 ?_)
  refine Ch.as rfl rfl rfl rfl rfl ?_
  refine Ch.nil (Fin.go (Tr.ret ?_))
  refine Fin.then_ret ?_
  refine Fin.ret1 rfl (OutW.bse _ _) rfl ?_
  · refine int_eq ?_; unfold catOf; rw [if_neg (by omega)]; rfl
 ·
  refine Ch.ym h1 rfl rfl rfl rfl rfl rfl rfl ?_
  refine Ch.y h1 rfl rfl rfl rfl rfl (ok_int rfl (vl rfl) (vl rfl) rfl) ?_
  refine Ch.oo rfl rfl rfl (ok_pick_f rfl (vl rfl) h1 (vl rfl)) ?_
  refine Ch.nil (Fin.go ?_)
  refine Tr.cn rfl (fun h2 q2 => ?_) (fun h2 q2 => ?_)
  ·
   refine Tr.seq (Tr.reg0 ?_)
   refine Ch.as rfl rfl rfl rfl rfl ?_
   refine Ch.nil (Fin.go (Tr.ret ?_))
   refine Fin.then_ret ?_
   refine Fin.ret1 rfl (OutW.bse _ _) rfl ?_
   · refine int_eq ?_; unfold catOf; rw [if_neg (by omega)]; rfl
  ·
   have hin : 1 ≤ alg ∧ alg ≤ 22 := by omega
   refine Tr.skip (Fin.go (Tr.seq (Tr.reg0 ?_)))
   refine Ch.oo rfl rfl rfl (ok_call rfl (w_Rrows) trivial) ?_
   refine Ch.mv rfl rfl rfl rfl rfl ?_
   refine Ch.oo rfl rfl rfl (ok_indexAddr rfl Tryz.underlying224 sz223 (vl rfl) (vl rfl) (by omega) (row_atI (f := fun r : List UInt8 × Int => [str r.1, int r.2]) (rtab_at hin))) ?_
   refine Ch.oo rfl rfl rfl (ok_fieldAddr rfl fo223_1 (vl rfl) rfl) ?_
   refine Ch.oo rfl rfl rfl (ok_load1 rfl one3 (vl rfl)) ?_
   refine Ch.as rfl rfl rfl rfl rfl ?_
   refine Ch.nil (Fin.go (Tr.ret ?_))
   refine Fin.ret1 rfl (OutW.bse _ _) rfl ?_
   · first | exact Pr.le_refl _ | (refine int_eq ?_; simp_all; done) | (refine bool_eq ?_; simp_all; done) | (refine bool_eq ?_; simp_all; omega) | (refine int_eq ?_; omega)
set_option maxRecDepth 20000 in
theorem w_Signature {alg bits : Int}  : Fun Tryz.prog 128 [agg [int alg, int bits]] (bool (decide (strength alg bits > 0) && (catOf alg).kind == 2)) := by
 refine Fun.of Tryz.func128 rfl rfl (by exact Nat.le_of_ble_eq_true rfl) fun M0 w0 => ?_
 refine Tr.seq (Tr.reg0 ?_)
 refine Ch.oo rfl rfl rfl (ok_box rfl (VL.le (vl rfl) (agg_cellsP _))) ?_
 refine Ch.as rfl rfl rfl rfl rfl ?_
 refine Ch.nil (Fin.go (Tr.seq (Tr.reg0 ?_)))
 refine Ch.oo rfl rfl rfl (ok_loadA rfl agg24 sz24 (vl rfl) rfl rfl) ?_
 refine Ch.oo rfl rfl rfl (ok_call rfl (w_RValid) ⟨ke rfl, trivial⟩) ?_
 refine Ch.mv rfl rfl rfl rfl rfl ?_
 refine Ch.cs 5 rfl (fun h1 q1 => ?_) (fun h1 q1 => ?_)
 ·
  refine Ch.y h1 rfl rfl rfl rfl rfl (ok_fieldAddr rfl fo24_0 (vl rfl) rfl) ?_
  refine Ch.y h1 rfl rfl rfl rfl rfl (ok_load1 rfl one3 (vl rfl)) ?_
  refine Ch.y h1 rfl rfl rfl rfl rfl (ok_call rfl (w_RKind) ⟨ke rfl, trivial⟩) ?_
  refine Ch.y h1 rfl rfl rfl rfl rfl (ok_int rfl (vl rfl) (vl rfl) rfl) ?_
  refine Ch.oo rfl rfl rfl (ok_pick_t rfl (vl rfl) h1 (vl rfl)) ?_
  refine Ch.as rfl rfl rfl rfl rfl ?_
  refine Ch.nil (Fin.go (Tr.ret ?_))
  refine Fin.ret1 rfl (OutW.bse _ _) rfl ?_
  · first | exact Pr.le_refl _ | (refine int_eq ?_; simp_all; done) | (refine bool_eq ?_; simp_all; done) | (refine bool_eq ?_; simp_all; omega) | (refine int_eq ?_; omega)
 ·
  iterate 4 refine Ch.nt h1 rfl rfl rfl rfl rfl ?_
  refine Ch.oo rfl rfl rfl (ok_pick_f rfl (vl rfl) h1 (vl rfl)) ?_
  refine Ch.as rfl rfl rfl rfl rfl ?_
  refine Ch.nil (Fin.go (Tr.ret ?_))
  refine Fin.ret1 rfl (OutW.bse _ _) rfl ?_
  · first | exact Pr.le_refl _ | (refine int_eq ?_; simp_all; done) | (refine bool_eq ?_; simp_all; done) | (refine bool_eq ?_; simp_all; omega) | (refine int_eq ?_; omega)
end Go.Proofs.YtgdlhajfajddiaaGreat
namespace Go.Proofs.YtgdlhajfajddiaaGreat
open Go Go.RowKit Cp

/-- A finding. -/
structure Fnd where
  src : Int
  host : List UInt8
  machine : Int
  day : Int
  conf : Int
  kind : Int
  subj : List UInt8
  alg : Int
  bits : Int
  num : Int
  text : List UInt8
abbrev rowF (f : Fnd) : List Pr := [int f.src, str f.host, int f.machine, int f.day, int f.conf, int f.kind, str f.subj, int f.alg, int f.bits, int f.num, str f.text]
abbrev fnds (l : List Fnd) : Pr := slice 11 (l.map rowF)
/-- Its texts are of some length. -/
structure Fnd.fits (f : Fnd) : Prop where
  host : f.host.length ≤ maxLen
  subj : f.subj.length ≤ maxLen
  text : f.text.length ≤ maxLen
def bareF (f : Fnd) : Bool := decide (f.alg = 0 ∧ f.bits = 0) && decide (f.text = [])
def contentF (f : Fnd) : Bool :=
  if f.kind = 1 ∨ f.kind = 8 then decide (strength f.alg f.bits > 0) && decide (f.num = 0) && decide (f.text = [])
  else if f.kind = 2 then bareF f && decide (0 ≤ f.num) && decide (f.num ≤ 65535)
  else if f.kind = 3 then decide (strength f.alg f.bits > 0) && (catOf f.alg).kind == 2 && decide (0 ≤ f.num) && decide (f.num ≤ 2147483648) && decide (f.text = [])
  else if f.kind = 4 ∨ f.kind = 5 then bareF f && decide (1 ≤ f.num) && decide (f.num ≤ 4)
  else if f.kind = 6 then bareF f && decide (0 ≤ f.num) && decide (f.num ≤ 2147483648)
  else if f.kind = 7 then decide (f.alg = 0 ∧ f.bits = 0) && decide (f.num = 0) && named f.text
  else false
def whereF (f : Fnd) : Bool := named f.host && named f.subj && decide (0 ≤ f.machine) && decide (f.machine ≤ 1099511627776)
def whenF (f : Fnd) : Bool := decide (0 ≤ f.day) && decide (f.day ≤ 40000) && decide (1 ≤ f.conf) && decide (f.conf ≤ 100)
def checkF (f : Fnd) : Bool := whereF f && whenF f && decide (1 ≤ f.src) && decide (f.src ≤ 7) && contentF f

set_option maxRecDepth 20000 in
theorem w_content {f : Fnd} (hf : f.fits) : Fun Tryz.prog 125 [agg (rowF f)] (bool (contentF f)) := by
 refine Fun.of Tryz.func125 rfl rfl (by exact Nat.le_of_ble_eq_true rfl) fun M0 w0 => ?_
 refine Tr.seq (Tr.reg0 ?_)
 refine Ch.oo rfl rfl rfl (ok_box rfl (VL.le (vl rfl) (agg_cellsP _))) ?_
 refine Ch.as rfl rfl rfl rfl rfl ?_
 refine Ch.nil (Fin.go ?_)
 refine Tr.w1 1 rfl ?_
 refine Tr.cutk [1] [(3, bool (bareF f))] (True) ?_ (fun h1 => ?_)
 ·
  refine Tr.reg0 ?_
  refine Ch.oo rfl rfl rfl (ok_fieldAddr rfl fo26_7 (vl rfl) rfl) ?_
  refine Ch.oo rfl rfl rfl (ok_loadA rfl agg24 sz24 (vl rfl) rfl rfl) ?_
  refine Ch.oo rfl rfl rfl (ok_build (rows := []) rfl bl24 zo24 trivial rfl) ?_
  refine Ch.oo rfl rfl rfl (ok_eq24 rfl (vl rfl) (vl rfl)) ?_
  refine Ch.mv rfl rfl rfl rfl rfl ?_
  refine Ch.cs 8 rfl (fun h2 q2 => ?_) (fun h2 q2 => ?_)
  ·
   refine Ch.y h2 rfl rfl rfl rfl rfl (ok_fieldAddr rfl fo26_9 (vl rfl) rfl) ?_
   refine Ch.y h2 rfl rfl rfl rfl rfl (ok_load1 rfl one9 (vl rfl)) ?_
   refine Ch.y h2 rfl rfl rfl rfl rfl (ok_eqs rfl (vl rfl) (vl rfl)) ?_
   refine Ch.oo rfl rfl rfl (ok_pick_t rfl (vl rfl) h2 (vl rfl)) ?_
   refine Ch.as rfl rfl rfl rfl rfl ?_
   refine Ch.nil ?_
   exact Fin.fam_same () (by simp_all) ⟨⟨_, rfl, bool_eq (by first | (simp_all [bareF]; done) | (simp_all [bareF]; omega))⟩, ke rfl, trivial⟩
  ·
   iterate 3 refine Ch.nt h2 rfl rfl rfl rfl rfl ?_
   refine Ch.oo rfl rfl rfl (ok_pick_f rfl (vl rfl) h2 (vl rfl)) ?_
   refine Ch.as rfl rfl rfl rfl rfl ?_
   refine Ch.nil ?_
   exact Fin.fam_same () (by simp_all) ⟨⟨_, rfl, bool_eq (by first | (simp_all [bareF]; done) | (simp_all [bareF]; omega))⟩, ke rfl, trivial⟩
 ·
  refine Tr.seq (Tr.seq (Tr.reg0 ?_))
  refine Ch.oo rfl rfl rfl (ok_fieldAddr rfl fo26_5 (vl rfl) rfl) ?_
  refine Ch.oo rfl rfl rfl (ok_load1 rfl one3 (vl rfl)) ?_
  refine Ch.nil (Fin.go (Tr.block (Tr.seq (Tr.seq (Tr.reg0 ?_)))))
  refine Ch.oo rfl rfl rfl (ok_int rfl (vl rfl) (vl rfl) rfl) ?_
  refine Ch.as rfl rfl rfl rfl rfl ?_
  refine Ch.nil (Fin.go ?_)
  refine Tr.cn rfl (fun h3 q3 => ?_) (fun h3 q3 => ?_)
  ·
   refine Tr.skip (Fin.go ?_)
   refine Tr.cond rfl (fun _ => ?_) (fun h => nomatch h3.symm.trans h)
   refine Tr.seq (Tr.reg0 ?_)
   refine Ch.oo rfl rfl rfl (ok_fieldAddr rfl fo26_7 (vl rfl) rfl) ?_
   refine Ch.oo rfl rfl rfl (ok_loadA rfl agg24 sz24 (vl rfl) rfl rfl) ?_
   refine Ch.oo rfl rfl rfl (ok_call rfl (w_Valid) ⟨ke rfl, trivial⟩) ?_
   refine Ch.mv rfl rfl rfl rfl rfl ?_
   refine Ch.cs 21 rfl (fun h4 q4 => ?_) (fun h4 q4 => ?_)
   ·
    refine Ch.y h4 rfl rfl rfl rfl rfl (ok_fieldAddr rfl fo26_8 (vl rfl) rfl) ?_
    refine Ch.y h4 rfl rfl rfl rfl rfl (ok_load1 rfl one3 (vl rfl)) ?_
    refine Ch.y h4 rfl rfl rfl rfl rfl (ok_int rfl (vl rfl) (vl rfl) rfl) ?_
    refine Ch.oo rfl rfl rfl (ok_pick_t rfl (vl rfl) h4 (vl rfl)) ?_
    refine Ch.mv rfl rfl rfl rfl rfl ?_
    refine Ch.cs 26 rfl (fun h5 q5 => ?_) (fun h5 q5 => ?_)
    ·
     refine Ch.y h5 rfl rfl rfl rfl rfl (ok_fieldAddr rfl fo26_9 (vl rfl) rfl) ?_
     refine Ch.y h5 rfl rfl rfl rfl rfl (ok_load1 rfl one9 (vl rfl)) ?_
     refine Ch.y h5 rfl rfl rfl rfl rfl (ok_eqs rfl (vl rfl) (vl rfl)) ?_
     refine Ch.oo rfl rfl rfl (ok_pick_t rfl (vl rfl) h5 (vl rfl)) ?_
     refine Ch.as rfl rfl rfl rfl rfl ?_
     refine Ch.nil (Fin.go ?_)
     refine Tr.w1 2 rfl ?_
     refine Tr.ret ?_
     refine Fin.block_ret ?_
     refine Fin.then_ret ?_
     refine Fin.ret1 rfl (OutW.bse _ _) rfl ?_
     · refine bool_eq ?_; unfold contentF; first | (simp_all; done) | (simp_all; omega)
    ·
     iterate 3 refine Ch.nt h5 rfl rfl rfl rfl rfl ?_
     refine Ch.oo rfl rfl rfl (ok_pick_f rfl (vl rfl) h5 (vl rfl)) ?_
     refine Ch.as rfl rfl rfl rfl rfl ?_
     refine Ch.nil (Fin.go ?_)
     refine Tr.w1 2 rfl ?_
     refine Tr.ret ?_
     refine Fin.block_ret ?_
     refine Fin.then_ret ?_
     refine Fin.ret1 rfl (OutW.bse _ _) rfl ?_
     · refine bool_eq ?_; unfold contentF; first | (simp_all; done) | (simp_all; omega)
   ·
    iterate 3 refine Ch.nt h4 rfl rfl rfl rfl rfl ?_
    refine Ch.oo rfl rfl rfl (ok_pick_f rfl (vl rfl) h4 (vl rfl)) ?_
    refine Ch.mv rfl rfl rfl rfl rfl ?_
    iterate 3 refine Ch.nd rfl rfl rfl rfl rfl rfl ?_
    refine Ch.oo rfl rfl rfl (ok_pick_f rfl (vl rfl) rfl (vl rfl)) ?_
    refine Ch.as rfl rfl rfl rfl rfl ?_
    refine Ch.nil (Fin.go ?_)
    refine Tr.w1 2 rfl ?_
    refine Tr.ret ?_
    refine Fin.block_ret ?_
    refine Fin.then_ret ?_
    refine Fin.ret1 rfl (OutW.bse _ _) rfl ?_
    · refine bool_eq ?_; unfold contentF; first | (simp_all; done) | (simp_all; omega)
  ·
   refine Tr.reg0 ?_
   refine Ch.oo rfl rfl rfl (ok_int rfl (vl rfl) (vl rfl) rfl) ?_
   refine Ch.as rfl rfl rfl rfl rfl ?_
   refine Ch.nil (Fin.go ?_)
   refine Tr.cn rfl (fun h6 q6 => ?_) (fun h6 q6 => ?_)
   ·
    refine Tr.seq (Tr.reg0 ?_)
    refine Ch.oo rfl rfl rfl (ok_fieldAddr rfl fo26_7 (vl rfl) rfl) ?_
    refine Ch.oo rfl rfl rfl (ok_loadA rfl agg24 sz24 (vl rfl) rfl rfl) ?_
    refine Ch.oo rfl rfl rfl (ok_call rfl (w_Valid) ⟨ke rfl, trivial⟩) ?_
    refine Ch.mv rfl rfl rfl rfl rfl ?_
    refine Ch.cs 21 rfl (fun h7 q7 => ?_) (fun h7 q7 => ?_)
    ·
     refine Ch.y h7 rfl rfl rfl rfl rfl (ok_fieldAddr rfl fo26_8 (vl rfl) rfl) ?_
     refine Ch.y h7 rfl rfl rfl rfl rfl (ok_load1 rfl one3 (vl rfl)) ?_
     refine Ch.y h7 rfl rfl rfl rfl rfl (ok_int rfl (vl rfl) (vl rfl) rfl) ?_
     refine Ch.oo rfl rfl rfl (ok_pick_t rfl (vl rfl) h7 (vl rfl)) ?_
     refine Ch.mv rfl rfl rfl rfl rfl ?_
     refine Ch.cs 26 rfl (fun h8 q8 => ?_) (fun h8 q8 => ?_)
     ·
      refine Ch.y h8 rfl rfl rfl rfl rfl (ok_fieldAddr rfl fo26_9 (vl rfl) rfl) ?_
      refine Ch.y h8 rfl rfl rfl rfl rfl (ok_load1 rfl one9 (vl rfl)) ?_
      refine Ch.y h8 rfl rfl rfl rfl rfl (ok_eqs rfl (vl rfl) (vl rfl)) ?_
      refine Ch.oo rfl rfl rfl (ok_pick_t rfl (vl rfl) h8 (vl rfl)) ?_
      refine Ch.as rfl rfl rfl rfl rfl ?_
      refine Ch.nil (Fin.go ?_)
      refine Tr.w1 2 rfl ?_
      refine Tr.ret ?_
      refine Fin.block_ret ?_
      refine Fin.then_ret ?_
      refine Fin.ret1 rfl (OutW.bse _ _) rfl ?_
      · refine bool_eq ?_; unfold contentF; first | (simp_all; done) | (simp_all; omega)
     ·
      iterate 3 refine Ch.nt h8 rfl rfl rfl rfl rfl ?_
      refine Ch.oo rfl rfl rfl (ok_pick_f rfl (vl rfl) h8 (vl rfl)) ?_
      refine Ch.as rfl rfl rfl rfl rfl ?_
      refine Ch.nil (Fin.go ?_)
      refine Tr.w1 2 rfl ?_
      refine Tr.ret ?_
      refine Fin.block_ret ?_
      refine Fin.then_ret ?_
      refine Fin.ret1 rfl (OutW.bse _ _) rfl ?_
      · refine bool_eq ?_; unfold contentF; first | (simp_all; done) | (simp_all; omega)
    ·
     iterate 3 refine Ch.nt h7 rfl rfl rfl rfl rfl ?_
     refine Ch.oo rfl rfl rfl (ok_pick_f rfl (vl rfl) h7 (vl rfl)) ?_
     refine Ch.mv rfl rfl rfl rfl rfl ?_
     iterate 3 refine Ch.nd rfl rfl rfl rfl rfl rfl ?_
     refine Ch.oo rfl rfl rfl (ok_pick_f rfl (vl rfl) rfl (vl rfl)) ?_
     refine Ch.as rfl rfl rfl rfl rfl ?_
     refine Ch.nil (Fin.go ?_)
     refine Tr.w1 2 rfl ?_
     refine Tr.ret ?_
     refine Fin.block_ret ?_
     refine Fin.then_ret ?_
     refine Fin.ret1 rfl (OutW.bse _ _) rfl ?_
     · refine bool_eq ?_; unfold contentF; first | (simp_all; done) | (simp_all; omega)
   ·
    refine Tr.seq (Tr.reg0 ?_)
    refine Ch.oo rfl rfl rfl (ok_int rfl (vl rfl) (vl rfl) rfl) ?_
    refine Ch.as rfl rfl rfl rfl rfl ?_
    refine Ch.nil (Fin.go ?_)
    refine Tr.cn rfl (fun h9 q9 => ?_) (fun h9 q9 => ?_)
    ·
     refine Tr.seq (Tr.reg0 ?_)
     refine Ch.mv rfl rfl rfl rfl rfl ?_
     refine Ch.mv rfl rfl rfl rfl rfl ?_
     refine Ch.cs 34 rfl (fun h10 q10 => ?_) (fun h10 q10 => ?_)
     ·
      refine Ch.y h10 rfl rfl rfl rfl rfl (ok_fieldAddr rfl fo26_8 (vl rfl) rfl) ?_
      refine Ch.y h10 rfl rfl rfl rfl rfl (ok_load1 rfl one3 (vl rfl)) ?_
      refine Ch.y h10 rfl rfl rfl rfl rfl (ok_int rfl (vl rfl) (vl rfl) rfl) ?_
      refine Ch.oo rfl rfl rfl (ok_pick_t rfl (vl rfl) h10 (vl rfl)) ?_
      refine Ch.mv rfl rfl rfl rfl rfl ?_
      refine Ch.cs 39 rfl (fun h11 q11 => ?_) (fun h11 q11 => ?_)
      ·
       refine Ch.y h11 rfl rfl rfl rfl rfl (ok_fieldAddr rfl fo26_8 (vl rfl) rfl) ?_
       refine Ch.y h11 rfl rfl rfl rfl rfl (ok_load1 rfl one3 (vl rfl)) ?_
       refine Ch.y h11 rfl rfl rfl rfl rfl (ok_int rfl (vl rfl) (vl rfl) rfl) ?_
       refine Ch.oo rfl rfl rfl (ok_pick_t rfl (vl rfl) h11 (vl rfl)) ?_
       refine Ch.as rfl rfl rfl rfl rfl ?_
       refine Ch.nil (Fin.go ?_)
       refine Tr.w1 2 rfl ?_
       refine Tr.ret ?_
       refine Fin.block_ret ?_
       refine Fin.then_ret ?_
       refine Fin.ret1 rfl (OutW.bse _ _) rfl ?_
       · refine bool_eq ?_; unfold contentF; first | (simp_all; done) | (simp_all; omega)
      ·
       iterate 3 refine Ch.nt h11 rfl rfl rfl rfl rfl ?_
       refine Ch.oo rfl rfl rfl (ok_pick_f rfl (vl rfl) h11 (vl rfl)) ?_
       refine Ch.as rfl rfl rfl rfl rfl ?_
       refine Ch.nil (Fin.go ?_)
       refine Tr.w1 2 rfl ?_
       refine Tr.ret ?_
       refine Fin.block_ret ?_
       refine Fin.then_ret ?_
       refine Fin.ret1 rfl (OutW.bse _ _) rfl ?_
       · refine bool_eq ?_; unfold contentF; first | (simp_all; done) | (simp_all; omega)
     ·
      iterate 3 refine Ch.nt h10 rfl rfl rfl rfl rfl ?_
      refine Ch.oo rfl rfl rfl (ok_pick_f rfl (vl rfl) h10 (vl rfl)) ?_
      refine Ch.mv rfl rfl rfl rfl rfl ?_
      iterate 3 refine Ch.nd rfl rfl rfl rfl rfl rfl ?_
      refine Ch.oo rfl rfl rfl (ok_pick_f rfl (vl rfl) rfl (vl rfl)) ?_
      refine Ch.as rfl rfl rfl rfl rfl ?_
      refine Ch.nil (Fin.go ?_)
      refine Tr.w1 2 rfl ?_
      refine Tr.ret ?_
      refine Fin.block_ret ?_
      refine Fin.then_ret ?_
      refine Fin.ret1 rfl (OutW.bse _ _) rfl ?_
      · refine bool_eq ?_; unfold contentF; first | (simp_all; done) | (simp_all; omega)
    ·
     refine Tr.seq (Tr.reg0 ?_)
     refine Ch.oo rfl rfl rfl (ok_int rfl (vl rfl) (vl rfl) rfl) ?_
     refine Ch.as rfl rfl rfl rfl rfl ?_
     refine Ch.nil (Fin.go ?_)
     refine Tr.cn rfl (fun h12 q12 => ?_) (fun h12 q12 => ?_)
     ·
      refine Tr.seq (Tr.reg0 ?_)
      refine Ch.oo rfl rfl rfl (ok_fieldAddr rfl fo26_7 (vl rfl) rfl) ?_
      refine Ch.oo rfl rfl rfl (ok_loadA rfl agg24 sz24 (vl rfl) rfl rfl) ?_
      refine Ch.oo rfl rfl rfl (ok_call rfl (w_Valid) ⟨ke rfl, trivial⟩) ?_
      refine Ch.mv rfl rfl rfl rfl rfl ?_
      refine Ch.cs 49 rfl (fun h13 q13 => ?_) (fun h13 q13 => ?_)
      ·
       refine Ch.y h13 rfl rfl rfl rfl rfl (ok_fieldAddr rfl fo26_7 (vl rfl) rfl) ?_
       refine Ch.y h13 rfl rfl rfl rfl rfl (ok_fieldAddr rfl fo24_0 (vl rfl) rfl) ?_
       refine Ch.y h13 rfl rfl rfl rfl rfl (ok_load1 rfl one3 (vl rfl)) ?_
       refine Ch.y h13 rfl rfl rfl rfl rfl (ok_call rfl (w_Kind) ⟨ke rfl, trivial⟩) ?_
       refine Ch.y h13 rfl rfl rfl rfl rfl (ok_int rfl (vl rfl) (vl rfl) rfl) ?_
       refine Ch.oo rfl rfl rfl (ok_pick_t rfl (vl rfl) h13 (vl rfl)) ?_
       refine Ch.mv rfl rfl rfl rfl rfl ?_
       refine Ch.cs 56 rfl (fun h14 q14 => ?_) (fun h14 q14 => ?_)
       ·
        refine Ch.y h14 rfl rfl rfl rfl rfl (ok_fieldAddr rfl fo26_8 (vl rfl) rfl) ?_
        refine Ch.y h14 rfl rfl rfl rfl rfl (ok_load1 rfl one3 (vl rfl)) ?_
        refine Ch.y h14 rfl rfl rfl rfl rfl (ok_int rfl (vl rfl) (vl rfl) rfl) ?_
        refine Ch.oo rfl rfl rfl (ok_pick_t rfl (vl rfl) h14 (vl rfl)) ?_
        refine Ch.mv rfl rfl rfl rfl rfl ?_
        refine Ch.cs 61 rfl (fun h15 q15 => ?_) (fun h15 q15 => ?_)
        ·
         refine Ch.y h15 rfl rfl rfl rfl rfl (ok_fieldAddr rfl fo26_8 (vl rfl) rfl) ?_
         refine Ch.y h15 rfl rfl rfl rfl rfl (ok_load1 rfl one3 (vl rfl)) ?_
         refine Ch.y h15 rfl rfl rfl rfl rfl (ok_int rfl (vl rfl) (vl rfl) rfl) ?_
         refine Ch.oo rfl rfl rfl (ok_pick_t rfl (vl rfl) h15 (vl rfl)) ?_
         refine Ch.mv rfl rfl rfl rfl rfl ?_
         refine Ch.cs 66 rfl (fun h16 q16 => ?_) (fun h16 q16 => ?_)
         ·
          refine Ch.y h16 rfl rfl rfl rfl rfl (ok_fieldAddr rfl fo26_9 (vl rfl) rfl) ?_
          refine Ch.y h16 rfl rfl rfl rfl rfl (ok_load1 rfl one9 (vl rfl)) ?_
          refine Ch.y h16 rfl rfl rfl rfl rfl (ok_eqs rfl (vl rfl) (vl rfl)) ?_
          refine Ch.oo rfl rfl rfl (ok_pick_t rfl (vl rfl) h16 (vl rfl)) ?_
          refine Ch.as rfl rfl rfl rfl rfl ?_
          refine Ch.nil (Fin.go ?_)
          refine Tr.w1 2 rfl ?_
          refine Tr.ret ?_
          refine Fin.block_ret ?_
          refine Fin.then_ret ?_
          refine Fin.ret1 rfl (OutW.bse _ _) rfl ?_
          · refine bool_eq ?_; unfold contentF; first | (simp_all; done) | (simp_all; omega)
         ·
          iterate 3 refine Ch.nt h16 rfl rfl rfl rfl rfl ?_
          refine Ch.oo rfl rfl rfl (ok_pick_f rfl (vl rfl) h16 (vl rfl)) ?_
          refine Ch.as rfl rfl rfl rfl rfl ?_
          refine Ch.nil (Fin.go ?_)
          refine Tr.w1 2 rfl ?_
          refine Tr.ret ?_
          refine Fin.block_ret ?_
          refine Fin.then_ret ?_
          refine Fin.ret1 rfl (OutW.bse _ _) rfl ?_
          · refine bool_eq ?_; unfold contentF; first | (simp_all; done) | (simp_all; omega)
        ·
         iterate 3 refine Ch.nt h15 rfl rfl rfl rfl rfl ?_
         refine Ch.oo rfl rfl rfl (ok_pick_f rfl (vl rfl) h15 (vl rfl)) ?_
         refine Ch.mv rfl rfl rfl rfl rfl ?_
         iterate 3 refine Ch.nd rfl rfl rfl rfl rfl rfl ?_
         refine Ch.oo rfl rfl rfl (ok_pick_f rfl (vl rfl) rfl (vl rfl)) ?_
         refine Ch.as rfl rfl rfl rfl rfl ?_
         refine Ch.nil (Fin.go ?_)
         refine Tr.w1 2 rfl ?_
         refine Tr.ret ?_
         refine Fin.block_ret ?_
         refine Fin.then_ret ?_
         refine Fin.ret1 rfl (OutW.bse _ _) rfl ?_
         · refine bool_eq ?_; unfold contentF; first | (simp_all; done) | (simp_all; omega)
       ·
        iterate 3 refine Ch.nt h14 rfl rfl rfl rfl rfl ?_
        refine Ch.oo rfl rfl rfl (ok_pick_f rfl (vl rfl) h14 (vl rfl)) ?_
        refine Ch.mv rfl rfl rfl rfl rfl ?_
        iterate 3 refine Ch.nd rfl rfl rfl rfl rfl rfl ?_
        refine Ch.oo rfl rfl rfl (ok_pick_f rfl (vl rfl) rfl (vl rfl)) ?_
        refine Ch.mv rfl rfl rfl rfl rfl ?_
        iterate 3 refine Ch.nd rfl rfl rfl rfl rfl rfl ?_
        refine Ch.oo rfl rfl rfl (ok_pick_f rfl (vl rfl) rfl (vl rfl)) ?_
        refine Ch.as rfl rfl rfl rfl rfl ?_
        refine Ch.nil (Fin.go ?_)
        refine Tr.w1 2 rfl ?_
        refine Tr.ret ?_
        refine Fin.block_ret ?_
        refine Fin.then_ret ?_
        refine Fin.ret1 rfl (OutW.bse _ _) rfl ?_
        · refine bool_eq ?_; unfold contentF; first | (simp_all; done) | (simp_all; omega)
      ·
       iterate 5 refine Ch.nt h13 rfl rfl rfl rfl rfl ?_
       refine Ch.oo rfl rfl rfl (ok_pick_f rfl (vl rfl) h13 (vl rfl)) ?_
       refine Ch.mv rfl rfl rfl rfl rfl ?_
       iterate 3 refine Ch.nd rfl rfl rfl rfl rfl rfl ?_
       refine Ch.oo rfl rfl rfl (ok_pick_f rfl (vl rfl) rfl (vl rfl)) ?_
       refine Ch.mv rfl rfl rfl rfl rfl ?_
       iterate 3 refine Ch.nd rfl rfl rfl rfl rfl rfl ?_
       refine Ch.oo rfl rfl rfl (ok_pick_f rfl (vl rfl) rfl (vl rfl)) ?_
       refine Ch.mv rfl rfl rfl rfl rfl ?_
       iterate 3 refine Ch.nd rfl rfl rfl rfl rfl rfl ?_
       refine Ch.oo rfl rfl rfl (ok_pick_f rfl (vl rfl) rfl (vl rfl)) ?_
       refine Ch.as rfl rfl rfl rfl rfl ?_
       refine Ch.nil (Fin.go ?_)
       refine Tr.w1 2 rfl ?_
       refine Tr.ret ?_
       refine Fin.block_ret ?_
       refine Fin.then_ret ?_
       refine Fin.ret1 rfl (OutW.bse _ _) rfl ?_
       · refine bool_eq ?_; unfold contentF; first | (simp_all; done) | (simp_all; omega)
     ·
      refine Tr.seq (Tr.seq (Tr.reg0 ?_))
      refine Ch.oo rfl rfl rfl (ok_int rfl (vl rfl) (vl rfl) rfl) ?_
      refine Ch.as rfl rfl rfl rfl rfl ?_
      refine Ch.nil (Fin.go ?_)
      refine Tr.w4 1 3 14 71 rfl rfl rfl rfl ?_
      refine Tr.cn rfl (fun h17 q17 => ?_) (fun h17 q17 => ?_)
      ·
       refine Tr.skip (Fin.go ?_)
       refine Tr.cond rfl (fun _ => ?_) (fun h => nomatch h17.symm.trans h)
       refine Tr.seq (Tr.reg0 ?_)
       refine Ch.mv rfl rfl rfl rfl rfl ?_
       refine Ch.mv rfl rfl rfl rfl rfl ?_
       refine Ch.cs 75 rfl (fun h18 q18 => ?_) (fun h18 q18 => ?_)
       ·
        refine Ch.y h18 rfl rfl rfl rfl rfl (ok_fieldAddr rfl fo26_8 (vl rfl) rfl) ?_
        refine Ch.y h18 rfl rfl rfl rfl rfl (ok_load1 rfl one3 (vl rfl)) ?_
        refine Ch.y h18 rfl rfl rfl rfl rfl (ok_int rfl (vl rfl) (vl rfl) rfl) ?_
        refine Ch.oo rfl rfl rfl (ok_pick_t rfl (vl rfl) h18 (vl rfl)) ?_
        refine Ch.mv rfl rfl rfl rfl rfl ?_
        refine Ch.cs 80 rfl (fun h19 q19 => ?_) (fun h19 q19 => ?_)
        ·
         refine Ch.y h19 rfl rfl rfl rfl rfl (ok_fieldAddr rfl fo26_8 (vl rfl) rfl) ?_
         refine Ch.y h19 rfl rfl rfl rfl rfl (ok_load1 rfl one3 (vl rfl)) ?_
         refine Ch.y h19 rfl rfl rfl rfl rfl (ok_int rfl (vl rfl) (vl rfl) rfl) ?_
         refine Ch.oo rfl rfl rfl (ok_pick_t rfl (vl rfl) h19 (vl rfl)) ?_
         refine Ch.as rfl rfl rfl rfl rfl ?_
         refine Ch.nil (Fin.go ?_)
         refine Tr.w1 2 rfl ?_
         refine Tr.ret ?_
         refine Fin.block_ret ?_
         refine Fin.then_ret ?_
         refine Fin.ret1 rfl (OutW.bse _ _) rfl ?_
         · refine bool_eq ?_; unfold contentF; first | (simp_all; done) | (simp_all; omega)
        ·
         iterate 3 refine Ch.nt h19 rfl rfl rfl rfl rfl ?_
         refine Ch.oo rfl rfl rfl (ok_pick_f rfl (vl rfl) h19 (vl rfl)) ?_
         refine Ch.as rfl rfl rfl rfl rfl ?_
         refine Ch.nil (Fin.go ?_)
         refine Tr.w1 2 rfl ?_
         refine Tr.ret ?_
         refine Fin.block_ret ?_
         refine Fin.then_ret ?_
         refine Fin.ret1 rfl (OutW.bse _ _) rfl ?_
         · refine bool_eq ?_; unfold contentF; first | (simp_all; done) | (simp_all; omega)
       ·
        iterate 3 refine Ch.nt h18 rfl rfl rfl rfl rfl ?_
        refine Ch.oo rfl rfl rfl (ok_pick_f rfl (vl rfl) h18 (vl rfl)) ?_
        refine Ch.mv rfl rfl rfl rfl rfl ?_
        iterate 3 refine Ch.nd rfl rfl rfl rfl rfl rfl ?_
        refine Ch.oo rfl rfl rfl (ok_pick_f rfl (vl rfl) rfl (vl rfl)) ?_
        refine Ch.as rfl rfl rfl rfl rfl ?_
        refine Ch.nil (Fin.go ?_)
        refine Tr.w1 2 rfl ?_
        refine Tr.ret ?_
        refine Fin.block_ret ?_
        refine Fin.then_ret ?_
        refine Fin.ret1 rfl (OutW.bse _ _) rfl ?_
        · refine bool_eq ?_; unfold contentF; first | (simp_all; done) | (simp_all; omega)
      ·
       refine Tr.reg0 ?_
       refine Ch.oo rfl rfl rfl (ok_int rfl (vl rfl) (vl rfl) rfl) ?_
       refine Ch.as rfl rfl rfl rfl rfl ?_
       refine Ch.nil (Fin.go ?_)
       refine Tr.cn rfl (fun h20 q20 => ?_) (fun h20 q20 => ?_)
       ·
        refine Tr.seq (Tr.reg0 ?_)
        refine Ch.mv rfl rfl rfl rfl rfl ?_
        refine Ch.mv rfl rfl rfl rfl rfl ?_
        refine Ch.cs 75 rfl (fun h21 q21 => ?_) (fun h21 q21 => ?_)
        ·
         refine Ch.y h21 rfl rfl rfl rfl rfl (ok_fieldAddr rfl fo26_8 (vl rfl) rfl) ?_
         refine Ch.y h21 rfl rfl rfl rfl rfl (ok_load1 rfl one3 (vl rfl)) ?_
         refine Ch.y h21 rfl rfl rfl rfl rfl (ok_int rfl (vl rfl) (vl rfl) rfl) ?_
         refine Ch.oo rfl rfl rfl (ok_pick_t rfl (vl rfl) h21 (vl rfl)) ?_
         refine Ch.mv rfl rfl rfl rfl rfl ?_
         refine Ch.cs 80 rfl (fun h22 q22 => ?_) (fun h22 q22 => ?_)
         ·
          refine Ch.y h22 rfl rfl rfl rfl rfl (ok_fieldAddr rfl fo26_8 (vl rfl) rfl) ?_
          refine Ch.y h22 rfl rfl rfl rfl rfl (ok_load1 rfl one3 (vl rfl)) ?_
          refine Ch.y h22 rfl rfl rfl rfl rfl (ok_int rfl (vl rfl) (vl rfl) rfl) ?_
          refine Ch.oo rfl rfl rfl (ok_pick_t rfl (vl rfl) h22 (vl rfl)) ?_
          refine Ch.as rfl rfl rfl rfl rfl ?_
          refine Ch.nil (Fin.go ?_)
          refine Tr.w1 2 rfl ?_
          refine Tr.ret ?_
          refine Fin.block_ret ?_
          refine Fin.then_ret ?_
          refine Fin.ret1 rfl (OutW.bse _ _) rfl ?_
          · refine bool_eq ?_; unfold contentF; first | (simp_all; done) | (simp_all; omega)
         ·
          iterate 3 refine Ch.nt h22 rfl rfl rfl rfl rfl ?_
          refine Ch.oo rfl rfl rfl (ok_pick_f rfl (vl rfl) h22 (vl rfl)) ?_
          refine Ch.as rfl rfl rfl rfl rfl ?_
          refine Ch.nil (Fin.go ?_)
          refine Tr.w1 2 rfl ?_
          refine Tr.ret ?_
          refine Fin.block_ret ?_
          refine Fin.then_ret ?_
          refine Fin.ret1 rfl (OutW.bse _ _) rfl ?_
          · refine bool_eq ?_; unfold contentF; first | (simp_all; done) | (simp_all; omega)
        ·
         iterate 3 refine Ch.nt h21 rfl rfl rfl rfl rfl ?_
         refine Ch.oo rfl rfl rfl (ok_pick_f rfl (vl rfl) h21 (vl rfl)) ?_
         refine Ch.mv rfl rfl rfl rfl rfl ?_
         iterate 3 refine Ch.nd rfl rfl rfl rfl rfl rfl ?_
         refine Ch.oo rfl rfl rfl (ok_pick_f rfl (vl rfl) rfl (vl rfl)) ?_
         refine Ch.as rfl rfl rfl rfl rfl ?_
         refine Ch.nil (Fin.go ?_)
         refine Tr.w1 2 rfl ?_
         refine Tr.ret ?_
         refine Fin.block_ret ?_
         refine Fin.then_ret ?_
         refine Fin.ret1 rfl (OutW.bse _ _) rfl ?_
         · refine bool_eq ?_; unfold contentF; first | (simp_all; done) | (simp_all; omega)
       ·
        refine Tr.seq (Tr.reg0 ?_)
        refine Ch.oo rfl rfl rfl (ok_int rfl (vl rfl) (vl rfl) rfl) ?_
        refine Ch.as rfl rfl rfl rfl rfl ?_
        refine Ch.nil (Fin.go ?_)
        refine Tr.cn rfl (fun h23 q23 => ?_) (fun h23 q23 => ?_)
        ·
         refine Tr.seq (Tr.reg0 ?_)
         refine Ch.mv rfl rfl rfl rfl rfl ?_
         refine Ch.mv rfl rfl rfl rfl rfl ?_
         refine Ch.cs 88 rfl (fun h24 q24 => ?_) (fun h24 q24 => ?_)
         ·
          refine Ch.y h24 rfl rfl rfl rfl rfl (ok_fieldAddr rfl fo26_8 (vl rfl) rfl) ?_
          refine Ch.y h24 rfl rfl rfl rfl rfl (ok_load1 rfl one3 (vl rfl)) ?_
          refine Ch.y h24 rfl rfl rfl rfl rfl (ok_int rfl (vl rfl) (vl rfl) rfl) ?_
          refine Ch.oo rfl rfl rfl (ok_pick_t rfl (vl rfl) h24 (vl rfl)) ?_
          refine Ch.mv rfl rfl rfl rfl rfl ?_
          refine Ch.cs 93 rfl (fun h25 q25 => ?_) (fun h25 q25 => ?_)
          ·
           refine Ch.y h25 rfl rfl rfl rfl rfl (ok_fieldAddr rfl fo26_8 (vl rfl) rfl) ?_
           refine Ch.y h25 rfl rfl rfl rfl rfl (ok_load1 rfl one3 (vl rfl)) ?_
           refine Ch.y h25 rfl rfl rfl rfl rfl (ok_int rfl (vl rfl) (vl rfl) rfl) ?_
           refine Ch.oo rfl rfl rfl (ok_pick_t rfl (vl rfl) h25 (vl rfl)) ?_
           refine Ch.as rfl rfl rfl rfl rfl ?_
           refine Ch.nil (Fin.go ?_)
           refine Tr.w1 2 rfl ?_
           refine Tr.ret ?_
           refine Fin.block_ret ?_
           refine Fin.then_ret ?_
           refine Fin.ret1 rfl (OutW.bse _ _) rfl ?_
           · refine bool_eq ?_; unfold contentF; first | (simp_all; done) | (simp_all; omega)
          ·
           iterate 3 refine Ch.nt h25 rfl rfl rfl rfl rfl ?_
           refine Ch.oo rfl rfl rfl (ok_pick_f rfl (vl rfl) h25 (vl rfl)) ?_
           refine Ch.as rfl rfl rfl rfl rfl ?_
           refine Ch.nil (Fin.go ?_)
           refine Tr.w1 2 rfl ?_
           refine Tr.ret ?_
           refine Fin.block_ret ?_
           refine Fin.then_ret ?_
           refine Fin.ret1 rfl (OutW.bse _ _) rfl ?_
           · refine bool_eq ?_; unfold contentF; first | (simp_all; done) | (simp_all; omega)
         ·
          iterate 3 refine Ch.nt h24 rfl rfl rfl rfl rfl ?_
          refine Ch.oo rfl rfl rfl (ok_pick_f rfl (vl rfl) h24 (vl rfl)) ?_
          refine Ch.mv rfl rfl rfl rfl rfl ?_
          iterate 3 refine Ch.nd rfl rfl rfl rfl rfl rfl ?_
          refine Ch.oo rfl rfl rfl (ok_pick_f rfl (vl rfl) rfl (vl rfl)) ?_
          refine Ch.as rfl rfl rfl rfl rfl ?_
          refine Ch.nil (Fin.go ?_)
          refine Tr.w1 2 rfl ?_
          refine Tr.ret ?_
          refine Fin.block_ret ?_
          refine Fin.then_ret ?_
          refine Fin.ret1 rfl (OutW.bse _ _) rfl ?_
          · refine bool_eq ?_; unfold contentF; first | (simp_all; done) | (simp_all; omega)
        ·
         refine Tr.seq (Tr.reg0 ?_)
         refine Ch.oo rfl rfl rfl (ok_int rfl (vl rfl) (vl rfl) rfl) ?_
         refine Ch.as rfl rfl rfl rfl rfl ?_
         refine Ch.nil (Fin.go ?_)
         refine Tr.cn rfl (fun h26 q26 => ?_) (fun h26 q26 => ?_)
         ·
          refine Tr.seq (Tr.reg0 ?_)
          refine Ch.oo rfl rfl rfl (ok_fieldAddr rfl fo26_7 (vl rfl) rfl) ?_
          refine Ch.oo rfl rfl rfl (ok_loadA rfl agg24 sz24 (vl rfl) rfl rfl) ?_
          refine Ch.oo rfl rfl rfl (ok_build (rows := []) rfl bl24 zo24 trivial rfl) ?_
          refine Ch.oo rfl rfl rfl (ok_eq24 rfl (vl rfl) (vl rfl)) ?_
          refine Ch.mv rfl rfl rfl rfl rfl ?_
          refine Ch.cs 104 rfl (fun h27 q27 => ?_) (fun h27 q27 => ?_)
          ·
           refine Ch.y h27 rfl rfl rfl rfl rfl (ok_fieldAddr rfl fo26_8 (vl rfl) rfl) ?_
           refine Ch.y h27 rfl rfl rfl rfl rfl (ok_load1 rfl one3 (vl rfl)) ?_
           refine Ch.y h27 rfl rfl rfl rfl rfl (ok_int rfl (vl rfl) (vl rfl) rfl) ?_
           refine Ch.oo rfl rfl rfl (ok_pick_t rfl (vl rfl) h27 (vl rfl)) ?_
           refine Ch.mv rfl rfl rfl rfl rfl ?_
           refine Ch.cs 109 rfl (fun h28 q28 => ?_) (fun h28 q28 => ?_)
           ·
            refine Ch.y h28 rfl rfl rfl rfl rfl (ok_fieldAddr rfl fo26_9 (vl rfl) rfl) ?_
            refine Ch.y h28 rfl rfl rfl rfl rfl (ok_load1 rfl one9 (vl rfl)) ?_
            refine Ch.y h28 rfl rfl rfl rfl rfl (ok_call rfl (w_Named hf.text) ⟨ke rfl, trivial⟩) ?_
            refine Ch.oo rfl rfl rfl (ok_pick_t rfl (vl rfl) h28 (vl rfl)) ?_
            refine Ch.as rfl rfl rfl rfl rfl ?_
            refine Ch.nil (Fin.go ?_)
            refine Tr.w1 2 rfl ?_
            refine Tr.ret ?_
            refine Fin.block_ret ?_
            refine Fin.then_ret ?_
            refine Fin.ret1 rfl (OutW.bse _ _) rfl ?_
            · refine bool_eq ?_; unfold contentF; first | (simp_all; done) | (simp_all; omega)
           ·
            iterate 3 refine Ch.nt h28 rfl rfl rfl rfl rfl ?_
            refine Ch.oo rfl rfl rfl (ok_pick_f rfl (vl rfl) h28 (vl rfl)) ?_
            refine Ch.as rfl rfl rfl rfl rfl ?_
            refine Ch.nil (Fin.go ?_)
            refine Tr.w1 2 rfl ?_
            refine Tr.ret ?_
            refine Fin.block_ret ?_
            refine Fin.then_ret ?_
            refine Fin.ret1 rfl (OutW.bse _ _) rfl ?_
            · refine bool_eq ?_; unfold contentF; first | (simp_all; done) | (simp_all; omega)
          ·
           iterate 3 refine Ch.nt h27 rfl rfl rfl rfl rfl ?_
           refine Ch.oo rfl rfl rfl (ok_pick_f rfl (vl rfl) h27 (vl rfl)) ?_
           refine Ch.mv rfl rfl rfl rfl rfl ?_
           iterate 3 refine Ch.nd rfl rfl rfl rfl rfl rfl ?_
           refine Ch.oo rfl rfl rfl (ok_pick_f rfl (vl rfl) rfl (vl rfl)) ?_
           refine Ch.as rfl rfl rfl rfl rfl ?_
           refine Ch.nil (Fin.go ?_)
           refine Tr.w1 2 rfl ?_
           refine Tr.ret ?_
           refine Fin.block_ret ?_
           refine Fin.then_ret ?_
           refine Fin.ret1 rfl (OutW.bse _ _) rfl ?_
           · refine bool_eq ?_; unfold contentF; first | (simp_all; done) | (simp_all; omega)
         ·
          refine Tr.skip (Fin.block (Fin.go (Tr.seq (Tr.reg0 ?_))))
          refine Ch.as rfl rfl rfl rfl rfl ?_
          refine Ch.nil (Fin.go (Tr.ret ?_))
          refine Fin.ret1 rfl (OutW.bse _ _) rfl ?_
          · refine bool_eq ?_; unfold contentF; first | (simp_all; done) | (simp_all; omega)
set_option maxRecDepth 20000 in
theorem w_FCheck {f : Fnd} (hf : f.fits) : Fun Tryz.prog 75 [agg (rowF f)] (int (if checkF f then 0 else 24)) := by
 refine Fun.of Tryz.func75 rfl rfl (by exact Nat.le_of_ble_eq_true rfl) fun M0 w0 => ?_
 refine Tr.seq (Tr.reg0 ?_)
 refine Ch.oo rfl rfl rfl (ok_box rfl (VL.le (vl rfl) (agg_cellsP _))) ?_
 refine Ch.as rfl rfl rfl rfl rfl ?_
 refine Ch.nil (Fin.go ?_)
 refine Tr.w1 1 rfl ?_
 refine Tr.cutk [1] [(3, bool (whereF f))] (True) ?_ (fun h1 => ?_)
 ·
  refine Tr.reg0 ?_
  refine Ch.oo rfl rfl rfl (ok_fieldAddr rfl fo26_1 (vl rfl) rfl) ?_
  refine Ch.oo rfl rfl rfl (ok_load1 rfl one9 (vl rfl)) ?_
  refine Ch.oo rfl rfl rfl (ok_call rfl (w_Named hf.host) ⟨ke rfl, trivial⟩) ?_
  refine Ch.mv rfl rfl rfl rfl rfl ?_
  refine Ch.cs 8 rfl (fun h2 q2 => ?_) (fun h2 q2 => ?_)
  ·
   refine Ch.y h2 rfl rfl rfl rfl rfl (ok_fieldAddr rfl fo26_6 (vl rfl) rfl) ?_
   refine Ch.y h2 rfl rfl rfl rfl rfl (ok_load1 rfl one9 (vl rfl)) ?_
   refine Ch.y h2 rfl rfl rfl rfl rfl (ok_call rfl (w_Named hf.subj) ⟨ke rfl, trivial⟩) ?_
   refine Ch.oo rfl rfl rfl (ok_pick_t rfl (vl rfl) h2 (vl rfl)) ?_
   refine Ch.mv rfl rfl rfl rfl rfl ?_
   refine Ch.cs 13 rfl (fun h3 q3 => ?_) (fun h3 q3 => ?_)
   ·
    refine Ch.y h3 rfl rfl rfl rfl rfl (ok_fieldAddr rfl fo26_2 (vl rfl) rfl) ?_
    refine Ch.y h3 rfl rfl rfl rfl rfl (ok_load1 rfl one3 (vl rfl)) ?_
    refine Ch.y h3 rfl rfl rfl rfl rfl (ok_int rfl (vl rfl) (vl rfl) rfl) ?_
    refine Ch.oo rfl rfl rfl (ok_pick_t rfl (vl rfl) h3 (vl rfl)) ?_
    refine Ch.mv rfl rfl rfl rfl rfl ?_
    refine Ch.cs 18 rfl (fun h4 q4 => ?_) (fun h4 q4 => ?_)
    ·
     refine Ch.y h4 rfl rfl rfl rfl rfl (ok_fieldAddr rfl fo26_2 (vl rfl) rfl) ?_
     refine Ch.y h4 rfl rfl rfl rfl rfl (ok_load1 rfl one3 (vl rfl)) ?_
     refine Ch.y h4 rfl rfl rfl rfl rfl (ok_int rfl (vl rfl) (vl rfl) rfl) ?_
     refine Ch.oo rfl rfl rfl (ok_pick_t rfl (vl rfl) h4 (vl rfl)) ?_
     refine Ch.as rfl rfl rfl rfl rfl ?_
     refine Ch.nil ?_
     exact Fin.fam_same () (by simp_all) ⟨⟨_, rfl, bool_eq (by first | (simp_all [whereF]; done) | (simp_all [whereF]; omega))⟩, ke rfl, trivial⟩
    ·
     iterate 3 refine Ch.nt h4 rfl rfl rfl rfl rfl ?_
     refine Ch.oo rfl rfl rfl (ok_pick_f rfl (vl rfl) h4 (vl rfl)) ?_
     refine Ch.as rfl rfl rfl rfl rfl ?_
     refine Ch.nil ?_
     exact Fin.fam_same () (by simp_all) ⟨⟨_, rfl, bool_eq (by first | (simp_all [whereF]; done) | (simp_all [whereF]; omega))⟩, ke rfl, trivial⟩
   ·
    iterate 3 refine Ch.nt h3 rfl rfl rfl rfl rfl ?_
    refine Ch.oo rfl rfl rfl (ok_pick_f rfl (vl rfl) h3 (vl rfl)) ?_
    refine Ch.mv rfl rfl rfl rfl rfl ?_
    iterate 3 refine Ch.nd rfl rfl rfl rfl rfl rfl ?_
    refine Ch.oo rfl rfl rfl (ok_pick_f rfl (vl rfl) rfl (vl rfl)) ?_
    refine Ch.as rfl rfl rfl rfl rfl ?_
    refine Ch.nil ?_
    exact Fin.fam_same () (by simp_all) ⟨⟨_, rfl, bool_eq (by first | (simp_all [whereF]; done) | (simp_all [whereF]; omega))⟩, ke rfl, trivial⟩
  ·
   iterate 3 refine Ch.nt h2 rfl rfl rfl rfl rfl ?_
   refine Ch.oo rfl rfl rfl (ok_pick_f rfl (vl rfl) h2 (vl rfl)) ?_
   refine Ch.mv rfl rfl rfl rfl rfl ?_
   iterate 3 refine Ch.nd rfl rfl rfl rfl rfl rfl ?_
   refine Ch.oo rfl rfl rfl (ok_pick_f rfl (vl rfl) rfl (vl rfl)) ?_
   refine Ch.mv rfl rfl rfl rfl rfl ?_
   iterate 3 refine Ch.nd rfl rfl rfl rfl rfl rfl ?_
   refine Ch.oo rfl rfl rfl (ok_pick_f rfl (vl rfl) rfl (vl rfl)) ?_
   refine Ch.as rfl rfl rfl rfl rfl ?_
   refine Ch.nil ?_
   exact Fin.fam_same () (by simp_all) ⟨⟨_, rfl, bool_eq (by first | (simp_all [whereF]; done) | (simp_all [whereF]; omega))⟩, ke rfl, trivial⟩
 ·
  refine Tr.w2 1 3 rfl rfl ?_
  refine Tr.cutk [1, 3] [(4, bool (whenF f))] (True) ?_ (fun h5 => ?_)
  ·
   refine Tr.reg0 ?_
   refine Ch.oo rfl rfl rfl (ok_fieldAddr rfl fo26_3 (vl rfl) rfl) ?_
   refine Ch.oo rfl rfl rfl (ok_load1 rfl one3 (vl rfl)) ?_
   refine Ch.oo rfl rfl rfl (ok_int rfl (vl rfl) (vl rfl) rfl) ?_
   refine Ch.mv rfl rfl rfl rfl rfl ?_
   refine Ch.cs 26 rfl (fun h6 q6 => ?_) (fun h6 q6 => ?_)
   ·
    refine Ch.y h6 rfl rfl rfl rfl rfl (ok_fieldAddr rfl fo26_3 (vl rfl) rfl) ?_
    refine Ch.y h6 rfl rfl rfl rfl rfl (ok_load1 rfl one3 (vl rfl)) ?_
    refine Ch.y h6 rfl rfl rfl rfl rfl (ok_int rfl (vl rfl) (vl rfl) rfl) ?_
    refine Ch.oo rfl rfl rfl (ok_pick_t rfl (vl rfl) h6 (vl rfl)) ?_
    refine Ch.mv rfl rfl rfl rfl rfl ?_
    refine Ch.cs 31 rfl (fun h7 q7 => ?_) (fun h7 q7 => ?_)
    ·
     refine Ch.y h7 rfl rfl rfl rfl rfl (ok_fieldAddr rfl fo26_4 (vl rfl) rfl) ?_
     refine Ch.y h7 rfl rfl rfl rfl rfl (ok_load1 rfl one3 (vl rfl)) ?_
     refine Ch.y h7 rfl rfl rfl rfl rfl (ok_int rfl (vl rfl) (vl rfl) rfl) ?_
     refine Ch.oo rfl rfl rfl (ok_pick_t rfl (vl rfl) h7 (vl rfl)) ?_
     refine Ch.mv rfl rfl rfl rfl rfl ?_
     refine Ch.cs 36 rfl (fun h8 q8 => ?_) (fun h8 q8 => ?_)
     ·
      refine Ch.y h8 rfl rfl rfl rfl rfl (ok_fieldAddr rfl fo26_4 (vl rfl) rfl) ?_
      refine Ch.y h8 rfl rfl rfl rfl rfl (ok_load1 rfl one3 (vl rfl)) ?_
      refine Ch.y h8 rfl rfl rfl rfl rfl (ok_int rfl (vl rfl) (vl rfl) rfl) ?_
      refine Ch.oo rfl rfl rfl (ok_pick_t rfl (vl rfl) h8 (vl rfl)) ?_
      refine Ch.as rfl rfl rfl rfl rfl ?_
      refine Ch.nil ?_
      exact Fin.fam_same () (by simp_all) ⟨⟨_, rfl, bool_eq (by first | (simp_all [whenF]; done) | (simp_all [whenF]; omega))⟩, ke rfl, ke rfl, trivial⟩
     ·
      iterate 3 refine Ch.nt h8 rfl rfl rfl rfl rfl ?_
      refine Ch.oo rfl rfl rfl (ok_pick_f rfl (vl rfl) h8 (vl rfl)) ?_
      refine Ch.as rfl rfl rfl rfl rfl ?_
      refine Ch.nil ?_
      exact Fin.fam_same () (by simp_all) ⟨⟨_, rfl, bool_eq (by first | (simp_all [whenF]; done) | (simp_all [whenF]; omega))⟩, ke rfl, ke rfl, trivial⟩
    ·
     iterate 3 refine Ch.nt h7 rfl rfl rfl rfl rfl ?_
     refine Ch.oo rfl rfl rfl (ok_pick_f rfl (vl rfl) h7 (vl rfl)) ?_
     refine Ch.mv rfl rfl rfl rfl rfl ?_
     iterate 3 refine Ch.nd rfl rfl rfl rfl rfl rfl ?_
     refine Ch.oo rfl rfl rfl (ok_pick_f rfl (vl rfl) rfl (vl rfl)) ?_
     refine Ch.as rfl rfl rfl rfl rfl ?_
     refine Ch.nil ?_
     exact Fin.fam_same () (by simp_all) ⟨⟨_, rfl, bool_eq (by first | (simp_all [whenF]; done) | (simp_all [whenF]; omega))⟩, ke rfl, ke rfl, trivial⟩
   ·
    iterate 3 refine Ch.nt h6 rfl rfl rfl rfl rfl ?_
    refine Ch.oo rfl rfl rfl (ok_pick_f rfl (vl rfl) h6 (vl rfl)) ?_
    refine Ch.mv rfl rfl rfl rfl rfl ?_
    iterate 3 refine Ch.nd rfl rfl rfl rfl rfl rfl ?_
    refine Ch.oo rfl rfl rfl (ok_pick_f rfl (vl rfl) rfl (vl rfl)) ?_
    refine Ch.mv rfl rfl rfl rfl rfl ?_
    iterate 3 refine Ch.nd rfl rfl rfl rfl rfl rfl ?_
    refine Ch.oo rfl rfl rfl (ok_pick_f rfl (vl rfl) rfl (vl rfl)) ?_
    refine Ch.as rfl rfl rfl rfl rfl ?_
    refine Ch.nil ?_
    exact Fin.fam_same () (by simp_all) ⟨⟨_, rfl, bool_eq (by first | (simp_all [whenF]; done) | (simp_all [whenF]; omega))⟩, ke rfl, ke rfl, trivial⟩
  ·
   refine Tr.seq (Tr.seq (Tr.reg0 ?_))
   refine Ch.mv rfl rfl rfl rfl rfl ?_
   refine Ch.oo rfl rfl rfl (ok_not rfl (vl rfl)) ?_
   refine Ch.mv rfl rfl rfl rfl rfl ?_
   refine Ch.cs 43 rfl (fun h9 q9 => ?_) (fun h9 q9 => ?_)
   ·
    refine Ch.nf h9 rfl rfl rfl rfl rfl ?_
    refine Ch.nf h9 rfl rfl rfl rfl rfl ?_
    refine Ch.oo rfl rfl rfl (ok_pick_t rfl (vl rfl) h9 (vl rfl)) ?_
    refine Ch.mv rfl rfl rfl rfl rfl ?_
    iterate 3 refine Ch.nd rfl rfl rfl rfl rfl rfl ?_
    refine Ch.oo rfl rfl rfl (ok_pick_t rfl (vl rfl) rfl (vl rfl)) ?_
    refine Ch.mv rfl rfl rfl rfl rfl ?_
    iterate 3 refine Ch.nd rfl rfl rfl rfl rfl rfl ?_
    refine Ch.oo rfl rfl rfl (ok_pick_t rfl (vl rfl) rfl (vl rfl)) ?_
    refine Ch.mv rfl rfl rfl rfl rfl ?_
    iterate 3 refine Ch.nd rfl rfl rfl rfl rfl rfl ?_
    refine Ch.oo rfl rfl rfl (ok_pick_t rfl (vl rfl) rfl (vl rfl)) ?_
    refine Ch.nil (Fin.go ?_)
    refine Tr.w1 61 rfl ?_
    refine Tr.cond rfl (fun _ => ?_) (fun h => nomatch h)
    refine Tr.seq (Tr.reg0 ?_)
    refine Ch.as rfl rfl rfl rfl rfl ?_
    refine Ch.nil (Fin.go (Tr.ret ?_))
    refine Fin.then_ret ?_
    refine Fin.ret1 rfl (OutW.bse _ _) rfl ?_
    · refine int_eq ?_; unfold checkF; first | (simp_all; done) | (simp_all; omega)
   ·
    refine Ch.ym h9 rfl rfl rfl rfl rfl rfl rfl ?_
    refine Ch.y h9 rfl rfl rfl rfl rfl (ok_not rfl (vl rfl)) ?_
    refine Ch.oo rfl rfl rfl (ok_pick_f rfl (vl rfl) h9 (vl rfl)) ?_
    refine Ch.mv rfl rfl rfl rfl rfl ?_
    refine Ch.cs 47 rfl (fun h10 q10 => ?_) (fun h10 q10 => ?_)
    ·
     iterate 3 refine Ch.nf h10 rfl rfl rfl rfl rfl ?_
     refine Ch.oo rfl rfl rfl (ok_pick_t rfl (vl rfl) h10 (vl rfl)) ?_
     refine Ch.mv rfl rfl rfl rfl rfl ?_
     iterate 3 refine Ch.nd rfl rfl rfl rfl rfl rfl ?_
     refine Ch.oo rfl rfl rfl (ok_pick_t rfl (vl rfl) rfl (vl rfl)) ?_
     refine Ch.mv rfl rfl rfl rfl rfl ?_
     iterate 3 refine Ch.nd rfl rfl rfl rfl rfl rfl ?_
     refine Ch.oo rfl rfl rfl (ok_pick_t rfl (vl rfl) rfl (vl rfl)) ?_
     refine Ch.nil (Fin.go ?_)
     refine Tr.w1 61 rfl ?_
     refine Tr.cond rfl (fun _ => ?_) (fun h => nomatch h)
     refine Tr.seq (Tr.reg0 ?_)
     refine Ch.as rfl rfl rfl rfl rfl ?_
     refine Ch.nil (Fin.go (Tr.ret ?_))
     refine Fin.then_ret ?_
     refine Fin.ret1 rfl (OutW.bse _ _) rfl ?_
     · refine int_eq ?_; unfold checkF; first | (simp_all; done) | (simp_all; omega)
    ·
     refine Ch.y h10 rfl rfl rfl rfl rfl (ok_fieldAddr rfl fo26_0 (vl rfl) rfl) ?_
     refine Ch.y h10 rfl rfl rfl rfl rfl (ok_load1 rfl one3 (vl rfl)) ?_
     refine Ch.y h10 rfl rfl rfl rfl rfl (ok_int rfl (vl rfl) (vl rfl) rfl) ?_
     refine Ch.oo rfl rfl rfl (ok_pick_f rfl (vl rfl) h10 (vl rfl)) ?_
     refine Ch.mv rfl rfl rfl rfl rfl ?_
     refine Ch.cs 52 rfl (fun h11 q11 => ?_) (fun h11 q11 => ?_)
     ·
      iterate 3 refine Ch.nf h11 rfl rfl rfl rfl rfl ?_
      refine Ch.oo rfl rfl rfl (ok_pick_t rfl (vl rfl) h11 (vl rfl)) ?_
      refine Ch.mv rfl rfl rfl rfl rfl ?_
      iterate 3 refine Ch.nd rfl rfl rfl rfl rfl rfl ?_
      refine Ch.oo rfl rfl rfl (ok_pick_t rfl (vl rfl) rfl (vl rfl)) ?_
      refine Ch.nil (Fin.go ?_)
      refine Tr.w1 61 rfl ?_
      refine Tr.cond rfl (fun _ => ?_) (fun h => nomatch h)
      refine Tr.seq (Tr.reg0 ?_)
      refine Ch.as rfl rfl rfl rfl rfl ?_
      refine Ch.nil (Fin.go (Tr.ret ?_))
      refine Fin.then_ret ?_
      refine Fin.ret1 rfl (OutW.bse _ _) rfl ?_
      · refine int_eq ?_; unfold checkF; first | (simp_all; done) | (simp_all; omega)
     ·
      refine Ch.y h11 rfl rfl rfl rfl rfl (ok_fieldAddr rfl fo26_0 (vl rfl) rfl) ?_
      refine Ch.y h11 rfl rfl rfl rfl rfl (ok_load1 rfl one3 (vl rfl)) ?_
      refine Ch.y h11 rfl rfl rfl rfl rfl (ok_int rfl (vl rfl) (vl rfl) rfl) ?_
      refine Ch.oo rfl rfl rfl (ok_pick_f rfl (vl rfl) h11 (vl rfl)) ?_
      refine Ch.mv rfl rfl rfl rfl rfl ?_
      refine Ch.cs 57 rfl (fun h12 q12 => ?_) (fun h12 q12 => ?_)
      ·
       iterate 3 refine Ch.nf h12 rfl rfl rfl rfl rfl ?_
       refine Ch.oo rfl rfl rfl (ok_pick_t rfl (vl rfl) h12 (vl rfl)) ?_
       refine Ch.nil (Fin.go ?_)
       refine Tr.w1 61 rfl ?_
       refine Tr.cond rfl (fun _ => ?_) (fun h => nomatch h)
       refine Tr.seq (Tr.reg0 ?_)
       refine Ch.as rfl rfl rfl rfl rfl ?_
       refine Ch.nil (Fin.go (Tr.ret ?_))
       refine Fin.then_ret ?_
       refine Fin.ret1 rfl (OutW.bse _ _) rfl ?_
       · refine int_eq ?_; unfold checkF; first | (simp_all; done) | (simp_all; omega)
      ·
       refine Ch.y h12 rfl rfl rfl rfl rfl (ok_loadA rfl agg26 sz26 (vl rfl) rfl rfl) ?_
       refine Ch.y h12 rfl rfl rfl rfl rfl (ok_call rfl (w_content (by assumption)) ⟨ke rfl, trivial⟩) ?_
       refine Ch.y h12 rfl rfl rfl rfl rfl (ok_not rfl (vl rfl)) ?_
       refine Ch.oo rfl rfl rfl (ok_pick_f rfl (vl rfl) h12 (vl rfl)) ?_
       refine Ch.nil (Fin.go ?_)
       refine Tr.w1 61 rfl ?_
       refine Tr.cn rfl (fun h13 q13 => ?_) (fun h13 q13 => ?_)
       ·
        refine Tr.seq (Tr.reg0 ?_)
        refine Ch.as rfl rfl rfl rfl rfl ?_
        refine Ch.nil (Fin.go (Tr.ret ?_))
        refine Fin.then_ret ?_
        refine Fin.ret1 rfl (OutW.bse _ _) rfl ?_
        · refine int_eq ?_; unfold checkF; first | (simp_all; done) | (simp_all; omega)
       ·
        refine Tr.skip (Fin.go (Tr.seq (Tr.reg0 ?_)))
        refine Ch.as rfl rfl rfl rfl rfl ?_
        refine Ch.nil (Fin.go (Tr.ret ?_))
        refine Fin.ret1 rfl (OutW.bse _ _) rfl ?_
        · refine int_eq ?_; unfold checkF; first | (simp_all; done) | (simp_all; omega)
end Go.Proofs.YtgdlhajfajddiaaGreat
namespace Go.Proofs.YtgdlhajfajddiaaGreat
open Go Go.RowKit Cp
set_option maxRecDepth 20000 in
theorem w_R14Check {f : Fnd}  : Fun Tryz.prog 77 [agg (rowF f)] (int (if checkF f then 0 else 24)) := by
 refine Fun.of Tryz.func77 rfl rfl (by exact Nat.le_of_ble_eq_true rfl) fun M0 w0 => ?_
 refine Tr.seq (Tr.reg0 ?_)
 refine Ch.oo rfl rfl rfl (ok_box rfl (VL.le (vl rfl) (agg_cellsP _))) ?_
 refine Ch.as rfl rfl rfl rfl rfl ?_
 refine Ch.nil (Fin.go (Tr.seq (Tr.seq (Tr.reg0 ?_))))
 refine Ch.oo rfl rfl rfl (ok_fieldAddr rfl fo26_0 (vl rfl) rfl) ?_
 refine Ch.oo rfl rfl rfl (ok_load1 rfl one3 (vl rfl)) ?_
 refine Ch.oo rfl rfl rfl (ok_int rfl (vl rfl) (vl rfl) rfl) ?_
 refine Ch.mv rfl rfl rfl rfl rfl ?_
 refine Ch.cs 10 rfl (fun h1 q1 => ?_) (fun h1 q1 => ?_)
 ·
  iterate 3 refine Ch.nf h1 rfl rfl rfl rfl rfl ?_
  refine Ch.oo rfl rfl rfl (ok_pick_t rfl (vl rfl) h1 (vl rfl)) ?_
  refine Ch.mv rfl rfl rfl rfl rfl ?_
  iterate 4 refine Ch.nd rfl rfl rfl rfl rfl rfl ?_
  refine Ch.oo rfl rfl rfl (ok_pick_t rfl (vl rfl) rfl (vl rfl)) ?_
  refine Ch.mv rfl rfl rfl rfl rfl ?_
  iterate 3 refine Ch.nd rfl rfl rfl rfl rfl rfl ?_
  refine Ch.oo rfl rfl rfl (ok_pick_t rfl (vl rfl) rfl (vl rfl)) ?_
  refine Ch.mv rfl rfl rfl rfl rfl ?_
  iterate 3 refine Ch.nd rfl rfl rfl rfl rfl rfl ?_
  refine Ch.oo rfl rfl rfl (ok_pick_t rfl (vl rfl) rfl (vl rfl)) ?_
  refine Ch.mv rfl rfl rfl rfl rfl ?_
  iterate 3 refine Ch.nd rfl rfl rfl rfl rfl rfl ?_
  refine Ch.oo rfl rfl rfl (ok_pick_t rfl (vl rfl) rfl (vl rfl)) ?_
  refine Ch.mv rfl rfl rfl rfl rfl ?_
  iterate 3 refine Ch.nd rfl rfl rfl rfl rfl rfl ?_
  refine Ch.oo rfl rfl rfl (ok_pick_t rfl (vl rfl) rfl (vl rfl)) ?_
  refine Ch.mv rfl rfl rfl rfl rfl ?_
  iterate 3 refine Ch.nd rfl rfl rfl rfl rfl rfl ?_
  refine Ch.oo rfl rfl rfl (ok_pick_t rfl (vl rfl) rfl (vl rfl)) ?_
  refine Ch.mv rfl rfl rfl rfl rfl ?_
  iterate 3 refine Ch.nd rfl rfl rfl rfl rfl rfl ?_
  refine Ch.oo rfl rfl rfl (ok_pick_t rfl (vl rfl) rfl (vl rfl)) ?_
  refine Ch.mv rfl rfl rfl rfl rfl ?_
  iterate 4 refine Ch.nd rfl rfl rfl rfl rfl rfl ?_
  refine Ch.oo rfl rfl rfl (ok_pick_t rfl (vl rfl) rfl (vl rfl)) ?_
  refine Ch.nil (Fin.go ?_)
  refine Tr.w2 1 56 rfl rfl ?_
  refine Tr.cond rfl (fun _ => ?_) (fun h => nomatch h)
  refine Tr.seq (Tr.reg0 ?_)
  refine Ch.as rfl rfl rfl rfl rfl ?_
  refine Ch.nil (Fin.go (Tr.ret ?_))
  refine Fin.then_ret ?_
  refine Fin.ret1 rfl (OutW.bse _ _) rfl ?_
  · refine int_eq ?_; unfold checkF whereF whenF; first | (simp_all; done) | (simp_all; omega)
 ·
  refine Ch.y h1 rfl rfl rfl rfl rfl (ok_fieldAddr rfl fo26_0 (vl rfl) rfl) ?_
  refine Ch.y h1 rfl rfl rfl rfl rfl (ok_load1 rfl one3 (vl rfl)) ?_
  refine Ch.y h1 rfl rfl rfl rfl rfl (ok_int rfl (vl rfl) (vl rfl) rfl) ?_
  refine Ch.oo rfl rfl rfl (ok_pick_f rfl (vl rfl) h1 (vl rfl)) ?_
  refine Ch.mv rfl rfl rfl rfl rfl ?_
  refine Ch.cs 15 rfl (fun h2 q2 => ?_) (fun h2 q2 => ?_)
  ·
   iterate 4 refine Ch.nf h2 rfl rfl rfl rfl rfl ?_
   refine Ch.oo rfl rfl rfl (ok_pick_t rfl (vl rfl) h2 (vl rfl)) ?_
   refine Ch.mv rfl rfl rfl rfl rfl ?_
   iterate 3 refine Ch.nd rfl rfl rfl rfl rfl rfl ?_
   refine Ch.oo rfl rfl rfl (ok_pick_t rfl (vl rfl) rfl (vl rfl)) ?_
   refine Ch.mv rfl rfl rfl rfl rfl ?_
   iterate 3 refine Ch.nd rfl rfl rfl rfl rfl rfl ?_
   refine Ch.oo rfl rfl rfl (ok_pick_t rfl (vl rfl) rfl (vl rfl)) ?_
   refine Ch.mv rfl rfl rfl rfl rfl ?_
   iterate 3 refine Ch.nd rfl rfl rfl rfl rfl rfl ?_
   refine Ch.oo rfl rfl rfl (ok_pick_t rfl (vl rfl) rfl (vl rfl)) ?_
   refine Ch.mv rfl rfl rfl rfl rfl ?_
   iterate 3 refine Ch.nd rfl rfl rfl rfl rfl rfl ?_
   refine Ch.oo rfl rfl rfl (ok_pick_t rfl (vl rfl) rfl (vl rfl)) ?_
   refine Ch.mv rfl rfl rfl rfl rfl ?_
   iterate 3 refine Ch.nd rfl rfl rfl rfl rfl rfl ?_
   refine Ch.oo rfl rfl rfl (ok_pick_t rfl (vl rfl) rfl (vl rfl)) ?_
   refine Ch.mv rfl rfl rfl rfl rfl ?_
   iterate 3 refine Ch.nd rfl rfl rfl rfl rfl rfl ?_
   refine Ch.oo rfl rfl rfl (ok_pick_t rfl (vl rfl) rfl (vl rfl)) ?_
   refine Ch.mv rfl rfl rfl rfl rfl ?_
   iterate 4 refine Ch.nd rfl rfl rfl rfl rfl rfl ?_
   refine Ch.oo rfl rfl rfl (ok_pick_t rfl (vl rfl) rfl (vl rfl)) ?_
   refine Ch.nil (Fin.go ?_)
   refine Tr.w2 1 56 rfl rfl ?_
   refine Tr.cond rfl (fun _ => ?_) (fun h => nomatch h)
   refine Tr.seq (Tr.reg0 ?_)
   refine Ch.as rfl rfl rfl rfl rfl ?_
   refine Ch.nil (Fin.go (Tr.ret ?_))
   refine Fin.then_ret ?_
   refine Fin.ret1 rfl (OutW.bse _ _) rfl ?_
   · refine int_eq ?_; unfold checkF whereF whenF; first | (simp_all; done) | (simp_all; omega)
  ·
   refine Ch.y h2 rfl rfl rfl rfl rfl (ok_fieldAddr rfl fo26_1 (vl rfl) rfl) ?_
   refine Ch.y h2 rfl rfl rfl rfl rfl (ok_load1 rfl one9 (vl rfl)) ?_
   refine Ch.y h2 rfl rfl rfl rfl rfl (ok_call rfl (w_RName) ⟨ke rfl, trivial⟩) ?_
   refine Ch.y h2 rfl rfl rfl rfl rfl (ok_not rfl (vl rfl)) ?_
   refine Ch.oo rfl rfl rfl (ok_pick_f rfl (vl rfl) h2 (vl rfl)) ?_
   refine Ch.mv rfl rfl rfl rfl rfl ?_
   refine Ch.cs 21 rfl (fun h3 q3 => ?_) (fun h3 q3 => ?_)
   ·
    iterate 3 refine Ch.nf h3 rfl rfl rfl rfl rfl ?_
    refine Ch.oo rfl rfl rfl (ok_pick_t rfl (vl rfl) h3 (vl rfl)) ?_
    refine Ch.mv rfl rfl rfl rfl rfl ?_
    iterate 3 refine Ch.nd rfl rfl rfl rfl rfl rfl ?_
    refine Ch.oo rfl rfl rfl (ok_pick_t rfl (vl rfl) rfl (vl rfl)) ?_
    refine Ch.mv rfl rfl rfl rfl rfl ?_
    iterate 3 refine Ch.nd rfl rfl rfl rfl rfl rfl ?_
    refine Ch.oo rfl rfl rfl (ok_pick_t rfl (vl rfl) rfl (vl rfl)) ?_
    refine Ch.mv rfl rfl rfl rfl rfl ?_
    iterate 3 refine Ch.nd rfl rfl rfl rfl rfl rfl ?_
    refine Ch.oo rfl rfl rfl (ok_pick_t rfl (vl rfl) rfl (vl rfl)) ?_
    refine Ch.mv rfl rfl rfl rfl rfl ?_
    iterate 3 refine Ch.nd rfl rfl rfl rfl rfl rfl ?_
    refine Ch.oo rfl rfl rfl (ok_pick_t rfl (vl rfl) rfl (vl rfl)) ?_
    refine Ch.mv rfl rfl rfl rfl rfl ?_
    iterate 3 refine Ch.nd rfl rfl rfl rfl rfl rfl ?_
    refine Ch.oo rfl rfl rfl (ok_pick_t rfl (vl rfl) rfl (vl rfl)) ?_
    refine Ch.mv rfl rfl rfl rfl rfl ?_
    iterate 4 refine Ch.nd rfl rfl rfl rfl rfl rfl ?_
    refine Ch.oo rfl rfl rfl (ok_pick_t rfl (vl rfl) rfl (vl rfl)) ?_
    refine Ch.nil (Fin.go ?_)
    refine Tr.w2 1 56 rfl rfl ?_
    refine Tr.cond rfl (fun _ => ?_) (fun h => nomatch h)
    refine Tr.seq (Tr.reg0 ?_)
    refine Ch.as rfl rfl rfl rfl rfl ?_
    refine Ch.nil (Fin.go (Tr.ret ?_))
    refine Fin.then_ret ?_
    refine Fin.ret1 rfl (OutW.bse _ _) rfl ?_
    · refine int_eq ?_; unfold checkF whereF whenF; first | (simp_all; done) | (simp_all; omega)
   ·
    refine Ch.y h3 rfl rfl rfl rfl rfl (ok_fieldAddr rfl fo26_2 (vl rfl) rfl) ?_
    refine Ch.y h3 rfl rfl rfl rfl rfl (ok_load1 rfl one3 (vl rfl)) ?_
    refine Ch.y h3 rfl rfl rfl rfl rfl (ok_int rfl (vl rfl) (vl rfl) rfl) ?_
    refine Ch.oo rfl rfl rfl (ok_pick_f rfl (vl rfl) h3 (vl rfl)) ?_
    refine Ch.mv rfl rfl rfl rfl rfl ?_
    refine Ch.cs 26 rfl (fun h4 q4 => ?_) (fun h4 q4 => ?_)
    ·
     iterate 3 refine Ch.nf h4 rfl rfl rfl rfl rfl ?_
     refine Ch.oo rfl rfl rfl (ok_pick_t rfl (vl rfl) h4 (vl rfl)) ?_
     refine Ch.mv rfl rfl rfl rfl rfl ?_
     iterate 3 refine Ch.nd rfl rfl rfl rfl rfl rfl ?_
     refine Ch.oo rfl rfl rfl (ok_pick_t rfl (vl rfl) rfl (vl rfl)) ?_
     refine Ch.mv rfl rfl rfl rfl rfl ?_
     iterate 3 refine Ch.nd rfl rfl rfl rfl rfl rfl ?_
     refine Ch.oo rfl rfl rfl (ok_pick_t rfl (vl rfl) rfl (vl rfl)) ?_
     refine Ch.mv rfl rfl rfl rfl rfl ?_
     iterate 3 refine Ch.nd rfl rfl rfl rfl rfl rfl ?_
     refine Ch.oo rfl rfl rfl (ok_pick_t rfl (vl rfl) rfl (vl rfl)) ?_
     refine Ch.mv rfl rfl rfl rfl rfl ?_
     iterate 3 refine Ch.nd rfl rfl rfl rfl rfl rfl ?_
     refine Ch.oo rfl rfl rfl (ok_pick_t rfl (vl rfl) rfl (vl rfl)) ?_
     refine Ch.mv rfl rfl rfl rfl rfl ?_
     iterate 4 refine Ch.nd rfl rfl rfl rfl rfl rfl ?_
     refine Ch.oo rfl rfl rfl (ok_pick_t rfl (vl rfl) rfl (vl rfl)) ?_
     refine Ch.nil (Fin.go ?_)
     refine Tr.w2 1 56 rfl rfl ?_
     refine Tr.cond rfl (fun _ => ?_) (fun h => nomatch h)
     refine Tr.seq (Tr.reg0 ?_)
     refine Ch.as rfl rfl rfl rfl rfl ?_
     refine Ch.nil (Fin.go (Tr.ret ?_))
     refine Fin.then_ret ?_
     refine Fin.ret1 rfl (OutW.bse _ _) rfl ?_
     · refine int_eq ?_; unfold checkF whereF whenF; first | (simp_all; done) | (simp_all; omega)
    ·
     refine Ch.y h4 rfl rfl rfl rfl rfl (ok_fieldAddr rfl fo26_2 (vl rfl) rfl) ?_
     refine Ch.y h4 rfl rfl rfl rfl rfl (ok_load1 rfl one3 (vl rfl)) ?_
     refine Ch.y h4 rfl rfl rfl rfl rfl (ok_int rfl (vl rfl) (vl rfl) rfl) ?_
     refine Ch.oo rfl rfl rfl (ok_pick_f rfl (vl rfl) h4 (vl rfl)) ?_
     refine Ch.mv rfl rfl rfl rfl rfl ?_
     refine Ch.cs 31 rfl (fun h5 q5 => ?_) (fun h5 q5 => ?_)
     ·
      iterate 3 refine Ch.nf h5 rfl rfl rfl rfl rfl ?_
      refine Ch.oo rfl rfl rfl (ok_pick_t rfl (vl rfl) h5 (vl rfl)) ?_
      refine Ch.mv rfl rfl rfl rfl rfl ?_
      iterate 3 refine Ch.nd rfl rfl rfl rfl rfl rfl ?_
      refine Ch.oo rfl rfl rfl (ok_pick_t rfl (vl rfl) rfl (vl rfl)) ?_
      refine Ch.mv rfl rfl rfl rfl rfl ?_
      iterate 3 refine Ch.nd rfl rfl rfl rfl rfl rfl ?_
      refine Ch.oo rfl rfl rfl (ok_pick_t rfl (vl rfl) rfl (vl rfl)) ?_
      refine Ch.mv rfl rfl rfl rfl rfl ?_
      iterate 3 refine Ch.nd rfl rfl rfl rfl rfl rfl ?_
      refine Ch.oo rfl rfl rfl (ok_pick_t rfl (vl rfl) rfl (vl rfl)) ?_
      refine Ch.mv rfl rfl rfl rfl rfl ?_
      iterate 4 refine Ch.nd rfl rfl rfl rfl rfl rfl ?_
      refine Ch.oo rfl rfl rfl (ok_pick_t rfl (vl rfl) rfl (vl rfl)) ?_
      refine Ch.nil (Fin.go ?_)
      refine Tr.w2 1 56 rfl rfl ?_
      refine Tr.cond rfl (fun _ => ?_) (fun h => nomatch h)
      refine Tr.seq (Tr.reg0 ?_)
      refine Ch.as rfl rfl rfl rfl rfl ?_
      refine Ch.nil (Fin.go (Tr.ret ?_))
      refine Fin.then_ret ?_
      refine Fin.ret1 rfl (OutW.bse _ _) rfl ?_
      · refine int_eq ?_; unfold checkF whereF whenF; first | (simp_all; done) | (simp_all; omega)
     ·
      refine Ch.y h5 rfl rfl rfl rfl rfl (ok_fieldAddr rfl fo26_3 (vl rfl) rfl) ?_
      refine Ch.y h5 rfl rfl rfl rfl rfl (ok_load1 rfl one3 (vl rfl)) ?_
      refine Ch.y h5 rfl rfl rfl rfl rfl (ok_int rfl (vl rfl) (vl rfl) rfl) ?_
      refine Ch.oo rfl rfl rfl (ok_pick_f rfl (vl rfl) h5 (vl rfl)) ?_
      refine Ch.mv rfl rfl rfl rfl rfl ?_
      refine Ch.cs 36 rfl (fun h6 q6 => ?_) (fun h6 q6 => ?_)
      ·
       iterate 3 refine Ch.nf h6 rfl rfl rfl rfl rfl ?_
       refine Ch.oo rfl rfl rfl (ok_pick_t rfl (vl rfl) h6 (vl rfl)) ?_
       refine Ch.mv rfl rfl rfl rfl rfl ?_
       iterate 3 refine Ch.nd rfl rfl rfl rfl rfl rfl ?_
       refine Ch.oo rfl rfl rfl (ok_pick_t rfl (vl rfl) rfl (vl rfl)) ?_
       refine Ch.mv rfl rfl rfl rfl rfl ?_
       iterate 3 refine Ch.nd rfl rfl rfl rfl rfl rfl ?_
       refine Ch.oo rfl rfl rfl (ok_pick_t rfl (vl rfl) rfl (vl rfl)) ?_
       refine Ch.mv rfl rfl rfl rfl rfl ?_
       iterate 4 refine Ch.nd rfl rfl rfl rfl rfl rfl ?_
       refine Ch.oo rfl rfl rfl (ok_pick_t rfl (vl rfl) rfl (vl rfl)) ?_
       refine Ch.nil (Fin.go ?_)
       refine Tr.w2 1 56 rfl rfl ?_
       refine Tr.cond rfl (fun _ => ?_) (fun h => nomatch h)
       refine Tr.seq (Tr.reg0 ?_)
       refine Ch.as rfl rfl rfl rfl rfl ?_
       refine Ch.nil (Fin.go (Tr.ret ?_))
       refine Fin.then_ret ?_
       refine Fin.ret1 rfl (OutW.bse _ _) rfl ?_
       · refine int_eq ?_; unfold checkF whereF whenF; first | (simp_all; done) | (simp_all; omega)
      ·
       refine Ch.y h6 rfl rfl rfl rfl rfl (ok_fieldAddr rfl fo26_3 (vl rfl) rfl) ?_
       refine Ch.y h6 rfl rfl rfl rfl rfl (ok_load1 rfl one3 (vl rfl)) ?_
       refine Ch.y h6 rfl rfl rfl rfl rfl (ok_int rfl (vl rfl) (vl rfl) rfl) ?_
       refine Ch.oo rfl rfl rfl (ok_pick_f rfl (vl rfl) h6 (vl rfl)) ?_
       refine Ch.mv rfl rfl rfl rfl rfl ?_
       refine Ch.cs 41 rfl (fun h7 q7 => ?_) (fun h7 q7 => ?_)
       ·
        iterate 3 refine Ch.nf h7 rfl rfl rfl rfl rfl ?_
        refine Ch.oo rfl rfl rfl (ok_pick_t rfl (vl rfl) h7 (vl rfl)) ?_
        refine Ch.mv rfl rfl rfl rfl rfl ?_
        iterate 3 refine Ch.nd rfl rfl rfl rfl rfl rfl ?_
        refine Ch.oo rfl rfl rfl (ok_pick_t rfl (vl rfl) rfl (vl rfl)) ?_
        refine Ch.mv rfl rfl rfl rfl rfl ?_
        iterate 4 refine Ch.nd rfl rfl rfl rfl rfl rfl ?_
        refine Ch.oo rfl rfl rfl (ok_pick_t rfl (vl rfl) rfl (vl rfl)) ?_
        refine Ch.nil (Fin.go ?_)
        refine Tr.w2 1 56 rfl rfl ?_
        refine Tr.cond rfl (fun _ => ?_) (fun h => nomatch h)
        refine Tr.seq (Tr.reg0 ?_)
        refine Ch.as rfl rfl rfl rfl rfl ?_
        refine Ch.nil (Fin.go (Tr.ret ?_))
        refine Fin.then_ret ?_
        refine Fin.ret1 rfl (OutW.bse _ _) rfl ?_
        · refine int_eq ?_; unfold checkF whereF whenF; first | (simp_all; done) | (simp_all; omega)
       ·
        refine Ch.y h7 rfl rfl rfl rfl rfl (ok_fieldAddr rfl fo26_4 (vl rfl) rfl) ?_
        refine Ch.y h7 rfl rfl rfl rfl rfl (ok_load1 rfl one3 (vl rfl)) ?_
        refine Ch.y h7 rfl rfl rfl rfl rfl (ok_int rfl (vl rfl) (vl rfl) rfl) ?_
        refine Ch.oo rfl rfl rfl (ok_pick_f rfl (vl rfl) h7 (vl rfl)) ?_
        refine Ch.mv rfl rfl rfl rfl rfl ?_
        refine Ch.cs 46 rfl (fun h8 q8 => ?_) (fun h8 q8 => ?_)
        ·
         iterate 3 refine Ch.nf h8 rfl rfl rfl rfl rfl ?_
         refine Ch.oo rfl rfl rfl (ok_pick_t rfl (vl rfl) h8 (vl rfl)) ?_
         refine Ch.mv rfl rfl rfl rfl rfl ?_
         iterate 4 refine Ch.nd rfl rfl rfl rfl rfl rfl ?_
         refine Ch.oo rfl rfl rfl (ok_pick_t rfl (vl rfl) rfl (vl rfl)) ?_
         refine Ch.nil (Fin.go ?_)
         refine Tr.w2 1 56 rfl rfl ?_
         refine Tr.cond rfl (fun _ => ?_) (fun h => nomatch h)
         refine Tr.seq (Tr.reg0 ?_)
         refine Ch.as rfl rfl rfl rfl rfl ?_
         refine Ch.nil (Fin.go (Tr.ret ?_))
         refine Fin.then_ret ?_
         refine Fin.ret1 rfl (OutW.bse _ _) rfl ?_
         · refine int_eq ?_; unfold checkF whereF whenF; first | (simp_all; done) | (simp_all; omega)
        ·
         refine Ch.y h8 rfl rfl rfl rfl rfl (ok_fieldAddr rfl fo26_4 (vl rfl) rfl) ?_
         refine Ch.y h8 rfl rfl rfl rfl rfl (ok_load1 rfl one3 (vl rfl)) ?_
         refine Ch.y h8 rfl rfl rfl rfl rfl (ok_int rfl (vl rfl) (vl rfl) rfl) ?_
         refine Ch.oo rfl rfl rfl (ok_pick_f rfl (vl rfl) h8 (vl rfl)) ?_
         refine Ch.mv rfl rfl rfl rfl rfl ?_
         refine Ch.cs 51 rfl (fun h9 q9 => ?_) (fun h9 q9 => ?_)
         ·
          iterate 4 refine Ch.nf h9 rfl rfl rfl rfl rfl ?_
          refine Ch.oo rfl rfl rfl (ok_pick_t rfl (vl rfl) h9 (vl rfl)) ?_
          refine Ch.nil (Fin.go ?_)
          refine Tr.w2 1 56 rfl rfl ?_
          refine Tr.cond rfl (fun _ => ?_) (fun h => nomatch h)
          refine Tr.seq (Tr.reg0 ?_)
          refine Ch.as rfl rfl rfl rfl rfl ?_
          refine Ch.nil (Fin.go (Tr.ret ?_))
          refine Fin.then_ret ?_
          refine Fin.ret1 rfl (OutW.bse _ _) rfl ?_
          · refine int_eq ?_; unfold checkF whereF whenF; first | (simp_all; done) | (simp_all; omega)
         ·
          refine Ch.y h9 rfl rfl rfl rfl rfl (ok_fieldAddr rfl fo26_6 (vl rfl) rfl) ?_
          refine Ch.y h9 rfl rfl rfl rfl rfl (ok_load1 rfl one9 (vl rfl)) ?_
          refine Ch.y h9 rfl rfl rfl rfl rfl (ok_call rfl (w_RName) ⟨ke rfl, trivial⟩) ?_
          refine Ch.y h9 rfl rfl rfl rfl rfl (ok_not rfl (vl rfl)) ?_
          refine Ch.oo rfl rfl rfl (ok_pick_f rfl (vl rfl) h9 (vl rfl)) ?_
          refine Ch.nil (Fin.go ?_)
          refine Tr.w2 1 56 rfl rfl ?_
          refine Tr.cn rfl (fun h10 q10 => ?_) (fun h10 q10 => ?_)
          ·
           refine Tr.seq (Tr.reg0 ?_)
           refine Ch.as rfl rfl rfl rfl rfl ?_
           refine Ch.nil (Fin.go (Tr.ret ?_))
           refine Fin.then_ret ?_
           refine Fin.ret1 rfl (OutW.bse _ _) rfl ?_
           · refine int_eq ?_; unfold checkF whereF whenF; first | (simp_all; done) | (simp_all; omega)
          ·
           refine Tr.skip (Fin.go (Tr.seq ?_))
           refine Tr.reg1 mixed (by kernel_rfl) ?_
           refine Ch.oo rfl rfl rfl (ok_fieldAddr rfl fo26_7 (vl rfl) rfl) ?_
           refine Ch.oo rfl rfl rfl (ok_loadA rfl agg24 sz24 (vl rfl) rfl rfl) ?_
           refine Ch.oo rfl rfl rfl (ok_build (rows := []) rfl bl24 zo24 trivial rfl) ?_
           refine Ch.oo rfl rfl rfl (ok_eq24 rfl (vl rfl) (vl rfl)) ?_
           refine Ch.oo rfl rfl rfl (ok_fieldAddr rfl fo26_8 (vl rfl) rfl) ?_
           refine Ch.oo rfl rfl rfl (ok_load1 rfl one3 (vl rfl)) ?_
           refine Ch.oo rfl rfl rfl (ok_int rfl (vl rfl) (vl rfl) rfl) ?_
           refine Ch.oo rfl rfl rfl (ok_fieldAddr rfl fo26_9 (vl rfl) rfl) ?_
           refine Ch.oo rfl rfl rfl (ok_load1 rfl one9 (vl rfl)) ?_
           refine Ch.oo rfl rfl rfl (ok_eqs rfl (vl rfl) (vl rfl)) ?_
           iterate 3 refine Ch.as rfl rfl rfl rfl rfl ?_
           refine Ch.nil (Fin.go ?_)
           refine Tr.w4 1 3 4 5 rfl rfl rfl rfl ?_
           refine Tr.seq (Tr.reg0 ?_)
           refine Ch.as rfl rfl rfl rfl rfl ?_
           refine Ch.nil (Fin.go ?_)
           refine Tr.cutk [] [(6, bool (contentF f))] (True) ?_ (fun h11 => ?_)
           ·
            refine Tr.seq (Tr.reg0 ?_)
            refine Ch.oo rfl rfl rfl (ok_fieldAddr rfl fo26_5 (vl rfl) rfl) ?_
            refine Ch.oo rfl rfl rfl (ok_load1 rfl one3 (vl rfl)) ?_
            refine Ch.nil (Fin.go (Tr.block (Tr.seq (Tr.seq (Tr.reg0 ?_)))))
            refine Ch.oo rfl rfl rfl (ok_int rfl (vl rfl) (vl rfl) rfl) ?_
            refine Ch.as rfl rfl rfl rfl rfl ?_
            refine Ch.nil (Fin.go ?_)
            refine Tr.cn rfl (fun h12 q12 => ?_) (fun h12 q12 => ?_)
            ·
             refine Tr.skip (Fin.go ?_)
             refine Tr.cond rfl (fun _ => ?_) (fun h => nomatch h12.symm.trans h)
             refine Tr.reg0 ?_
             refine Ch.oo rfl rfl rfl (ok_fieldAddr rfl fo26_7 (vl rfl) rfl) ?_
             refine Ch.oo rfl rfl rfl (ok_loadA rfl agg24 sz24 (vl rfl) rfl rfl) ?_
             refine Ch.oo rfl rfl rfl (ok_call rfl (w_RValid) ⟨ke rfl, trivial⟩) ?_
             refine Ch.mv rfl rfl rfl rfl rfl ?_
             refine Ch.cs 75 rfl (fun h13 q13 => ?_) (fun h13 q13 => ?_)
             ·
              refine Ch.ym h13 rfl rfl rfl rfl rfl rfl rfl ?_
              refine Ch.oo rfl rfl rfl (ok_pick_t rfl (vl rfl) h13 (vl rfl)) ?_
              refine Ch.mv rfl rfl rfl rfl rfl ?_
              refine Ch.cs 78 rfl (fun h14 q14 => ?_) (fun h14 q14 => ?_)
              ·
               refine Ch.ym h14 rfl rfl rfl rfl rfl rfl rfl ?_
               refine Ch.oo rfl rfl rfl (ok_pick_t rfl (vl rfl) h14 (vl rfl)) ?_
               refine Ch.as rfl rfl rfl rfl rfl ?_
               refine Ch.nil (Fin.block ?_)
               exact Fin.fam_same () (by simp_all) ⟨⟨_, rfl, bool_eq (by unfold contentF bareF; first | (simp_all; done) | (simp_all; omega))⟩, trivial⟩
              ·
               refine Ch.nt h14 rfl rfl rfl rfl rfl ?_
               refine Ch.oo rfl rfl rfl (ok_pick_f rfl (vl rfl) h14 (vl rfl)) ?_
               refine Ch.as rfl rfl rfl rfl rfl ?_
               refine Ch.nil (Fin.block ?_)
               exact Fin.fam_same () (by simp_all) ⟨⟨_, rfl, bool_eq (by unfold contentF bareF; first | (simp_all; done) | (simp_all; omega))⟩, trivial⟩
             ·
              refine Ch.nt h13 rfl rfl rfl rfl rfl ?_
              refine Ch.oo rfl rfl rfl (ok_pick_f rfl (vl rfl) h13 (vl rfl)) ?_
              refine Ch.mv rfl rfl rfl rfl rfl ?_
              refine Ch.nd rfl rfl rfl rfl rfl rfl ?_
              refine Ch.oo rfl rfl rfl (ok_pick_f rfl (vl rfl) rfl (vl rfl)) ?_
              refine Ch.as rfl rfl rfl rfl rfl ?_
              refine Ch.nil (Fin.block ?_)
              exact Fin.fam_same () (by simp_all) ⟨⟨_, rfl, bool_eq (by unfold contentF bareF; first | (simp_all; done) | (simp_all; omega))⟩, trivial⟩
            ·
             refine Tr.reg0 ?_
             refine Ch.oo rfl rfl rfl (ok_int rfl (vl rfl) (vl rfl) rfl) ?_
             refine Ch.as rfl rfl rfl rfl rfl ?_
             refine Ch.nil (Fin.go ?_)
             refine Tr.cn rfl (fun h15 q15 => ?_) (fun h15 q15 => ?_)
             ·
              refine Tr.reg0 ?_
              refine Ch.oo rfl rfl rfl (ok_fieldAddr rfl fo26_7 (vl rfl) rfl) ?_
              refine Ch.oo rfl rfl rfl (ok_loadA rfl agg24 sz24 (vl rfl) rfl rfl) ?_
              refine Ch.oo rfl rfl rfl (ok_call rfl (w_RValid) ⟨ke rfl, trivial⟩) ?_
              refine Ch.mv rfl rfl rfl rfl rfl ?_
              refine Ch.cs 75 rfl (fun h16 q16 => ?_) (fun h16 q16 => ?_)
              ·
               refine Ch.ym h16 rfl rfl rfl rfl rfl rfl rfl ?_
               refine Ch.oo rfl rfl rfl (ok_pick_t rfl (vl rfl) h16 (vl rfl)) ?_
               refine Ch.mv rfl rfl rfl rfl rfl ?_
               refine Ch.cs 78 rfl (fun h17 q17 => ?_) (fun h17 q17 => ?_)
               ·
                refine Ch.ym h17 rfl rfl rfl rfl rfl rfl rfl ?_
                refine Ch.oo rfl rfl rfl (ok_pick_t rfl (vl rfl) h17 (vl rfl)) ?_
                refine Ch.as rfl rfl rfl rfl rfl ?_
                refine Ch.nil (Fin.block ?_)
                exact Fin.fam_same () (by simp_all) ⟨⟨_, rfl, bool_eq (by unfold contentF bareF; first | (simp_all; done) | (simp_all; omega))⟩, trivial⟩
               ·
                refine Ch.nt h17 rfl rfl rfl rfl rfl ?_
                refine Ch.oo rfl rfl rfl (ok_pick_f rfl (vl rfl) h17 (vl rfl)) ?_
                refine Ch.as rfl rfl rfl rfl rfl ?_
                refine Ch.nil (Fin.block ?_)
                exact Fin.fam_same () (by simp_all) ⟨⟨_, rfl, bool_eq (by unfold contentF bareF; first | (simp_all; done) | (simp_all; omega))⟩, trivial⟩
              ·
               refine Ch.nt h16 rfl rfl rfl rfl rfl ?_
               refine Ch.oo rfl rfl rfl (ok_pick_f rfl (vl rfl) h16 (vl rfl)) ?_
               refine Ch.mv rfl rfl rfl rfl rfl ?_
               refine Ch.nd rfl rfl rfl rfl rfl rfl ?_
               refine Ch.oo rfl rfl rfl (ok_pick_f rfl (vl rfl) rfl (vl rfl)) ?_
               refine Ch.as rfl rfl rfl rfl rfl ?_
               refine Ch.nil (Fin.block ?_)
               exact Fin.fam_same () (by simp_all) ⟨⟨_, rfl, bool_eq (by unfold contentF bareF; first | (simp_all; done) | (simp_all; omega))⟩, trivial⟩
             ·
              refine Tr.seq (Tr.reg0 ?_)
              refine Ch.oo rfl rfl rfl (ok_int rfl (vl rfl) (vl rfl) rfl) ?_
              refine Ch.as rfl rfl rfl rfl rfl ?_
              refine Ch.nil (Fin.go ?_)
              refine Tr.cn rfl (fun h18 q18 => ?_) (fun h18 q18 => ?_)
              ·
               refine Tr.reg0 ?_
               refine Ch.mv rfl rfl rfl rfl rfl ?_
               refine Ch.mv rfl rfl rfl rfl rfl ?_
               refine Ch.cs 84 rfl (fun h19 q19 => ?_) (fun h19 q19 => ?_)
               ·
                refine Ch.y h19 rfl rfl rfl rfl rfl (ok_fieldAddr rfl fo26_8 (vl rfl) rfl) ?_
                refine Ch.y h19 rfl rfl rfl rfl rfl (ok_load1 rfl one3 (vl rfl)) ?_
                refine Ch.y h19 rfl rfl rfl rfl rfl (ok_int rfl (vl rfl) (vl rfl) rfl) ?_
                refine Ch.oo rfl rfl rfl (ok_pick_t rfl (vl rfl) h19 (vl rfl)) ?_
                refine Ch.mv rfl rfl rfl rfl rfl ?_
                refine Ch.cs 89 rfl (fun h20 q20 => ?_) (fun h20 q20 => ?_)
                ·
                 refine Ch.y h20 rfl rfl rfl rfl rfl (ok_fieldAddr rfl fo26_8 (vl rfl) rfl) ?_
                 refine Ch.y h20 rfl rfl rfl rfl rfl (ok_load1 rfl one3 (vl rfl)) ?_
                 refine Ch.y h20 rfl rfl rfl rfl rfl (ok_int rfl (vl rfl) (vl rfl) rfl) ?_
                 refine Ch.oo rfl rfl rfl (ok_pick_t rfl (vl rfl) h20 (vl rfl)) ?_
                 refine Ch.mv rfl rfl rfl rfl rfl ?_
                 refine Ch.cs 94 rfl (fun h21 q21 => ?_) (fun h21 q21 => ?_)
                 ·
                  refine Ch.ym h21 rfl rfl rfl rfl rfl rfl rfl ?_
                  refine Ch.oo rfl rfl rfl (ok_pick_t rfl (vl rfl) h21 (vl rfl)) ?_
                  refine Ch.as rfl rfl rfl rfl rfl ?_
                  refine Ch.nil (Fin.block ?_)
                  exact Fin.fam_same () (by simp_all) ⟨⟨_, rfl, bool_eq (by unfold contentF bareF; first | (simp_all; done) | (simp_all; omega))⟩, trivial⟩
                 ·
                  refine Ch.nt h21 rfl rfl rfl rfl rfl ?_
                  refine Ch.oo rfl rfl rfl (ok_pick_f rfl (vl rfl) h21 (vl rfl)) ?_
                  refine Ch.as rfl rfl rfl rfl rfl ?_
                  refine Ch.nil (Fin.block ?_)
                  exact Fin.fam_same () (by simp_all) ⟨⟨_, rfl, bool_eq (by unfold contentF bareF; first | (simp_all; done) | (simp_all; omega))⟩, trivial⟩
                ·
                 iterate 3 refine Ch.nt h20 rfl rfl rfl rfl rfl ?_
                 refine Ch.oo rfl rfl rfl (ok_pick_f rfl (vl rfl) h20 (vl rfl)) ?_
                 refine Ch.mv rfl rfl rfl rfl rfl ?_
                 refine Ch.nd rfl rfl rfl rfl rfl rfl ?_
                 refine Ch.oo rfl rfl rfl (ok_pick_f rfl (vl rfl) rfl (vl rfl)) ?_
                 refine Ch.as rfl rfl rfl rfl rfl ?_
                 refine Ch.nil (Fin.block ?_)
                 exact Fin.fam_same () (by simp_all) ⟨⟨_, rfl, bool_eq (by unfold contentF bareF; first | (simp_all; done) | (simp_all; omega))⟩, trivial⟩
               ·
                iterate 3 refine Ch.nt h19 rfl rfl rfl rfl rfl ?_
                refine Ch.oo rfl rfl rfl (ok_pick_f rfl (vl rfl) h19 (vl rfl)) ?_
                refine Ch.mv rfl rfl rfl rfl rfl ?_
                iterate 3 refine Ch.nd rfl rfl rfl rfl rfl rfl ?_
                refine Ch.oo rfl rfl rfl (ok_pick_f rfl (vl rfl) rfl (vl rfl)) ?_
                refine Ch.mv rfl rfl rfl rfl rfl ?_
                refine Ch.nd rfl rfl rfl rfl rfl rfl ?_
                refine Ch.oo rfl rfl rfl (ok_pick_f rfl (vl rfl) rfl (vl rfl)) ?_
                refine Ch.as rfl rfl rfl rfl rfl ?_
                refine Ch.nil (Fin.block ?_)
                exact Fin.fam_same () (by simp_all) ⟨⟨_, rfl, bool_eq (by unfold contentF bareF; first | (simp_all; done) | (simp_all; omega))⟩, trivial⟩
              ·
               refine Tr.seq (Tr.reg0 ?_)
               refine Ch.oo rfl rfl rfl (ok_int rfl (vl rfl) (vl rfl) rfl) ?_
               refine Ch.as rfl rfl rfl rfl rfl ?_
               refine Ch.nil (Fin.go ?_)
               refine Tr.w7 1 3 4 5 6 68 97 rfl rfl rfl rfl rfl rfl rfl ?_
               refine Tr.cn rfl (fun h22 q22 => ?_) (fun h22 q22 => ?_)
               ·
                refine Tr.reg0 ?_
                refine Ch.oo rfl rfl rfl (ok_fieldAddr rfl fo26_7 (vl rfl) rfl) ?_
                refine Ch.oo rfl rfl rfl (ok_loadA rfl agg24 sz24 (vl rfl) rfl rfl) ?_
                refine Ch.oo rfl rfl rfl (ok_call rfl (w_Signature) ⟨ke rfl, trivial⟩) ?_
                refine Ch.mv rfl rfl rfl rfl rfl ?_
                refine Ch.cs 102 rfl (fun h23 q23 => ?_) (fun h23 q23 => ?_)
                ·
                 refine Ch.y h23 rfl rfl rfl rfl rfl (ok_fieldAddr rfl fo26_8 (vl rfl) rfl) ?_
                 refine Ch.y h23 rfl rfl rfl rfl rfl (ok_load1 rfl one3 (vl rfl)) ?_
                 refine Ch.y h23 rfl rfl rfl rfl rfl (ok_int rfl (vl rfl) (vl rfl) rfl) ?_
                 refine Ch.oo rfl rfl rfl (ok_pick_t rfl (vl rfl) h23 (vl rfl)) ?_
                 refine Ch.mv rfl rfl rfl rfl rfl ?_
                 refine Ch.cs 107 rfl (fun h24 q24 => ?_) (fun h24 q24 => ?_)
                 ·
                  refine Ch.y h24 rfl rfl rfl rfl rfl (ok_fieldAddr rfl fo26_8 (vl rfl) rfl) ?_
                  refine Ch.y h24 rfl rfl rfl rfl rfl (ok_load1 rfl one3 (vl rfl)) ?_
                  refine Ch.y h24 rfl rfl rfl rfl rfl (ok_int rfl (vl rfl) (vl rfl) rfl) ?_
                  refine Ch.oo rfl rfl rfl (ok_pick_t rfl (vl rfl) h24 (vl rfl)) ?_
                  refine Ch.mv rfl rfl rfl rfl rfl ?_
                  refine Ch.cs 112 rfl (fun h25 q25 => ?_) (fun h25 q25 => ?_)
                  ·
                   refine Ch.ym h25 rfl rfl rfl rfl rfl rfl rfl ?_
                   refine Ch.oo rfl rfl rfl (ok_pick_t rfl (vl rfl) h25 (vl rfl)) ?_
                   refine Ch.as rfl rfl rfl rfl rfl ?_
                   refine Ch.nil (Fin.block ?_)
                   exact Fin.fam_same () (by simp_all) ⟨⟨_, rfl, bool_eq (by unfold contentF bareF; first | (simp_all; done) | (simp_all; omega))⟩, trivial⟩
                  ·
                   refine Ch.nt h25 rfl rfl rfl rfl rfl ?_
                   refine Ch.oo rfl rfl rfl (ok_pick_f rfl (vl rfl) h25 (vl rfl)) ?_
                   refine Ch.as rfl rfl rfl rfl rfl ?_
                   refine Ch.nil (Fin.block ?_)
                   exact Fin.fam_same () (by simp_all) ⟨⟨_, rfl, bool_eq (by unfold contentF bareF; first | (simp_all; done) | (simp_all; omega))⟩, trivial⟩
                 ·
                  iterate 3 refine Ch.nt h24 rfl rfl rfl rfl rfl ?_
                  refine Ch.oo rfl rfl rfl (ok_pick_f rfl (vl rfl) h24 (vl rfl)) ?_
                  refine Ch.mv rfl rfl rfl rfl rfl ?_
                  refine Ch.nd rfl rfl rfl rfl rfl rfl ?_
                  refine Ch.oo rfl rfl rfl (ok_pick_f rfl (vl rfl) rfl (vl rfl)) ?_
                  refine Ch.as rfl rfl rfl rfl rfl ?_
                  refine Ch.nil (Fin.block ?_)
                  exact Fin.fam_same () (by simp_all) ⟨⟨_, rfl, bool_eq (by unfold contentF bareF; first | (simp_all; done) | (simp_all; omega))⟩, trivial⟩
                ·
                 iterate 3 refine Ch.nt h23 rfl rfl rfl rfl rfl ?_
                 refine Ch.oo rfl rfl rfl (ok_pick_f rfl (vl rfl) h23 (vl rfl)) ?_
                 refine Ch.mv rfl rfl rfl rfl rfl ?_
                 iterate 3 refine Ch.nd rfl rfl rfl rfl rfl rfl ?_
                 refine Ch.oo rfl rfl rfl (ok_pick_f rfl (vl rfl) rfl (vl rfl)) ?_
                 refine Ch.mv rfl rfl rfl rfl rfl ?_
                 refine Ch.nd rfl rfl rfl rfl rfl rfl ?_
                 refine Ch.oo rfl rfl rfl (ok_pick_f rfl (vl rfl) rfl (vl rfl)) ?_
                 refine Ch.as rfl rfl rfl rfl rfl ?_
                 refine Ch.nil (Fin.block ?_)
                 exact Fin.fam_same () (by simp_all) ⟨⟨_, rfl, bool_eq (by unfold contentF bareF; first | (simp_all; done) | (simp_all; omega))⟩, trivial⟩
               ·
                refine Tr.seq (Tr.seq (Tr.reg0 ?_))
                refine Ch.oo rfl rfl rfl (ok_int rfl (vl rfl) (vl rfl) rfl) ?_
                refine Ch.as rfl rfl rfl rfl rfl ?_
                refine Ch.nil (Fin.go ?_)
                refine Tr.cn rfl (fun h26 q26 => ?_) (fun h26 q26 => ?_)
                ·
                 refine Tr.skip (Fin.go ?_)
                 refine Tr.cond rfl (fun _ => ?_) (fun h => nomatch h26.symm.trans h)
                 refine Tr.reg0 ?_
                 refine Ch.mv rfl rfl rfl rfl rfl ?_
                 refine Ch.mv rfl rfl rfl rfl rfl ?_
                 refine Ch.cs 119 rfl (fun h27 q27 => ?_) (fun h27 q27 => ?_)
                 ·
                  refine Ch.y h27 rfl rfl rfl rfl rfl (ok_fieldAddr rfl fo26_8 (vl rfl) rfl) ?_
                  refine Ch.y h27 rfl rfl rfl rfl rfl (ok_load1 rfl one3 (vl rfl)) ?_
                  refine Ch.y h27 rfl rfl rfl rfl rfl (ok_int rfl (vl rfl) (vl rfl) rfl) ?_
                  refine Ch.oo rfl rfl rfl (ok_pick_t rfl (vl rfl) h27 (vl rfl)) ?_
                  refine Ch.mv rfl rfl rfl rfl rfl ?_
                  refine Ch.cs 124 rfl (fun h28 q28 => ?_) (fun h28 q28 => ?_)
                  ·
                   refine Ch.y h28 rfl rfl rfl rfl rfl (ok_fieldAddr rfl fo26_8 (vl rfl) rfl) ?_
                   refine Ch.y h28 rfl rfl rfl rfl rfl (ok_load1 rfl one3 (vl rfl)) ?_
                   refine Ch.y h28 rfl rfl rfl rfl rfl (ok_int rfl (vl rfl) (vl rfl) rfl) ?_
                   refine Ch.oo rfl rfl rfl (ok_pick_t rfl (vl rfl) h28 (vl rfl)) ?_
                   refine Ch.mv rfl rfl rfl rfl rfl ?_
                   refine Ch.cs 129 rfl (fun h29 q29 => ?_) (fun h29 q29 => ?_)
                   ·
                    refine Ch.ym h29 rfl rfl rfl rfl rfl rfl rfl ?_
                    refine Ch.oo rfl rfl rfl (ok_pick_t rfl (vl rfl) h29 (vl rfl)) ?_
                    refine Ch.as rfl rfl rfl rfl rfl ?_
                    refine Ch.nil (Fin.block ?_)
                    exact Fin.fam_same () (by simp_all) ⟨⟨_, rfl, bool_eq (by unfold contentF bareF; first | (simp_all; done) | (simp_all; omega))⟩, trivial⟩
                   ·
                    refine Ch.nt h29 rfl rfl rfl rfl rfl ?_
                    refine Ch.oo rfl rfl rfl (ok_pick_f rfl (vl rfl) h29 (vl rfl)) ?_
                    refine Ch.as rfl rfl rfl rfl rfl ?_
                    refine Ch.nil (Fin.block ?_)
                    exact Fin.fam_same () (by simp_all) ⟨⟨_, rfl, bool_eq (by unfold contentF bareF; first | (simp_all; done) | (simp_all; omega))⟩, trivial⟩
                  ·
                   iterate 3 refine Ch.nt h28 rfl rfl rfl rfl rfl ?_
                   refine Ch.oo rfl rfl rfl (ok_pick_f rfl (vl rfl) h28 (vl rfl)) ?_
                   refine Ch.mv rfl rfl rfl rfl rfl ?_
                   refine Ch.nd rfl rfl rfl rfl rfl rfl ?_
                   refine Ch.oo rfl rfl rfl (ok_pick_f rfl (vl rfl) rfl (vl rfl)) ?_
                   refine Ch.as rfl rfl rfl rfl rfl ?_
                   refine Ch.nil (Fin.block ?_)
                   exact Fin.fam_same () (by simp_all) ⟨⟨_, rfl, bool_eq (by unfold contentF bareF; first | (simp_all; done) | (simp_all; omega))⟩, trivial⟩
                 ·
                  iterate 3 refine Ch.nt h27 rfl rfl rfl rfl rfl ?_
                  refine Ch.oo rfl rfl rfl (ok_pick_f rfl (vl rfl) h27 (vl rfl)) ?_
                  refine Ch.mv rfl rfl rfl rfl rfl ?_
                  iterate 3 refine Ch.nd rfl rfl rfl rfl rfl rfl ?_
                  refine Ch.oo rfl rfl rfl (ok_pick_f rfl (vl rfl) rfl (vl rfl)) ?_
                  refine Ch.mv rfl rfl rfl rfl rfl ?_
                  refine Ch.nd rfl rfl rfl rfl rfl rfl ?_
                  refine Ch.oo rfl rfl rfl (ok_pick_f rfl (vl rfl) rfl (vl rfl)) ?_
                  refine Ch.as rfl rfl rfl rfl rfl ?_
                  refine Ch.nil (Fin.block ?_)
                  exact Fin.fam_same () (by simp_all) ⟨⟨_, rfl, bool_eq (by unfold contentF bareF; first | (simp_all; done) | (simp_all; omega))⟩, trivial⟩
                ·
                 refine Tr.reg0 ?_
                 refine Ch.oo rfl rfl rfl (ok_int rfl (vl rfl) (vl rfl) rfl) ?_
                 refine Ch.as rfl rfl rfl rfl rfl ?_
                 refine Ch.nil (Fin.go ?_)
                 refine Tr.cn rfl (fun h30 q30 => ?_) (fun h30 q30 => ?_)
                 ·
                  refine Tr.reg0 ?_
                  refine Ch.mv rfl rfl rfl rfl rfl ?_
                  refine Ch.mv rfl rfl rfl rfl rfl ?_
                  refine Ch.cs 119 rfl (fun h31 q31 => ?_) (fun h31 q31 => ?_)
                  ·
                   refine Ch.y h31 rfl rfl rfl rfl rfl (ok_fieldAddr rfl fo26_8 (vl rfl) rfl) ?_
                   refine Ch.y h31 rfl rfl rfl rfl rfl (ok_load1 rfl one3 (vl rfl)) ?_
                   refine Ch.y h31 rfl rfl rfl rfl rfl (ok_int rfl (vl rfl) (vl rfl) rfl) ?_
                   refine Ch.oo rfl rfl rfl (ok_pick_t rfl (vl rfl) h31 (vl rfl)) ?_
                   refine Ch.mv rfl rfl rfl rfl rfl ?_
                   refine Ch.cs 124 rfl (fun h32 q32 => ?_) (fun h32 q32 => ?_)
                   ·
                    refine Ch.y h32 rfl rfl rfl rfl rfl (ok_fieldAddr rfl fo26_8 (vl rfl) rfl) ?_
                    refine Ch.y h32 rfl rfl rfl rfl rfl (ok_load1 rfl one3 (vl rfl)) ?_
                    refine Ch.y h32 rfl rfl rfl rfl rfl (ok_int rfl (vl rfl) (vl rfl) rfl) ?_
                    refine Ch.oo rfl rfl rfl (ok_pick_t rfl (vl rfl) h32 (vl rfl)) ?_
                    refine Ch.mv rfl rfl rfl rfl rfl ?_
                    refine Ch.cs 129 rfl (fun h33 q33 => ?_) (fun h33 q33 => ?_)
                    ·
                     refine Ch.ym h33 rfl rfl rfl rfl rfl rfl rfl ?_
                     refine Ch.oo rfl rfl rfl (ok_pick_t rfl (vl rfl) h33 (vl rfl)) ?_
                     refine Ch.as rfl rfl rfl rfl rfl ?_
                     refine Ch.nil (Fin.block ?_)
                     exact Fin.fam_same () (by simp_all) ⟨⟨_, rfl, bool_eq (by unfold contentF bareF; first | (simp_all; done) | (simp_all; omega))⟩, trivial⟩
                    ·
                     refine Ch.nt h33 rfl rfl rfl rfl rfl ?_
                     refine Ch.oo rfl rfl rfl (ok_pick_f rfl (vl rfl) h33 (vl rfl)) ?_
                     refine Ch.as rfl rfl rfl rfl rfl ?_
                     refine Ch.nil (Fin.block ?_)
                     exact Fin.fam_same () (by simp_all) ⟨⟨_, rfl, bool_eq (by unfold contentF bareF; first | (simp_all; done) | (simp_all; omega))⟩, trivial⟩
                   ·
                    iterate 3 refine Ch.nt h32 rfl rfl rfl rfl rfl ?_
                    refine Ch.oo rfl rfl rfl (ok_pick_f rfl (vl rfl) h32 (vl rfl)) ?_
                    refine Ch.mv rfl rfl rfl rfl rfl ?_
                    refine Ch.nd rfl rfl rfl rfl rfl rfl ?_
                    refine Ch.oo rfl rfl rfl (ok_pick_f rfl (vl rfl) rfl (vl rfl)) ?_
                    refine Ch.as rfl rfl rfl rfl rfl ?_
                    refine Ch.nil (Fin.block ?_)
                    exact Fin.fam_same () (by simp_all) ⟨⟨_, rfl, bool_eq (by unfold contentF bareF; first | (simp_all; done) | (simp_all; omega))⟩, trivial⟩
                  ·
                   iterate 3 refine Ch.nt h31 rfl rfl rfl rfl rfl ?_
                   refine Ch.oo rfl rfl rfl (ok_pick_f rfl (vl rfl) h31 (vl rfl)) ?_
                   refine Ch.mv rfl rfl rfl rfl rfl ?_
                   iterate 3 refine Ch.nd rfl rfl rfl rfl rfl rfl ?_
                   refine Ch.oo rfl rfl rfl (ok_pick_f rfl (vl rfl) rfl (vl rfl)) ?_
                   refine Ch.mv rfl rfl rfl rfl rfl ?_
                   refine Ch.nd rfl rfl rfl rfl rfl rfl ?_
                   refine Ch.oo rfl rfl rfl (ok_pick_f rfl (vl rfl) rfl (vl rfl)) ?_
                   refine Ch.as rfl rfl rfl rfl rfl ?_
                   refine Ch.nil (Fin.block ?_)
                   exact Fin.fam_same () (by simp_all) ⟨⟨_, rfl, bool_eq (by unfold contentF bareF; first | (simp_all; done) | (simp_all; omega))⟩, trivial⟩
                 ·
                  refine Tr.seq (Tr.reg0 ?_)
                  refine Ch.oo rfl rfl rfl (ok_int rfl (vl rfl) (vl rfl) rfl) ?_
                  refine Ch.as rfl rfl rfl rfl rfl ?_
                  refine Ch.nil (Fin.go ?_)
                  refine Tr.cn rfl (fun h34 q34 => ?_) (fun h34 q34 => ?_)
                  ·
                   refine Tr.reg0 ?_
                   refine Ch.mv rfl rfl rfl rfl rfl ?_
                   refine Ch.mv rfl rfl rfl rfl rfl ?_
                   refine Ch.cs 135 rfl (fun h35 q35 => ?_) (fun h35 q35 => ?_)
                   ·
                    refine Ch.y h35 rfl rfl rfl rfl rfl (ok_fieldAddr rfl fo26_8 (vl rfl) rfl) ?_
                    refine Ch.y h35 rfl rfl rfl rfl rfl (ok_load1 rfl one3 (vl rfl)) ?_
                    refine Ch.y h35 rfl rfl rfl rfl rfl (ok_int rfl (vl rfl) (vl rfl) rfl) ?_
                    refine Ch.oo rfl rfl rfl (ok_pick_t rfl (vl rfl) h35 (vl rfl)) ?_
                    refine Ch.mv rfl rfl rfl rfl rfl ?_
                    refine Ch.cs 140 rfl (fun h36 q36 => ?_) (fun h36 q36 => ?_)
                    ·
                     refine Ch.y h36 rfl rfl rfl rfl rfl (ok_fieldAddr rfl fo26_8 (vl rfl) rfl) ?_
                     refine Ch.y h36 rfl rfl rfl rfl rfl (ok_load1 rfl one3 (vl rfl)) ?_
                     refine Ch.y h36 rfl rfl rfl rfl rfl (ok_int rfl (vl rfl) (vl rfl) rfl) ?_
                     refine Ch.oo rfl rfl rfl (ok_pick_t rfl (vl rfl) h36 (vl rfl)) ?_
                     refine Ch.mv rfl rfl rfl rfl rfl ?_
                     refine Ch.cs 145 rfl (fun h37 q37 => ?_) (fun h37 q37 => ?_)
                     ·
                      refine Ch.ym h37 rfl rfl rfl rfl rfl rfl rfl ?_
                      refine Ch.oo rfl rfl rfl (ok_pick_t rfl (vl rfl) h37 (vl rfl)) ?_
                      refine Ch.as rfl rfl rfl rfl rfl ?_
                      refine Ch.nil (Fin.block ?_)
                      exact Fin.fam_same () (by simp_all) ⟨⟨_, rfl, bool_eq (by unfold contentF bareF; first | (simp_all; done) | (simp_all; omega))⟩, trivial⟩
                     ·
                      refine Ch.nt h37 rfl rfl rfl rfl rfl ?_
                      refine Ch.oo rfl rfl rfl (ok_pick_f rfl (vl rfl) h37 (vl rfl)) ?_
                      refine Ch.as rfl rfl rfl rfl rfl ?_
                      refine Ch.nil (Fin.block ?_)
                      exact Fin.fam_same () (by simp_all) ⟨⟨_, rfl, bool_eq (by unfold contentF bareF; first | (simp_all; done) | (simp_all; omega))⟩, trivial⟩
                    ·
                     iterate 3 refine Ch.nt h36 rfl rfl rfl rfl rfl ?_
                     refine Ch.oo rfl rfl rfl (ok_pick_f rfl (vl rfl) h36 (vl rfl)) ?_
                     refine Ch.mv rfl rfl rfl rfl rfl ?_
                     refine Ch.nd rfl rfl rfl rfl rfl rfl ?_
                     refine Ch.oo rfl rfl rfl (ok_pick_f rfl (vl rfl) rfl (vl rfl)) ?_
                     refine Ch.as rfl rfl rfl rfl rfl ?_
                     refine Ch.nil (Fin.block ?_)
                     exact Fin.fam_same () (by simp_all) ⟨⟨_, rfl, bool_eq (by unfold contentF bareF; first | (simp_all; done) | (simp_all; omega))⟩, trivial⟩
                   ·
                    iterate 3 refine Ch.nt h35 rfl rfl rfl rfl rfl ?_
                    refine Ch.oo rfl rfl rfl (ok_pick_f rfl (vl rfl) h35 (vl rfl)) ?_
                    refine Ch.mv rfl rfl rfl rfl rfl ?_
                    iterate 3 refine Ch.nd rfl rfl rfl rfl rfl rfl ?_
                    refine Ch.oo rfl rfl rfl (ok_pick_f rfl (vl rfl) rfl (vl rfl)) ?_
                    refine Ch.mv rfl rfl rfl rfl rfl ?_
                    refine Ch.nd rfl rfl rfl rfl rfl rfl ?_
                    refine Ch.oo rfl rfl rfl (ok_pick_f rfl (vl rfl) rfl (vl rfl)) ?_
                    refine Ch.as rfl rfl rfl rfl rfl ?_
                    refine Ch.nil (Fin.block ?_)
                    exact Fin.fam_same () (by simp_all) ⟨⟨_, rfl, bool_eq (by unfold contentF bareF; first | (simp_all; done) | (simp_all; omega))⟩, trivial⟩
                  ·
                   refine Tr.seq (Tr.reg0 ?_)
                   refine Ch.oo rfl rfl rfl (ok_int rfl (vl rfl) (vl rfl) rfl) ?_
                   refine Ch.as rfl rfl rfl rfl rfl ?_
                   refine Ch.nil (Fin.go ?_)
                   refine Tr.w5 1 3 4 6 148 rfl rfl rfl rfl rfl ?_
                   refine Tr.cn rfl (fun h38 q38 => ?_) (fun h38 q38 => ?_)
                   ·
                    refine Tr.reg0 ?_
                    refine Ch.mv rfl rfl rfl rfl rfl ?_
                    refine Ch.mv rfl rfl rfl rfl rfl ?_
                    refine Ch.cs 151 rfl (fun h39 q39 => ?_) (fun h39 q39 => ?_)
                    ·
                     refine Ch.ym h39 rfl rfl rfl rfl rfl rfl rfl ?_
                     refine Ch.oo rfl rfl rfl (ok_pick_t rfl (vl rfl) h39 (vl rfl)) ?_
                     refine Ch.mv rfl rfl rfl rfl rfl ?_
                     refine Ch.cs 154 rfl (fun h40 q40 => ?_) (fun h40 q40 => ?_)
                     ·
                      refine Ch.y h40 rfl rfl rfl rfl rfl (ok_fieldAddr rfl fo26_9 (vl rfl) rfl) ?_
                      refine Ch.y h40 rfl rfl rfl rfl rfl (ok_load1 rfl one9 (vl rfl)) ?_
                      refine Ch.y h40 rfl rfl rfl rfl rfl (ok_call rfl (w_RName) ⟨ke rfl, trivial⟩) ?_
                      refine Ch.oo rfl rfl rfl (ok_pick_t rfl (vl rfl) h40 (vl rfl)) ?_
                      refine Ch.as rfl rfl rfl rfl rfl ?_
                      refine Ch.nil (Fin.block ?_)
                      exact Fin.fam_same () (by simp_all) ⟨⟨_, rfl, bool_eq (by unfold contentF bareF; first | (simp_all; done) | (simp_all; omega))⟩, trivial⟩
                     ·
                      iterate 3 refine Ch.nt h40 rfl rfl rfl rfl rfl ?_
                      refine Ch.oo rfl rfl rfl (ok_pick_f rfl (vl rfl) h40 (vl rfl)) ?_
                      refine Ch.as rfl rfl rfl rfl rfl ?_
                      refine Ch.nil (Fin.block ?_)
                      exact Fin.fam_same () (by simp_all) ⟨⟨_, rfl, bool_eq (by unfold contentF bareF; first | (simp_all; done) | (simp_all; omega))⟩, trivial⟩
                    ·
                     refine Ch.nt h39 rfl rfl rfl rfl rfl ?_
                     refine Ch.oo rfl rfl rfl (ok_pick_f rfl (vl rfl) h39 (vl rfl)) ?_
                     refine Ch.mv rfl rfl rfl rfl rfl ?_
                     iterate 3 refine Ch.nd rfl rfl rfl rfl rfl rfl ?_
                     refine Ch.oo rfl rfl rfl (ok_pick_f rfl (vl rfl) rfl (vl rfl)) ?_
                     refine Ch.as rfl rfl rfl rfl rfl ?_
                     refine Ch.nil (Fin.block ?_)
                     exact Fin.fam_same () (by simp_all) ⟨⟨_, rfl, bool_eq (by unfold contentF bareF; first | (simp_all; done) | (simp_all; omega))⟩, trivial⟩
                   ·
                    refine Tr.skip (Fin.block ?_)
                    exact Fin.fam_same () (by simp_all) ⟨⟨_, rfl, bool_eq (by unfold contentF bareF; first | (simp_all; done) | (simp_all; omega))⟩, trivial⟩
           ·
            refine Tr.seq (Tr.seq (Tr.reg0 ?_))
            refine Ch.mv rfl rfl rfl rfl rfl ?_
            refine Ch.oo rfl rfl rfl (ok_not rfl (vl rfl)) ?_
            refine Ch.nil (Fin.go ?_)
            refine Tr.cn rfl (fun h41 q41 => ?_) (fun h41 q41 => ?_)
            ·
             refine Tr.seq (Tr.reg0 ?_)
             refine Ch.as rfl rfl rfl rfl rfl ?_
             refine Ch.nil (Fin.go (Tr.ret ?_))
             refine Fin.then_ret ?_
             refine Fin.ret1 rfl (OutW.bse _ _) rfl ?_
             · refine int_eq ?_; unfold checkF whereF whenF; first | (simp_all; done) | (simp_all; omega)
            ·
             refine Tr.skip (Fin.go (Tr.seq (Tr.reg0 ?_)))
             refine Ch.as rfl rfl rfl rfl rfl ?_
             refine Ch.nil (Fin.go (Tr.ret ?_))
             refine Fin.ret1 rfl (OutW.bse _ _) rfl ?_
             · refine int_eq ?_; unfold checkF whereF whenF; first | (simp_all; done) | (simp_all; omega)
/-- The first of some numbers that is not 0. -/
def orL : List Int → Int
  | [] => 0
  | a :: l => if a = 0 then orL l else a
theorem orL_orF : ∀ l, orF l = orL l
  | [] => rfl
  | a :: l => by
    have ih : (l.find? fun x => x != 0).getD 0 = orL l := orL_orF l
    show ((a :: l).find? fun x => x != 0).getD 0 = if a = 0 then orL l else a
    by_cases h : a = 0
    · rw [List.find?_cons_of_neg (by simp [h]), if_pos h]; exact ih
    · rw [List.find?_cons_of_pos (by simpa using h), if_neg h]; rfl
def keysF (a b : Fnd) : List Int := [Lib.compareBytes a.host b.host, cmpI a.machine b.machine, cmpI a.day b.day, Lib.compareBytes a.subj b.subj, cmpI a.kind b.kind, cmpI a.alg b.alg, cmpI a.bits b.bits, cmpI a.num b.num, Lib.compareBytes a.text b.text, cmpI a.src b.src, cmpI a.conf b.conf]
/-- How two findings are ordered. -/
def ordF (a b : Fnd) : Int := orL (keysF a b)

set_option maxRecDepth 20000 in
theorem w_texts {a b : List UInt8}  : Fun Tryz.prog 172 [str a, str b] (int (Lib.compareBytes a b)) := by
 refine Fun.of Tryz.func172 rfl rfl (by exact Nat.le_of_ble_eq_true rfl) fun M0 w0 => ?_
 refine Tr.seq (Tr.reg0 ?_)
 refine Ch.as rfl rfl rfl rfl rfl ?_
 refine Ch.nil (Fin.go (Tr.seq (Tr.seq (Tr.reg0 ?_))))
 refine Ch.mv rfl rfl rfl rfl rfl ?_
 refine Ch.mv rfl rfl rfl rfl rfl ?_
 refine Ch.oo rfl rfl rfl (ok_lts rfl (vl rfl) (vl rfl)) ?_
 refine Ch.nil (Fin.go ?_)
 refine Tr.cn rfl (fun h1 q1 => ?_) (fun h1 q1 => ?_)
 ·
  refine Tr.seq (Tr.reg0 ?_)
  refine Ch.as rfl rfl rfl rfl rfl ?_
  refine Ch.nil (Fin.go (Tr.ret ?_))
  refine Fin.then_ret ?_
  refine Fin.ret1 rfl (OutW.bse _ _) rfl ?_
  · refine int_eq ?_; have h9 := cmp_in a b; simp_all
 ·
  refine Tr.skip (Fin.go (Tr.seq (Tr.seq (Tr.reg0 ?_))))
  refine Ch.mv rfl rfl rfl rfl rfl ?_
  refine Ch.mv rfl rfl rfl rfl rfl ?_
  refine Ch.oo rfl rfl rfl (ok_gts rfl (vl rfl) (vl rfl)) ?_
  refine Ch.nil (Fin.go ?_)
  refine Tr.cn rfl (fun h2 q2 => ?_) (fun h2 q2 => ?_)
  ·
   refine Tr.seq (Tr.reg0 ?_)
   refine Ch.as rfl rfl rfl rfl rfl ?_
   refine Ch.nil (Fin.go (Tr.ret ?_))
   refine Fin.then_ret ?_
   refine Fin.ret1 rfl (OutW.bse _ _) rfl ?_
   · refine int_eq ?_; have h9 := cmp_in a b; simp_all
  ·
   refine Tr.skip (Fin.go (Tr.seq (Tr.reg0 ?_)))
   refine Ch.as rfl rfl rfl rfl rfl ?_
   refine Ch.nil (Fin.go (Tr.ret ?_))
   refine Fin.ret1 rfl (OutW.bse _ _) rfl ?_
   · refine int_eq ?_; have h9 := cmp_in a b; simp_all
def intsC : List Int → List Int → Int
  | a :: l, b :: m => if cmpI a b = 0 then intsC l m else cmpI a b
  | _, _ => 0
theorem intsC_step {a b : List Int} {k : Nat} {x y : Int} (hx : a[k]? = some x) (hy : b[k]? = some y) : intsC (a.drop k) (b.drop k) = if cmpI x y = 0 then intsC (a.drop (k + 1)) (b.drop (k + 1)) else cmpI x y := by
  rw [drop_cons hx, drop_cons hy]; rfl

set_option maxRecDepth 20000 in
theorem w_intsC {a b : List Int} (hl : a.length ≤ b.length) : Fun Tryz.prog 173 [ints a, ints b] (int (intsC a b)) := by
 refine Fun.of Tryz.func173 rfl rfl (by exact Nat.le_of_ble_eq_true rfl) fun M0 w0 => ?_
 refine Tr.lenm 0 rfl fun hlm_0 => ?_
 refine Tr.seq (Tr.reg0 ?_)
 refine Ch.as rfl rfl rfl rfl rfl ?_
 refine Ch.nil (Fin.go (Tr.seq (Tr.seq (Tr.reg0 ?_))))
 refine Ch.as rfl rfl rfl rfl rfl ?_
 refine Ch.nil (Fin.go (Tr.block ?_))
 refine Tr.loopw [(0, _), (1, _)] ⟨ke rfl, ke rfl, trivial⟩ (fun k : Nat => [(5, int ((k : Nat) : Int))]) (fun k : Nat => k ≤ (a).length ∧ (intsC a b = intsC (a.drop k) (b.drop k))) (fun k : Nat => (a).length - k) 0 (⟨Nat.zero_le _, rfl⟩) ⟨ke rfl, trivial⟩ ?_
 rintro k ⟨hle_k, hinv_k⟩
 refine Tr.seq (Tr.seq (Tr.reg0 ?_))
 refine Ch.mv rfl rfl rfl rfl rfl ?_
 refine Ch.mv rfl rfl rfl rfl rfl ?_
 first
  | refine Ch.oo rfl rfl rfl (ok_lenm rfl Tryz.underlying22 (vl rfl)) ?_
  | refine Ch.oo rfl rfl rfl (ok_len rfl Tryz.underlying22 (vl rfl)) ?_
 refine Ch.oo rfl rfl rfl (ok_int rfl (vl rfl) (vl rfl) rfl) ?_
 refine Ch.nil (Fin.go ?_)
 refine Tr.cn rfl (fun h1 q1 => ?_) (fun h1 q1 => ?_)
 ·
  have hk_k : k < (a).length := lt_of_dec h1
  obtain ⟨x, hx_k⟩ := at_ hk_k
  obtain ⟨y, hy⟩ := at_ (l := b) (k := k) (by omega)
  have hst := intsC_step hx_k hy
  refine Tr.skip (Fin.go (Tr.seq (Tr.block (Tr.seq (Tr.seq ?_)))))
  refine Tr.reg1 mixed (by kernel_rfl) ?_
  refine Ch.mv rfl rfl rfl rfl rfl ?_
  refine Ch.mv rfl rfl rfl rfl rfl ?_
  refine Ch.oo rfl rfl rfl (ok_indexAddr rfl Tryz.underlying22 sz3 (vl rfl) (vl rfl) (by omega) (by first | exact row_at (by assumption) | exact row_atI (by assumption) | assumption)) ?_
  refine Ch.oo rfl rfl rfl (ok_load1 rfl one3 (vl rfl)) ?_
  refine Ch.mv rfl rfl rfl rfl rfl ?_
  refine Ch.mv rfl rfl rfl rfl rfl ?_
  refine Ch.oo rfl rfl rfl (ok_indexAddr rfl Tryz.underlying22 sz3 (vl rfl) (vl rfl) (by omega) (by first | exact row_at (by assumption) | exact row_atI (by assumption) | assumption)) ?_
  refine Ch.oo rfl rfl rfl (ok_load1 rfl one3 (vl rfl)) ?_
  refine Ch.oo rfl rfl rfl (ok_int rfl (vl rfl) (vl rfl) rfl) ?_
  refine Ch.nil (Fin.go ?_)
  refine Tr.w4 0 1 5 20 rfl rfl rfl rfl ?_
  refine Tr.cn rfl (fun h2 q2 => ?_) (fun h2 q2 => ?_)
  ·
   refine Tr.seq (Tr.reg0 ?_)
   refine Ch.as rfl rfl rfl rfl rfl ?_
   refine Ch.nil (Fin.go (Tr.ret ?_))
   refine Fin.then_ret ?_
   refine Fin.block_ret ?_
   refine Fin.then_ret ?_
   refine Fin.then_ret ?_
   refine Fin.block_ret ?_
   refine Fin.then_ret ?_
   refine Fin.ret1 rfl (OutW.bse _ _) rfl ?_
   · first | (refine int_eq ?_; rw [hinv_k, hst]; unfold cmpI; (repeat (first | rw [if_pos (by omega)] | rw [if_neg (by omega)])); done) | (refine int_eq ?_; rw [hinv_k, List.drop_length]; cases b <;> rfl)
  ·
   refine Tr.skip (Fin.go (Tr.seq ?_))
   refine Tr.reg1 mixed (by kernel_rfl) ?_
   refine Ch.mv rfl rfl rfl rfl rfl ?_
   refine Ch.mv rfl rfl rfl rfl rfl ?_
   refine Ch.oo rfl rfl rfl (ok_indexAddr rfl Tryz.underlying22 sz3 (vl rfl) (vl rfl) (by omega) (by first | exact row_at (by assumption) | exact row_atI (by assumption) | assumption)) ?_
   refine Ch.oo rfl rfl rfl (ok_load1 rfl one3 (vl rfl)) ?_
   refine Ch.mv rfl rfl rfl rfl rfl ?_
   refine Ch.mv rfl rfl rfl rfl rfl ?_
   refine Ch.oo rfl rfl rfl (ok_indexAddr rfl Tryz.underlying22 sz3 (vl rfl) (vl rfl) (by omega) (by first | exact row_at (by assumption) | exact row_atI (by assumption) | assumption)) ?_
   refine Ch.oo rfl rfl rfl (ok_load1 rfl one3 (vl rfl)) ?_
   refine Ch.oo rfl rfl rfl (ok_int rfl (vl rfl) (vl rfl) rfl) ?_
   refine Ch.nil (Fin.go ?_)
   refine Tr.cn rfl (fun h3 q3 => ?_) (fun h3 q3 => ?_)
   ·
    refine Tr.seq (Tr.reg0 ?_)
    refine Ch.as rfl rfl rfl rfl rfl ?_
    refine Ch.nil (Fin.go ?_)
    refine Tr.w1 4 rfl ?_
    refine Tr.ret ?_
    refine Fin.block_ret ?_
    refine Fin.then_ret ?_
    refine Fin.then_ret ?_
    refine Fin.block_ret ?_
    refine Fin.then_ret ?_
    refine Fin.ret1 rfl (OutW.bse _ _) rfl ?_
    · first | (refine int_eq ?_; rw [hinv_k, hst]; unfold cmpI; (repeat (first | rw [if_pos (by omega)] | rw [if_neg (by omega)])); done) | (refine int_eq ?_; rw [hinv_k, List.drop_length]; cases b <;> rfl)
   ·
    refine Tr.skip (Fin.block (Fin.go (Tr.reg0 ?_)))
    refine Ch.mv rfl rfl rfl rfl rfl ?_
    first
     | (refine Ch.oo rfl rfl rfl (ok_add rfl (vl rfl) (vl rfl) ?hin) ?_; case hin => unfold InI; omega)
     | refine Ch.oo rfl rfl rfl (ok_int rfl (vl rfl) (vl rfl) rfl) ?_
    refine Ch.as rfl rfl rfl rfl rfl ?_
    refine Ch.nil ?_
    exact Fin.fam_same (k + 1) ⟨⟨hk_k, (hinv_k.trans (hst.trans (if_pos (by rw [cmpI_zero]; omega))))⟩, by omega⟩ ⟨⟨_, rfl, int_succ k⟩, ke rfl, ke rfl, trivial⟩
 ·
  have he_k : k = (a).length := by have := ge_of_dec h1; omega
  subst he_k
  refine Tr.exit ?_
  refine Fin.then_exit ?_
  refine Fin.then_exit ?_
  refine Fin.block_here ?_
  refine Fin.go (Tr.seq (Tr.reg0 ?_))
  refine Ch.as rfl rfl rfl rfl rfl ?_
  refine Ch.nil (Fin.go (Tr.ret ?_))
  refine Fin.ret1 rfl (OutW.bse _ _) rfl ?_
  · first | (refine int_eq ?_; rw [hinv_k, hst]; unfold cmpI; (repeat (first | rw [if_pos (by omega)] | rw [if_neg (by omega)])); done) | (refine int_eq ?_; rw [hinv_k, List.drop_length]; cases b <;> rfl)
theorem or_hit {a : Int} {l : List Int} (h : ¬ a = 0) : orL (a :: l) = a := if_neg h
theorem or_miss {a : Int} {l : List Int} (h : a = 0) : orL (a :: l) = orL l := if_pos h
theorem intsC_2 (a b c d : Int) : intsC [a, b] [c, d] = orL [cmpI a c, cmpI b d] := by
  show (if cmpI a c = 0 then (if cmpI b d = 0 then 0 else cmpI b d) else cmpI a c) = if cmpI a c = 0 then (if cmpI b d = 0 then 0 else cmpI b d) else cmpI a c
  rfl
theorem orL_app : ∀ (l m : List Int), orL (l ++ m) = if orL l = 0 then orL m else orL l
  | [], m => by simp [orL]
  | a :: l, m => by
    have ih := orL_app l m
    show (if a = 0 then orL (l ++ m) else a) = if (if a = 0 then orL l else a) = 0 then orL m else (if a = 0 then orL l else a)
    by_cases h : a = 0
    · simp only [h, if_true]; exact ih
    · simp [h]
theorem ordF_eq (a b : Fnd) : ordF a b = orL [Lib.compareBytes a.host b.host, orL [cmpI a.machine b.machine, cmpI a.day b.day], Lib.compareBytes a.subj b.subj, orL [cmpI a.kind b.kind, cmpI a.alg b.alg, cmpI a.bits b.bits, cmpI a.num b.num], Lib.compareBytes a.text b.text, orL [cmpI a.src b.src, cmpI a.conf b.conf]] := by
  have h : ∀ (l : List Int) (m n : List Int), orL (m ++ (orL l :: n)) = orL (m ++ (l ++ n)) := by
    intro l m n
    rw [orL_app, orL_app m, orL_app l n]; rfl
  unfold ordF keysF
  have e1 := h [cmpI a.machine b.machine, cmpI a.day b.day] [Lib.compareBytes a.host b.host] [Lib.compareBytes a.subj b.subj, orL [cmpI a.kind b.kind, cmpI a.alg b.alg, cmpI a.bits b.bits, cmpI a.num b.num], Lib.compareBytes a.text b.text, orL [cmpI a.src b.src, cmpI a.conf b.conf]]
  have e2 := h [cmpI a.kind b.kind, cmpI a.alg b.alg, cmpI a.bits b.bits, cmpI a.num b.num] [Lib.compareBytes a.host b.host, cmpI a.machine b.machine, cmpI a.day b.day, Lib.compareBytes a.subj b.subj] [Lib.compareBytes a.text b.text, orL [cmpI a.src b.src, cmpI a.conf b.conf]]
  have e3 := h [cmpI a.src b.src, cmpI a.conf b.conf] [Lib.compareBytes a.host b.host, cmpI a.machine b.machine, cmpI a.day b.day, Lib.compareBytes a.subj b.subj, cmpI a.kind b.kind, cmpI a.alg b.alg, cmpI a.bits b.bits, cmpI a.num b.num, Lib.compareBytes a.text b.text] []
  exact (e1.trans (e2.trans e3)).symm

set_option maxRecDepth 20000 in
theorem w_R14Order {a b : Fnd}  : Fun Tryz.prog 116 [agg (rowF a), agg (rowF b)] (int (ordF a b)) := by
 refine Fun.of Tryz.func116 rfl rfl (by exact Nat.le_of_ble_eq_true rfl) fun M0 w0 => ?_
 refine Tr.seq (Tr.reg0 ?_)
 refine Ch.oo rfl rfl rfl (ok_box rfl (VL.le (vl rfl) (agg_cellsP _))) ?_
 refine Ch.oo rfl rfl rfl (ok_box rfl (VL.le (vl rfl) (agg_cellsP _))) ?_
 refine Ch.as rfl rfl rfl rfl rfl ?_
 refine Ch.nil (Fin.go (Tr.seq (Tr.seq (Tr.reg0 ?_))))
 refine Ch.oo rfl rfl rfl (ok_fieldAddr rfl fo26_1 (vl rfl) rfl) ?_
 refine Ch.oo rfl rfl rfl (ok_load1 rfl one9 (vl rfl)) ?_
 refine Ch.oo rfl rfl rfl (ok_fieldAddr rfl fo26_1 (vl rfl) rfl) ?_
 refine Ch.oo rfl rfl rfl (ok_load1 rfl one9 (vl rfl)) ?_
 refine Ch.oo rfl rfl rfl (ok_call rfl (w_texts) ⟨ke rfl, ke rfl, trivial⟩) ?_
 refine Ch.as rfl rfl rfl rfl rfl ?_
 refine Ch.nil (Fin.go (Tr.seq (Tr.reg0 ?_)))
 refine Ch.mv rfl rfl rfl rfl rfl ?_
 refine Ch.oo rfl rfl rfl (ok_int rfl (vl rfl) (vl rfl) rfl) ?_
 refine Ch.nil (Fin.go ?_)
 refine Tr.cn rfl (fun h1 q1 => ?_) (fun h1 q1 => ?_)
 ·
  refine Tr.seq (Tr.reg0 ?_)
  refine Ch.mv rfl rfl rfl rfl rfl ?_
  refine Ch.as rfl rfl rfl rfl rfl ?_
  refine Ch.nil (Fin.go (Tr.ret ?_))
  refine Fin.then_ret ?_
  refine Fin.ret1 rfl (OutW.bse _ _) rfl ?_
  · refine int_eq ?_; rw [ordF_eq]; exact (or_hit (by assumption)).symm
 ·
  refine Tr.skip (Fin.go (Tr.seq (Tr.seq (Tr.reg0 ?_))))
  refine Ch.oo rfl rfl rfl (ok_fieldAddr rfl fo26_2 (vl rfl) rfl) ?_
  refine Ch.oo rfl rfl rfl (ok_load1 rfl one3 (vl rfl)) ?_
  refine Ch.oo rfl rfl rfl (ok_fieldAddr rfl fo26_3 (vl rfl) rfl) ?_
  refine Ch.oo rfl rfl rfl (ok_load1 rfl one3 (vl rfl)) ?_
  refine Ch.oo rfl rfl rfl (ok_buildSlice (xs := [.tmp 19, .tmp 21]) (rows := [[_], [_]]) rfl rfl Tryz.underlying22 sz3 z3 rfl (by decide) ⟨⟨(by exact rfl), (VL.le (vl rfl) (one_cellsP _))⟩, ⟨⟨(by exact rfl), (VL.le (vl rfl) (one_cellsP _))⟩, trivial⟩⟩ (by decide)) ?_
  refine Ch.oo rfl rfl rfl (ok_fieldAddr rfl fo26_2 (vl rfl) rfl) ?_
  refine Ch.oo rfl rfl rfl (ok_load1 rfl one3 (vl rfl)) ?_
  refine Ch.oo rfl rfl rfl (ok_fieldAddr rfl fo26_3 (vl rfl) rfl) ?_
  refine Ch.oo rfl rfl rfl (ok_load1 rfl one3 (vl rfl)) ?_
  refine Ch.oo rfl rfl rfl (ok_buildSlice (xs := [.tmp 24, .tmp 26]) (rows := [[_], [_]]) rfl rfl Tryz.underlying22 sz3 z3 rfl (by decide) ⟨⟨(by exact rfl), (VL.le (vl rfl) (one_cellsP _))⟩, ⟨⟨(by exact rfl), (VL.le (vl rfl) (one_cellsP _))⟩, trivial⟩⟩ (by decide)) ?_
  refine Ch.oo rfl rfl rfl (ok_call rfl (w_intsC (a := [a.machine, a.day]) (b := [b.machine, b.day]) (by simp)) ⟨⟨_, rfl, full_le _ _⟩, ⟨_, rfl, full_le _ _⟩, trivial⟩) ?_
  refine Ch.as rfl rfl rfl rfl rfl ?_
  refine Ch.nil (Fin.go ?_)
  refine Tr.w3 2 3 6 rfl rfl rfl ?_
  refine Tr.seq (Tr.reg0 ?_)
  refine Ch.mv rfl rfl rfl rfl rfl ?_
  refine Ch.oo rfl rfl rfl (ok_int rfl (vl rfl) (vl rfl) rfl) ?_
  refine Ch.nil (Fin.go ?_)
  refine Tr.cn rfl (fun h2 q2 => ?_) (fun h2 q2 => ?_)
  ·
   refine Tr.seq (Tr.reg0 ?_)
   refine Ch.mv rfl rfl rfl rfl rfl ?_
   refine Ch.as rfl rfl rfl rfl rfl ?_
   refine Ch.nil (Fin.go (Tr.ret ?_))
   refine Fin.then_ret ?_
   refine Fin.ret1 rfl (OutW.bse _ _) rfl ?_
   · refine int_eq ?_; rw [ordF_eq]; rw [or_miss (by assumption)]; exact (or_hit (by assumption)).symm
  ·
   refine Tr.skip (Fin.go (Tr.seq (Tr.seq (Tr.reg0 ?_))))
   refine Ch.oo rfl rfl rfl (ok_fieldAddr rfl fo26_6 (vl rfl) rfl) ?_
   refine Ch.oo rfl rfl rfl (ok_load1 rfl one9 (vl rfl)) ?_
   refine Ch.oo rfl rfl rfl (ok_fieldAddr rfl fo26_6 (vl rfl) rfl) ?_
   refine Ch.oo rfl rfl rfl (ok_load1 rfl one9 (vl rfl)) ?_
   refine Ch.oo rfl rfl rfl (ok_call rfl (w_texts) ⟨ke rfl, ke rfl, trivial⟩) ?_
   refine Ch.as rfl rfl rfl rfl rfl ?_
   refine Ch.nil (Fin.go (Tr.seq (Tr.reg0 ?_)))
   refine Ch.mv rfl rfl rfl rfl rfl ?_
   refine Ch.oo rfl rfl rfl (ok_int rfl (vl rfl) (vl rfl) rfl) ?_
   refine Ch.nil (Fin.go ?_)
   refine Tr.cn rfl (fun h3 q3 => ?_) (fun h3 q3 => ?_)
   ·
    refine Tr.seq (Tr.reg0 ?_)
    refine Ch.mv rfl rfl rfl rfl rfl ?_
    refine Ch.as rfl rfl rfl rfl rfl ?_
    refine Ch.nil (Fin.go ?_)
    refine Tr.w1 4 rfl ?_
    refine Tr.ret ?_
    refine Fin.then_ret ?_
    refine Fin.ret1 rfl (OutW.bse _ _) rfl ?_
    · refine int_eq ?_; rw [ordF_eq]; rw [or_miss (by assumption), or_miss (by assumption)]; exact (or_hit (by assumption)).symm
   ·
    refine Tr.skip (Fin.go (Tr.seq (Tr.seq (Tr.reg0 ?_))))
    refine Ch.oo rfl rfl rfl (ok_fieldAddr rfl fo26_5 (vl rfl) rfl) ?_
    refine Ch.oo rfl rfl rfl (ok_load1 rfl one3 (vl rfl)) ?_
    refine Ch.oo rfl rfl rfl (ok_fieldAddr rfl fo26_7 (vl rfl) rfl) ?_
    refine Ch.oo rfl rfl rfl (ok_fieldAddr rfl fo24_0 (vl rfl) rfl) ?_
    refine Ch.oo rfl rfl rfl (ok_load1 rfl one3 (vl rfl)) ?_
    refine Ch.oo rfl rfl rfl (ok_fieldAddr rfl fo26_7 (vl rfl) rfl) ?_
    refine Ch.oo rfl rfl rfl (ok_fieldAddr rfl fo24_1 (vl rfl) rfl) ?_
    refine Ch.oo rfl rfl rfl (ok_load1 rfl one3 (vl rfl)) ?_
    refine Ch.oo rfl rfl rfl (ok_fieldAddr rfl fo26_8 (vl rfl) rfl) ?_
    refine Ch.oo rfl rfl rfl (ok_load1 rfl one3 (vl rfl)) ?_
    refine Ch.oo rfl rfl rfl (ok_buildSlice (xs := [.tmp 41, .tmp 44, .tmp 47, .tmp 49]) (rows := [[_], [_], [_], [_]]) rfl rfl Tryz.underlying22 sz3 z3 rfl (by decide) ⟨⟨(by exact rfl), (VL.le (vl rfl) (one_cellsP _))⟩, ⟨⟨(by exact rfl), (VL.le (vl rfl) (one_cellsP _))⟩, ⟨⟨(by exact rfl), (VL.le (vl rfl) (one_cellsP _))⟩, ⟨⟨(by exact rfl), (VL.le (vl rfl) (one_cellsP _))⟩, trivial⟩⟩⟩⟩ (by decide)) ?_
    refine Ch.oo rfl rfl rfl (ok_fieldAddr rfl fo26_5 (vl rfl) rfl) ?_
    refine Ch.oo rfl rfl rfl (ok_load1 rfl one3 (vl rfl)) ?_
    refine Ch.oo rfl rfl rfl (ok_fieldAddr rfl fo26_7 (vl rfl) rfl) ?_
    refine Ch.oo rfl rfl rfl (ok_fieldAddr rfl fo24_0 (vl rfl) rfl) ?_
    refine Ch.oo rfl rfl rfl (ok_load1 rfl one3 (vl rfl)) ?_
    refine Ch.oo rfl rfl rfl (ok_fieldAddr rfl fo26_7 (vl rfl) rfl) ?_
    refine Ch.oo rfl rfl rfl (ok_fieldAddr rfl fo24_1 (vl rfl) rfl) ?_
    refine Ch.oo rfl rfl rfl (ok_load1 rfl one3 (vl rfl)) ?_
    refine Ch.oo rfl rfl rfl (ok_fieldAddr rfl fo26_8 (vl rfl) rfl) ?_
    refine Ch.oo rfl rfl rfl (ok_load1 rfl one3 (vl rfl)) ?_
    refine Ch.oo rfl rfl rfl (ok_buildSlice (xs := [.tmp 52, .tmp 55, .tmp 58, .tmp 60]) (rows := [[_], [_], [_], [_]]) rfl rfl Tryz.underlying22 sz3 z3 rfl (by decide) ⟨⟨(by exact rfl), (VL.le (vl rfl) (one_cellsP _))⟩, ⟨⟨(by exact rfl), (VL.le (vl rfl) (one_cellsP _))⟩, ⟨⟨(by exact rfl), (VL.le (vl rfl) (one_cellsP _))⟩, ⟨⟨(by exact rfl), (VL.le (vl rfl) (one_cellsP _))⟩, trivial⟩⟩⟩⟩ (by decide)) ?_
    refine Ch.oo rfl rfl rfl (ok_call rfl (w_intsC (a := [a.kind, a.alg, a.bits, a.num]) (b := [b.kind, b.alg, b.bits, b.num]) (by simp)) ⟨⟨_, rfl, full_le _ _⟩, ⟨_, rfl, full_le _ _⟩, trivial⟩) ?_
    refine Ch.as rfl rfl rfl rfl rfl ?_
    refine Ch.nil (Fin.go ?_)
    refine Tr.w3 2 3 8 rfl rfl rfl ?_
    refine Tr.seq (Tr.reg0 ?_)
    refine Ch.mv rfl rfl rfl rfl rfl ?_
    refine Ch.oo rfl rfl rfl (ok_int rfl (vl rfl) (vl rfl) rfl) ?_
    refine Ch.nil (Fin.go ?_)
    refine Tr.cn rfl (fun h4 q4 => ?_) (fun h4 q4 => ?_)
    ·
     refine Tr.seq (Tr.reg0 ?_)
     refine Ch.mv rfl rfl rfl rfl rfl ?_
     refine Ch.as rfl rfl rfl rfl rfl ?_
     refine Ch.nil (Fin.go (Tr.ret ?_))
     refine Fin.then_ret ?_
     refine Fin.ret1 rfl (OutW.bse _ _) rfl ?_
     · refine int_eq ?_; rw [ordF_eq]; rw [or_miss (by assumption), or_miss (by assumption), or_miss (by assumption)]; exact (or_hit (by assumption)).symm
    ·
     refine Tr.skip (Fin.go (Tr.seq (Tr.seq (Tr.reg0 ?_))))
     refine Ch.oo rfl rfl rfl (ok_fieldAddr rfl fo26_9 (vl rfl) rfl) ?_
     refine Ch.oo rfl rfl rfl (ok_load1 rfl one9 (vl rfl)) ?_
     refine Ch.oo rfl rfl rfl (ok_fieldAddr rfl fo26_9 (vl rfl) rfl) ?_
     refine Ch.oo rfl rfl rfl (ok_load1 rfl one9 (vl rfl)) ?_
     refine Ch.oo rfl rfl rfl (ok_call rfl (w_texts) ⟨ke rfl, ke rfl, trivial⟩) ?_
     refine Ch.as rfl rfl rfl rfl rfl ?_
     refine Ch.nil (Fin.go (Tr.seq (Tr.reg0 ?_)))
     refine Ch.mv rfl rfl rfl rfl rfl ?_
     refine Ch.oo rfl rfl rfl (ok_int rfl (vl rfl) (vl rfl) rfl) ?_
     refine Ch.nil (Fin.go ?_)
     refine Tr.cn rfl (fun h5 q5 => ?_) (fun h5 q5 => ?_)
     ·
      refine Tr.seq (Tr.reg0 ?_)
      refine Ch.mv rfl rfl rfl rfl rfl ?_
      refine Ch.as rfl rfl rfl rfl rfl ?_
      refine Ch.nil (Fin.go ?_)
      refine Tr.w1 4 rfl ?_
      refine Tr.ret ?_
      refine Fin.then_ret ?_
      refine Fin.ret1 rfl (OutW.bse _ _) rfl ?_
      · refine int_eq ?_; rw [ordF_eq]; rw [or_miss (by assumption), or_miss (by assumption), or_miss (by assumption), or_miss (by assumption)]; exact (or_hit (by assumption)).symm
     ·
      refine Tr.skip (Fin.go (Tr.seq (Tr.reg0 ?_)))
      refine Ch.oo rfl rfl rfl (ok_fieldAddr rfl fo26_0 (vl rfl) rfl) ?_
      refine Ch.oo rfl rfl rfl (ok_load1 rfl one3 (vl rfl)) ?_
      refine Ch.oo rfl rfl rfl (ok_fieldAddr rfl fo26_4 (vl rfl) rfl) ?_
      refine Ch.oo rfl rfl rfl (ok_load1 rfl one3 (vl rfl)) ?_
      refine Ch.oo rfl rfl rfl (ok_buildSlice (xs := [.tmp 75, .tmp 77]) (rows := [[_], [_]]) rfl rfl Tryz.underlying22 sz3 z3 rfl (by decide) ⟨⟨(by exact rfl), (VL.le (vl rfl) (one_cellsP _))⟩, ⟨⟨(by exact rfl), (VL.le (vl rfl) (one_cellsP _))⟩, trivial⟩⟩ (by decide)) ?_
      refine Ch.oo rfl rfl rfl (ok_fieldAddr rfl fo26_0 (vl rfl) rfl) ?_
      refine Ch.oo rfl rfl rfl (ok_load1 rfl one3 (vl rfl)) ?_
      refine Ch.oo rfl rfl rfl (ok_fieldAddr rfl fo26_4 (vl rfl) rfl) ?_
      refine Ch.oo rfl rfl rfl (ok_load1 rfl one3 (vl rfl)) ?_
      refine Ch.oo rfl rfl rfl (ok_buildSlice (xs := [.tmp 80, .tmp 82]) (rows := [[_], [_]]) rfl rfl Tryz.underlying22 sz3 z3 rfl (by decide) ⟨⟨(by exact rfl), (VL.le (vl rfl) (one_cellsP _))⟩, ⟨⟨(by exact rfl), (VL.le (vl rfl) (one_cellsP _))⟩, trivial⟩⟩ (by decide)) ?_
      refine Ch.oo rfl rfl rfl (ok_call rfl (w_intsC (a := [a.src, a.conf]) (b := [b.src, b.conf]) (by simp)) ⟨⟨_, rfl, full_le _ _⟩, ⟨_, rfl, full_le _ _⟩, trivial⟩) ?_
      refine Ch.as rfl rfl rfl rfl rfl ?_
      refine Ch.nil (Fin.go ?_)
      refine Tr.w1 4 rfl ?_
      refine Tr.ret ?_
      refine Fin.ret1 rfl (OutW.bse _ _) rfl ?_
      · refine int_eq ?_; rw [ordF_eq, or_miss (by assumption), or_miss (by assumption), or_miss (by assumption), or_miss (by assumption), or_miss (by assumption)]; rw [intsC_2]; unfold orL; split <;> simp_all [orL]
end Go.Proofs.YtgdlhajfajddiaaGreat
namespace Go.Proofs.YtgdlhajfajddiaaGreat
open Go Go.RowKit Cp
set_option maxRecDepth 20000 in
theorem w_Og3 {f : Fnd}  : Fun Tryz.prog 136 [agg (rowF f)] (str f.host) := by
 refine Fun.of Tryz.func136 rfl rfl (by exact Nat.le_of_ble_eq_true rfl) fun M0 w0 => ?_
 refine Tr.seq (Tr.reg0 ?_)
 refine Ch.oo rfl rfl rfl (ok_box rfl (VL.le (vl rfl) (agg_cellsP _))) ?_
 refine Ch.as rfl rfl rfl rfl rfl ?_
 refine Ch.nil (Fin.go (Tr.seq (Tr.reg0 ?_)))
 refine Ch.oo rfl rfl rfl (ok_fieldAddr rfl fo26_1 (vl rfl) rfl) ?_
 refine Ch.oo rfl rfl rfl (ok_load1 rfl one9 (vl rfl)) ?_
 refine Ch.as rfl rfl rfl rfl rfl ?_
 refine Ch.nil (Fin.go (Tr.ret ?_))
 refine Fin.ret1 rfl (OutW.bse _ _) rfl ?_
 · first | exact Pr.le_refl _ | (refine int_eq ?_; simp_all; done) | (refine bool_eq ?_; simp_all; done) | (refine bool_eq ?_; simp_all; omega) | (refine int_eq ?_; omega)
theorem e_Og3 : Entry Tryz.prog 136 := ⟨_, Tryz.func136, rfl, rfl⟩
set_option maxRecDepth 20000 in
theorem w_Og4 {f : Fnd}  : Fun Tryz.prog 137 [agg (rowF f)] (int f.machine) := by
 refine Fun.of Tryz.func137 rfl rfl (by exact Nat.le_of_ble_eq_true rfl) fun M0 w0 => ?_
 refine Tr.seq (Tr.reg0 ?_)
 refine Ch.oo rfl rfl rfl (ok_box rfl (VL.le (vl rfl) (agg_cellsP _))) ?_
 refine Ch.as rfl rfl rfl rfl rfl ?_
 refine Ch.nil (Fin.go (Tr.seq (Tr.reg0 ?_)))
 refine Ch.oo rfl rfl rfl (ok_fieldAddr rfl fo26_2 (vl rfl) rfl) ?_
 refine Ch.oo rfl rfl rfl (ok_load1 rfl one3 (vl rfl)) ?_
 refine Ch.as rfl rfl rfl rfl rfl ?_
 refine Ch.nil (Fin.go (Tr.ret ?_))
 refine Fin.ret1 rfl (OutW.bse _ _) rfl ?_
 · first | exact Pr.le_refl _ | (refine int_eq ?_; simp_all; done) | (refine bool_eq ?_; simp_all; done) | (refine bool_eq ?_; simp_all; omega) | (refine int_eq ?_; omega)
theorem e_Og4 : Entry Tryz.prog 137 := ⟨_, Tryz.func137, rfl, rfl⟩
set_option maxRecDepth 20000 in
theorem w_Og5 {f : Fnd}  : Fun Tryz.prog 138 [agg (rowF f)] (int f.day) := by
 refine Fun.of Tryz.func138 rfl rfl (by exact Nat.le_of_ble_eq_true rfl) fun M0 w0 => ?_
 refine Tr.seq (Tr.reg0 ?_)
 refine Ch.oo rfl rfl rfl (ok_box rfl (VL.le (vl rfl) (agg_cellsP _))) ?_
 refine Ch.as rfl rfl rfl rfl rfl ?_
 refine Ch.nil (Fin.go (Tr.seq (Tr.reg0 ?_)))
 refine Ch.oo rfl rfl rfl (ok_fieldAddr rfl fo26_3 (vl rfl) rfl) ?_
 refine Ch.oo rfl rfl rfl (ok_load1 rfl one3 (vl rfl)) ?_
 refine Ch.as rfl rfl rfl rfl rfl ?_
 refine Ch.nil (Fin.go (Tr.ret ?_))
 refine Fin.ret1 rfl (OutW.bse _ _) rfl ?_
 · first | exact Pr.le_refl _ | (refine int_eq ?_; simp_all; done) | (refine bool_eq ?_; simp_all; done) | (refine bool_eq ?_; simp_all; omega) | (refine int_eq ?_; omega)
theorem e_Og5 : Entry Tryz.prog 138 := ⟨_, Tryz.func138, rfl, rfl⟩
set_option maxRecDepth 20000 in
theorem w_Og6 {f : Fnd}  : Fun Tryz.prog 139 [agg (rowF f)] (str f.subj) := by
 refine Fun.of Tryz.func139 rfl rfl (by exact Nat.le_of_ble_eq_true rfl) fun M0 w0 => ?_
 refine Tr.seq (Tr.reg0 ?_)
 refine Ch.oo rfl rfl rfl (ok_box rfl (VL.le (vl rfl) (agg_cellsP _))) ?_
 refine Ch.as rfl rfl rfl rfl rfl ?_
 refine Ch.nil (Fin.go (Tr.seq (Tr.reg0 ?_)))
 refine Ch.oo rfl rfl rfl (ok_fieldAddr rfl fo26_6 (vl rfl) rfl) ?_
 refine Ch.oo rfl rfl rfl (ok_load1 rfl one9 (vl rfl)) ?_
 refine Ch.as rfl rfl rfl rfl rfl ?_
 refine Ch.nil (Fin.go (Tr.ret ?_))
 refine Fin.ret1 rfl (OutW.bse _ _) rfl ?_
 · first | exact Pr.le_refl _ | (refine int_eq ?_; simp_all; done) | (refine bool_eq ?_; simp_all; done) | (refine bool_eq ?_; simp_all; omega) | (refine int_eq ?_; omega)
theorem e_Og6 : Entry Tryz.prog 139 := ⟨_, Tryz.func139, rfl, rfl⟩
set_option maxRecDepth 20000 in
theorem w_Og7 {f : Fnd}  : Fun Tryz.prog 140 [agg (rowF f)] (int f.kind) := by
 refine Fun.of Tryz.func140 rfl rfl (by exact Nat.le_of_ble_eq_true rfl) fun M0 w0 => ?_
 refine Tr.seq (Tr.reg0 ?_)
 refine Ch.oo rfl rfl rfl (ok_box rfl (VL.le (vl rfl) (agg_cellsP _))) ?_
 refine Ch.as rfl rfl rfl rfl rfl ?_
 refine Ch.nil (Fin.go (Tr.seq (Tr.reg0 ?_)))
 refine Ch.oo rfl rfl rfl (ok_fieldAddr rfl fo26_5 (vl rfl) rfl) ?_
 refine Ch.oo rfl rfl rfl (ok_load1 rfl one3 (vl rfl)) ?_
 refine Ch.as rfl rfl rfl rfl rfl ?_
 refine Ch.nil (Fin.go (Tr.ret ?_))
 refine Fin.ret1 rfl (OutW.bse _ _) rfl ?_
 · first | exact Pr.le_refl _ | (refine int_eq ?_; simp_all; done) | (refine bool_eq ?_; simp_all; done) | (refine bool_eq ?_; simp_all; omega) | (refine int_eq ?_; omega)
theorem e_Og7 : Entry Tryz.prog 140 := ⟨_, Tryz.func140, rfl, rfl⟩
set_option maxRecDepth 20000 in
theorem w_Og8 {f : Fnd}  : Fun Tryz.prog 141 [agg (rowF f)] (int f.alg) := by
 refine Fun.of Tryz.func141 rfl rfl (by exact Nat.le_of_ble_eq_true rfl) fun M0 w0 => ?_
 refine Tr.seq (Tr.reg0 ?_)
 refine Ch.oo rfl rfl rfl (ok_box rfl (VL.le (vl rfl) (agg_cellsP _))) ?_
 refine Ch.as rfl rfl rfl rfl rfl ?_
 refine Ch.nil (Fin.go (Tr.seq (Tr.reg0 ?_)))
 refine Ch.oo rfl rfl rfl (ok_fieldAddr rfl fo26_7 (vl rfl) rfl) ?_
 refine Ch.oo rfl rfl rfl (ok_fieldAddr rfl fo24_0 (vl rfl) rfl) ?_
 refine Ch.oo rfl rfl rfl (ok_load1 rfl one3 (vl rfl)) ?_
 refine Ch.as rfl rfl rfl rfl rfl ?_
 refine Ch.nil (Fin.go (Tr.ret ?_))
 refine Fin.ret1 rfl (OutW.bse _ _) rfl ?_
 · first | exact Pr.le_refl _ | (refine int_eq ?_; simp_all; done) | (refine bool_eq ?_; simp_all; done) | (refine bool_eq ?_; simp_all; omega) | (refine int_eq ?_; omega)
theorem e_Og8 : Entry Tryz.prog 141 := ⟨_, Tryz.func141, rfl, rfl⟩
set_option maxRecDepth 20000 in
theorem w_Og9 {f : Fnd}  : Fun Tryz.prog 142 [agg (rowF f)] (int f.bits) := by
 refine Fun.of Tryz.func142 rfl rfl (by exact Nat.le_of_ble_eq_true rfl) fun M0 w0 => ?_
 refine Tr.seq (Tr.reg0 ?_)
 refine Ch.oo rfl rfl rfl (ok_box rfl (VL.le (vl rfl) (agg_cellsP _))) ?_
 refine Ch.as rfl rfl rfl rfl rfl ?_
 refine Ch.nil (Fin.go (Tr.seq (Tr.reg0 ?_)))
 refine Ch.oo rfl rfl rfl (ok_fieldAddr rfl fo26_7 (vl rfl) rfl) ?_
 refine Ch.oo rfl rfl rfl (ok_fieldAddr rfl fo24_1 (vl rfl) rfl) ?_
 refine Ch.oo rfl rfl rfl (ok_load1 rfl one3 (vl rfl)) ?_
 refine Ch.as rfl rfl rfl rfl rfl ?_
 refine Ch.nil (Fin.go (Tr.ret ?_))
 refine Fin.ret1 rfl (OutW.bse _ _) rfl ?_
 · first | exact Pr.le_refl _ | (refine int_eq ?_; simp_all; done) | (refine bool_eq ?_; simp_all; done) | (refine bool_eq ?_; simp_all; omega) | (refine int_eq ?_; omega)
theorem e_Og9 : Entry Tryz.prog 142 := ⟨_, Tryz.func142, rfl, rfl⟩
set_option maxRecDepth 20000 in
theorem w_Og10 {f : Fnd}  : Fun Tryz.prog 143 [agg (rowF f)] (int f.num) := by
 refine Fun.of Tryz.func143 rfl rfl (by exact Nat.le_of_ble_eq_true rfl) fun M0 w0 => ?_
 refine Tr.seq (Tr.reg0 ?_)
 refine Ch.oo rfl rfl rfl (ok_box rfl (VL.le (vl rfl) (agg_cellsP _))) ?_
 refine Ch.as rfl rfl rfl rfl rfl ?_
 refine Ch.nil (Fin.go (Tr.seq (Tr.reg0 ?_)))
 refine Ch.oo rfl rfl rfl (ok_fieldAddr rfl fo26_8 (vl rfl) rfl) ?_
 refine Ch.oo rfl rfl rfl (ok_load1 rfl one3 (vl rfl)) ?_
 refine Ch.as rfl rfl rfl rfl rfl ?_
 refine Ch.nil (Fin.go (Tr.ret ?_))
 refine Fin.ret1 rfl (OutW.bse _ _) rfl ?_
 · first | exact Pr.le_refl _ | (refine int_eq ?_; simp_all; done) | (refine bool_eq ?_; simp_all; done) | (refine bool_eq ?_; simp_all; omega) | (refine int_eq ?_; omega)
theorem e_Og10 : Entry Tryz.prog 143 := ⟨_, Tryz.func143, rfl, rfl⟩
set_option maxRecDepth 20000 in
theorem w_Og11 {f : Fnd}  : Fun Tryz.prog 144 [agg (rowF f)] (str f.text) := by
 refine Fun.of Tryz.func144 rfl rfl (by exact Nat.le_of_ble_eq_true rfl) fun M0 w0 => ?_
 refine Tr.seq (Tr.reg0 ?_)
 refine Ch.oo rfl rfl rfl (ok_box rfl (VL.le (vl rfl) (agg_cellsP _))) ?_
 refine Ch.as rfl rfl rfl rfl rfl ?_
 refine Ch.nil (Fin.go (Tr.seq (Tr.reg0 ?_)))
 refine Ch.oo rfl rfl rfl (ok_fieldAddr rfl fo26_9 (vl rfl) rfl) ?_
 refine Ch.oo rfl rfl rfl (ok_load1 rfl one9 (vl rfl)) ?_
 refine Ch.as rfl rfl rfl rfl rfl ?_
 refine Ch.nil (Fin.go (Tr.ret ?_))
 refine Fin.ret1 rfl (OutW.bse _ _) rfl ?_
 · first | exact Pr.le_refl _ | (refine int_eq ?_; simp_all; done) | (refine bool_eq ?_; simp_all; done) | (refine bool_eq ?_; simp_all; omega) | (refine int_eq ?_; omega)
theorem e_Og11 : Entry Tryz.prog 144 := ⟨_, Tryz.func144, rfl, rfl⟩
set_option maxRecDepth 20000 in
theorem w_Og12 {f : Fnd}  : Fun Tryz.prog 145 [agg (rowF f)] (int f.src) := by
 refine Fun.of Tryz.func145 rfl rfl (by exact Nat.le_of_ble_eq_true rfl) fun M0 w0 => ?_
 refine Tr.seq (Tr.reg0 ?_)
 refine Ch.oo rfl rfl rfl (ok_box rfl (VL.le (vl rfl) (agg_cellsP _))) ?_
 refine Ch.as rfl rfl rfl rfl rfl ?_
 refine Ch.nil (Fin.go (Tr.seq (Tr.reg0 ?_)))
 refine Ch.oo rfl rfl rfl (ok_fieldAddr rfl fo26_0 (vl rfl) rfl) ?_
 refine Ch.oo rfl rfl rfl (ok_load1 rfl one3 (vl rfl)) ?_
 refine Ch.as rfl rfl rfl rfl rfl ?_
 refine Ch.nil (Fin.go (Tr.ret ?_))
 refine Fin.ret1 rfl (OutW.bse _ _) rfl ?_
 · first | exact Pr.le_refl _ | (refine int_eq ?_; simp_all; done) | (refine bool_eq ?_; simp_all; done) | (refine bool_eq ?_; simp_all; omega) | (refine int_eq ?_; omega)
theorem e_Og12 : Entry Tryz.prog 145 := ⟨_, Tryz.func145, rfl, rfl⟩
set_option maxRecDepth 20000 in
theorem w_Og13 {f : Fnd}  : Fun Tryz.prog 146 [agg (rowF f)] (int f.conf) := by
 refine Fun.of Tryz.func146 rfl rfl (by exact Nat.le_of_ble_eq_true rfl) fun M0 w0 => ?_
 refine Tr.seq (Tr.reg0 ?_)
 refine Ch.oo rfl rfl rfl (ok_box rfl (VL.le (vl rfl) (agg_cellsP _))) ?_
 refine Ch.as rfl rfl rfl rfl rfl ?_
 refine Ch.nil (Fin.go (Tr.seq (Tr.reg0 ?_)))
 refine Ch.oo rfl rfl rfl (ok_fieldAddr rfl fo26_4 (vl rfl) rfl) ?_
 refine Ch.oo rfl rfl rfl (ok_load1 rfl one3 (vl rfl)) ?_
 refine Ch.as rfl rfl rfl rfl rfl ?_
 refine Ch.nil (Fin.go (Tr.ret ?_))
 refine Fin.ret1 rfl (OutW.bse _ _) rfl ?_
 · first | exact Pr.le_refl _ | (refine int_eq ?_; simp_all; done) | (refine bool_eq ?_; simp_all; done) | (refine bool_eq ?_; simp_all; omega) | (refine int_eq ?_; omega)
theorem e_Og13 : Entry Tryz.prog 146 := ⟨_, Tryz.func146, rfl, rfl⟩
set_option maxRecDepth 20000 in
theorem w_O11 {g : Fnd → Int} {a b : Fnd}  : Fun Tryz.prog 132 [ref [clo Tryz.prog (fun f : Fnd => [agg (rowF f)]) (fun f => int (g f))], ref (rowF a), ref (rowF b)] (int (cmpI (g a) (g b))) := by
 refine Fun.of Tryz.func132 rfl rfl (by exact Nat.le_of_ble_eq_true rfl) fun M0 w0 => ?_
 refine Tr.seq (Tr.reg0 ?_)
 refine Ch.as rfl rfl rfl rfl rfl ?_
 refine Ch.nil (Fin.go (Tr.seq ?_))
 refine Tr.reg1 mixed (by kernel_rfl) ?_
 refine Ch.oo rfl rfl rfl (ok_load1 rfl one156 (vl rfl)) ?_
 refine Ch.oo rfl rfl rfl (ok_loadA rfl agg26 sz26 (vl rfl) rfl rfl) ?_
 refine Ch.oo rfl rfl rfl (ok_callc a rfl (vl rfl) ⟨ke rfl, trivial⟩) ?_
 refine Ch.oo rfl rfl rfl (ok_load1 rfl one156 (vl rfl)) ?_
 refine Ch.oo rfl rfl rfl (ok_loadA rfl agg26 sz26 (vl rfl) rfl rfl) ?_
 refine Ch.oo rfl rfl rfl (ok_callc b rfl (vl rfl) ⟨ke rfl, trivial⟩) ?_
 refine Ch.oo rfl rfl rfl (ok_call rfl (w_cmpI) ⟨ke rfl, ke rfl, trivial⟩) ?_
 refine Ch.as rfl rfl rfl rfl rfl ?_
 refine Ch.nil (Fin.go (Tr.ret ?_))
 refine Fin.ret1 rfl (OutW.bse _ _) rfl ?_
 · first | exact Pr.le_refl _ | (refine int_eq ?_; simp_all; done) | (refine bool_eq ?_; simp_all; done) | (refine bool_eq ?_; simp_all; omega) | (refine int_eq ?_; omega)
theorem e_O11 : Entry Tryz.prog 132 := ⟨_, Tryz.func132, rfl, rfl⟩
set_option maxRecDepth 20000 in
theorem w_O21 {g : Fnd → List UInt8} {a b : Fnd}  : Fun Tryz.prog 134 [ref [clo Tryz.prog (fun f : Fnd => [agg (rowF f)]) (fun f => str (g f))], ref (rowF a), ref (rowF b)] (int (Lib.compareBytes (g a) (g b))) := by
 refine Fun.of Tryz.func134 rfl rfl (by exact Nat.le_of_ble_eq_true rfl) fun M0 w0 => ?_
 refine Tr.seq (Tr.reg0 ?_)
 refine Ch.as rfl rfl rfl rfl rfl ?_
 refine Ch.nil (Fin.go (Tr.seq ?_))
 refine Tr.reg1 mixed (by kernel_rfl) ?_
 refine Ch.oo rfl rfl rfl (ok_load1 rfl one159 (vl rfl)) ?_
 refine Ch.oo rfl rfl rfl (ok_loadA rfl agg26 sz26 (vl rfl) rfl rfl) ?_
 refine Ch.oo rfl rfl rfl (ok_callc a rfl (vl rfl) ⟨ke rfl, trivial⟩) ?_
 refine Ch.oo rfl rfl rfl (ok_load1 rfl one159 (vl rfl)) ?_
 refine Ch.oo rfl rfl rfl (ok_loadA rfl agg26 sz26 (vl rfl) rfl rfl) ?_
 refine Ch.oo rfl rfl rfl (ok_callc b rfl (vl rfl) ⟨ke rfl, trivial⟩) ?_
 refine Ch.oo rfl rfl rfl (ok_call rfl (w_cmpS) ⟨ke rfl, ke rfl, trivial⟩) ?_
 refine Ch.as rfl rfl rfl rfl rfl ?_
 refine Ch.nil (Fin.go (Tr.ret ?_))
 refine Fin.ret1 rfl (OutW.bse _ _) rfl ?_
 · first | exact Pr.le_refl _ | (refine int_eq ?_; simp_all; done) | (refine bool_eq ?_; simp_all; done) | (refine bool_eq ?_; simp_all; omega) | (refine int_eq ?_; omega)
theorem e_O21 : Entry Tryz.prog 134 := ⟨_, Tryz.func134, rfl, rfl⟩
set_option maxRecDepth 20000 in
theorem w_O1 {g : Fnd → Int} {a b : Fnd}  : Fun Tryz.prog 131 [clo Tryz.prog (fun f : Fnd => [agg (rowF f)]) (fun f => int (g f)), ref (rowF a), ref (rowF b)] (clo Tryz.prog (fun _ : Unit => []) (fun _ => int (cmpI (g a) (g b)))) := by
 refine Fun.of Tryz.func131 rfl rfl (by exact Nat.le_of_ble_eq_true rfl) fun M0 w0 => ?_
 refine Tr.seq (Tr.reg0 ?_)
 refine Ch.oo rfl rfl rfl (ok_box rfl (VL.le (vl rfl) (one_cellsP _))) ?_
 refine Ch.as rfl rfl rfl rfl rfl ?_
 refine Ch.nil (Fin.go (Tr.seq (Tr.reg0 ?_)))
 refine Ch.oo rfl rfl rfl (ok_makeFunc rfl rfl) ?_
 refine Ch.as rfl rfl rfl rfl rfl ?_
 refine Ch.nil (Fin.go (Tr.ret ?_))
 refine Fin.ret1 rfl (OutW.bse _ _) rfl ?_
 · exact fn_le_clo e_O11 (fun _ => w_O11)
theorem e_O1 : Entry Tryz.prog 131 := ⟨_, Tryz.func131, rfl, rfl⟩
set_option maxRecDepth 20000 in
theorem w_O2 {g : Fnd → List UInt8} {a b : Fnd}  : Fun Tryz.prog 133 [clo Tryz.prog (fun f : Fnd => [agg (rowF f)]) (fun f => str (g f)), ref (rowF a), ref (rowF b)] (clo Tryz.prog (fun _ : Unit => []) (fun _ => int (Lib.compareBytes (g a) (g b)))) := by
 refine Fun.of Tryz.func133 rfl rfl (by exact Nat.le_of_ble_eq_true rfl) fun M0 w0 => ?_
 refine Tr.seq (Tr.reg0 ?_)
 refine Ch.oo rfl rfl rfl (ok_box rfl (VL.le (vl rfl) (one_cellsP _))) ?_
 refine Ch.as rfl rfl rfl rfl rfl ?_
 refine Ch.nil (Fin.go (Tr.seq (Tr.reg0 ?_)))
 refine Ch.oo rfl rfl rfl (ok_makeFunc rfl rfl) ?_
 refine Ch.as rfl rfl rfl rfl rfl ?_
 refine Ch.nil (Fin.go (Tr.ret ?_))
 refine Fin.ret1 rfl (OutW.bse _ _) rfl ?_
 · exact fn_le_clo e_O21 (fun _ => w_O21)
theorem e_O2 : Entry Tryz.prog 133 := ⟨_, Tryz.func133, rfl, rfl⟩

theorem ordF_hit {a b : Fnd} {k : Nat} {x : Int} (hx : (keysF a b)[k]? = some x) (h0 : ¬ x = 0) (h : ∀ j y, j < k → (keysF a b)[j]? = some y → (y != 0) = false) : x = ordF a b := by
  have := orF_hit hx h0 h; rw [orL_orF] at this; exact this
theorem ordF_none {a b : Fnd} (h : ∀ j y, j < (keysF a b).length → (keysF a b)[j]? = some y → (y != 0) = false) : 0 = ordF a b := by
  have := orF_none h; rw [orL_orF] at this; exact this

set_option maxRecDepth 20000 in
theorem w_FOrder {a b : Fnd}  : Fun Tryz.prog 82 [agg (rowF a), agg (rowF b)] (int (ordF a b)) := by
 refine Fun.of Tryz.func82 rfl rfl (by exact Nat.le_of_ble_eq_true rfl) fun M0 w0 => ?_
 refine Tr.seq (Tr.reg0 ?_)
 refine Ch.oo rfl rfl rfl (ok_box rfl (VL.le (vl rfl) (agg_cellsP _))) ?_
 refine Ch.oo rfl rfl rfl (ok_box rfl (VL.le (vl rfl) (agg_cellsP _))) ?_
 refine Ch.as rfl rfl rfl rfl rfl ?_
 refine Ch.nil (Fin.go (Tr.seq (Tr.reg0 ?_)))
 refine Ch.oo rfl rfl rfl (ok_makeFunc rfl rfl) ?_
 refine Ch.as rfl rfl rfl rfl rfl ?_
 refine Ch.nil (Fin.go (Tr.seq (Tr.reg0 ?_)))
 refine Ch.oo rfl rfl rfl (ok_makeFunc rfl rfl) ?_
 refine Ch.as rfl rfl rfl rfl rfl ?_
 refine Ch.nil (Fin.go (Tr.seq (Tr.seq ?_)))
 refine Tr.re 5 rfl (fn_le_clo (dom := fun g : Fnd → Int => [clo Tryz.prog (fun f : Fnd => [agg (rowF f)]) (fun f => int (g f))]) (res := fun g => clo Tryz.prog (fun _ : Unit => []) (fun _ => int (cmpI (g a) (g b)))) e_O1 (fun g => w_O1 (g := g) (a := a) (b := b))) ?_
 refine Tr.re 6 rfl (fn_le_clo (dom := fun g : Fnd → List UInt8 => [clo Tryz.prog (fun f : Fnd => [agg (rowF f)]) (fun f => str (g f))]) (res := fun g => clo Tryz.prog (fun _ : Unit => []) (fun _ => int (Lib.compareBytes (g a) (g b)))) e_O2 (fun g => w_O2 (g := g) (a := a) (b := b))) ?_
 refine Tr.reg0 ?_
 refine Ch.mv rfl rfl rfl rfl rfl ?_
 refine Ch.oo rfl rfl rfl (ok_callc (fun f : Fnd => f.host) rfl (vl rfl) ⟨⟨_, rfl, fn_le_clo (dom := fun f : Fnd => [agg (rowF f)]) (res := fun f => str f.host) e_Og3 (fun f => w_Og3 (f := f))⟩, trivial⟩) ?_
 refine Ch.mv rfl rfl rfl rfl rfl ?_
 refine Ch.oo rfl rfl rfl (ok_callc (fun f : Fnd => f.machine) rfl (vl rfl) ⟨⟨_, rfl, fn_le_clo (dom := fun f : Fnd => [agg (rowF f)]) (res := fun f => int f.machine) e_Og4 (fun f => w_Og4 (f := f))⟩, trivial⟩) ?_
 refine Ch.mv rfl rfl rfl rfl rfl ?_
 refine Ch.oo rfl rfl rfl (ok_callc (fun f : Fnd => f.day) rfl (vl rfl) ⟨⟨_, rfl, fn_le_clo (dom := fun f : Fnd => [agg (rowF f)]) (res := fun f => int f.day) e_Og5 (fun f => w_Og5 (f := f))⟩, trivial⟩) ?_
 refine Ch.mv rfl rfl rfl rfl rfl ?_
 refine Ch.oo rfl rfl rfl (ok_callc (fun f : Fnd => f.subj) rfl (vl rfl) ⟨⟨_, rfl, fn_le_clo (dom := fun f : Fnd => [agg (rowF f)]) (res := fun f => str f.subj) e_Og6 (fun f => w_Og6 (f := f))⟩, trivial⟩) ?_
 refine Ch.mv rfl rfl rfl rfl rfl ?_
 refine Ch.oo rfl rfl rfl (ok_callc (fun f : Fnd => f.kind) rfl (vl rfl) ⟨⟨_, rfl, fn_le_clo (dom := fun f : Fnd => [agg (rowF f)]) (res := fun f => int f.kind) e_Og7 (fun f => w_Og7 (f := f))⟩, trivial⟩) ?_
 refine Ch.mv rfl rfl rfl rfl rfl ?_
 refine Ch.oo rfl rfl rfl (ok_callc (fun f : Fnd => f.alg) rfl (vl rfl) ⟨⟨_, rfl, fn_le_clo (dom := fun f : Fnd => [agg (rowF f)]) (res := fun f => int f.alg) e_Og8 (fun f => w_Og8 (f := f))⟩, trivial⟩) ?_
 refine Ch.mv rfl rfl rfl rfl rfl ?_
 refine Ch.oo rfl rfl rfl (ok_callc (fun f : Fnd => f.bits) rfl (vl rfl) ⟨⟨_, rfl, fn_le_clo (dom := fun f : Fnd => [agg (rowF f)]) (res := fun f => int f.bits) e_Og9 (fun f => w_Og9 (f := f))⟩, trivial⟩) ?_
 refine Ch.mv rfl rfl rfl rfl rfl ?_
 refine Ch.oo rfl rfl rfl (ok_callc (fun f : Fnd => f.num) rfl (vl rfl) ⟨⟨_, rfl, fn_le_clo (dom := fun f : Fnd => [agg (rowF f)]) (res := fun f => int f.num) e_Og10 (fun f => w_Og10 (f := f))⟩, trivial⟩) ?_
 refine Ch.mv rfl rfl rfl rfl rfl ?_
 refine Ch.oo rfl rfl rfl (ok_callc (fun f : Fnd => f.text) rfl (vl rfl) ⟨⟨_, rfl, fn_le_clo (dom := fun f : Fnd => [agg (rowF f)]) (res := fun f => str f.text) e_Og11 (fun f => w_Og11 (f := f))⟩, trivial⟩) ?_
 refine Ch.mv rfl rfl rfl rfl rfl ?_
 refine Ch.oo rfl rfl rfl (ok_callc (fun f : Fnd => f.src) rfl (vl rfl) ⟨⟨_, rfl, fn_le_clo (dom := fun f : Fnd => [agg (rowF f)]) (res := fun f => int f.src) e_Og12 (fun f => w_Og12 (f := f))⟩, trivial⟩) ?_
 refine Ch.mv rfl rfl rfl rfl rfl ?_
 refine Ch.oo rfl rfl rfl (ok_callc (fun f : Fnd => f.conf) rfl (vl rfl) ⟨⟨_, rfl, fn_le_clo (dom := fun f : Fnd => [agg (rowF f)]) (res := fun f => int f.conf) e_Og13 (fun f => w_Og13 (f := f))⟩, trivial⟩) ?_
 refine Ch.oo rfl rfl rfl (ok_buildSlice (xs := [.tmp 13, .tmp 15, .tmp 17, .tmp 19, .tmp 21, .tmp 23, .tmp 25, .tmp 27, .tmp 29, .tmp 31, .tmp 33]) (rows := [[_], [_], [_], [_], [_], [_], [_], [_], [_], [_], [_]]) rfl rfl Tryz.underlying162 sz157 z157 rfl (by decide) ⟨⟨(by exact rfl), (VL.le (vl rfl) (one_cellsP _))⟩, ⟨⟨(by exact rfl), (VL.le (vl rfl) (one_cellsP _))⟩, ⟨⟨(by exact rfl), (VL.le (vl rfl) (one_cellsP _))⟩, ⟨⟨(by exact rfl), (VL.le (vl rfl) (one_cellsP _))⟩, ⟨⟨(by exact rfl), (VL.le (vl rfl) (one_cellsP _))⟩, ⟨⟨(by exact rfl), (VL.le (vl rfl) (one_cellsP _))⟩, ⟨⟨(by exact rfl), (VL.le (vl rfl) (one_cellsP _))⟩, ⟨⟨(by exact rfl), (VL.le (vl rfl) (one_cellsP _))⟩, ⟨⟨(by exact rfl), (VL.le (vl rfl) (one_cellsP _))⟩, ⟨⟨(by exact rfl), (VL.le (vl rfl) (one_cellsP _))⟩, ⟨⟨(by exact rfl), (VL.le (vl rfl) (one_cellsP _))⟩, trivial⟩⟩⟩⟩⟩⟩⟩⟩⟩⟩⟩ (by decide)) ?_
 first
  | refine Ch.oo rfl rfl rfl (ok_lenm rfl Tryz.underlying162 ⟨_, rfl, full_le _ _⟩) ?_
  | refine Ch.oo rfl rfl rfl (ok_len rfl Tryz.underlying162 ⟨_, rfl, full_le _ _⟩) ?_
 refine Ch.mv rfl rfl rfl rfl rfl ?_
 refine Ch.nil (Fin.go ?_)
 refine Tr.w3 34 35 36 rfl rfl rfl ?_
 refine Tr.block ?_
 refine Tr.re 34 rfl (Pr.le_trans (full_le _ _) (Pr.le_of_eq (show _ = slice 1 ((keysF a b).map fun k => [clo Tryz.prog (fun _ : Unit => []) (fun _ => int (k))]) from rfl))) ?_
 refine Tr.re 35 rfl (int_eq (b := (((keysF a b).length : Nat) : Int)) rfl) ?_
 refine Tr.loopw [(34, _), (35, _)] ⟨ke rfl, ke rfl, trivial⟩ (fun k : Nat => [(36, int ((k : Nat) : Int))]) (fun k : Nat => k ≤ (keysF a b).length ∧ (∀ j y, j < k → (keysF a b)[j]? = some y → (y != 0) = false)) (fun k : Nat => (keysF a b).length - k) 0 (⟨Nat.zero_le _, fun j y hj => absurd hj (by omega)⟩) ⟨ke rfl, trivial⟩ ?_
 rintro k ⟨hle_k, hinv_k⟩
 refine Tr.seq (Tr.reg0 ?_)
 refine Ch.oo rfl rfl rfl (ok_int rfl (vl rfl) (vl rfl) rfl) ?_
 refine Ch.nil (Fin.go (Tr.seq ?_))
 refine Tr.cn rfl (fun h1 q1 => ?_) (fun h1 q1 => ?_)
 ·
  have hk_k : k < (keysF a b).length := lt_of_dec h1
  obtain ⟨x, hx_k⟩ := at_ hk_k
  have hL : k < 11 := hk_k
  refine Tr.skip (Fin.go (Tr.seq (Tr.block (Tr.seq (Tr.reg0 ?_)))))
  refine Ch.oo rfl rfl rfl (ok_indexAddr rfl Tryz.underlying162 sz157 (vl rfl) (vl rfl) (by omega) (row_at (f := fun k => [clo Tryz.prog (fun _ : Unit => []) (fun _ => int (k))]) hx_k)) ?_
  refine Ch.oo rfl rfl rfl (ok_load1 rfl one157 (vl rfl)) ?_
  refine Ch.as rfl rfl rfl rfl rfl ?_
  refine Ch.nil (Fin.go (Tr.seq (Tr.reg0 ?_)))
  refine Ch.mv rfl rfl rfl rfl rfl ?_
  refine Ch.oo rfl rfl rfl (ok_callc () rfl (vl rfl) trivial) ?_
  refine Ch.as rfl rfl rfl rfl rfl ?_
  refine Ch.nil (Fin.go (Tr.seq (Tr.reg0 ?_)))
  refine Ch.mv rfl rfl rfl rfl rfl ?_
  refine Ch.oo rfl rfl rfl (ok_int rfl (vl rfl) (vl rfl) rfl) ?_
  refine Ch.nil (Fin.go ?_)
  refine Tr.cn rfl (fun h2 q2 => ?_) (fun h2 q2 => ?_)
  ·
   refine Tr.seq (Tr.reg0 ?_)
   refine Ch.mv rfl rfl rfl rfl rfl ?_
   refine Ch.as rfl rfl rfl rfl rfl ?_
   refine Ch.nil (Fin.go ?_)
   refine Tr.w1 4 rfl ?_
   refine Tr.ret ?_
   refine Fin.block_ret ?_
   refine Fin.then_ret ?_
   refine Fin.then_ret ?_
   refine Fin.block_ret ?_
   refine Fin.then_ret ?_
   refine Fin.ret1 rfl (OutW.bse _ _) rfl ?_
   · exact int_eq (ordF_hit hx_k (by assumption) hinv_k)
  ·
   refine Tr.skip (Fin.block (Fin.go (Tr.reg0 ?_)))
   first
    | (refine Ch.oo rfl rfl rfl (ok_add rfl (vl rfl) (vl rfl) ?hin) ?_; case hin => unfold InI; omega)
    | refine Ch.oo rfl rfl rfl (ok_int rfl (vl rfl) (vl rfl) rfl) ?_
   refine Ch.mv rfl rfl rfl rfl rfl ?_
   refine Ch.nil ?_
   exact Fin.fam_same (k + 1) ⟨⟨hk_k, step_no (p := fun y => y != 0) hx_k (by simpa using by assumption) hinv_k⟩, by omega⟩ ⟨⟨_, rfl, int_succ k⟩, ke rfl, ke rfl, trivial⟩
 ·
  have he_k : k = (keysF a b).length := by have := ge_of_dec h1; omega
  subst he_k
  refine Tr.exit ?_
  refine Fin.then_exit ?_
  refine Fin.then_exit ?_
  refine Fin.block_here ?_
  refine Fin.go (Tr.seq (Tr.reg0 ?_))
  refine Ch.as rfl rfl rfl rfl rfl ?_
  refine Ch.nil (Fin.go (Tr.ret ?_))
  refine Fin.ret1 rfl (OutW.bse _ _) rfl ?_
  · exact int_eq (ordF_none hinv_k)
theorem e_FOrder : Entry Tryz.prog 82 := ⟨_, Tryz.func82, rfl, rfl⟩
end Go.Proofs.YtgdlhajfajddiaaGreat
namespace Cp
open Go Go.RowKit Go.Great

section
variable {P : Program} {E : Env} {I : Asn} {o : Oper}
theorem slice_part {M : Av} {w : World} {sz : Nat} {rows : List (List Pr)} {A : Option Addr} {cap lo hi : Nat} (h : (slice sz rows).h M w (.slice A rows.length cap)) (h1 : lo ≤ hi) (h2 : hi ≤ rows.length) :
    (slice sz ((rows.take hi).drop lo)).h M w (.slice (if cap = lo then A else A.map (·.add (lo * sz))) (hi - lo) (cap - lo)) := by
  obtain ⟨A', cap', hv, hc, hm, hA, hr⟩ := h
  injection hv with e1 _ e3
  subst e1; subst e3
  have hlen : ((rows.take hi).drop lo).length = hi - lo := by rw [List.length_drop, List.length_take]; omega
  refine ⟨_, cap - lo, by rw [hlen], by rw [hlen]; omega, by omega, fun h => ?_, fun i row hi' => ?_⟩
  · split at h
    · have := hA h; omega
    · cases hA2 : A with
      | none => have := hA hA2; omega
      | some a => rw [hA2] at h; cases h
  · rw [List.getElem?_drop, List.getElem?_take] at hi'
    split at hi'
    · rename_i hlt
      obtain ⟨h3, ad, h4, h5⟩ := hr _ row hi'
      subst h4
      rw [if_neg (by omega)]
      refine ⟨h3, _, rfl, fun j p hp => ?_⟩
      obtain ⟨u, h6, h7, h8, h9⟩ := h5 j p hp
      refine ⟨u, ?_, ?_, h8, h9⟩
      · rw [add_add, show lo * sz + (i * sz + j) = (lo + i) * sz + j by rw [Nat.add_mul]; omega]; exact h6
      · rw [add_block, add_off, show ad.off + lo * sz + (i * sz + j) = ad.off + ((lo + i) * sz + j) by rw [Nat.add_mul]; omega]; exact h7
    · cases hi'
theorem ok_sliceTo {t e : TypeId} {x y : Operand} {k : IntKind} {h : Int} {sz : Nat} {rows : List (List Pr)} (ho : o.op = .slice t x none (some y) none) (ht : P.underlying t = some (.slice e)) (hz : sizeB P e = some sz) (hx : VL E x (slice sz rows)) (hy : VL E y (is (.int k h))) (h0 : 0 ≤ h) (hl : h ≤ rows.length) :
    OpOK P I o E (slice sz (rows.take h.toNat)) :=
  OpOK.same fun M w a he _ => by
    have h1 := hx.ev he (by simp [ho, Op.operands])
    have h3 : a.eval y = _ := hy.ev he (by simp [ho, Op.operands])
    obtain ⟨A, cap, hv, hc, hm, hA, hr⟩ := h1
    have h2 := slice_part (lo := 0) (hi := h.toNat) (show (slice sz rows).h M w (.slice A rows.length cap) from ⟨A, cap, rfl, hc, hm, hA, hr⟩) (by omega) (by omega)
    refine ⟨_, ?_, by simpa using h2⟩
    have hb : h ≤ (cap : Int) := by omega
    simp [execOp, ho, hv, h3, Instr.sliceAt, Instr.slice, run_underlying ht, Instr.sliceBounds, Instr.sliceBound, asIntOf, h0, hb, run_size hz]
theorem ok_sliceFrom {t e : TypeId} {x y : Operand} {k : IntKind} {l : Int} {sz : Nat} {rows : List (List Pr)} (ho : o.op = .slice t x (some y) none none) (ht : P.underlying t = some (.slice e)) (hz : sizeB P e = some sz) (hx : VL E x (slice sz rows)) (hy : VL E y (is (.int k l))) (h0 : 0 ≤ l) (hl : l ≤ rows.length) :
    OpOK P I o E (slice sz (rows.drop l.toNat)) :=
  OpOK.same fun M w a he _ => by
    have h1 := hx.ev he (by simp [ho, Op.operands])
    have h3 : a.eval y = _ := hy.ev he (by simp [ho, Op.operands])
    obtain ⟨A, cap, hv, hc, hm, hA, hr⟩ := h1
    have h2 := slice_part (lo := l.toNat) (hi := rows.length) (show (slice sz rows).h M w (.slice A rows.length cap) from ⟨A, cap, rfl, hc, hm, hA, hr⟩) (by omega) (Nat.le_refl _)
    rw [List.take_length] at h2
    refine ⟨_, ?_, h2⟩
    simp [execOp, ho, hv, h3, Instr.sliceAt, Instr.slice, run_underlying ht, Instr.sliceBounds, Instr.sliceBound, asIntOf, h0, hl, run_size hz]
end
end Cp
namespace Go.Proofs.YtgdlhajfajddiaaGreat
open Go Go.RowKit Cp

def AdjF (l : List Fnd) : Prop := ∀ (j : Nat) a b, l[j]? = some a → l[j + 1]? = some b → ordF a b < 0
structure NormP (l : List Fnd) : Prop where
  check : ∀ f ∈ l, checkF f = true
  adj : AdjF l
  len : l.length ≤ 400
abbrev AdjTo (l : List Fnd) (k : Nat) : Prop := ∀ (j : Nat) a b, j + 1 < k → l[j]? = some a → l[j + 1]? = some b → ordF a b < 0
theorem adj_step {l : List Fnd} {k : Nat} {x : Fnd} (hx : l[k]? = some x) (hp : ∀ y, 0 < k → l[k - 1]? = some y → ordF y x < 0) (h : AdjTo l k) : AdjTo l (k + 1) := by
  intro j a b hj ha hb
  by_cases hjk : j + 1 = k
  · subst hjk
    rw [hx] at hb; cases hb
    exact hp a (by omega) (by simpa using ha)
  · exact h j a b (by omega) ha hb
abbrev ChTo (l : List Fnd) (k : Nat) : Prop := ∀ (j : Nat) y, j < k → l[j]? = some y → checkF y = true
theorem ch_step {l : List Fnd} {k : Nat} {x : Fnd} (hx : l[k]? = some x) (hp : checkF x = true) (h : ChTo l k) : ChTo l (k + 1) := by
  intro j y hj hy
  by_cases hjk : j = k
  · subst hjk; rw [hx] at hy; cases hy; exact hp
  · exact h j y (by omega) hy
theorem ch_all {l : List Fnd} (h : ChTo l l.length) : ∀ f ∈ l, checkF f = true := by
  intro f hf
  obtain ⟨j, hj⟩ := List.mem_iff_getElem?.1 hf
  exact h j f (by rcases Nat.lt_or_ge j l.length with h' | h'; exact h'; rw [List.getElem?_eq_none h'] at hj; cases hj) hj
theorem adj_all {l : List Fnd} (h : AdjTo l l.length) : AdjF l := fun j a b ha hb => h j a b (by rcases Nat.lt_or_ge (j + 1) l.length with h' | h'; exact h'; rw [List.getElem?_eq_none h'] at hb; cases hb) ha hb
theorem check_no {f : Fnd} (h : ¬ (if checkF f = true then (0 : Int) else 24) = 0) : checkF f = false := by
  cases hc : checkF f with
  | false => rfl
  | true => rw [if_pos hc] at h; exact absurd rfl h
theorem check_yes {f : Fnd} (h : (if checkF f = true then (0 : Int) else 24) = 0) : checkF f = true := by
  cases hc : checkF f with
  | true => rfl
  | false => rw [hc] at h; cases h
theorem pred_at {l : List Fnd} {f : Fnd → List Pr} {k : Nat} {x : Fnd} (h0 : 0 < k) (h : l[k - 1]? = some x) : (l.map f)[(((k : Nat) : Int) - 1).toNat]? = some (f x) := by
  rw [show (((k : Nat) : Int) - 1).toNat = k - 1 by omega, List.getElem?_map, h]; rfl

set_option maxRecDepth 20000 in
theorem w_FNormal {l : List Fnd} (hf : ∀ f ∈ l, f.fits) [Decidable (NormP l)] : Fun Tryz.prog 68 [fnds l] (bool (decide (NormP l))) := by
 refine Fun.of Tryz.func68 rfl rfl (by exact Nat.le_of_ble_eq_true rfl) fun M0 w0 => ?_
 refine Tr.lenm 0 rfl fun hlm_0 => ?_
 refine Tr.seq (Tr.reg0 ?_)
 refine Ch.as rfl rfl rfl rfl rfl ?_
 refine Ch.nil (Fin.go (Tr.seq (Tr.seq (Tr.reg0 ?_))))
 refine Ch.mv rfl rfl rfl rfl rfl ?_
 first
  | refine Ch.oo rfl rfl rfl (ok_lenm rfl Tryz.underlying31 (vl rfl)) ?_
  | refine Ch.oo rfl rfl rfl (ok_len rfl Tryz.underlying31 (vl rfl)) ?_
 refine Ch.mv rfl rfl rfl rfl rfl ?_
 refine Ch.nil (Fin.go (Tr.block ?_))
 refine Tr.loopw [(0, _), (5, _), (6, _)] ⟨ke rfl, ke rfl, ke rfl, trivial⟩ (fun k : Nat => [(7, int ((k : Nat) : Int))]) (fun k : Nat => k ≤ (l).length ∧ (ChTo l k ∧ AdjTo l k)) (fun k : Nat => (l).length - k) 0 (⟨Nat.zero_le _, ⟨fun j y hj => absurd hj (by omega), fun j a b hj => absurd hj (by omega)⟩⟩) ⟨ke rfl, trivial⟩ ?_
 rintro k ⟨hle_k, hinv_k⟩
 refine Tr.seq (Tr.reg0 ?_)
 refine Ch.oo rfl rfl rfl (ok_int rfl (vl rfl) (vl rfl) rfl) ?_
 refine Ch.nil (Fin.go (Tr.seq ?_))
 refine Tr.cn rfl (fun h1 q1 => ?_) (fun h1 q1 => ?_)
 ·
  have hk_k : k < (l).length := lt_of_dec h1
  obtain ⟨x, hx_k⟩ := at_ hk_k
  refine Tr.skip (Fin.go (Tr.seq (Tr.block (Tr.seq (Tr.regT ?_)))))
  refine TO.mv rfl rfl rfl rfl rfl ?_
  refine TO.oo rfl rfl rfl (ok_indexAddr rfl Tryz.underlying31 sz26 (vl rfl) (vl rfl) (by omega) (by first | exact row_at (by assumption) | exact row_atI (by assumption) | assumption)) ?_
  refine TO.oo rfl rfl rfl (ok_loadA rfl agg26 sz26 (vl rfl) rfl rfl) ?_
  refine TO.alloc rfl rfl (by decide) rfl z26 zo26 (fun b1 => ?_)
  refine TO.as rfl rfl rfl rfl rfl ?_
  refine TO.store_all 0 rfl rfl rfl (vl rfl) (VL.le (vl rfl) (agg_cellsP _)) rfl sz26 rfl rfl ?_
  refine TO.freeze 0 4 rfl rfl ?_
  refine TO.nil (Fin.go (Tr.seq ?_))
  refine Tr.reg1 mixed (by kernel_rfl) ?_
  refine Ch.oo rfl rfl rfl (ok_loadA rfl agg26 sz26 (vl rfl) rfl rfl) ?_
  refine Ch.oo rfl rfl rfl (ok_call rfl (w_FCheck (hf x (List.mem_of_getElem? hx_k))) ⟨ke rfl, trivial⟩) ?_
  refine Ch.oo rfl rfl rfl (ok_int rfl (vl rfl) (vl rfl) rfl) ?_
  refine Ch.mv rfl rfl rfl rfl rfl ?_
  refine Ch.cs 15 rfl (fun h2 q2 => ?_) (fun h2 q2 => ?_)
  ·
   have hc := check_no q2
   iterate 3 refine Ch.nf h2 rfl rfl rfl rfl rfl ?_
   iterate 8 refine Ch.u rfl rfl rfl rfl rfl ?_
   refine Ch.nf h2 rfl rfl rfl rfl rfl ?_
   refine Ch.oo rfl rfl rfl (ok_pick_t rfl (vl rfl) h2 (vl rfl)) ?_
   refine Ch.nil (Fin.go ?_)
   refine Tr.w5 0 5 6 7 28 rfl rfl rfl rfl rfl ?_
   refine Tr.cond rfl (fun _ => ?_) (fun h => nomatch h)
   refine Tr.seq (Tr.reg0 ?_)
   refine Ch.as rfl rfl rfl rfl rfl ?_
   refine Ch.nil (Fin.go (Tr.ret ?_))
   refine Fin.block_ret ?_
   refine Fin.then_ret ?_
   refine Fin.then_ret ?_
   refine Fin.block_ret ?_
   refine Fin.then_ret ?_
   refine Fin.ret1 rfl (OutW.bse _ _) rfl ?_
   · first | (refine bool_eq ?_; symm; rw [decide_eq_false_iff_not]; intro hn; have := hn.check x (List.mem_of_getElem? hx_k); rw [hc] at this; cases this; done) | (refine bool_eq ?_; symm; rw [decide_eq_false_iff_not]; intro hn; have := hn.adj (k - 1) p x hp (by rw [show k - 1 + 1 = k by omega]; exact hx_k); omega; done) | (refine bool_eq ?_; rw [decide_eq_decide]; exact ⟨fun hl => ⟨ch_all hinv_k.1, adj_all hinv_k.2, by omega⟩, fun hn => by have := hn.len; omega⟩)
  ·
   have hc := check_yes q2
   refine Ch.ym h2 rfl rfl rfl rfl rfl rfl rfl ?_
   refine Ch.y h2 rfl rfl rfl rfl rfl (ok_int rfl (vl rfl) (vl rfl) rfl) ?_
   refine Ch.ym h2 rfl rfl rfl rfl rfl rfl rfl ?_
   refine Ch.cs 18 rfl (fun h3 q3 => ?_) (fun h3 q3 => ?_)
   ·
    obtain ⟨p, hp⟩ := at_ (l := l) (k := k - 1) (by omega)
    refine Ch.ym h3 rfl rfl rfl rfl rfl rfl rfl ?_
    refine Ch.ym h3 rfl rfl rfl rfl rfl rfl rfl ?_
    first
     | (refine Ch.y h3 rfl rfl rfl rfl rfl (ok_sub rfl (vl rfl) (vl rfl) ?hin) ?_; case hin => unfold InI; omega)
     | refine Ch.y h3 rfl rfl rfl rfl rfl (ok_int rfl (vl rfl) (vl rfl) rfl) ?_
    refine Ch.y h3 rfl rfl rfl rfl rfl (ok_indexAddr rfl Tryz.underlying31 sz26 (vl rfl) (vl rfl) (by omega) (pred_at (by omega) hp)) ?_
    refine Ch.y h3 rfl rfl rfl rfl rfl (ok_loadA rfl agg26 sz26 (vl rfl) rfl rfl) ?_
    refine Ch.y h3 rfl rfl rfl rfl rfl (ok_loadA rfl agg26 sz26 (vl rfl) rfl rfl) ?_
    refine Ch.y h3 rfl rfl rfl rfl rfl (ok_call rfl (w_FOrder) ⟨ke rfl, ke rfl, trivial⟩) ?_
    refine Ch.y h3 rfl rfl rfl rfl rfl (ok_int rfl (vl rfl) (vl rfl) rfl) ?_
    refine Ch.y h2 rfl rfl rfl rfl rfl (ok_pick_t rfl (vl rfl) h3 (vl rfl)) ?_
    refine Ch.oo rfl rfl rfl (ok_pick_f rfl (vl rfl) h2 (vl rfl)) ?_
    refine Ch.nil (Fin.go ?_)
    refine Tr.w5 0 5 6 7 28 rfl rfl rfl rfl rfl ?_
    refine Tr.cn rfl (fun h4 q4 => ?_) (fun h4 q4 => ?_)
    ·
     refine Tr.seq (Tr.reg0 ?_)
     refine Ch.as rfl rfl rfl rfl rfl ?_
     refine Ch.nil (Fin.go (Tr.ret ?_))
     refine Fin.block_ret ?_
     refine Fin.then_ret ?_
     refine Fin.then_ret ?_
     refine Fin.block_ret ?_
     refine Fin.then_ret ?_
     refine Fin.ret1 rfl (OutW.bse _ _) rfl ?_
     · first | (refine bool_eq ?_; symm; rw [decide_eq_false_iff_not]; intro hn; have := hn.check x (List.mem_of_getElem? hx_k); rw [hc] at this; cases this; done) | (refine bool_eq ?_; symm; rw [decide_eq_false_iff_not]; intro hn; have := hn.adj (k - 1) p x hp (by rw [show k - 1 + 1 = k by omega]; exact hx_k); omega; done) | (refine bool_eq ?_; rw [decide_eq_decide]; exact ⟨fun hl => ⟨ch_all hinv_k.1, adj_all hinv_k.2, by omega⟩, fun hn => by have := hn.len; omega⟩)
    ·
     refine Tr.skip (Fin.block (Fin.go (Tr.reg0 ?_)))
     first
      | (refine Ch.oo rfl rfl rfl (ok_add rfl (vl rfl) (vl rfl) ?hin) ?_; case hin => unfold InI; omega)
      | refine Ch.oo rfl rfl rfl (ok_int rfl (vl rfl) (vl rfl) rfl) ?_
     refine Ch.mv rfl rfl rfl rfl rfl ?_
     refine Ch.nil ?_
     exact Fin.fam_same (k + 1) ⟨⟨hk_k, ⟨ch_step hx_k hc hinv_k.1, adj_step hx_k (by intro y h0 hy; first | omega | (rw [hp] at hy; cases hy; omega)) hinv_k.2⟩⟩, by omega⟩ ⟨⟨_, rfl, int_succ k⟩, ke rfl, ke rfl, ke rfl, trivial⟩
   ·
    iterate 8 refine Ch.nt h3 rfl rfl rfl rfl rfl ?_
    refine Ch.y h2 rfl rfl rfl rfl rfl (ok_pick_f rfl (vl rfl) h3 (vl rfl)) ?_
    refine Ch.oo rfl rfl rfl (ok_pick_f rfl (vl rfl) h2 (vl rfl)) ?_
    refine Ch.nil (Fin.go ?_)
    refine Tr.w5 0 5 6 7 28 rfl rfl rfl rfl rfl ?_
    refine Tr.cond rfl (fun h => nomatch h) (fun _ => ?_)
    refine Tr.skip (Fin.block (Fin.go (Tr.reg0 ?_)))
    first
     | (refine Ch.oo rfl rfl rfl (ok_add rfl (vl rfl) (vl rfl) ?hin) ?_; case hin => unfold InI; omega)
     | refine Ch.oo rfl rfl rfl (ok_int rfl (vl rfl) (vl rfl) rfl) ?_
    refine Ch.mv rfl rfl rfl rfl rfl ?_
    refine Ch.nil ?_
    exact Fin.fam_same (k + 1) ⟨⟨hk_k, ⟨ch_step hx_k hc hinv_k.1, adj_step hx_k (by intro y h0 hy; first | omega | (rw [hp] at hy; cases hy; omega)) hinv_k.2⟩⟩, by omega⟩ ⟨⟨_, rfl, int_succ k⟩, ke rfl, ke rfl, ke rfl, trivial⟩
 ·
  have he_k : k = (l).length := by have := ge_of_dec h1; omega
  subst he_k
  refine Tr.exit ?_
  refine Fin.then_exit ?_
  refine Fin.then_exit ?_
  refine Fin.block_here ?_
  refine Fin.go (Tr.seq (Tr.reg0 ?_))
  refine Ch.mv rfl rfl rfl rfl rfl ?_
  first
   | refine Ch.oo rfl rfl rfl (ok_lenm rfl Tryz.underlying31 (vl rfl)) ?_
   | refine Ch.oo rfl rfl rfl (ok_len rfl Tryz.underlying31 (vl rfl)) ?_
  refine Ch.oo rfl rfl rfl (ok_int rfl (vl rfl) (vl rfl) rfl) ?_
  refine Ch.as rfl rfl rfl rfl rfl ?_
  refine Ch.nil (Fin.go (Tr.ret ?_))
  refine Fin.ret1 rfl (OutW.bse _ _) rfl ?_
  · first | (refine bool_eq ?_; symm; rw [decide_eq_false_iff_not]; intro hn; have := hn.check x (List.mem_of_getElem? hx_k); rw [hc] at this; cases this; done) | (refine bool_eq ?_; symm; rw [decide_eq_false_iff_not]; intro hn; have := hn.adj (k - 1) p x hp (by rw [show k - 1 + 1 = k by omega]; exact hx_k); omega; done) | (refine bool_eq ?_; rw [decide_eq_decide]; exact ⟨fun hl => ⟨ch_all hinv_k.1, adj_all hinv_k.2, by omega⟩, fun hn => by have := hn.len; omega⟩)
/-- Where a finding belongs, seen from the end. -/
def kF (l : List Fnd) (f : Fnd) : Nat := (l.reverse.dropWhile fun x => decide (0 < ordF x f)).length
def putF (l : List Fnd) (f : Fnd) : List Fnd := if 0 < kF l f ∧ ((l[kF l f - 1]?).map fun x => ordF x f) = some 0 then l else l.take (kF l f) ++ [f] ++ l.drop (kF l f)
theorem dropWhile_app {β : Type} {p : β → Bool} : ∀ {l m : List β}, (∀ x ∈ l, p x = true) → (l ++ m).dropWhile p = m.dropWhile p
  | [], _, _ => rfl
  | a :: l, m, h => by
    rw [List.cons_append, List.dropWhile_cons_of_pos (h a (by simp))]
    exact dropWhile_app fun x hx => h x (List.mem_cons_of_mem _ hx)
theorem kF_eq {l : List Fnd} {f : Fnd} {k : Nat} (hk : k ≤ l.length) (hgt : ∀ (j : Nat) y, k ≤ j → l[j]? = some y → 0 < ordF y f) (hle : k = 0 ∨ ∃ x, l[k - 1]? = some x ∧ ¬ 0 < ordF x f) : kF l f = k := by
  unfold kF
  have h1 : l.reverse = (l.drop k).reverse ++ (l.take k).reverse := by rw [← List.reverse_append, List.take_append_drop]
  rw [h1, dropWhile_app (by
    intro x hx
    rw [List.mem_reverse] at hx
    obtain ⟨j, hj⟩ := List.mem_iff_getElem?.1 hx
    rw [List.getElem?_drop] at hj
    simpa using hgt _ x (by omega) hj)]
  rcases hle with h0 | ⟨x, hx, hn⟩
  · subst h0; simp
  · have hk0 : 0 < k := by
      rcases Nat.eq_zero_or_pos k with h | h
      · subst h
        rw [show (0 : Nat) - 1 = 0 from rfl] at hx
        exact absurd (hgt 0 x (Nat.le_refl _) hx) hn
      · exact h
    have h2 : l.take k = l.take (k - 1) ++ [x] := by
      have := List.take_add_one (l := l) (i := k - 1)
      rw [show k - 1 + 1 = k by omega, hx] at this
      simpa using this
    rw [h2, List.reverse_append]
    show (List.dropWhile _ (x :: (l.take (k - 1)).reverse)).length = k
    rw [List.dropWhile_cons_of_neg (by simpa using hn)]
    simp; omega
theorem putF_same {l : List Fnd} {f x : Fnd} {k : Nat} (h : kF l f = k) (h0 : 0 < k) (hx : l[k - 1]? = some x) (he : ordF x f = 0) : putF l f = l := by
  unfold putF; rw [h, if_pos ⟨h0, by rw [hx]; simp [he]⟩]
theorem putF_new {l : List Fnd} {f : Fnd} {k : Nat} (h : kF l f = k) (hn : k = 0 ∨ ∃ x, l[k - 1]? = some x ∧ ¬ ordF x f = 0) : putF l f = l.take k ++ [f] ++ l.drop k := by
  unfold putF; rw [h, if_neg]
  rintro ⟨h1, h2⟩
  rcases hn with h3 | ⟨x, hx, hne⟩
  · omega
  · rw [hx] at h2; simp at h2; exact hne h2

set_option maxRecDepth 20000 in
theorem w_put {l : List Fnd} {f : Fnd} (hl : l.length ≤ 1000) : Fun Tryz.prog 108 [fnds l, agg (rowF f)] (fnds (putF l f)) := by
 refine Fun.of Tryz.func108 rfl rfl (by exact Nat.le_of_ble_eq_true rfl) fun M0 w0 => ?_
 refine Tr.seq (Tr.reg0 ?_)
 refine Ch.oo rfl rfl rfl (ok_box rfl (VL.le (vl rfl) (agg_cellsP _))) ?_
 refine Ch.as rfl rfl rfl rfl rfl ?_
 refine Ch.nil (Fin.go (Tr.seq (Tr.reg0 ?_)))
 refine Ch.mv rfl rfl rfl rfl rfl ?_
 first
  | refine Ch.oo rfl rfl rfl (ok_lenm rfl Tryz.underlying31 (vl rfl)) ?_
  | refine Ch.oo rfl rfl rfl (ok_len rfl Tryz.underlying31 (vl rfl)) ?_
 refine Ch.as rfl rfl rfl rfl rfl ?_
 refine Ch.nil (Fin.go (Tr.seq (Tr.block ?_)))
 refine Tr.loopw [(0, _), (3, _)] ⟨ke rfl, ke rfl, trivial⟩ (fun k : Nat => [(5, int ((k : Nat) : Int))]) (fun k : Nat => k ≤ l.length ∧ ∀ (j : Nat) y, k ≤ j → l[j]? = some y → 0 < ordF y f) (fun k : Nat => k) l.length (⟨Nat.le_refl _, fun j y h1 h2 => by rw [List.getElem?_eq_none h1] at h2; cases h2⟩) ⟨ke rfl, trivial⟩ ?_
 rintro k ⟨hk, hgt⟩
 refine Tr.seq (Tr.seq ?_)
 refine Tr.reg1 mixed (by kernel_rfl) ?_
 refine Ch.mv rfl rfl rfl rfl rfl ?_
 refine Ch.oo rfl rfl rfl (ok_int rfl (vl rfl) (vl rfl) rfl) ?_
 refine Ch.mv rfl rfl rfl rfl rfl ?_
 refine Ch.cs 10 rfl (fun h1 q1 => ?_) (fun h1 q1 => ?_)
 ·
  obtain ⟨x, hx⟩ := at_ (l := l) (k := k - 1) (by omega)
  refine Ch.ym h1 rfl rfl rfl rfl rfl rfl rfl ?_
  refine Ch.ym h1 rfl rfl rfl rfl rfl rfl rfl ?_
  first
   | (refine Ch.y h1 rfl rfl rfl rfl rfl (ok_sub rfl (vl rfl) (vl rfl) ?hin) ?_; case hin => unfold InI; omega)
   | refine Ch.y h1 rfl rfl rfl rfl rfl (ok_int rfl (vl rfl) (vl rfl) rfl) ?_
  refine Ch.y h1 rfl rfl rfl rfl rfl (ok_indexAddr rfl Tryz.underlying31 sz26 (vl rfl) (vl rfl) (by omega) (pred_at (by omega) hx)) ?_
  refine Ch.y h1 rfl rfl rfl rfl rfl (ok_loadA rfl agg26 sz26 (vl rfl) rfl rfl) ?_
  refine Ch.y h1 rfl rfl rfl rfl rfl (ok_loadA rfl agg26 sz26 (vl rfl) rfl rfl) ?_
  refine Ch.y h1 rfl rfl rfl rfl rfl (ok_call rfl (w_R14Order) ⟨ke rfl, ke rfl, trivial⟩) ?_
  refine Ch.y h1 rfl rfl rfl rfl rfl (ok_int rfl (vl rfl) (vl rfl) rfl) ?_
  refine Ch.oo rfl rfl rfl (ok_pick_t rfl (vl rfl) h1 (vl rfl)) ?_
  refine Ch.nil (Fin.go ?_)
  refine Tr.w4 0 3 5 19 rfl rfl rfl rfl ?_
  refine Tr.cn rfl (fun h2 q2 => ?_) (fun h2 q2 => ?_)
  ·
   have := h2
   refine Tr.skip (Fin.go (Tr.block (Tr.reg0 ?_)))
   refine Ch.mv rfl rfl rfl rfl rfl ?_
   first
    | (refine Ch.oo rfl rfl rfl (ok_sub rfl (vl rfl) (vl rfl) ?hin) ?_; case hin => unfold InI; omega)
    | refine Ch.oo rfl rfl rfl (ok_int rfl (vl rfl) (vl rfl) rfl) ?_
   refine Ch.as rfl rfl rfl rfl rfl ?_
   refine Ch.nil (Fin.block ?_)
   exact Fin.fam_same (k - 1) ⟨⟨by omega, fun j y h1 h2 => by rcases Nat.eq_or_lt_of_le h1 with h3 | h3; (subst h3; rw [hx] at h2; cases h2; omega); exact hgt j y (by omega) h2⟩, by omega⟩ ⟨⟨_, rfl, int_eq (by omega)⟩, ke rfl, ke rfl, trivial⟩
  ·
   have := h2
   refine Tr.exit ?_
   refine Fin.then_exit ?_
   refine Fin.then_exit ?_
   refine Fin.block_here ?_
   refine Fin.go (Tr.seq (Tr.seq ?_))
   refine Tr.reg1 mixed (by kernel_rfl) ?_
   refine Ch.mv rfl rfl rfl rfl rfl ?_
   refine Ch.oo rfl rfl rfl (ok_int rfl (vl rfl) (vl rfl) rfl) ?_
   refine Ch.mv rfl rfl rfl rfl rfl ?_
   refine Ch.cs 24 rfl (fun h3 q3 => ?_) (fun h3 q3 => ?_)
   ·
    obtain ⟨x2, hx2⟩ := at_ (l := l) (k := k - 1) (by omega)
    refine Ch.ym h3 rfl rfl rfl rfl rfl rfl rfl ?_
    refine Ch.ym h3 rfl rfl rfl rfl rfl rfl rfl ?_
    first
     | (refine Ch.y h3 rfl rfl rfl rfl rfl (ok_sub rfl (vl rfl) (vl rfl) ?hin) ?_; case hin => unfold InI; omega)
     | refine Ch.y h3 rfl rfl rfl rfl rfl (ok_int rfl (vl rfl) (vl rfl) rfl) ?_
    refine Ch.y h3 rfl rfl rfl rfl rfl (ok_indexAddr rfl Tryz.underlying31 sz26 (vl rfl) (vl rfl) (by omega) (pred_at (by omega) hx2)) ?_
    refine Ch.y h3 rfl rfl rfl rfl rfl (ok_loadA rfl agg26 sz26 (vl rfl) rfl rfl) ?_
    refine Ch.y h3 rfl rfl rfl rfl rfl (ok_loadA rfl agg26 sz26 (vl rfl) rfl rfl) ?_
    refine Ch.y h3 rfl rfl rfl rfl rfl (ok_call rfl (w_R14Order) ⟨ke rfl, ke rfl, trivial⟩) ?_
    refine Ch.y h3 rfl rfl rfl rfl rfl (ok_int rfl (vl rfl) (vl rfl) rfl) ?_
    refine Ch.oo rfl rfl rfl (ok_pick_t rfl (vl rfl) h3 (vl rfl)) ?_
    refine Ch.nil (Fin.go ?_)
    refine Tr.w4 0 3 5 33 rfl rfl rfl rfl ?_
    refine Tr.cn rfl (fun h4 q4 => ?_) (fun h4 q4 => ?_)
    ·
     refine Tr.seq (Tr.reg0 ?_)
     refine Ch.mv rfl rfl rfl rfl rfl ?_
     refine Ch.as rfl rfl rfl rfl rfl ?_
     refine Ch.nil (Fin.go (Tr.ret ?_))
     refine Fin.then_ret ?_
     refine Fin.ret1 rfl (OutW.bse _ _) rfl ?_
     · rw [putF_same (kF_eq hk hgt (.inr ⟨x, hx, by omega⟩)) (by omega) hx2 (by assumption)]; exact Pr.le_refl _
    ·
     refine Tr.skip (Fin.go (Tr.seq ?_))
     refine Tr.pad ?_
     refine Tr.regX mixed [none, none, none, none, some (0, 0, true, 39), none, none, some (39, 0, true, 42), none, none, none, some (42, 0, true, 46), some (46, 0, true, 4)] (by kernel_rfl) ?_
     refine Cx.oo rfl rfl rfl (fun _ => ok_buildSlice (xs := []) (rows := []) rfl rfl Tryz.underlying31 sz26 z26 rfl (by decide) trivial (by decide)) ?_
     refine Cx.mv rfl rfl rfl rfl rfl ?_
     refine Cx.mv rfl rfl rfl rfl rfl ?_
     refine Cx.oo rfl rfl rfl (fun _ => ok_sliceTo rfl Tryz.underlying31 sz26 (vl rfl) (vl rfl) (by omega) (by first | omega | (simp; omega))) ?_
     refine Cx.ef 0 rfl rfl (by decide) (ef_append rfl rfl (by decide) rfl Tryz.underlying31 sz26 by26 z26 rfl (by decide) ⟨_, rfl, full_le _ _⟩ (vl rfl) (by simp; unfold maxLen; omega) (by simp; omega) (appR_full (by exact List.Mem.head _) (vl rfl))) ?_
     refine Cx.oo rfl rfl rfl (fun _ => ok_loadA rfl agg26 sz26 (vl rfl) rfl rfl) ?_
     refine Cx.oo rfl rfl rfl (fun _ => ok_buildSlice (xs := [.tmp 40]) (rows := [_]) rfl rfl Tryz.underlying31 sz26 z26 rfl (by decide) ⟨⟨(by exact rfl), (VL.le (vl rfl) (agg_cellsP _))⟩, trivial⟩ (by decide)) ?_
     refine Cx.ef 0 rfl rfl (by decide) (ef_append rfl rfl (by decide) rfl Tryz.underlying31 sz26 by26 z26 rfl (by decide) (vl rfl) ⟨_, rfl, full_le _ _⟩ (by simp; unfold maxLen; omega) (by simp; omega) appR_slot) ?_
     refine Cx.mv rfl rfl rfl rfl rfl ?_
     refine Cx.mv rfl rfl rfl rfl rfl ?_
     refine Cx.oo rfl rfl rfl (fun _ => ok_sliceFrom rfl Tryz.underlying31 sz26 (vl rfl) (vl rfl) (by omega) (by first | omega | (simp; omega))) ?_
     refine Cx.ef 0 rfl rfl (by decide) (ef_append rfl rfl (by decide) rfl Tryz.underlying31 sz26 by26 z26 rfl (by decide) (vl rfl) (vl rfl) (by simp; unfold maxLen; omega) (by simp; omega) appR_slot) ?_
     refine Cx.ef 0 rfl rfl (by decide) (ef_move rfl rfl (by decide) rfl (vl rfl)) ?_
     refine Cx.nil ⟨rfl, ?_⟩
     refine FinX.open_ 0 4 rfl rfl (fun v1 => ?_)
     refine FinX.done (AllC.cons (AllC.map _)) ?_
     refine Fin.go ?_
     refine Tr.w1 4 rfl ?_
     refine Tr.ret ?_
     refine Fin.ret1 rfl (OutW.bse _ _) rfl ?_
     · rw [putF_new (kF_eq hk hgt (.inr ⟨x, hx, by omega⟩)) (.inr ⟨x2, hx2, by assumption⟩)]; exact Pr.le_trans (andIs_le _ _) (Pr.le_of_eq (by show slice 11 _ = slice 11 _; rw [Int.toNat_natCast, List.map_append, List.map_append, List.map_take, List.map_drop, List.nil_append]; rfl))
   ·
    iterate 8 refine Ch.nt h3 rfl rfl rfl rfl rfl ?_
    refine Ch.oo rfl rfl rfl (ok_pick_f rfl (vl rfl) h3 (vl rfl)) ?_
    refine Ch.nil (Fin.go ?_)
    refine Tr.w4 0 3 5 33 rfl rfl rfl rfl ?_
    refine Tr.cond rfl (fun h => nomatch h) (fun _ => ?_)
    refine Tr.skip (Fin.go (Tr.seq ?_))
    refine Tr.pad ?_
    refine Tr.regX mixed [none, none, none, none, some (0, 0, true, 39), none, none, some (39, 0, true, 42), none, none, none, some (42, 0, true, 46), some (46, 0, true, 4)] (by kernel_rfl) ?_
    refine Cx.oo rfl rfl rfl (fun _ => ok_buildSlice (xs := []) (rows := []) rfl rfl Tryz.underlying31 sz26 z26 rfl (by decide) trivial (by decide)) ?_
    refine Cx.mv rfl rfl rfl rfl rfl ?_
    refine Cx.mv rfl rfl rfl rfl rfl ?_
    refine Cx.oo rfl rfl rfl (fun _ => ok_sliceTo rfl Tryz.underlying31 sz26 (vl rfl) (vl rfl) (by omega) (by first | omega | (simp; omega))) ?_
    refine Cx.ef 0 rfl rfl (by decide) (ef_append rfl rfl (by decide) rfl Tryz.underlying31 sz26 by26 z26 rfl (by decide) ⟨_, rfl, full_le _ _⟩ (vl rfl) (by simp; unfold maxLen; omega) (by simp; omega) (appR_full (by exact List.Mem.head _) (vl rfl))) ?_
    refine Cx.oo rfl rfl rfl (fun _ => ok_loadA rfl agg26 sz26 (vl rfl) rfl rfl) ?_
    refine Cx.oo rfl rfl rfl (fun _ => ok_buildSlice (xs := [.tmp 40]) (rows := [_]) rfl rfl Tryz.underlying31 sz26 z26 rfl (by decide) ⟨⟨(by exact rfl), (VL.le (vl rfl) (agg_cellsP _))⟩, trivial⟩ (by decide)) ?_
    refine Cx.ef 0 rfl rfl (by decide) (ef_append rfl rfl (by decide) rfl Tryz.underlying31 sz26 by26 z26 rfl (by decide) (vl rfl) ⟨_, rfl, full_le _ _⟩ (by simp; unfold maxLen; omega) (by simp; omega) appR_slot) ?_
    refine Cx.mv rfl rfl rfl rfl rfl ?_
    refine Cx.mv rfl rfl rfl rfl rfl ?_
    refine Cx.oo rfl rfl rfl (fun _ => ok_sliceFrom rfl Tryz.underlying31 sz26 (vl rfl) (vl rfl) (by omega) (by first | omega | (simp; omega))) ?_
    refine Cx.ef 0 rfl rfl (by decide) (ef_append rfl rfl (by decide) rfl Tryz.underlying31 sz26 by26 z26 rfl (by decide) (vl rfl) (vl rfl) (by simp; unfold maxLen; omega) (by simp; omega) appR_slot) ?_
    refine Cx.ef 0 rfl rfl (by decide) (ef_move rfl rfl (by decide) rfl (vl rfl)) ?_
    refine Cx.nil ⟨rfl, ?_⟩
    refine FinX.open_ 0 4 rfl rfl (fun v2 => ?_)
    refine FinX.done (AllC.cons (AllC.map _)) ?_
    refine Fin.go ?_
    refine Tr.w1 4 rfl ?_
    refine Tr.ret ?_
    refine Fin.ret1 rfl (OutW.bse _ _) rfl ?_
    · exfalso; omega
 ·
  iterate 8 refine Ch.nt h1 rfl rfl rfl rfl rfl ?_
  refine Ch.oo rfl rfl rfl (ok_pick_f rfl (vl rfl) h1 (vl rfl)) ?_
  refine Ch.nil (Fin.go ?_)
  refine Tr.w4 0 3 5 19 rfl rfl rfl rfl ?_
  refine Tr.cond rfl (fun h => nomatch h) (fun _ => ?_)
  refine Tr.exit ?_
  refine Fin.then_exit ?_
  refine Fin.then_exit ?_
  refine Fin.block_here ?_
  refine Fin.go (Tr.seq (Tr.seq ?_))
  refine Tr.reg1 mixed (by kernel_rfl) ?_
  refine Ch.mv rfl rfl rfl rfl rfl ?_
  refine Ch.oo rfl rfl rfl (ok_int rfl (vl rfl) (vl rfl) rfl) ?_
  refine Ch.mv rfl rfl rfl rfl rfl ?_
  refine Ch.cs 24 rfl (fun h5 q5 => ?_) (fun h5 q5 => ?_)
  ·
   obtain ⟨x2, hx2⟩ := at_ (l := l) (k := k - 1) (by omega)
   refine Ch.ym h5 rfl rfl rfl rfl rfl rfl rfl ?_
   refine Ch.ym h5 rfl rfl rfl rfl rfl rfl rfl ?_
   first
    | (refine Ch.y h5 rfl rfl rfl rfl rfl (ok_sub rfl (vl rfl) (vl rfl) ?hin) ?_; case hin => unfold InI; omega)
    | refine Ch.y h5 rfl rfl rfl rfl rfl (ok_int rfl (vl rfl) (vl rfl) rfl) ?_
   refine Ch.y h5 rfl rfl rfl rfl rfl (ok_indexAddr rfl Tryz.underlying31 sz26 (vl rfl) (vl rfl) (by omega) (pred_at (by omega) hx2)) ?_
   refine Ch.y h5 rfl rfl rfl rfl rfl (ok_loadA rfl agg26 sz26 (vl rfl) rfl rfl) ?_
   refine Ch.y h5 rfl rfl rfl rfl rfl (ok_loadA rfl agg26 sz26 (vl rfl) rfl rfl) ?_
   refine Ch.y h5 rfl rfl rfl rfl rfl (ok_call rfl (w_R14Order) ⟨ke rfl, ke rfl, trivial⟩) ?_
   refine Ch.y h5 rfl rfl rfl rfl rfl (ok_int rfl (vl rfl) (vl rfl) rfl) ?_
   refine Ch.oo rfl rfl rfl (ok_pick_t rfl (vl rfl) h5 (vl rfl)) ?_
   refine Ch.nil (Fin.go ?_)
   refine Tr.w4 0 3 5 33 rfl rfl rfl rfl ?_
   refine Tr.cn rfl (fun h6 q6 => ?_) (fun h6 q6 => ?_)
   ·
    refine Tr.seq (Tr.reg0 ?_)
    refine Ch.mv rfl rfl rfl rfl rfl ?_
    refine Ch.as rfl rfl rfl rfl rfl ?_
    refine Ch.nil (Fin.go (Tr.ret ?_))
    refine Fin.then_ret ?_
    refine Fin.ret1 rfl (OutW.bse _ _) rfl ?_
    · exfalso; omega
   ·
    refine Tr.skip (Fin.go (Tr.seq ?_))
    refine Tr.pad ?_
    refine Tr.regX mixed [none, none, none, none, some (0, 0, true, 39), none, none, some (39, 0, true, 42), none, none, none, some (42, 0, true, 46), some (46, 0, true, 4)] (by kernel_rfl) ?_
    refine Cx.oo rfl rfl rfl (fun _ => ok_buildSlice (xs := []) (rows := []) rfl rfl Tryz.underlying31 sz26 z26 rfl (by decide) trivial (by decide)) ?_
    refine Cx.mv rfl rfl rfl rfl rfl ?_
    refine Cx.mv rfl rfl rfl rfl rfl ?_
    refine Cx.oo rfl rfl rfl (fun _ => ok_sliceTo rfl Tryz.underlying31 sz26 (vl rfl) (vl rfl) (by omega) (by first | omega | (simp; omega))) ?_
    refine Cx.ef 0 rfl rfl (by decide) (ef_append rfl rfl (by decide) rfl Tryz.underlying31 sz26 by26 z26 rfl (by decide) ⟨_, rfl, full_le _ _⟩ (vl rfl) (by simp; unfold maxLen; omega) (by simp; omega) (appR_full (by exact List.Mem.head _) (vl rfl))) ?_
    refine Cx.oo rfl rfl rfl (fun _ => ok_loadA rfl agg26 sz26 (vl rfl) rfl rfl) ?_
    refine Cx.oo rfl rfl rfl (fun _ => ok_buildSlice (xs := [.tmp 40]) (rows := [_]) rfl rfl Tryz.underlying31 sz26 z26 rfl (by decide) ⟨⟨(by exact rfl), (VL.le (vl rfl) (agg_cellsP _))⟩, trivial⟩ (by decide)) ?_
    refine Cx.ef 0 rfl rfl (by decide) (ef_append rfl rfl (by decide) rfl Tryz.underlying31 sz26 by26 z26 rfl (by decide) (vl rfl) ⟨_, rfl, full_le _ _⟩ (by simp; unfold maxLen; omega) (by simp; omega) appR_slot) ?_
    refine Cx.mv rfl rfl rfl rfl rfl ?_
    refine Cx.mv rfl rfl rfl rfl rfl ?_
    refine Cx.oo rfl rfl rfl (fun _ => ok_sliceFrom rfl Tryz.underlying31 sz26 (vl rfl) (vl rfl) (by omega) (by first | omega | (simp; omega))) ?_
    refine Cx.ef 0 rfl rfl (by decide) (ef_append rfl rfl (by decide) rfl Tryz.underlying31 sz26 by26 z26 rfl (by decide) (vl rfl) (vl rfl) (by simp; unfold maxLen; omega) (by simp; omega) appR_slot) ?_
    refine Cx.ef 0 rfl rfl (by decide) (ef_move rfl rfl (by decide) rfl (vl rfl)) ?_
    refine Cx.nil ⟨rfl, ?_⟩
    refine FinX.open_ 0 4 rfl rfl (fun v3 => ?_)
    refine FinX.done (AllC.cons (AllC.map _)) ?_
    refine Fin.go ?_
    refine Tr.w1 4 rfl ?_
    refine Tr.ret ?_
    refine Fin.ret1 rfl (OutW.bse _ _) rfl ?_
    · exfalso; omega
  ·
   iterate 8 refine Ch.nt h5 rfl rfl rfl rfl rfl ?_
   refine Ch.oo rfl rfl rfl (ok_pick_f rfl (vl rfl) h5 (vl rfl)) ?_
   refine Ch.nil (Fin.go ?_)
   refine Tr.w4 0 3 5 33 rfl rfl rfl rfl ?_
   refine Tr.cond rfl (fun h => nomatch h) (fun _ => ?_)
   refine Tr.skip (Fin.go (Tr.seq ?_))
   refine Tr.pad ?_
   refine Tr.regX mixed [none, none, none, none, some (0, 0, true, 39), none, none, some (39, 0, true, 42), none, none, none, some (42, 0, true, 46), some (46, 0, true, 4)] (by kernel_rfl) ?_
   refine Cx.oo rfl rfl rfl (fun _ => ok_buildSlice (xs := []) (rows := []) rfl rfl Tryz.underlying31 sz26 z26 rfl (by decide) trivial (by decide)) ?_
   refine Cx.mv rfl rfl rfl rfl rfl ?_
   refine Cx.mv rfl rfl rfl rfl rfl ?_
   refine Cx.oo rfl rfl rfl (fun _ => ok_sliceTo rfl Tryz.underlying31 sz26 (vl rfl) (vl rfl) (by omega) (by first | omega | (simp; omega))) ?_
   refine Cx.ef 0 rfl rfl (by decide) (ef_append rfl rfl (by decide) rfl Tryz.underlying31 sz26 by26 z26 rfl (by decide) ⟨_, rfl, full_le _ _⟩ (vl rfl) (by simp; unfold maxLen; omega) (by simp; omega) (appR_full (by exact List.Mem.head _) (vl rfl))) ?_
   refine Cx.oo rfl rfl rfl (fun _ => ok_loadA rfl agg26 sz26 (vl rfl) rfl rfl) ?_
   refine Cx.oo rfl rfl rfl (fun _ => ok_buildSlice (xs := [.tmp 40]) (rows := [_]) rfl rfl Tryz.underlying31 sz26 z26 rfl (by decide) ⟨⟨(by exact rfl), (VL.le (vl rfl) (agg_cellsP _))⟩, trivial⟩ (by decide)) ?_
   refine Cx.ef 0 rfl rfl (by decide) (ef_append rfl rfl (by decide) rfl Tryz.underlying31 sz26 by26 z26 rfl (by decide) (vl rfl) ⟨_, rfl, full_le _ _⟩ (by simp; unfold maxLen; omega) (by simp; omega) appR_slot) ?_
   refine Cx.mv rfl rfl rfl rfl rfl ?_
   refine Cx.mv rfl rfl rfl rfl rfl ?_
   refine Cx.oo rfl rfl rfl (fun _ => ok_sliceFrom rfl Tryz.underlying31 sz26 (vl rfl) (vl rfl) (by omega) (by first | omega | (simp; omega))) ?_
   refine Cx.ef 0 rfl rfl (by decide) (ef_append rfl rfl (by decide) rfl Tryz.underlying31 sz26 by26 z26 rfl (by decide) (vl rfl) (vl rfl) (by simp; unfold maxLen; omega) (by simp; omega) appR_slot) ?_
   refine Cx.ef 0 rfl rfl (by decide) (ef_move rfl rfl (by decide) rfl (vl rfl)) ?_
   refine Cx.nil ⟨rfl, ?_⟩
   refine FinX.open_ 0 4 rfl rfl (fun v4 => ?_)
   refine FinX.done (AllC.cons (AllC.map _)) ?_
   refine Fin.go ?_
   refine Tr.w1 4 rfl ?_
   refine Tr.ret ?_
   refine Fin.ret1 rfl (OutW.bse _ _) rfl ?_
   · rw [putF_new (kF_eq hk hgt (.inl (by omega))) (.inl (by omega))]; exact Pr.le_trans (andIs_le _ _) (Pr.le_of_eq (by show slice 11 _ = slice 11 _; rw [Int.toNat_natCast, List.map_append, List.map_append, List.map_take, List.map_drop, List.nil_append]; rfl))
theorem kF_le (l : List Fnd) (f : Fnd) : kF l f ≤ l.length := by
  unfold kF
  have := (List.dropWhile_sublist (l := l.reverse) (fun x => decide (0 < ordF x f))).length_le
  simpa using this
theorem putF_len (l : List Fnd) (f : Fnd) : (putF l f).length ≤ l.length + 1 := by
  have := kF_le l f
  unfold putF; split
  · omega
  · simp; omega
theorem fold_len : ∀ (l acc : List Fnd), (l.foldl putF acc).length ≤ acc.length + l.length
  | [], acc => by simp
  | f :: l, acc => by
    have h1 := fold_len l (putF acc f)
    have h2 := putF_len acc f
    rw [List.foldl_cons, List.length_cons]; omega
theorem fold_take {l : List Fnd} {k : Nat} {x : Fnd} (hx : l[k]? = some x) : putF ((l.take k).foldl putF []) x = (l.take (k + 1)).foldl putF [] := by
  rw [List.take_add_one, hx, List.foldl_append]; rfl
theorem fold_len' (l : List Fnd) (k : Nat) : ((l.take k).foldl putF []).length ≤ k := by
  have := fold_len (l.take k) []
  have h2 := List.length_take_le k l
  simp at this; omega

set_option maxRecDepth 20000 in
theorem w_R14Norm {l : List Fnd} (hc : ∀ f ∈ l, checkF f = true) (hl : l.length ≤ 400) : Fun Tryz.prog 58 [fnds l] (tup [fnds (l.foldl putF []), int 0]) := by
 refine Fun.of Tryz.func58 rfl rfl (by exact Nat.le_of_ble_eq_true rfl) fun M0 w0 => ?_
 refine Tr.seq (Tr.reg0 ?_)
 refine Ch.as rfl rfl rfl rfl rfl ?_
 refine Ch.as rfl rfl rfl rfl rfl ?_
 refine Ch.nil (Fin.go (Tr.seq (Tr.seq (Tr.reg0 ?_))))
 refine Ch.as rfl rfl rfl rfl rfl ?_
 refine Ch.nil (Fin.go (Tr.block ?_))
 refine Tr.loopw [(0, _)] ⟨ke rfl, trivial⟩ (fun k : Nat => [(4, int ((k : Nat) : Int))]) (fun k : Nat => k ≤ (l).length) (fun k : Nat => (l).length - k) 0 (Nat.zero_le _) ⟨ke rfl, trivial⟩ ?_
 rintro k hle_k
 refine Tr.seq (Tr.seq (Tr.reg0 ?_))
 refine Ch.mv rfl rfl rfl rfl rfl ?_
 refine Ch.mv rfl rfl rfl rfl rfl ?_
 first
  | refine Ch.oo rfl rfl rfl (ok_lenm rfl Tryz.underlying31 (vl rfl)) ?_
  | refine Ch.oo rfl rfl rfl (ok_len rfl Tryz.underlying31 (vl rfl)) ?_
 refine Ch.oo rfl rfl rfl (ok_int rfl (vl rfl) (vl rfl) rfl) ?_
 refine Ch.nil (Fin.go ?_)
 refine Tr.cn rfl (fun h1 q1 => ?_) (fun h1 q1 => ?_)
 ·
  have hk_k : k < (l).length := lt_of_dec h1
  obtain ⟨x, hx_k⟩ := at_ hk_k
  refine Tr.skip (Fin.go (Tr.seq (Tr.block (Tr.seq (Tr.reg0 ?_)))))
  refine Ch.mv rfl rfl rfl rfl rfl ?_
  refine Ch.mv rfl rfl rfl rfl rfl ?_
  refine Ch.oo rfl rfl rfl (ok_indexAddr rfl Tryz.underlying31 sz26 (vl rfl) (vl rfl) (by omega) (by first | exact row_at (by assumption) | exact row_atI (by assumption) | assumption)) ?_
  refine Ch.oo rfl rfl rfl (ok_loadA rfl agg26 sz26 (vl rfl) rfl rfl) ?_
  refine Ch.oo rfl rfl rfl (ok_call rfl (w_R14Check) ⟨ke rfl, trivial⟩) ?_
  refine Ch.as rfl rfl rfl rfl rfl ?_
  refine Ch.nil (Fin.go (Tr.seq (Tr.reg0 ?_)))
  refine Ch.mv rfl rfl rfl rfl rfl ?_
  refine Ch.oo rfl rfl rfl (ok_int rfl (vl rfl) (vl rfl) rfl) ?_
  refine Ch.nil (Fin.go ?_)
  refine Tr.w4 0 4 5 20 rfl rfl rfl rfl ?_
  refine Tr.cn rfl (fun h2 q2 => ?_) (fun h2 q2 => ?_)
  ·
   exact absurd (if_pos (hc x (List.mem_of_getElem? hx_k))) q2
  ·
   refine Tr.skip (Fin.block (Fin.go (Tr.reg0 ?_)))
   refine Ch.mv rfl rfl rfl rfl rfl ?_
   first
    | (refine Ch.oo rfl rfl rfl (ok_add rfl (vl rfl) (vl rfl) ?hin) ?_; case hin => unfold InI; omega)
    | refine Ch.oo rfl rfl rfl (ok_int rfl (vl rfl) (vl rfl) rfl) ?_
   refine Ch.as rfl rfl rfl rfl rfl ?_
   refine Ch.nil ?_
   exact Fin.fam_same (k + 1) ⟨hk_k, by omega⟩ ⟨⟨_, rfl, int_succ k⟩, ke rfl, trivial⟩
 ·
  have he_k : k = (l).length := by have := ge_of_dec h1; omega
  subst he_k
  refine Tr.exit ?_
  refine Fin.then_exit ?_
  refine Fin.then_exit ?_
  refine Fin.block_here ?_
  refine Fin.go (Tr.seq (Tr.reg0 ?_))
  refine Ch.as rfl rfl rfl rfl rfl ?_
  refine Ch.nil (Fin.go (Tr.seq (Tr.seq (Tr.reg0 ?_))))
  refine Ch.as rfl rfl rfl rfl rfl ?_
  refine Ch.nil (Fin.go (Tr.block ?_))
  refine Tr.loopw [(0, _)] ⟨ke rfl, trivial⟩ (fun m : Nat => [(7, int ((m : Nat) : Int)), (6, fnds ((l.take m).foldl putF []))]) (fun m : Nat => m ≤ (l).length) (fun m : Nat => (l).length - m) 0 (Nat.zero_le _) ⟨ke rfl, ⟨_, rfl, nil_slice 11⟩, trivial⟩ ?_
  rintro m hle_m
  refine Tr.seq (Tr.seq (Tr.reg0 ?_))
  refine Ch.mv rfl rfl rfl rfl rfl ?_
  refine Ch.mv rfl rfl rfl rfl rfl ?_
  first
   | refine Ch.oo rfl rfl rfl (ok_lenm rfl Tryz.underlying31 (vl rfl)) ?_
   | refine Ch.oo rfl rfl rfl (ok_len rfl Tryz.underlying31 (vl rfl)) ?_
  refine Ch.oo rfl rfl rfl (ok_int rfl (vl rfl) (vl rfl) rfl) ?_
  refine Ch.nil (Fin.go ?_)
  refine Tr.cn rfl (fun h3 q3 => ?_) (fun h3 q3 => ?_)
  ·
   have hk_m : m < (l).length := lt_of_dec h3
   obtain ⟨y, hx_m⟩ := at_ hk_m
   refine Tr.skip (Fin.go (Tr.seq (Tr.block (Tr.seq (Tr.reg0 ?_)))))
   iterate 3 refine Ch.mv rfl rfl rfl rfl rfl ?_
   refine Ch.oo rfl rfl rfl (ok_indexAddr rfl Tryz.underlying31 sz26 (vl rfl) (vl rfl) (by omega) (by first | exact row_at (by assumption) | exact row_atI (by assumption) | assumption)) ?_
   refine Ch.oo rfl rfl rfl (ok_loadA rfl agg26 sz26 (vl rfl) rfl rfl) ?_
   refine Ch.oo rfl rfl rfl (ok_call rfl (w_put (l := (l.take m).foldl putF []) (f := y) (by have := fold_len' l m; omega)) ⟨ke rfl, ke rfl, trivial⟩) ?_
   refine Ch.as rfl rfl rfl rfl rfl ?_
   refine Ch.nil (Fin.go ?_)
   refine Tr.w3 0 6 7 rfl rfl rfl ?_
   refine Tr.seq (Tr.reg0 ?_)
   refine Ch.mv rfl rfl rfl rfl rfl ?_
   first
    | refine Ch.oo rfl rfl rfl (ok_lenm rfl Tryz.underlying31 (vl rfl)) ?_
    | refine Ch.oo rfl rfl rfl (ok_len rfl Tryz.underlying31 (vl rfl)) ?_
   refine Ch.oo rfl rfl rfl (ok_int rfl (vl rfl) (vl rfl) rfl) ?_
   refine Ch.nil (Fin.go ?_)
   refine Tr.cn rfl (fun h4 q4 => ?_) (fun h4 q4 => ?_)
   ·
    exfalso; rw [fold_take hx_m] at q4; have := fold_len' l (m + 1); omega
   ·
    refine Tr.skip (Fin.block (Fin.go (Tr.reg0 ?_)))
    refine Ch.mv rfl rfl rfl rfl rfl ?_
    first
     | (refine Ch.oo rfl rfl rfl (ok_add rfl (vl rfl) (vl rfl) ?hin) ?_; case hin => unfold InI; omega)
     | refine Ch.oo rfl rfl rfl (ok_int rfl (vl rfl) (vl rfl) rfl) ?_
    refine Ch.as rfl rfl rfl rfl rfl ?_
    refine Ch.nil ?_
    exact Fin.fam_same (m + 1) ⟨hk_m, by omega⟩ ⟨⟨_, rfl, int_succ m⟩, ⟨_, rfl, Pr.le_of_eq (by rw [fold_take hx_m])⟩, ke rfl, trivial⟩
  ·
   have he_m : m = (l).length := by have := ge_of_dec h3; omega
   subst he_m
   refine Tr.exit ?_
   refine Fin.then_exit ?_
   refine Fin.then_exit ?_
   refine Fin.block_here ?_
   refine Fin.go (Tr.seq (Tr.reg0 ?_))
   refine Ch.mv rfl rfl rfl rfl rfl ?_
   refine Ch.as rfl rfl rfl rfl rfl ?_
   refine Ch.as rfl rfl rfl rfl rfl ?_
   refine Ch.nil (Fin.go (Tr.ret ?_))
   refine Fin.ret2 rfl (OutW.bse _ _) rfl ?_ rfl ?_
   · exact Pr.le_of_eq (by rw [List.take_length])
   · first | exact Pr.le_refl _ | (refine int_eq ?_; simp_all; done) | (refine bool_eq ?_; simp_all; done) | (refine bool_eq ?_; simp_all; omega) | (refine int_eq ?_; omega)
theorem cmpI_swap (a b : Int) : cmpI b a = - cmpI a b := by unfold cmpI; by_cases h1 : a < b <;> by_cases h2 : b < a <;> simp [h1, h2] <;> omega
theorem orL_neg : ∀ l : List Int, orL (l.map fun x => -x) = - orL l
  | [] => rfl
  | a :: l => by
    have ih := orL_neg l
    show (if -a = 0 then orL (l.map fun x => -x) else -a) = - (if a = 0 then orL l else a)
    by_cases h : a = 0
    · rw [if_pos (by omega), if_pos h, ih]
    · rw [if_neg (by omega), if_neg h]
theorem ordF_swap (a b : Fnd) : ordF b a = - ordF a b := by
  unfold ordF
  rw [← orL_neg]
  unfold keysF
  simp only [List.map_cons, List.map_nil]
  rw [cmp_swap a.host b.host, cmp_swap a.subj b.subj, cmp_swap a.text b.text, cmpI_swap a.machine, cmpI_swap a.day, cmpI_swap a.kind, cmpI_swap a.alg, cmpI_swap a.bits, cmpI_swap a.num, cmpI_swap a.src, cmpI_swap a.conf]
theorem dropWhile_spec {β : Type} {p : β → Bool} : ∀ (l : List β), ∃ m, l = m ++ l.dropWhile p ∧ (∀ x ∈ m, p x = true) ∧ ∀ y r, l.dropWhile p = y :: r → p y = false
  | [] => ⟨[], rfl, by simp, fun y r h => by cases h⟩
  | a :: l => by
    by_cases h : p a = true
    · obtain ⟨m, h1, h2, h3⟩ := dropWhile_spec (p := p) l
      refine ⟨a :: m, ?_, ?_, ?_⟩
      · rw [List.dropWhile_cons_of_pos h, List.cons_append, ← h1]
      · intro x hx
        rcases List.mem_cons.1 hx with rfl | hx
        · exact h
        · exact h2 x hx
      · intro y r hy; rw [List.dropWhile_cons_of_pos h] at hy; exact h3 y r hy
    · refine ⟨[], ?_, by simp, ?_⟩
      · rw [List.dropWhile_cons_of_neg h]; rfl
      · intro y r hy; rw [List.dropWhile_cons_of_neg h] at hy; injection hy with h1 _; subst h1; simpa using h
theorem kF_spec (l : List Fnd) (f : Fnd) : (∀ y, l[kF l f]? = some y → 0 < ordF y f) ∧ (∀ x, 0 < kF l f → l[kF l f - 1]? = some x → ordF x f ≤ 0) := by
  obtain ⟨m, h1, h2, h3⟩ := dropWhile_spec (p := fun x => decide (0 < ordF x f)) l.reverse
  have hk : kF l f = (l.reverse.dropWhile fun x => decide (0 < ordF x f)).length := rfl
  generalize l.reverse.dropWhile (fun x => decide (0 < ordF x f)) = d at *
  have hl : l = d.reverse ++ m.reverse := by rw [← List.reverse_append, ← h1, List.reverse_reverse]
  refine ⟨fun y hy => ?_, fun x h0 hx => ?_⟩
  · rw [hk, hl, List.getElem?_append_right (by simp)] at hy
    have := h2 y (by have := List.mem_of_getElem? hy; simpa using this)
    simpa using this
  · cases d with
    | nil => rw [hk] at h0; cases h0
    | cons y r =>
      have hx2 : x = y := by
        rw [hk, hl, List.getElem?_append_left (by simp)] at hx
        rw [List.reverse_cons, List.getElem?_append_right (by simp)] at hx
        simpa using hx.symm
      have := h3 y r rfl
      rw [hx2]; simpa using this
theorem put_adj {l : List Fnd} (f : Fnd) (h : AdjF l) : AdjF (putF l f) := by
  obtain ⟨h1, h2⟩ := kF_spec l f
  have hk := kF_le l f
  unfold putF
  split
  · exact h
  · rename_i hn
    generalize kF l f = k at *
    have hlen : (l.take k).length = k := by rw [List.length_take]; omega
    intro j a b ha hb
    rw [List.append_assoc] at ha hb
    rcases Nat.lt_trichotomy (j + 1) k with hj | hj | hj
    · rw [List.getElem?_append_left (by omega), List.getElem?_take, if_pos (by omega)] at ha
      rw [List.getElem?_append_left (by omega), List.getElem?_take, if_pos (by omega)] at hb
      exact h j a b ha hb
    · rw [List.getElem?_append_left (by omega), List.getElem?_take, if_pos (by omega)] at ha
      rw [List.getElem?_append_right (by omega), hlen, show j + 1 - k = 0 by omega] at hb
      simp at hb; subst hb
      have ha' : l[k - 1]? = some a := by rw [show k - 1 = j by omega]; exact ha
      have h3 := h2 a (by omega) ha'
      rcases Int.lt_or_eq_of_le h3 with h4 | h4
      · exact h4
      · exact absurd ⟨by omega, by rw [ha']; simp [h4]⟩ hn
    · rcases Nat.eq_or_lt_of_le (Nat.le_of_lt_succ hj) with hj2 | hj2
      · rw [List.getElem?_append_right (by omega), hlen, show j - k = 0 by omega] at ha
        simp at ha; subst ha
        rw [List.getElem?_append_right (by omega), hlen, show j + 1 - k = 1 by omega] at hb
        simp at hb
        have := h1 b (by simpa using hb)
        rw [ordF_swap b f]; omega
      · rw [List.getElem?_append_right (by omega), hlen, show j - k = (j - k - 1) + 1 by omega] at ha
        rw [List.getElem?_append_right (by omega), hlen, show j + 1 - k = (j - k) + 1 by omega] at hb
        simp at ha hb
        exact h (j - 1) a b (by rw [show j - 1 = k + (j - k - 1) by omega]; exact ha) (by rw [show j - 1 + 1 = k + (j - k) by omega]; exact hb)
theorem put_mem {l : List Fnd} {f x : Fnd} (h : x ∈ putF l f) : x ∈ l ∨ x = f := by
  unfold putF at h
  split at h
  · exact .inl h
  · simp only [List.mem_append, List.mem_singleton] at h
    rcases h with (h | h) | h
    · exact .inl (List.mem_of_mem_take h)
    · exact .inr h
    · exact .inl (List.mem_of_mem_drop h)
theorem fold_adj : ∀ (l acc : List Fnd), AdjF acc → AdjF (l.foldl putF acc)
  | [], _, h => h
  | f :: l, acc, h => fold_adj l _ (put_adj f h)
theorem fold_mem : ∀ (l acc : List Fnd) {x : Fnd}, x ∈ l.foldl putF acc → x ∈ acc ∨ x ∈ l
  | [], _, _, h => .inl h
  | f :: l, acc, x, h => by
    rcases fold_mem l _ h with h1 | h1
    · rcases put_mem h1 with h2 | h2
      · exact .inl h2
      · exact .inr (by simp [h2])
    · exact .inr (List.mem_cons_of_mem _ h1)
theorem norm_ok {l : List Fnd} (hc : ∀ f ∈ l, checkF f = true) (hl : l.length ≤ 400) : NormP (l.foldl putF []) :=
  ⟨fun f hf => by rcases fold_mem l [] hf with h | h; exact absurd h (by simp); exact hc f h, fold_adj l [] (fun j a b h => by simp at h), by have := fold_len l []; simp at this; omega⟩

end Go.Proofs.YtgdlhajfajddiaaGreat
namespace Go.Proofs.YtgdlhajfajddiaaGreat
open Go Go.RowKit Cp

abbrev diceS (b : Nat) (s : DS) : Res := diceR 88 b s
theorem mod_pos (n : Int) {k : Int} (hk : 1 ≤ k) : (n.tmod k + k).tmod k = n % k := by
  have h1 : -k < n.tmod k := by have := Int.lt_tmod_of_pos n (b := k) (by omega); omega
  rw [Int.tmod_eq_emod_of_nonneg (by omega), Int.tmod_def, show n - k * n.tdiv k + k = n + k * (1 - n.tdiv k) by rw [Int.mul_sub]; omega, Int.add_mul_emod_self_left]
theorem mod_in (n : Int) {k : Int} (hk : 1 ≤ k) : -k < n.tmod k ∧ n.tmod k < k := by
  have h1 := Int.lt_tmod_of_pos n (b := k) (by omega)
  have h2 := Int.tmod_lt_of_pos n (b := k) (by omega)
  omega

set_option maxRecDepth 20000 in
theorem w_Light {l : List Int}  : Fun Tryz.prog 9 [ints l] (bool (decide (l.length ≤ 400))) := by
 refine Fun.of Tryz.func9 rfl rfl (by exact Nat.le_of_ble_eq_true rfl) fun M0 w0 => ?_
 refine Tr.seq (Tr.reg0 ?_)
 refine Ch.as rfl rfl rfl rfl rfl ?_
 refine Ch.nil (Fin.go (Tr.seq (Tr.reg0 ?_)))
 refine Ch.mv rfl rfl rfl rfl rfl ?_
 first
  | refine Ch.oo rfl rfl rfl (ok_lenm rfl Tryz.underlying22 (vl rfl)) ?_
  | refine Ch.oo rfl rfl rfl (ok_len rfl Tryz.underlying22 (vl rfl)) ?_
 refine Ch.oo rfl rfl rfl (ok_int rfl (vl rfl) (vl rfl) rfl) ?_
 refine Ch.as rfl rfl rfl rfl rfl ?_
 refine Ch.nil (Fin.go (Tr.ret ?_))
 refine Fin.ret1 rfl (OutW.bse _ _) rfl ?_
 · first | exact Pr.le_refl _ | (refine int_eq ?_; simp_all; done) | (refine bool_eq ?_; simp_all; done) | (refine bool_eq ?_; simp_all; omega) | (refine int_eq ?_; omega)
set_option maxRecDepth 20000 in
theorem w_Mod {n k : Int} (hk : 1 ≤ k) (hk2 : k ≤ 1000000000) : Fun Tryz.prog 36 [int n, int k] (int (n % k)) := by
 refine Fun.of Tryz.func36 rfl rfl (by exact Nat.le_of_ble_eq_true rfl) fun M0 w0 => ?_
 have hm := mod_in n hk
 have hp := mod_pos n hk
 refine Tr.seq (Tr.reg0 ?_)
 refine Ch.as rfl rfl rfl rfl rfl ?_
 refine Ch.nil (Fin.go (Tr.seq (Tr.seq (Tr.reg0 ?_))))
 refine Ch.mv rfl rfl rfl rfl rfl ?_
 refine Ch.oo rfl rfl rfl (ok_int rfl (vl rfl) (vl rfl) rfl) ?_
 refine Ch.nil (Fin.go ?_)
 refine Tr.cn rfl (fun h1 q1 => ?_) (fun h1 q1 => ?_)
 ·
  refine Tr.seq (Tr.reg0 ?_)
  refine Ch.as rfl rfl rfl rfl rfl ?_
  refine Ch.nil (Fin.go (Tr.ret ?_))
  refine Fin.then_ret ?_
  refine Fin.ret1 rfl (OutW.bse _ _) rfl ?_
  · exfalso; omega
 ·
  refine Tr.skip (Fin.go (Tr.seq (Tr.reg0 ?_)))
  refine Ch.mv rfl rfl rfl rfl rfl ?_
  refine Ch.mv rfl rfl rfl rfl rfl ?_
  refine Ch.oo rfl rfl rfl (ok_rem rfl (vl rfl) (vl rfl) (by omega)) ?_
  refine Ch.mv rfl rfl rfl rfl rfl ?_
  first
   | (refine Ch.oo rfl rfl rfl (ok_add rfl (vl rfl) (vl rfl) ?hin) ?_; case hin => unfold InI; omega)
   | refine Ch.oo rfl rfl rfl (ok_int rfl (vl rfl) (vl rfl) rfl) ?_
  refine Ch.mv rfl rfl rfl rfl rfl ?_
  refine Ch.oo rfl rfl rfl (ok_rem rfl (vl rfl) (vl rfl) (by omega)) ?_
  refine Ch.as rfl rfl rfl rfl rfl ?_
  refine Ch.nil (Fin.go (Tr.ret ?_))
  refine Fin.ret1 rfl (OutW.bse _ _) rfl ?_
  · refine int_eq ?_; exact hp
set_option maxRecDepth 20000 in
theorem w_DNext {b : Nat} {s : DS} {n : Int} (hn : 1 ≤ n) (hn2 : n ≤ 1000000000) : FunM Tryz.prog 13 [ptr b 0, int n] (int (s.val n)) (diceS b s) (fun _ => diceS b s.adv) := by
 refine FunM.of Tryz.func13 rfl rfl (by exact Nat.le_of_ble_eq_true rfl) fun M0 w0 S rs M1 w1 => ?_
 have hs := s.h
 have hs2 := s.h2
 refine Tr.seq (Tr.reg0 ?_)
 refine Ch.as rfl rfl rfl rfl rfl ?_
 refine Ch.nil (Fin.go (Tr.seq (Tr.seq ?_)))
 refine Tr.reg1 mixed (by kernel_rfl) ?_
 refine Ch.mv rfl rfl rfl rfl rfl ?_
 refine Ch.oo rfl rfl rfl (okp_nilCheck rfl (vl rfl)) ?_
 refine Ch.oo rfl rfl rfl (okp_fieldAddr rfl fo88_1 (vl rfl)) ?_
 refine Ch.oo rfl rfl rfl (ok_rd 0 rfl (rd_load1 rfl one3 (vl rfl) rfl)) ?_
 refine Ch.mv rfl rfl rfl rfl rfl ?_
 refine Ch.oo rfl rfl rfl (okp_nilCheck rfl (vl rfl)) ?_
 refine Ch.oo rfl rfl rfl (okp_fieldAddr rfl fo88_0 (vl rfl)) ?_
 refine Ch.oo rfl rfl rfl (ok_rd 0 rfl (rd_load1 rfl one22 (vl rfl) rfl)) ?_
 first
  | refine Ch.oo rfl rfl rfl (ok_lenm rfl Tryz.underlying22 (vl rfl)) ?_
  | refine Ch.oo rfl rfl rfl (ok_len rfl Tryz.underlying22 (vl rfl)) ?_
 refine Ch.oo rfl rfl rfl (ok_int rfl (vl rfl) (vl rfl) rfl) ?_
 refine Ch.nil (Fin.go ?_)
 refine Tr.cn rfl (fun h1 q1 => ?_) (fun h1 q1 => ?_)
 ·
  refine Tr.seq (Tr.reg0 ?_)
  refine Ch.as rfl rfl rfl rfl rfl ?_
  refine Ch.nil (Fin.go (Tr.ret ?_))
  refine Fin.then_ret ?_
  rw [DS.adv_end (s := s) (by omega)]
  refine Fin.retY1 [] rfl (RVal.tmp rfl (Pr.le_refl _)) ?_ (fun _ _ _ _ => rfl)
  · refine int_eq ?_; exact (DS.val_end (by omega) n).symm
 ·
  have hlt : s.at_ < s.l.length := by omega
  obtain ⟨x, hx⟩ := at_ hlt
  refine Tr.skip (Fin.go (Tr.seq (Tr.regT ?_)))
  refine TO.mv rfl rfl rfl rfl rfl ?_
  refine TO.oo rfl rfl rfl (okp_nilCheck rfl (vl rfl)) ?_
  refine TO.oo rfl rfl rfl (okp_fieldAddr rfl fo88_1 (vl rfl)) ?_
  refine TO.rd 0 rfl rfl rfl (by decide) (rd_load1 rfl one3 (vl rfl) rfl) ?_
  first
   | (refine TO.oo rfl rfl rfl (ok_add rfl (vl rfl) (vl rfl) ?hin) ?_; case hin => unfold InI; omega)
   | refine TO.oo rfl rfl rfl (ok_int rfl (vl rfl) (vl rfl) rfl) ?_
  refine TO.oo rfl rfl rfl (okp_nilCheck rfl (vl rfl)) ?_
  refine TO.oo rfl rfl rfl (okp_fieldAddr rfl fo88_1 (vl rfl)) ?_
  refine TO.ef0 0 rfl rfl (ef_store rfl rfl (vl rfl) (VL.le (vl rfl) (one_cellsP _)) sz3 rfl (by exact Nat.le_of_ble_eq_true rfl) rfl) ?_
  refine TO.nil (Fin.go ?_)
  refine Tr.w2 0 1 rfl rfl ?_
  refine Tr.seq ?_
  refine Tr.reg1 mixed (by kernel_rfl) ?_
  refine Ch.mv rfl rfl rfl rfl rfl ?_
  refine Ch.oo rfl rfl rfl (okp_nilCheck rfl (vl rfl)) ?_
  refine Ch.oo rfl rfl rfl (okp_fieldAddr rfl fo88_0 (vl rfl)) ?_
  refine Ch.oo rfl rfl rfl (ok_rd 0 rfl (rd_load1 rfl one22 (vl rfl) rfl)) ?_
  refine Ch.mv rfl rfl rfl rfl rfl ?_
  refine Ch.oo rfl rfl rfl (okp_nilCheck rfl (vl rfl)) ?_
  refine Ch.oo rfl rfl rfl (okp_fieldAddr rfl fo88_1 (vl rfl)) ?_
  refine Ch.oo rfl rfl rfl (ok_rd 0 rfl (rd_load1 rfl one3 (vl rfl) rfl)) ?_
  first
   | (refine Ch.oo rfl rfl rfl (ok_sub rfl (vl rfl) (vl rfl) ?hin) ?_; case hin => unfold InI; omega)
   | refine Ch.oo rfl rfl rfl (ok_int rfl (vl rfl) (vl rfl) rfl) ?_
  refine Ch.oo rfl rfl rfl (ok_indexAddr rfl Tryz.underlying22 sz3 (vl rfl) (vl rfl) (by omega) (by rw [show ((s.at_ : Nat) : Int) + 1 - 1 = ((s.at_ : Nat) : Int) by omega]; exact row_at hx)) ?_
  refine Ch.oo rfl rfl rfl (ok_load1 rfl one3 (vl rfl)) ?_
  refine Ch.mv rfl rfl rfl rfl rfl ?_
  refine Ch.oo rfl rfl rfl (ok_call rfl (w_Mod (by omega) (by omega)) ⟨ke rfl, ke rfl, trivial⟩) ?_
  refine Ch.as rfl rfl rfl rfl rfl ?_
  refine Ch.nil (Fin.go ?_)
  refine Tr.w1 4 rfl ?_
  refine Tr.ret ?_
  rw [DS.adv_at hlt]
  refine Fin.retY1 [] rfl (RVal.tmp rfl (Pr.le_refl _)) ?_ (fun _ _ _ _ => rfl)
  · refine int_eq ?_; exact (DS.val_at hx n).symm
set_option maxRecDepth 20000 in
theorem w_DOf {b : Nat} {s : DS} {l : List Int} (hl : l ≠ []) (hl2 : l.length ≤ 1000000000) : FunM Tryz.prog 35 [ptr b 0, ints l] (int (s.of l)) (diceS b s) (fun _ => diceS b s.adv) := by
 refine FunM.of Tryz.func35 rfl rfl (by exact Nat.le_of_ble_eq_true rfl) fun M0 w0 S rs M1 w1 => ?_
 have hl0 : 1 ≤ (l.length : Int) := by have := List.length_pos_iff.2 hl; omega
 have hv := s.val_in hl0
 obtain ⟨x, hx⟩ := at_ (l := l) (k := (s.val l.length).toNat) (by omega)
 refine Tr.seq (Tr.reg0 ?_)
 refine Ch.as rfl rfl rfl rfl rfl ?_
 refine Ch.nil (Fin.go (Tr.seq (Tr.regT ?_)))
 iterate 3 refine TO.mv rfl rfl rfl rfl rfl ?_
 first
  | refine TO.oo rfl rfl rfl (ok_lenm rfl Tryz.underlying22 (vl rfl)) ?_
  | refine TO.oo rfl rfl rfl (ok_len rfl Tryz.underlying22 (vl rfl)) ?_
 refine TO.efc 0 rfl rfl (by decide) (ef_callc rfl rfl (by decide) rfl (w_DNext (by omega) (by omega)) ⟨ke rfl, ke rfl, trivial⟩) ?_
 refine TO.oo rfl rfl rfl (ok_indexAddr rfl Tryz.underlying22 sz3 (vl rfl) (vl rfl) (by omega) (row_atI hx)) ?_
 refine TO.oo rfl rfl rfl (ok_load1 rfl one3 (vl rfl)) ?_
 refine TO.as rfl rfl rfl rfl rfl ?_
 refine TO.nil (Fin.go (Tr.ret ?_))
 refine Fin.retY1 [] rfl (RVal.tmp rfl (Pr.le_refl _)) ?_ (fun _ _ _ _ => rfl)
 · refine int_eq ?_; unfold DS.of; rw [hx]; rfl
/-- New dice. -/
def newDice (l : List Int) (hl : l.length ≤ 1000000000) (v : Value) : Res := match v with | .pointer (some a) => diceR 88 a.block ⟨l, 0, Nat.zero_le _, hl⟩ | _ => noRes

set_option maxRecDepth 20000 in
theorem w_Roll {l : List Int} (hl : l.length ≤ 1000000000) : FunM Tryz.prog 11 [ints l] (ex fun b => ptr b 0) (noRes) (newDice l hl) := by
 refine FunM.of Tryz.func11 rfl rfl (by exact Nat.le_of_ble_eq_true rfl) fun M0 w0 S rs M1 w1 => ?_
 refine Tr.seq (Tr.reg0 ?_)
 refine Ch.as rfl rfl rfl rfl rfl ?_
 refine Ch.nil (Fin.go (Tr.seq (Tr.regT ?_)))
 refine TO.mv rfl rfl rfl rfl rfl ?_
 refine TO.oo rfl rfl rfl (ok_build (rows := [(0, [_])]) rfl bl88 zo88 ⟨⟨rfl, (VL.le (vl rfl) (one_cellsP _))⟩, trivial⟩ rfl) ?_
 refine TO.boxm rfl rfl (by decide) rfl (VL.le (vl rfl) (agg_cellsP _)) (fun b1 => ?_)
 refine TO.as rfl rfl rfl rfl rfl ?_
 refine TO.nil (Fin.go (Tr.ret ?_))
 refine Fin.drop 1 ?_
 refine Fin.retY1 [] rfl (RVal.tmp rfl (Pr.le_refl _)) ?_ (by rintro _ _ _ rfl; rfl)
 · exact ex_in b1 (Pr.le_refl _)
end Go.Proofs.YtgdlhajfajddiaaGreat
