/-
  What the functions named below compute, proved from their text; printed by a program of our own.
-/
import Derived.Test.YthmnoekgicggnaaGreatTypes
import Derived.Test.YthmnoekgicggnaaGreatSlices
import Derived.Test.YthmnoekgicggnaaGreatEqs
import Derived.Test.YthmnoekgicggnaaGreatCat
import Derived.Test.YthmnoekgicggnaaGreatCat2
import Derived.Test.YthmnoekgicggnaaGreatCat3
namespace Go.Proofs.YthmnoekgicggnaaGreat
open Go Go.RowKit Cp

def amongI (b : Int) (l m : List Int) : Int := if 0 ≤ idx (fun x => b == x) l then (m[(idx (fun x => b == x) l).toNat]?).getD 0 else 0
theorem among_hit {b : Int} {l m : List Int} {k : Nat} {x z : Int} (hx : l[k]? = some x) (he : x = b) (hz : m[k]? = some z) (h : ∀ j y, j < k → l[j]? = some y → (b == y) = false) : z = amongI b l m := by
  have := idx_found (p := fun x => b == x) hx (by simp [he]) h
  unfold amongI; rw [← this, if_pos (by omega), Int.toNat_natCast, hz]; rfl
theorem among_none {b : Int} {l m : List Int} (h : ∀ j y, j < l.length → l[j]? = some y → (b == y) = false) : 0 = amongI b l m := by
  have := idx_none (p := fun x => b == x) h
  unfold amongI; rw [← this, if_neg (by omega)]
def singleI (alg : Int) : Int := if alg = 1 then 18 else if alg = 2 then 60 else if alg = 3 ∨ alg = 8 ∨ alg = 21 then 128 else if alg = 4 then 192 else if alg = 18 ∨ alg = 22 then 256 else if alg = 19 then 64 else if alg = 20 then 80 else 0
def rmodI (b : Int) : Int := if b < 512 ∨ b > 16384 then 0 else if b < 1024 then 56 else if b < 2048 then 80 else if b < 3072 then 112 else if b < 7680 then 128 else if b < 15360 then 192 else 256
theorem rmodI_eq (b : Int) : rmodI b = if 512 ≤ b ∧ b ≤ 16384 then modI b else 0 := by
  have h1 : modI b = if b < 1024 then 56 else if b < 2048 then 80 else if b < 3072 then 112 else if b < 7680 then 128 else if b < 15360 then 192 else 256 := rfl
  rw [h1]; unfold rmodI
  by_cases h : 512 ≤ b ∧ b ≤ 16384
  · rw [if_pos h, if_neg (by omega)]
  · rw [if_neg h, if_pos (by omega)]

set_option maxRecDepth 20000 in
theorem w_among {b : Int} {l m : List Int} (hl : l.length ≤ m.length) : Fun Tryz.prog 151 [int b, ints l, ints m] (int (amongI b l m)) := by
  refine Fun.of Tryz.func151 rfl rfl (by exact Nat.le_of_ble_eq_true rfl) fun M0 w0 => ?_
  refine Tr.lenm 1 rfl fun hlm_1 => ?_
  refine Tr.seq ?_
  refine Tr.reg0 ?_
  refine Ch.op rfl rfl (by decide) (ok_assign rfl (vl rfl)) ?_
  refine Ch.nil ?_
  refine Fin.go ?_
  refine Tr.seq ?_
  refine Tr.seq ?_
  refine Tr.reg0 ?_
  refine Ch.op rfl rfl (by decide) (ok_assign rfl (vl rfl)) ?_
  refine Ch.nil ?_
  refine Fin.go ?_
  refine Tr.block ?_
  refine Tr.loopw [(0, _), (1, _), (2, _)] ⟨⟨_, rfl, Pr.le_refl _⟩, ⟨_, rfl, Pr.le_refl _⟩, ⟨_, rfl, Pr.le_refl _⟩, trivial⟩ (fun k : Nat => [(7, int ((k : Nat) : Int))]) (fun k : Nat => k ≤ (l).length ∧ (∀ j y, j < k → l[j]? = some y → (b == y) = false)) (fun k : Nat => (l).length - k) 0 (⟨Nat.zero_le _, fun j y hj => absurd hj (by omega)⟩) ⟨⟨_, rfl, Pr.le_refl _⟩, trivial⟩ ?_
  rintro k ⟨hle_k, hinv_k⟩
  refine Tr.seq ?_
  refine Tr.seq ?_
  refine Tr.reg0 ?_
  refine Ch.op rfl rfl (by decide) (ok_move rfl (vl rfl)) ?_
  refine Ch.op rfl rfl (by decide) (ok_move rfl (vl rfl)) ?_
  first
    | refine Ch.op rfl rfl (by decide) (ok_lenm rfl Tryz.underlying22 (vl rfl)) ?_
    | refine Ch.op rfl rfl (by decide) (ok_len rfl Tryz.underlying22 (vl rfl)) ?_
  refine Ch.op rfl rfl (by decide) (ok_int rfl (vl rfl) (vl rfl) rfl) ?_
  refine Ch.nil ?_
  refine Fin.go ?_
  refine Tr.cond rfl (fun h1 => ?_) (fun h1 => ?_)
  ·
    have q1 := Nrm.nrm h1
    have hk_k : k < (l).length := lt_of_dec h1
    obtain ⟨x, hx_k⟩ := at_ hk_k
    obtain ⟨z, hz⟩ := at_ (l := m) (k := k) (by omega)
    refine Tr.skip ?_
    refine Fin.go ?_
    refine Tr.seq ?_
    refine Tr.block ?_
    refine Tr.seq ?_
    refine Tr.reg0 ?_
    refine Ch.op rfl rfl (by decide) (ok_move rfl (vl rfl)) ?_
    refine Ch.op rfl rfl (by decide) (ok_move rfl (vl rfl)) ?_
    refine Ch.op rfl rfl (by decide) (ok_indexAddr rfl Tryz.underlying22 sz3 (vl rfl) (vl rfl) (by omega) (by first | exact row_at (by assumption) | exact row_atI (by assumption) | assumption)) ?_
    refine Ch.op rfl rfl (by decide) (ok_load1 rfl one3 (vl rfl)) ?_
    refine Ch.op rfl rfl (by decide) (ok_move rfl (vl rfl)) ?_
    refine Ch.op rfl rfl (by decide) (ok_int rfl (vl rfl) (vl rfl) rfl) ?_
    refine Ch.nil ?_
    refine Fin.go ?_
    refine Tr.weak [(0, _), (1, _), (2, _), (7, _), (19, _)] ⟨⟨_, rfl, Pr.le_refl _⟩, ⟨_, rfl, Pr.le_refl _⟩, ⟨_, rfl, Pr.le_refl _⟩, ⟨_, rfl, Pr.le_refl _⟩, ⟨_, rfl, Pr.le_refl _⟩, trivial⟩ ?_
    refine Tr.cond rfl (fun h2 => ?_) (fun h2 => ?_)
    ·
      have q2 := Nrm.nrm h2
      refine Tr.seq ?_
      refine Tr.reg0 ?_
      refine Ch.op rfl rfl (by decide) (ok_move rfl (vl rfl)) ?_
      refine Ch.op rfl rfl (by decide) (ok_move rfl (vl rfl)) ?_
      refine Ch.op rfl rfl (by decide) (ok_indexAddr rfl Tryz.underlying22 sz3 (vl rfl) (vl rfl) (by omega) (by first | exact row_at (by assumption) | exact row_atI (by assumption) | assumption)) ?_
      refine Ch.op rfl rfl (by decide) (ok_load1 rfl one3 (vl rfl)) ?_
      refine Ch.op rfl rfl (by decide) (ok_assign rfl (vl rfl)) ?_
      refine Ch.nil ?_
      refine Fin.go ?_
      refine Tr.ret ?_
      refine Fin.block_ret ?_
      refine Fin.then_ret ?_
      refine Fin.then_ret ?_
      refine Fin.block_ret ?_
      refine Fin.then_ret ?_
      refine Fin.ret1 rfl (OutW.bse _ _) rfl ?_
      · first | exact int_eq (among_hit hx_k (by assumption) hz hinv_k) | exact int_eq (among_none hinv_k)
    ·
      have q2 := Nrm.nrm h2
      refine Tr.skip ?_
      refine Fin.block ?_
      refine Fin.go ?_
      refine Tr.reg0 ?_
      refine Ch.op rfl rfl (by decide) (ok_move rfl (vl rfl)) ?_
      first
        | (refine Ch.op rfl rfl (by decide) (ok_add rfl (vl rfl) (vl rfl) ?hin) ?_; case hin => unfold InI; omega)
        | refine Ch.op rfl rfl (by decide) (ok_int rfl (vl rfl) (vl rfl) rfl) ?_
      refine Ch.op rfl rfl (by decide) (ok_assign rfl (vl rfl)) ?_
      refine Ch.nil ?_
      exact Fin.fam_same (k + 1) ⟨⟨hk_k, step_no (p := fun x => b == x) hx_k (by simp; omega) hinv_k⟩, by omega⟩ ⟨⟨_, rfl, int_succ k⟩, ⟨_, rfl, Pr.le_refl _⟩, ⟨_, rfl, Pr.le_refl _⟩, ⟨_, rfl, Pr.le_refl _⟩, trivial⟩
  ·
    have q1 := Nrm.nrm h1
    have he_k : k = (l).length := by have := ge_of_dec h1; omega
    subst he_k
    refine Tr.exit ?_
    refine Fin.then_exit ?_
    refine Fin.then_exit ?_
    refine Fin.block_here ?_
    refine Fin.go ?_
    refine Tr.seq ?_
    refine Tr.reg0 ?_
    refine Ch.op rfl rfl (by decide) (ok_assign rfl (vl rfl)) ?_
    refine Ch.nil ?_
    refine Fin.go ?_
    refine Tr.ret ?_
    refine Fin.ret1 rfl (OutW.bse _ _) rfl ?_
    · first | exact int_eq (among_hit hx_k (by assumption) hz hinv_k) | exact int_eq (among_none hinv_k)
theorem e_among : Entry Tryz.prog 151 := ⟨_, Tryz.func151, rfl, rfl⟩
set_option maxRecDepth 20000 in
theorem w_single {alg : Int}  : Fun Tryz.prog 152 [int alg] (int (singleI alg)) := by
  refine Fun.of Tryz.func152 rfl rfl (by exact Nat.le_of_ble_eq_true rfl) fun M0 w0 => ?_
  refine Tr.seq ?_
  refine Tr.reg0 ?_
  refine Ch.op rfl rfl (by decide) (ok_assign rfl (vl rfl)) ?_
  refine Ch.nil ?_
  refine Fin.go ?_
  refine Tr.seq ?_
  refine Tr.seq ?_
  refine Tr.reg0 ?_
  refine Ch.op rfl rfl (by decide) (ok_move rfl (vl rfl)) ?_
  refine Ch.nil ?_
  refine Fin.go ?_
  refine Tr.block ?_
  refine Tr.seq ?_
  refine Tr.reg0 ?_
  refine Ch.op rfl rfl (by decide) (ok_int rfl (vl rfl) (vl rfl) rfl) ?_
  refine Ch.op rfl rfl (by decide) (ok_assign rfl (vl rfl)) ?_
  refine Ch.nil ?_
  refine Fin.go ?_
  refine Tr.cond rfl (fun h1 => ?_) (fun h1 => ?_)
  ·
    have q1 := Nrm.nrm h1
    refine Tr.seq ?_
    refine Tr.reg0 ?_
    refine Ch.op rfl rfl (by decide) (ok_assign rfl (vl rfl)) ?_
    refine Ch.nil ?_
    refine Fin.go ?_
    refine Tr.ret ?_
    refine Fin.block_ret ?_
    refine Fin.then_ret ?_
    refine Fin.ret1 rfl (OutW.bse _ _) rfl ?_
    · refine int_eq ?_; unfold singleI; (repeat (first | rw [if_pos (by omega)] | rw [if_neg (by omega)]))
  ·
    have q1 := Nrm.nrm h1
    refine Tr.seq ?_
    refine Tr.reg0 ?_
    refine Ch.op rfl rfl (by decide) (ok_int rfl (vl rfl) (vl rfl) rfl) ?_
    refine Ch.op rfl rfl (by decide) (ok_assign rfl (vl rfl)) ?_
    refine Ch.nil ?_
    refine Fin.go ?_
    refine Tr.cond rfl (fun h2 => ?_) (fun h2 => ?_)
    ·
      have q2 := Nrm.nrm h2
      refine Tr.seq ?_
      refine Tr.reg0 ?_
      refine Ch.op rfl rfl (by decide) (ok_assign rfl (vl rfl)) ?_
      refine Ch.nil ?_
      refine Fin.go ?_
      refine Tr.ret ?_
      refine Fin.block_ret ?_
      refine Fin.then_ret ?_
      refine Fin.ret1 rfl (OutW.bse _ _) rfl ?_
      · refine int_eq ?_; unfold singleI; (repeat (first | rw [if_pos (by omega)] | rw [if_neg (by omega)]))
    ·
      have q2 := Nrm.nrm h2
      refine Tr.seq ?_
      refine Tr.seq ?_
      refine Tr.reg0 ?_
      refine Ch.op rfl rfl (by decide) (ok_int rfl (vl rfl) (vl rfl) rfl) ?_
      refine Ch.op rfl rfl (by decide) (ok_assign rfl (vl rfl)) ?_
      refine Ch.nil ?_
      refine Fin.go ?_
      refine Tr.cond rfl (fun h3 => ?_) (fun h3 => ?_)
      ·
        have q3 := Nrm.nrm h3
        refine Tr.skip ?_
        refine Fin.go ?_
        refine Tr.cond rfl (fun _ => ?_) (fun h => nomatch h3.symm.trans h)
        refine Tr.seq ?_
        refine Tr.reg0 ?_
        refine Ch.op rfl rfl (by decide) (ok_assign rfl (vl rfl)) ?_
        refine Ch.nil ?_
        refine Fin.go ?_
        refine Tr.ret ?_
        refine Fin.block_ret ?_
        refine Fin.then_ret ?_
        refine Fin.ret1 rfl (OutW.bse _ _) rfl ?_
        · refine int_eq ?_; unfold singleI; (repeat (first | rw [if_pos (by omega)] | rw [if_neg (by omega)]))
      ·
        have q3 := Nrm.nrm h3
        refine Tr.seq ?_
        refine Tr.reg0 ?_
        refine Ch.op rfl rfl (by decide) (ok_int rfl (vl rfl) (vl rfl) rfl) ?_
        refine Ch.op rfl rfl (by decide) (ok_assign rfl (vl rfl)) ?_
        refine Ch.nil ?_
        refine Fin.go ?_
        refine Tr.cond rfl (fun h4 => ?_) (fun h4 => ?_)
        ·
          have q4 := Nrm.nrm h4
          refine Tr.skip ?_
          refine Fin.go ?_
          refine Tr.cond rfl (fun _ => ?_) (fun h => nomatch h4.symm.trans h)
          refine Tr.seq ?_
          refine Tr.reg0 ?_
          refine Ch.op rfl rfl (by decide) (ok_assign rfl (vl rfl)) ?_
          refine Ch.nil ?_
          refine Fin.go ?_
          refine Tr.ret ?_
          refine Fin.block_ret ?_
          refine Fin.then_ret ?_
          refine Fin.ret1 rfl (OutW.bse _ _) rfl ?_
          · refine int_eq ?_; unfold singleI; (repeat (first | rw [if_pos (by omega)] | rw [if_neg (by omega)]))
        ·
          have q4 := Nrm.nrm h4
          refine Tr.reg0 ?_
          refine Ch.op rfl rfl (by decide) (ok_int rfl (vl rfl) (vl rfl) rfl) ?_
          refine Ch.op rfl rfl (by decide) (ok_assign rfl (vl rfl)) ?_
          refine Ch.nil ?_
          refine Fin.go ?_
          refine Tr.cond rfl (fun h5 => ?_) (fun h5 => ?_)
          ·
            have q5 := Nrm.nrm h5
            refine Tr.seq ?_
            refine Tr.reg0 ?_
            refine Ch.op rfl rfl (by decide) (ok_assign rfl (vl rfl)) ?_
            refine Ch.nil ?_
            refine Fin.go ?_
            refine Tr.ret ?_
            refine Fin.block_ret ?_
            refine Fin.then_ret ?_
            refine Fin.ret1 rfl (OutW.bse _ _) rfl ?_
            · refine int_eq ?_; unfold singleI; (repeat (first | rw [if_pos (by omega)] | rw [if_neg (by omega)]))
          ·
            have q5 := Nrm.nrm h5
            refine Tr.seq ?_
            refine Tr.reg0 ?_
            refine Ch.op rfl rfl (by decide) (ok_int rfl (vl rfl) (vl rfl) rfl) ?_
            refine Ch.op rfl rfl (by decide) (ok_assign rfl (vl rfl)) ?_
            refine Ch.nil ?_
            refine Fin.go ?_
            refine Tr.weak [(3, _), (12, _)] ⟨⟨_, rfl, Pr.le_refl _⟩, ⟨_, rfl, Pr.le_refl _⟩, trivial⟩ ?_
            refine Tr.cond rfl (fun h6 => ?_) (fun h6 => ?_)
            ·
              have q6 := Nrm.nrm h6
              refine Tr.seq ?_
              refine Tr.reg0 ?_
              refine Ch.op rfl rfl (by decide) (ok_assign rfl (vl rfl)) ?_
              refine Ch.nil ?_
              refine Fin.go ?_
              refine Tr.ret ?_
              refine Fin.block_ret ?_
              refine Fin.then_ret ?_
              refine Fin.ret1 rfl (OutW.bse _ _) rfl ?_
              · refine int_eq ?_; unfold singleI; (repeat (first | rw [if_pos (by omega)] | rw [if_neg (by omega)]))
            ·
              have q6 := Nrm.nrm h6
              refine Tr.seq ?_
              refine Tr.seq ?_
              refine Tr.reg0 ?_
              refine Ch.op rfl rfl (by decide) (ok_int rfl (vl rfl) (vl rfl) rfl) ?_
              refine Ch.op rfl rfl (by decide) (ok_assign rfl (vl rfl)) ?_
              refine Ch.nil ?_
              refine Fin.go ?_
              refine Tr.cond rfl (fun h7 => ?_) (fun h7 => ?_)
              ·
                have q7 := Nrm.nrm h7
                refine Tr.skip ?_
                refine Fin.go ?_
                refine Tr.cond rfl (fun _ => ?_) (fun h => nomatch h7.symm.trans h)
                refine Tr.seq ?_
                refine Tr.reg0 ?_
                refine Ch.op rfl rfl (by decide) (ok_assign rfl (vl rfl)) ?_
                refine Ch.nil ?_
                refine Fin.go ?_
                refine Tr.ret ?_
                refine Fin.block_ret ?_
                refine Fin.then_ret ?_
                refine Fin.ret1 rfl (OutW.bse _ _) rfl ?_
                · refine int_eq ?_; unfold singleI; (repeat (first | rw [if_pos (by omega)] | rw [if_neg (by omega)]))
              ·
                have q7 := Nrm.nrm h7
                refine Tr.reg0 ?_
                refine Ch.op rfl rfl (by decide) (ok_int rfl (vl rfl) (vl rfl) rfl) ?_
                refine Ch.op rfl rfl (by decide) (ok_assign rfl (vl rfl)) ?_
                refine Ch.nil ?_
                refine Fin.go ?_
                refine Tr.cond rfl (fun h8 => ?_) (fun h8 => ?_)
                ·
                  have q8 := Nrm.nrm h8
                  refine Tr.seq ?_
                  refine Tr.reg0 ?_
                  refine Ch.op rfl rfl (by decide) (ok_assign rfl (vl rfl)) ?_
                  refine Ch.nil ?_
                  refine Fin.go ?_
                  refine Tr.ret ?_
                  refine Fin.block_ret ?_
                  refine Fin.then_ret ?_
                  refine Fin.ret1 rfl (OutW.bse _ _) rfl ?_
                  · refine int_eq ?_; unfold singleI; (repeat (first | rw [if_pos (by omega)] | rw [if_neg (by omega)]))
                ·
                  have q8 := Nrm.nrm h8
                  refine Tr.seq ?_
                  refine Tr.reg0 ?_
                  refine Ch.op rfl rfl (by decide) (ok_int rfl (vl rfl) (vl rfl) rfl) ?_
                  refine Ch.op rfl rfl (by decide) (ok_assign rfl (vl rfl)) ?_
                  refine Ch.nil ?_
                  refine Fin.go ?_
                  refine Tr.cond rfl (fun h9 => ?_) (fun h9 => ?_)
                  ·
                    have q9 := Nrm.nrm h9
                    refine Tr.seq ?_
                    refine Tr.reg0 ?_
                    refine Ch.op rfl rfl (by decide) (ok_assign rfl (vl rfl)) ?_
                    refine Ch.nil ?_
                    refine Fin.go ?_
                    refine Tr.ret ?_
                    refine Fin.block_ret ?_
                    refine Fin.then_ret ?_
                    refine Fin.ret1 rfl (OutW.bse _ _) rfl ?_
                    · refine int_eq ?_; unfold singleI; (repeat (first | rw [if_pos (by omega)] | rw [if_neg (by omega)]))
                  ·
                    have q9 := Nrm.nrm h9
                    refine Tr.seq ?_
                    refine Tr.reg0 ?_
                    refine Ch.op rfl rfl (by decide) (ok_int rfl (vl rfl) (vl rfl) rfl) ?_
                    refine Ch.op rfl rfl (by decide) (ok_assign rfl (vl rfl)) ?_
                    refine Ch.nil ?_
                    refine Fin.go ?_
                    refine Tr.cond rfl (fun h10 => ?_) (fun h10 => ?_)
                    ·
                      have q10 := Nrm.nrm h10
                      refine Tr.seq ?_
                      refine Tr.reg0 ?_
                      refine Ch.op rfl rfl (by decide) (ok_assign rfl (vl rfl)) ?_
                      refine Ch.nil ?_
                      refine Fin.go ?_
                      refine Tr.ret ?_
                      refine Fin.block_ret ?_
                      refine Fin.then_ret ?_
                      refine Fin.ret1 rfl (OutW.bse _ _) rfl ?_
                      · refine int_eq ?_; unfold singleI; (repeat (first | rw [if_pos (by omega)] | rw [if_neg (by omega)]))
                    ·
                      have q10 := Nrm.nrm h10
                      refine Tr.skip ?_
                      refine Fin.block ?_
                      refine Fin.go ?_
                      refine Tr.seq ?_
                      refine Tr.reg0 ?_
                      refine Ch.op rfl rfl (by decide) (ok_assign rfl (vl rfl)) ?_
                      refine Ch.nil ?_
                      refine Fin.go ?_
                      refine Tr.ret ?_
                      refine Fin.ret1 rfl (OutW.bse _ _) rfl ?_
                      · refine int_eq ?_; unfold singleI; (repeat (first | rw [if_pos (by omega)] | rw [if_neg (by omega)]))
theorem e_single : Entry Tryz.prog 152 := ⟨_, Tryz.func152, rfl, rfl⟩
set_option maxRecDepth 20000 in
theorem w_Rmodulus {b : Int}  : Fun Tryz.prog 150 [int b] (int (rmodI b)) := by
  refine Fun.of Tryz.func150 rfl rfl (by exact Nat.le_of_ble_eq_true rfl) fun M0 w0 => ?_
  refine Tr.seq ?_
  refine Tr.reg0 ?_
  refine Ch.op rfl rfl (by decide) (ok_assign rfl (vl rfl)) ?_
  refine Ch.nil ?_
  refine Fin.go ?_
  refine Tr.seq ?_
  refine Tr.block ?_
  refine Tr.seq ?_
  refine Tr.reg0 ?_
  refine Ch.op rfl rfl (by decide) (ok_move rfl (vl rfl)) ?_
  refine Ch.op rfl rfl (by decide) (ok_int rfl (vl rfl) (vl rfl) rfl) ?_
  refine Ch.op rfl rfl (by decide) (ok_move rfl (vl rfl)) ?_
  refine Ch.cases 6 rfl (fun h1 => ?_) (fun h1 => ?_)
  ·
    have q1 := Nrm.nrm h1
    refine Ch.no rfl rfl rfl (ne_false h1) rfl (by decide) ?_
    refine Ch.no rfl rfl rfl (ne_false h1) rfl (by decide) ?_
    refine Ch.op rfl rfl (by decide) (ok_pick_t rfl (vl rfl) h1 (vl rfl)) ?_
    refine Ch.op rfl rfl (by decide) (ok_assign rfl (vl rfl)) ?_
    refine Ch.nil ?_
    refine Fin.go ?_
    refine Tr.cond rfl (fun _ => ?_) (fun h => nomatch h)
    refine Tr.seq ?_
    refine Tr.reg0 ?_
    refine Ch.op rfl rfl (by decide) (ok_assign rfl (vl rfl)) ?_
    refine Ch.nil ?_
    refine Fin.go ?_
    refine Tr.ret ?_
    refine Fin.block_ret ?_
    refine Fin.then_ret ?_
    refine Fin.ret1 rfl (OutW.bse _ _) rfl ?_
    · refine int_eq ?_; unfold rmodI; (repeat (first | rw [if_pos (by omega)] | rw [if_neg (by omega)]))
  ·
    have q1 := Nrm.nrm h1
    refine Ch.yes rfl rfl rfl h1 rfl (by decide) (ok_move rfl (vl rfl)) ?_
    refine Ch.yes rfl rfl rfl h1 rfl (by decide) (ok_int rfl (vl rfl) (vl rfl) rfl) ?_
    refine Ch.op rfl rfl (by decide) (ok_pick_f rfl (vl rfl) h1 (vl rfl)) ?_
    refine Ch.op rfl rfl (by decide) (ok_assign rfl (vl rfl)) ?_
    refine Ch.nil ?_
    refine Fin.go ?_
    refine Tr.cond rfl (fun h2 => ?_) (fun h2 => ?_)
    ·
      have q2 := Nrm.nrm h2
      refine Tr.seq ?_
      refine Tr.reg0 ?_
      refine Ch.op rfl rfl (by decide) (ok_assign rfl (vl rfl)) ?_
      refine Ch.nil ?_
      refine Fin.go ?_
      refine Tr.ret ?_
      refine Fin.block_ret ?_
      refine Fin.then_ret ?_
      refine Fin.ret1 rfl (OutW.bse _ _) rfl ?_
      · refine int_eq ?_; unfold rmodI; (repeat (first | rw [if_pos (by omega)] | rw [if_neg (by omega)]))
    ·
      have q2 := Nrm.nrm h2
      refine Tr.seq ?_
      refine Tr.reg0 ?_
      refine Ch.op rfl rfl (by decide) (ok_move rfl (vl rfl)) ?_
      refine Ch.op rfl rfl (by decide) (ok_int rfl (vl rfl) (vl rfl) rfl) ?_
      refine Ch.op rfl rfl (by decide) (ok_assign rfl (vl rfl)) ?_
      refine Ch.nil ?_
      refine Fin.go ?_
      refine Tr.cond rfl (fun h3 => ?_) (fun h3 => ?_)
      ·
        have q3 := Nrm.nrm h3
        refine Tr.seq ?_
        refine Tr.reg0 ?_
        refine Ch.op rfl rfl (by decide) (ok_assign rfl (vl rfl)) ?_
        refine Ch.nil ?_
        refine Fin.go ?_
        refine Tr.ret ?_
        refine Fin.block_ret ?_
        refine Fin.then_ret ?_
        refine Fin.ret1 rfl (OutW.bse _ _) rfl ?_
        · refine int_eq ?_; unfold rmodI; (repeat (first | rw [if_pos (by omega)] | rw [if_neg (by omega)]))
      ·
        have q3 := Nrm.nrm h3
        refine Tr.seq ?_
        refine Tr.reg0 ?_
        refine Ch.op rfl rfl (by decide) (ok_move rfl (vl rfl)) ?_
        refine Ch.op rfl rfl (by decide) (ok_int rfl (vl rfl) (vl rfl) rfl) ?_
        refine Ch.op rfl rfl (by decide) (ok_assign rfl (vl rfl)) ?_
        refine Ch.nil ?_
        refine Fin.go ?_
        refine Tr.weak [(0, _), (13, _)] ⟨⟨_, rfl, Pr.le_refl _⟩, ⟨_, rfl, Pr.le_refl _⟩, trivial⟩ ?_
        refine Tr.cond rfl (fun h4 => ?_) (fun h4 => ?_)
        ·
          have q4 := Nrm.nrm h4
          refine Tr.seq ?_
          refine Tr.reg0 ?_
          refine Ch.op rfl rfl (by decide) (ok_assign rfl (vl rfl)) ?_
          refine Ch.nil ?_
          refine Fin.go ?_
          refine Tr.ret ?_
          refine Fin.block_ret ?_
          refine Fin.then_ret ?_
          refine Fin.ret1 rfl (OutW.bse _ _) rfl ?_
          · refine int_eq ?_; unfold rmodI; (repeat (first | rw [if_pos (by omega)] | rw [if_neg (by omega)]))
        ·
          have q4 := Nrm.nrm h4
          refine Tr.seq ?_
          refine Tr.reg0 ?_
          refine Ch.op rfl rfl (by decide) (ok_move rfl (vl rfl)) ?_
          refine Ch.op rfl rfl (by decide) (ok_int rfl (vl rfl) (vl rfl) rfl) ?_
          refine Ch.op rfl rfl (by decide) (ok_assign rfl (vl rfl)) ?_
          refine Ch.nil ?_
          refine Fin.go ?_
          refine Tr.cond rfl (fun h5 => ?_) (fun h5 => ?_)
          ·
            have q5 := Nrm.nrm h5
            refine Tr.seq ?_
            refine Tr.reg0 ?_
            refine Ch.op rfl rfl (by decide) (ok_assign rfl (vl rfl)) ?_
            refine Ch.nil ?_
            refine Fin.go ?_
            refine Tr.ret ?_
            refine Fin.block_ret ?_
            refine Fin.then_ret ?_
            refine Fin.ret1 rfl (OutW.bse _ _) rfl ?_
            · refine int_eq ?_; unfold rmodI; (repeat (first | rw [if_pos (by omega)] | rw [if_neg (by omega)]))
          ·
            have q5 := Nrm.nrm h5
            refine Tr.seq ?_
            refine Tr.reg0 ?_
            refine Ch.op rfl rfl (by decide) (ok_move rfl (vl rfl)) ?_
            refine Ch.op rfl rfl (by decide) (ok_int rfl (vl rfl) (vl rfl) rfl) ?_
            refine Ch.op rfl rfl (by decide) (ok_assign rfl (vl rfl)) ?_
            refine Ch.nil ?_
            refine Fin.go ?_
            refine Tr.cond rfl (fun h6 => ?_) (fun h6 => ?_)
            ·
              have q6 := Nrm.nrm h6
              refine Tr.seq ?_
              refine Tr.reg0 ?_
              refine Ch.op rfl rfl (by decide) (ok_assign rfl (vl rfl)) ?_
              refine Ch.nil ?_
              refine Fin.go ?_
              refine Tr.ret ?_
              refine Fin.block_ret ?_
              refine Fin.then_ret ?_
              refine Fin.ret1 rfl (OutW.bse _ _) rfl ?_
              · refine int_eq ?_; unfold rmodI; (repeat (first | rw [if_pos (by omega)] | rw [if_neg (by omega)]))
            ·
              have q6 := Nrm.nrm h6
              refine Tr.seq ?_
              refine Tr.reg0 ?_
              refine Ch.op rfl rfl (by decide) (ok_move rfl (vl rfl)) ?_
              refine Ch.op rfl rfl (by decide) (ok_int rfl (vl rfl) (vl rfl) rfl) ?_
              refine Ch.op rfl rfl (by decide) (ok_assign rfl (vl rfl)) ?_
              refine Ch.nil ?_
              refine Fin.go ?_
              refine Tr.cond rfl (fun h7 => ?_) (fun h7 => ?_)
              ·
                have q7 := Nrm.nrm h7
                refine Tr.seq ?_
                refine Tr.reg0 ?_
                refine Ch.op rfl rfl (by decide) (ok_assign rfl (vl rfl)) ?_
                refine Ch.nil ?_
                refine Fin.go ?_
                refine Tr.ret ?_
                refine Fin.block_ret ?_
                refine Fin.then_ret ?_
                refine Fin.ret1 rfl (OutW.bse _ _) rfl ?_
                · refine int_eq ?_; unfold rmodI; (repeat (first | rw [if_pos (by omega)] | rw [if_neg (by omega)]))
              ·
                have q7 := Nrm.nrm h7
                refine Tr.skip ?_
                refine Fin.block ?_
                refine Fin.go ?_
                refine Tr.seq ?_
                refine Tr.reg0 ?_
                refine Ch.op rfl rfl (by decide) (ok_assign rfl (vl rfl)) ?_
                refine Ch.nil ?_
                refine Fin.go ?_
                refine Tr.ret ?_
                refine Fin.ret1 rfl (OutW.bse _ _) rfl ?_
                · refine int_eq ?_; unfold rmodI; (repeat (first | rw [if_pos (by omega)] | rw [if_neg (by omega)]))
theorem e_Rmodulus : Entry Tryz.prog 150 := ⟨_, Tryz.func150, rfl, rfl⟩
end Go.Proofs.YthmnoekgicggnaaGreat
