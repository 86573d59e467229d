/-
  What the functions named below compute, proved from their text; printed by a program of our own.
-/
import Derived.Test.YtacifhfelijekaaTypes
import Derived.Test.YtacifhfelijekaaSlices
import Derived.Test.YtacifhfelijekaaWin1
import Derived.Test.YtacifhfelijekaaWin2
import Derived.Test.YtacifhfelijekaaWin3
import Derived.Test.YtacifhfelijekaaWin4
import Derived.Test.YtacifhfelijekaaWin5
import Derived.Test.YtacifhfelijekaaDice
import Derived.Test.YtacifhfelijekaaMove
import Derived.Test.YtacifhfelijekaaL30Full
import Derived.Test.YtacifhfelijekaaL30Next
import Derived.Test.YtacifhfelijekaaRef30
import Derived.Test.YtacifhfelijekaaRef30b
import Derived.Test.YtacifhfelijekaaRef30c
import Derived.Test.YtacifhfelijekaaRef30d
namespace Go.Proofs.Ytacifhfelijekaa
open Go Go.RowKit Cp

theorem fitE_with {c : Cal} {teams days : List Int} {n : Int} (h : c.has n = true) : c.fitE teams days [n] = c.fitE teams days [] := by
  unfold Cal.fitE
  rw [List.any_append, List.append_nil]
  simp [h]
theorem fitsE_with {c : Cal} {teams days : List Int} {n : Int} (h : c.has n = true) : c.fitsE teams days [n] = c.fitsE teams days [] := by
  unfold Cal.fitsE; rw [fitE_with h]
theorem fitsE_err {c : Cal} {teams days os : List Int} {e : Int} (h : c.fitE teams days os = e) (he : e ≠ 0) : c.fitsE teams days os = e := by
  unfold Cal.fitsE; rw [if_pos (by rw [h]; exact he), h]
theorem fitE_own' {c : Cal} {teams days os : List Int} (h : ¬ c.own = 0) : c.fitE teams days os = c.own := by unfold Cal.fitE; rw [if_pos h]
theorem fitE_1 {c : Cal} {teams days os : List Int} (h : c.own = 0) (h1 : teams.length ≠ days.length) : c.fitE teams days os = 1 := by unfold Cal.fitE; rw [if_neg (not_not_intro h), if_pos h1]
theorem fitE_3 {c : Cal} {teams days os : List Int} (h : c.own = 0) (h1 : teams.length = days.length) (h2 : 24 < teams.length) : c.fitE teams days os = 3 := by unfold Cal.fitE; rw [if_neg (not_not_intro h), if_neg (not_not_intro h1), if_pos h2]
theorem fitE_2 {c : Cal} {teams days : List Int} {n : Int} (h : c.own = 0) (h1 : teams.length = days.length) (h2 : ¬ 24 < teams.length) (h3 : ¬ c.has n = true) : c.fitE teams days [n] = 2 := by
  unfold Cal.fitE; rw [if_neg (not_not_intro h), if_neg (not_not_intro h1), if_neg h2, if_pos (by rw [List.any_append]; simp [h3])]
theorem early_err {c : Cal} {teams days : List Int} {n d e : Int} (h : c.fitsE teams days [n] = e) (he : e ≠ 0) : c.early teams days n d = none := by
  unfold Cal.early; rw [if_neg (by rw [h]; exact he)]
theorem early_ok {c : Cal} {teams days : List Int} {n d : Int} (h : c.fitsE teams days [n] = 0) : c.early teams days n d = c.next n d (c.free (teams.zip days) n) := by
  unfold Cal.early; rw [if_pos h]
theorem rnextR_hit {c : Cal} {n day : Int} {room : Nat → Bool} (h : c.own = 0) {k : Nat} {w : Win} (hw : c.wins[k]? = some w) (hd : max day w.lo < w.hi) (hm : c.may n (max day w.lo) = true) (hr : room k = true) : nextFrom n (max day 0) room k (c.wins.drop k) = some (max day w.lo) := by
  have h3 := (own_wins h).2 w (List.mem_of_getElem? hw)
  rw [next_ref h hw hd] at hm
  rw [next_hit hw (by omega) hm hr, show max (max day 0) w.lo = max day w.lo by omega]
theorem rnextR_miss {c : Cal} {n day : Int} {room : Nat → Bool} (h : c.own = 0) {k : Nat} {w : Win} (hw : c.wins[k]? = some w) (hd : ¬ (max day w.lo < w.hi ∧ c.may n (max day w.lo) = true ∧ room k = true)) : nextFrom n (max day 0) room k (c.wins.drop k) = nextFrom n (max day 0) room (k + 1) (c.wins.drop (k + 1)) := by
  have h3 := (own_wins h).2 w (List.mem_of_getElem? hw)
  refine next_miss hw ?_
  rintro ⟨h1, h2, h5⟩
  have h4 : max day w.lo < w.hi := by omega
  exact hd ⟨h4, by rw [next_ref h hw h4]; exact h2, h5⟩

theorem w_REarliest {c : Cal} {teams days : List Int} {n from_ : Int}  : Fun Try.prog 28 [calP c, ints teams, ints days, int n, int from_] (tup [int ((c.early teams days n from_).getD 0), bool (c.early teams days n from_).isSome, int (c.fitsE teams days [n])]) := by
  refine Fun.of Try.func28 rfl rfl (by exact Nat.le_of_ble_eq_true rfl) fun M0 w0 => ?_
  refine Tr.lenA 0 0 rfl rfl fun hlA_0_0 => ?_
  refine Tr.lenA 0 1 rfl rfl fun hlA_0_1 => ?_
  refine Tr.lenA 0 2 rfl rfl fun hlA_0_2 => ?_
  refine Tr.lenm 1 rfl fun hlm_1 => ?_
  refine Tr.lenm 2 rfl fun hlm_2 => ?_
  refine Tr.seq ?_
  refine Tr.reg0 ?_
  refine Ch.op rfl rfl (by decide) (ok_box rfl (VL.le (vl rfl) (agg_cellsP _))) ?_
  refine Ch.op rfl rfl (by decide) (ok_assign rfl (vl rfl)) ?_
  refine Ch.op rfl rfl (by decide) (ok_assign rfl (vl rfl)) ?_
  refine Ch.op rfl rfl (by decide) (ok_assign rfl (vl rfl)) ?_
  refine Ch.nil ?_
  refine Fin.go ?_
  refine Tr.seq ?_
  refine Tr.seq ?_
  refine Tr.reg0 ?_
  refine Ch.op rfl rfl (by decide) (ok_loadA rfl agg27 sz27 (vl rfl) rfl rfl) ?_
  refine Ch.op rfl rfl (by decide) (ok_fieldAddr rfl fo27_1 (vl rfl) rfl) ?_
  refine Ch.op rfl rfl (by decide) (ok_load1 rfl one22 (vl rfl)) ?_
  first
    | refine Ch.op rfl rfl (by decide) (ok_lenm rfl Try.underlying22 (vl rfl)) ?_
    | refine Ch.op rfl rfl (by decide) (ok_len rfl Try.underlying22 (vl rfl)) ?_
  refine Ch.op rfl rfl (by decide) (ok_call rfl (w_RCheck) ⟨⟨_, rfl, Pr.le_refl _⟩, ⟨_, rfl, Pr.le_refl _⟩, trivial⟩) ?_
  refine Ch.op rfl rfl (by decide) (ok_assign rfl (vl rfl)) ?_
  refine Ch.nil ?_
  refine Fin.go ?_
  refine Tr.seq ?_
  refine Tr.re 13 rfl (int_eq (b := c.own) rfl) ?_
  refine Tr.reg0 ?_
  refine Ch.op rfl rfl (by decide) (ok_move rfl (vl rfl)) ?_
  refine Ch.op rfl rfl (by decide) (ok_int rfl (vl rfl) (vl rfl) rfl) ?_
  refine Ch.nil ?_
  refine Fin.go ?_
  refine Tr.cond rfl (fun h1 => ?_) (fun h1 => ?_)
  ·
    have q1 := Nrm.nrm h1
    refine Tr.seq ?_
    refine Tr.reg0 ?_
    refine Ch.op rfl rfl (by decide) (ok_move rfl (vl rfl)) ?_
    refine Ch.op rfl rfl (by decide) (ok_assign rfl (vl rfl)) ?_
    refine Ch.op rfl rfl (by decide) (ok_assign rfl (vl rfl)) ?_
    refine Ch.op rfl rfl (by decide) (ok_assign rfl (vl rfl)) ?_
    refine Ch.nil ?_
    refine Fin.go ?_
    refine Tr.weak [(10, _), (11, _), (12, _)] ⟨⟨_, rfl, Pr.le_refl _⟩, ⟨_, rfl, Pr.le_refl _⟩, ⟨_, rfl, Pr.le_refl _⟩, trivial⟩ ?_
    refine Tr.ret ?_
    refine Fin.then_ret ?_
    refine Fin.ret3 rfl (OutW.bse _ _) rfl ?_ rfl ?_ rfl ?_
    · refine int_eq ?_; rw [early_err (fitsE_err (fitE_own' (by assumption)) (by assumption)) (by assumption)]; rfl
    · refine bool_eq ?_; rw [early_err (fitsE_err (fitE_own' (by assumption)) (by assumption)) (by assumption)]; rfl
    · refine int_eq ?_; exact (fitsE_err (fitE_own' (by assumption)) (by assumption)).symm
  ·
    have q1 := Nrm.nrm h1
    have hown : c.own = 0 := q1
    refine Tr.skip ?_
    refine Fin.go ?_
    refine Tr.seq ?_
    refine Tr.seq ?_
    refine Tr.reg0 ?_
    refine Ch.op rfl rfl (by decide) (ok_move rfl (vl rfl)) ?_
    first
      | refine Ch.op rfl rfl (by decide) (ok_lenm rfl Try.underlying22 (vl rfl)) ?_
      | refine Ch.op rfl rfl (by decide) (ok_len rfl Try.underlying22 (vl rfl)) ?_
    refine Ch.op rfl rfl (by decide) (ok_move rfl (vl rfl)) ?_
    first
      | refine Ch.op rfl rfl (by decide) (ok_lenm rfl Try.underlying22 (vl rfl)) ?_
      | refine Ch.op rfl rfl (by decide) (ok_len rfl Try.underlying22 (vl rfl)) ?_
    refine Ch.op rfl rfl (by decide) (ok_int rfl (vl rfl) (vl rfl) rfl) ?_
    refine Ch.nil ?_
    refine Fin.go ?_
    refine Tr.weak [(1, _), (2, _), (3, _), (4, _), (5, _), (31, _)] ⟨⟨_, rfl, Pr.le_refl _⟩, ⟨_, rfl, Pr.le_refl _⟩, ⟨_, rfl, Pr.le_refl _⟩, ⟨_, rfl, Pr.le_refl _⟩, ⟨_, rfl, Pr.le_refl _⟩, ⟨_, rfl, Pr.le_refl _⟩, trivial⟩ ?_
    refine Tr.cond rfl (fun h2 => ?_) (fun h2 => ?_)
    ·
      have q2 := Nrm.nrm h2
      refine Tr.seq ?_
      refine Tr.reg0 ?_
      refine Ch.op rfl rfl (by decide) (ok_assign rfl (vl rfl)) ?_
      refine Ch.op rfl rfl (by decide) (ok_assign rfl (vl rfl)) ?_
      refine Ch.op rfl rfl (by decide) (ok_assign rfl (vl rfl)) ?_
      refine Ch.nil ?_
      refine Fin.go ?_
      refine Tr.ret ?_
      refine Fin.then_ret ?_
      refine Fin.ret3 rfl (OutW.bse _ _) rfl ?_ rfl ?_ rfl ?_
      · refine int_eq ?_; rw [early_err (fitsE_err (fitE_1 hown (by omega)) (by decide)) (by decide)]; rfl
      · refine bool_eq ?_; rw [early_err (fitsE_err (fitE_1 hown (by omega)) (by decide)) (by decide)]; rfl
      · refine int_eq ?_; exact (fitsE_err (fitE_1 hown (by omega)) (by decide)).symm
    ·
      have q2 := Nrm.nrm h2
      refine Tr.skip ?_
      refine Fin.go ?_
      refine Tr.seq ?_
      refine Tr.seq ?_
      refine Tr.reg0 ?_
      refine Ch.op rfl rfl (by decide) (ok_move rfl (vl rfl)) ?_
      first
        | refine Ch.op rfl rfl (by decide) (ok_lenm rfl Try.underlying22 (vl rfl)) ?_
        | refine Ch.op rfl rfl (by decide) (ok_len rfl Try.underlying22 (vl rfl)) ?_
      refine Ch.op rfl rfl (by decide) (ok_int rfl (vl rfl) (vl rfl) rfl) ?_
      refine Ch.nil ?_
      refine Fin.go ?_
      refine Tr.cond rfl (fun h3 => ?_) (fun h3 => ?_)
      ·
        have q3 := Nrm.nrm h3
        refine Tr.seq ?_
        refine Tr.reg0 ?_
        refine Ch.op rfl rfl (by decide) (ok_assign rfl (vl rfl)) ?_
        refine Ch.op rfl rfl (by decide) (ok_assign rfl (vl rfl)) ?_
        refine Ch.op rfl rfl (by decide) (ok_assign rfl (vl rfl)) ?_
        refine Ch.nil ?_
        refine Fin.go ?_
        refine Tr.ret ?_
        refine Fin.then_ret ?_
        refine Fin.ret3 rfl (OutW.bse _ _) rfl ?_ rfl ?_ rfl ?_
        · refine int_eq ?_; rw [early_err (fitsE_err (fitE_3 hown (by omega) (by omega)) (by decide)) (by decide)]; rfl
        · refine bool_eq ?_; rw [early_err (fitsE_err (fitE_3 hown (by omega) (by omega)) (by decide)) (by decide)]; rfl
        · refine int_eq ?_; exact (fitsE_err (fitE_3 hown (by omega) (by omega)) (by decide)).symm
      ·
        have q3 := Nrm.nrm h3
        refine Tr.skip ?_
        refine Fin.go ?_
        refine Tr.seq ?_
        refine Tr.seq ?_
        refine Tr.reg0 ?_
        refine Ch.op rfl rfl (by decide) (ok_move rfl (vl rfl)) ?_
        refine Ch.op rfl rfl (by decide) (ok_int rfl (vl rfl) (vl rfl) rfl) ?_
        refine Ch.op rfl rfl (by decide) (ok_move rfl (vl rfl)) ?_
        refine Ch.cases 37 rfl (fun h4 => ?_) (fun h4 => ?_)
        ·
          have q4 := Nrm.nrm h4
          refine Ch.no rfl rfl rfl (ne_false h4) rfl (by decide) ?_
          refine Ch.no rfl rfl rfl (ne_false h4) rfl (by decide) ?_
          refine Ch.no rfl rfl rfl (ne_false h4) rfl (by decide) ?_
          refine Ch.no rfl rfl rfl (ne_false h4) rfl (by decide) ?_
          refine Ch.no rfl rfl rfl (ne_false h4) rfl (by decide) ?_
          refine Ch.op rfl rfl (by decide) (ok_pick_t rfl (vl rfl) h4 (vl rfl)) ?_
          refine Ch.nil ?_
          refine Fin.go ?_
          refine Tr.weak [(1, _), (2, _), (3, _), (4, _), (5, _), (43, _)] ⟨⟨_, rfl, Pr.le_refl _⟩, ⟨_, rfl, Pr.le_refl _⟩, ⟨_, rfl, Pr.le_refl _⟩, ⟨_, rfl, Pr.le_refl _⟩, ⟨_, rfl, Pr.le_refl _⟩, ⟨_, rfl, Pr.le_refl _⟩, trivial⟩ ?_
          refine Tr.cond rfl (fun _ => ?_) (fun h => nomatch h)
          refine Tr.seq ?_
          refine Tr.reg0 ?_
          refine Ch.op rfl rfl (by decide) (ok_assign rfl (vl rfl)) ?_
          refine Ch.op rfl rfl (by decide) (ok_assign rfl (vl rfl)) ?_
          refine Ch.op rfl rfl (by decide) (ok_assign rfl (vl rfl)) ?_
          refine Ch.nil ?_
          refine Fin.go ?_
          refine Tr.ret ?_
          refine Fin.then_ret ?_
          refine Fin.ret3 rfl (OutW.bse _ _) rfl ?_ rfl ?_ rfl ?_
          · refine int_eq ?_; rw [early_err (fitsE_err (fitE_2 hown (by omega) (by omega) (by simp [Cal.has]; omega)) (by decide)) (by decide)]; rfl
          · refine bool_eq ?_; rw [early_err (fitsE_err (fitE_2 hown (by omega) (by omega) (by simp [Cal.has]; omega)) (by decide)) (by decide)]; rfl
          · refine int_eq ?_; exact (fitsE_err (fitE_2 hown (by omega) (by omega) (by simp [Cal.has]; omega)) (by decide)).symm
        ·
          have q4 := Nrm.nrm h4
          refine Ch.yes rfl rfl rfl h4 rfl (by decide) (ok_move rfl (vl rfl)) ?_
          refine Ch.yes rfl rfl rfl h4 rfl (by decide) (ok_fieldAddr rfl fo27_2 (vl rfl) rfl) ?_
          refine Ch.yes rfl rfl rfl h4 rfl (by decide) (ok_load1 rfl one22 (vl rfl)) ?_
          first
            | refine Ch.yes rfl rfl rfl h4 rfl (by decide) (ok_lenm rfl Try.underlying22 (vl rfl)) ?_
            | refine Ch.yes rfl rfl rfl h4 rfl (by decide) (ok_len rfl Try.underlying22 (vl rfl)) ?_
          refine Ch.yes rfl rfl rfl h4 rfl (by decide) (ok_int rfl (vl rfl) (vl rfl) rfl) ?_
          refine Ch.op rfl rfl (by decide) (ok_pick_f rfl (vl rfl) h4 (vl rfl)) ?_
          refine Ch.nil ?_
          refine Fin.go ?_
          refine Tr.weak [(1, _), (2, _), (3, _), (4, _), (5, _), (43, _)] ⟨⟨_, rfl, Pr.le_refl _⟩, ⟨_, rfl, Pr.le_refl _⟩, ⟨_, rfl, Pr.le_refl _⟩, ⟨_, rfl, Pr.le_refl _⟩, ⟨_, rfl, Pr.le_refl _⟩, ⟨_, rfl, Pr.le_refl _⟩, trivial⟩ ?_
          refine Tr.cond rfl (fun h5 => ?_) (fun h5 => ?_)
          ·
            have q5 := Nrm.nrm h5
            refine Tr.seq ?_
            refine Tr.reg0 ?_
            refine Ch.op rfl rfl (by decide) (ok_assign rfl (vl rfl)) ?_
            refine Ch.op rfl rfl (by decide) (ok_assign rfl (vl rfl)) ?_
            refine Ch.op rfl rfl (by decide) (ok_assign rfl (vl rfl)) ?_
            refine Ch.nil ?_
            refine Fin.go ?_
            refine Tr.ret ?_
            refine Fin.then_ret ?_
            refine Fin.ret3 rfl (OutW.bse _ _) rfl ?_ rfl ?_ rfl ?_
            · refine int_eq ?_; rw [early_err (fitsE_err (fitE_2 hown (by omega) (by omega) (by simp [Cal.has]; omega)) (by decide)) (by decide)]; rfl
            · refine bool_eq ?_; rw [early_err (fitsE_err (fitE_2 hown (by omega) (by omega) (by simp [Cal.has]; omega)) (by decide)) (by decide)]; rfl
            · refine int_eq ?_; exact (fitsE_err (fitE_2 hown (by omega) (by omega) (by simp [Cal.has]; omega)) (by decide)).symm
          ·
            have q5 := Nrm.nrm h5
            have hhas : c.has n = true := by simp [Cal.has]; omega
            refine Tr.skip ?_
            refine Fin.go ?_
            refine Tr.seq ?_
            refine Tr.seq ?_
            refine Tr.reg0 ?_
            refine Ch.op rfl rfl (by decide) (ok_loadA rfl agg27 sz27 (vl rfl) rfl rfl) ?_
            refine Ch.op rfl rfl (by decide) (ok_move rfl (vl rfl)) ?_
            refine Ch.op rfl rfl (by decide) (ok_move rfl (vl rfl)) ?_
            refine Ch.op rfl rfl (by decide) (ok_call rfl (w_RFits) ⟨⟨_, rfl, Pr.le_refl _⟩, ⟨_, rfl, Pr.le_refl _⟩, ⟨_, rfl, Pr.le_refl _⟩, trivial⟩) ?_
            refine Ch.op rfl rfl (by decide) (ok_assign rfl (vl rfl)) ?_
            refine Ch.nil ?_
            refine Fin.go ?_
            refine Tr.seq ?_
            refine Tr.reg0 ?_
            refine Ch.op rfl rfl (by decide) (ok_move rfl (vl rfl)) ?_
            refine Ch.op rfl rfl (by decide) (ok_int rfl (vl rfl) (vl rfl) rfl) ?_
            refine Ch.nil ?_
            refine Fin.go ?_
            refine Tr.cond rfl (fun h6 => ?_) (fun h6 => ?_)
            ·
              have q6 := Nrm.nrm h6
              refine Tr.seq ?_
              refine Tr.reg0 ?_
              refine Ch.op rfl rfl (by decide) (ok_move rfl (vl rfl)) ?_
              refine Ch.op rfl rfl (by decide) (ok_assign rfl (vl rfl)) ?_
              refine Ch.op rfl rfl (by decide) (ok_assign rfl (vl rfl)) ?_
              refine Ch.op rfl rfl (by decide) (ok_assign rfl (vl rfl)) ?_
              refine Ch.nil ?_
              refine Fin.go ?_
              refine Tr.weak [(10, _), (11, _), (12, _)] ⟨⟨_, rfl, Pr.le_refl _⟩, ⟨_, rfl, Pr.le_refl _⟩, ⟨_, rfl, Pr.le_refl _⟩, trivial⟩ ?_
              refine Tr.ret ?_
              refine Fin.then_ret ?_
              refine Fin.ret3 rfl (OutW.bse _ _) rfl ?_ rfl ?_ rfl ?_
              · refine int_eq ?_; rw [early_err (fitsE_with hhas) (by assumption)]; rfl
              · refine bool_eq ?_; rw [early_err (fitsE_with hhas) (by assumption)]; rfl
              · refine int_eq ?_; exact (fitsE_with hhas).symm
            ·
              have q6 := Nrm.nrm h6
              have hf0 : c.fitsE teams days [] = 0 := q6
              have hf := fitsE_fitE hf0
              have hfn : c.fitsE teams days [n] = 0 := by rw [fitsE_with hhas]; exact hf0
              refine Tr.skip ?_
              refine Fin.go ?_
              refine Tr.seq ?_
              refine Tr.reg0 ?_
              refine Ch.op rfl rfl (by decide) (ok_loadA rfl agg27 sz27 (vl rfl) rfl rfl) ?_
              refine Ch.op rfl rfl (by decide) (ok_move rfl (vl rfl)) ?_
              refine Ch.op rfl rfl (by decide) (ok_move rfl (vl rfl)) ?_
              refine Ch.op rfl rfl (by decide) (ok_call rfl (w_Rload (by assumption)) ⟨⟨_, rfl, Pr.le_refl _⟩, ⟨_, rfl, Pr.le_refl _⟩, ⟨_, rfl, Pr.le_refl _⟩, trivial⟩) ?_
              refine Ch.op rfl rfl (by decide) (ok_assign rfl (vl rfl)) ?_
              refine Ch.nil ?_
              refine Fin.go ?_
              refine Tr.weak [(3, _), (4, _), (5, _), (15, _)] ⟨⟨_, rfl, Pr.le_refl _⟩, ⟨_, rfl, Pr.le_refl _⟩, ⟨_, rfl, Pr.le_refl _⟩, ⟨_, rfl, Pr.le_refl _⟩, trivial⟩ ?_
              refine Tr.seq ?_
              refine Tr.seq ?_
              refine Tr.reg0 ?_
              refine Ch.op rfl rfl (by decide) (ok_fieldAddr rfl fo27_0 (vl rfl) rfl) ?_
              refine Ch.op rfl rfl (by decide) (ok_load1 rfl one25 (vl rfl)) ?_
              first
                | refine Ch.op rfl rfl (by decide) (ok_lenm rfl Try.underlying25 (vl rfl)) ?_
                | refine Ch.op rfl rfl (by decide) (ok_len rfl Try.underlying25 (vl rfl)) ?_
              refine Ch.op rfl rfl (by decide) (ok_move rfl (vl rfl)) ?_
              refine Ch.nil ?_
              refine Fin.go ?_
              refine Tr.block ?_
              refine Tr.loopw [(3, _), (4, _), (5, _), (15, _), (56, _), (57, _)] ⟨⟨_, rfl, Pr.le_refl _⟩, ⟨_, rfl, Pr.le_refl _⟩, ⟨_, rfl, Pr.le_refl _⟩, ⟨_, rfl, Pr.le_refl _⟩, ⟨_, rfl, Pr.le_refl _⟩, ⟨_, rfl, Pr.le_refl _⟩, trivial⟩ (fun k : Nat => [(58, int ((k : Nat) : Int))]) (fun k : Nat => k ≤ (c.wins).length ∧ (c.next n from_ (c.free (teams.zip days) n) = nextFrom n (max from_ 0) (c.free (teams.zip days) n) k (c.wins.drop k))) (fun k : Nat => (c.wins).length - k) 0 (⟨Nat.zero_le _, rfl⟩) ⟨⟨_, rfl, Pr.le_refl _⟩, trivial⟩ ?_
              rintro k ⟨hle_k, hinv_k⟩
              refine Tr.seq ?_
              refine Tr.reg0 ?_
              refine Ch.op rfl rfl (by decide) (ok_int rfl (vl rfl) (vl rfl) rfl) ?_
              refine Ch.nil ?_
              refine Fin.go ?_
              refine Tr.seq ?_
              refine Tr.cond rfl (fun h7 => ?_) (fun h7 => ?_)
              ·
                have q7 := Nrm.nrm h7
                have hk_k : k < (c.wins).length := lt_of_dec h7
                obtain ⟨w, hx_k⟩ := at_ hk_k
                obtain ⟨row, hrow⟩ := at_ (l := c.tbl (teams.zip days)) (k := k) (by rw [tbl_length]; exact hk_k)
                obtain ⟨_, hr2⟩ := tbl_row hrow
                obtain ⟨hn0, hrm⟩ := has_room hhas
                obtain ⟨z, hz⟩ := at_ (l := row) (k := n.toNat) (by rw [hr2]; simp; have := hhas; simp [Cal.has] at this; omega)
                obtain ⟨hnl, hz2⟩ := row_el hr2 hz
                refine Tr.skip ?_
                refine Fin.go ?_
                refine Tr.seq ?_
                refine Tr.block ?_
                refine Tr.seq ?_
                refine Tr.regT ?_
                refine TO.op rfl rfl (by decide) (ok_move rfl (vl rfl)) ?_
                refine TO.op rfl rfl (by decide) (ok_indexAddr rfl Try.underlying25 sz45 (vl rfl) (vl rfl) (by omega) (by first | exact row_at (by assumption) | exact row_atI (by assumption) | assumption)) ?_
                refine TO.op rfl rfl (by decide) (ok_loadA rfl agg45 sz45 (vl rfl) rfl rfl) ?_
                refine TO.alloc rfl rfl (by decide) rfl z45 zo45 (fun b1 => ?_)
                refine TO.op rfl rfl (by decide) (ok_assign rfl (vl rfl)) ?_
                refine TO.store_all 0 rfl rfl rfl (vl rfl) (VL.le (vl rfl) (agg_cellsP _)) rfl sz45 rfl rfl ?_
                refine TO.freeze 0 17 rfl rfl ?_
                refine TO.nil ?_
                refine Fin.go ?_
                refine Tr.weak [(3, _), (4, _), (5, _), (15, _), (16, _), (17, _), (56, _), (57, _), (58, _)] ⟨⟨_, rfl, Pr.le_refl _⟩, ⟨_, rfl, Pr.le_refl _⟩, ⟨_, rfl, Pr.le_refl _⟩, ⟨_, rfl, Pr.le_refl _⟩, ⟨_, rfl, Pr.le_refl _⟩, ⟨_, rfl, Pr.le_refl _⟩, ⟨_, rfl, Pr.le_refl _⟩, ⟨_, rfl, Pr.le_refl _⟩, ⟨_, rfl, Pr.le_refl _⟩, trivial⟩ ?_
                refine Tr.seq ?_
                refine Tr.reg0 ?_
                refine Ch.op rfl rfl (by decide) (ok_move rfl (vl rfl)) ?_
                refine Ch.op rfl rfl (by decide) (ok_fieldAddr rfl fo45_0 (vl rfl) rfl) ?_
                refine Ch.op rfl rfl (by decide) (ok_fieldAddr rfl fo43_0 (vl rfl) rfl) ?_
                refine Ch.op rfl rfl (by decide) (ok_load1 rfl one3 (vl rfl)) ?_
                refine Ch.op rfl rfl (by decide) (ok_max rfl (vl rfl) (vl rfl)) ?_
                refine Ch.op rfl rfl (by decide) (ok_assign rfl (vl rfl)) ?_
                refine Ch.nil ?_
                refine Fin.go ?_
                refine Tr.weak [(3, _), (4, _), (5, _), (15, _), (16, _), (17, _), (18, _), (56, _), (57, _), (58, _)] ⟨⟨_, rfl, Pr.le_refl _⟩, ⟨_, rfl, Pr.le_refl _⟩, ⟨_, rfl, Pr.le_refl _⟩, ⟨_, rfl, Pr.le_refl _⟩, ⟨_, rfl, Pr.le_refl _⟩, ⟨_, rfl, Pr.le_refl _⟩, ⟨_, rfl, Pr.le_refl _⟩, ⟨_, rfl, Pr.le_refl _⟩, ⟨_, rfl, Pr.le_refl _⟩, ⟨_, rfl, Pr.le_refl _⟩, trivial⟩ ?_
                refine Tr.seq ?_
                refine Tr.reg1 mixed (by kernel_rfl) ?_
                refine Ch.op rfl rfl (by decide) (ok_move rfl (vl rfl)) ?_
                refine Ch.op rfl rfl (by decide) (ok_fieldAddr rfl fo45_0 (vl rfl) rfl) ?_
                refine Ch.op rfl rfl (by decide) (ok_fieldAddr rfl fo43_1 (vl rfl) rfl) ?_
                refine Ch.op rfl rfl (by decide) (ok_load1 rfl one3 (vl rfl)) ?_
                refine Ch.op rfl rfl (by decide) (ok_int rfl (vl rfl) (vl rfl) rfl) ?_
                refine Ch.op rfl rfl (by decide) (ok_move rfl (vl rfl)) ?_
                refine Ch.cases 73 rfl (fun h8 => ?_) (fun h8 => ?_)
                ·
                  have q8 := Nrm.nrm h8
                  refine Ch.yes rfl rfl rfl h8 rfl (by decide) (ok_loadA rfl agg27 sz27 (vl rfl) rfl rfl) ?_
                  refine Ch.yes rfl rfl rfl h8 rfl (by decide) (ok_move rfl (vl rfl)) ?_
                  refine Ch.yes rfl rfl rfl h8 rfl (by decide) (ok_move rfl (vl rfl)) ?_
                  refine Ch.yes rfl rfl rfl h8 rfl (by decide) (ok_call rfl (w_Rmay) ⟨⟨_, rfl, Pr.le_refl _⟩, ⟨_, rfl, Pr.le_refl _⟩, ⟨_, rfl, Pr.le_refl _⟩, trivial⟩) ?_
                  refine Ch.op rfl rfl (by decide) (ok_pick_t rfl (vl rfl) h8 (vl rfl)) ?_
                  refine Ch.op rfl rfl (by decide) (ok_move rfl (vl rfl)) ?_
                  refine Ch.cases 79 rfl (fun h9 => ?_) (fun h9 => ?_)
                  ·
                    have q9 := Nrm.nrm h9
                    refine Ch.yes rfl rfl rfl h9 rfl (by decide) (ok_move rfl (vl rfl)) ?_
                    refine Ch.yes rfl rfl rfl h9 rfl (by decide) (ok_move rfl (vl rfl)) ?_
                    refine Ch.yes rfl rfl rfl h9 rfl (by decide) (ok_indexAddr rfl Try.underlying32 sz22 (vl rfl) (vl rfl) (by omega) (by first | exact row_at (by assumption) | exact row_atI (by assumption) | assumption)) ?_
                    refine Ch.yes rfl rfl rfl h9 rfl (by decide) (ok_load1 rfl one22 (vl rfl)) ?_
                    refine Ch.yes rfl rfl rfl h9 rfl (by decide) (ok_move rfl (vl rfl)) ?_
                    refine Ch.yes rfl rfl rfl h9 rfl (by decide) (ok_indexAddr rfl Try.underlying22 sz3 (vl rfl) (vl rfl) (by omega) (by first | exact row_at (by assumption) | exact row_atI (by assumption) | assumption)) ?_
                    refine Ch.yes rfl rfl rfl h9 rfl (by decide) (ok_load1 rfl one3 (vl rfl)) ?_
                    refine Ch.yes rfl rfl rfl h9 rfl (by decide) (ok_fieldAddr rfl fo27_2 (vl rfl) rfl) ?_
                    refine Ch.yes rfl rfl rfl h9 rfl (by decide) (ok_load1 rfl one22 (vl rfl)) ?_
                    refine Ch.yes rfl rfl rfl h9 rfl (by decide) (ok_move rfl (vl rfl)) ?_
                    refine Ch.yes rfl rfl rfl h9 rfl (by decide) (ok_indexAddr rfl Try.underlying22 sz3 (vl rfl) (vl rfl) (by omega) (by first | exact row_at (by assumption) | exact row_atI (by assumption) | assumption)) ?_
                    refine Ch.yes rfl rfl rfl h9 rfl (by decide) (ok_load1 rfl one3 (vl rfl)) ?_
                    refine Ch.yes rfl rfl rfl h9 rfl (by decide) (ok_int rfl (vl rfl) (vl rfl) rfl) ?_
                    refine Ch.op rfl rfl (by decide) (ok_pick_t rfl (vl rfl) h9 (vl rfl)) ?_
                    refine Ch.nil ?_
                    refine Fin.go ?_
                    refine Tr.weak [(3, _), (4, _), (5, _), (15, _), (18, _), (56, _), (57, _), (58, _), (93, _)] ⟨⟨_, rfl, Pr.le_refl _⟩, ⟨_, rfl, Pr.le_refl _⟩, ⟨_, rfl, Pr.le_refl _⟩, ⟨_, rfl, Pr.le_refl _⟩, ⟨_, rfl, Pr.le_refl _⟩, ⟨_, rfl, Pr.le_refl _⟩, ⟨_, rfl, Pr.le_refl _⟩, ⟨_, rfl, Pr.le_refl _⟩, ⟨_, rfl, Pr.le_refl _⟩, trivial⟩ ?_
                    refine Tr.cond rfl (fun h10 => ?_) (fun h10 => ?_)
                    ·
                      have q10 := Nrm.nrm h10
                      refine Tr.seq ?_
                      refine Tr.reg0 ?_
                      refine Ch.op rfl rfl (by decide) (ok_move rfl (vl rfl)) ?_
                      refine Ch.op rfl rfl (by decide) (ok_assign rfl (vl rfl)) ?_
                      refine Ch.op rfl rfl (by decide) (ok_assign rfl (vl rfl)) ?_
                      refine Ch.op rfl rfl (by decide) (ok_assign rfl (vl rfl)) ?_
                      refine Ch.nil ?_
                      refine Fin.go ?_
                      refine Tr.ret ?_
                      refine Fin.block_ret ?_
                      refine Fin.then_ret ?_
                      refine Fin.then_ret ?_
                      refine Fin.block_ret ?_
                      refine Fin.then_ret ?_
                      refine Fin.ret3 rfl (OutW.bse _ _) rfl ?_ rfl ?_ rfl ?_
                      · refine int_eq ?_; rw [early_ok hfn, hinv_k, rnextR_hit hown hx_k (by assumption) (by assumption) (by simp only [Cal.free, decide_eq_true_eq]; omega)]; rfl
                      · refine bool_eq ?_; rw [early_ok hfn, hinv_k, rnextR_hit hown hx_k (by assumption) (by assumption) (by simp only [Cal.free, decide_eq_true_eq]; omega)]; rfl
                      · refine int_eq ?_; exact hfn.symm
                    ·
                      have q10 := Nrm.nrm h10
                      refine Tr.skip ?_
                      refine Fin.block ?_
                      refine Fin.go ?_
                      refine Tr.reg0 ?_
                      first
                        | (refine Ch.op rfl rfl (by decide) (ok_add rfl (vl rfl) (vl rfl) ?hin) ?_; case hin => unfold InI; omega)
                        | refine Ch.op rfl rfl (by decide) (ok_int rfl (vl rfl) (vl rfl) rfl) ?_
                      refine Ch.op rfl rfl (by decide) (ok_move rfl (vl rfl)) ?_
                      refine Ch.nil ?_
                      exact Fin.fam_same (k + 1) ⟨⟨hk_k, (hinv_k.trans (rnextR_miss hown hx_k (by rintro ⟨a1, a2, a3⟩; simp only [Cal.free, decide_eq_true_eq] at a3; first | omega | (simp_all; done))))⟩, by omega⟩ ⟨⟨_, rfl, int_succ k⟩, ⟨_, rfl, Pr.le_refl _⟩, ⟨_, rfl, Pr.le_refl _⟩, ⟨_, rfl, Pr.le_refl _⟩, ⟨_, rfl, Pr.le_refl _⟩, ⟨_, rfl, Pr.le_refl _⟩, ⟨_, rfl, Pr.le_refl _⟩, trivial⟩
                  ·
                    have q9 := Nrm.nrm h9
                    refine Ch.no rfl rfl rfl (ne_true h9) rfl (by decide) ?_
                    refine Ch.no rfl rfl rfl (ne_true h9) rfl (by decide) ?_
                    refine Ch.no rfl rfl rfl (ne_true h9) rfl (by decide) ?_
                    refine Ch.no rfl rfl rfl (ne_true h9) rfl (by decide) ?_
                    refine Ch.no rfl rfl rfl (ne_true h9) rfl (by decide) ?_
                    refine Ch.no rfl rfl rfl (ne_true h9) rfl (by decide) ?_
                    refine Ch.no rfl rfl rfl (ne_true h9) rfl (by decide) ?_
                    refine Ch.no rfl rfl rfl (ne_true h9) rfl (by decide) ?_
                    refine Ch.no rfl rfl rfl (ne_true h9) rfl (by decide) ?_
                    refine Ch.no rfl rfl rfl (ne_true h9) rfl (by decide) ?_
                    refine Ch.no rfl rfl rfl (ne_true h9) rfl (by decide) ?_
                    refine Ch.no rfl rfl rfl (ne_true h9) rfl (by decide) ?_
                    refine Ch.no rfl rfl rfl (ne_true h9) rfl (by decide) ?_
                    refine Ch.op rfl rfl (by decide) (ok_pick_f rfl (vl rfl) h9 (vl rfl)) ?_
                    refine Ch.nil ?_
                    refine Fin.go ?_
                    refine Tr.weak [(3, _), (4, _), (5, _), (15, _), (18, _), (56, _), (57, _), (58, _), (93, _)] ⟨⟨_, rfl, Pr.le_refl _⟩, ⟨_, rfl, Pr.le_refl _⟩, ⟨_, rfl, Pr.le_refl _⟩, ⟨_, rfl, Pr.le_refl _⟩, ⟨_, rfl, Pr.le_refl _⟩, ⟨_, rfl, Pr.le_refl _⟩, ⟨_, rfl, Pr.le_refl _⟩, ⟨_, rfl, Pr.le_refl _⟩, ⟨_, rfl, Pr.le_refl _⟩, trivial⟩ ?_
                    refine Tr.cond rfl (fun h => nomatch h) (fun _ => ?_)
                    refine Tr.skip ?_
                    refine Fin.block ?_
                    refine Fin.go ?_
                    refine Tr.reg0 ?_
                    first
                      | (refine Ch.op rfl rfl (by decide) (ok_add rfl (vl rfl) (vl rfl) ?hin) ?_; case hin => unfold InI; omega)
                      | refine Ch.op rfl rfl (by decide) (ok_int rfl (vl rfl) (vl rfl) rfl) ?_
                    refine Ch.op rfl rfl (by decide) (ok_move rfl (vl rfl)) ?_
                    refine Ch.nil ?_
                    exact Fin.fam_same (k + 1) ⟨⟨hk_k, (hinv_k.trans (rnextR_miss hown hx_k (by rintro ⟨a1, a2, a3⟩; simp only [Cal.free, decide_eq_true_eq] at a3; first | omega | (simp_all; done))))⟩, by omega⟩ ⟨⟨_, rfl, int_succ k⟩, ⟨_, rfl, Pr.le_refl _⟩, ⟨_, rfl, Pr.le_refl _⟩, ⟨_, rfl, Pr.le_refl _⟩, ⟨_, rfl, Pr.le_refl _⟩, ⟨_, rfl, Pr.le_refl _⟩, ⟨_, rfl, Pr.le_refl _⟩, trivial⟩
                ·
                  have q8 := Nrm.nrm h8
                  refine Ch.no rfl rfl rfl (ne_true h8) rfl (by decide) ?_
                  refine Ch.no rfl rfl rfl (ne_true h8) rfl (by decide) ?_
                  refine Ch.no rfl rfl rfl (ne_true h8) rfl (by decide) ?_
                  refine Ch.no rfl rfl rfl (ne_true h8) rfl (by decide) ?_
                  refine Ch.op rfl rfl (by decide) (ok_pick_f rfl (vl rfl) h8 (vl rfl)) ?_
                  refine Ch.op rfl rfl (by decide) (ok_move rfl (vl rfl)) ?_
                  refine Ch.no rfl rfl rfl (by decide) rfl (by decide) ?_
                  refine Ch.no rfl rfl rfl (by decide) rfl (by decide) ?_
                  refine Ch.no rfl rfl rfl (by decide) rfl (by decide) ?_
                  refine Ch.no rfl rfl rfl (by decide) rfl (by decide) ?_
                  refine Ch.no rfl rfl rfl (by decide) rfl (by decide) ?_
                  refine Ch.no rfl rfl rfl (by decide) rfl (by decide) ?_
                  refine Ch.no rfl rfl rfl (by decide) rfl (by decide) ?_
                  refine Ch.no rfl rfl rfl (by decide) rfl (by decide) ?_
                  refine Ch.no rfl rfl rfl (by decide) rfl (by decide) ?_
                  refine Ch.no rfl rfl rfl (by decide) rfl (by decide) ?_
                  refine Ch.no rfl rfl rfl (by decide) rfl (by decide) ?_
                  refine Ch.no rfl rfl rfl (by decide) rfl (by decide) ?_
                  refine Ch.no rfl rfl rfl (by decide) rfl (by decide) ?_
                  refine Ch.op rfl rfl (by decide) (ok_pick_f rfl (vl rfl) rfl (vl rfl)) ?_
                  refine Ch.nil ?_
                  refine Fin.go ?_
                  refine Tr.weak [(3, _), (4, _), (5, _), (15, _), (18, _), (56, _), (57, _), (58, _), (93, _)] ⟨⟨_, rfl, Pr.le_refl _⟩, ⟨_, rfl, Pr.le_refl _⟩, ⟨_, rfl, Pr.le_refl _⟩, ⟨_, rfl, Pr.le_refl _⟩, ⟨_, rfl, Pr.le_refl _⟩, ⟨_, rfl, Pr.le_refl _⟩, ⟨_, rfl, Pr.le_refl _⟩, ⟨_, rfl, Pr.le_refl _⟩, ⟨_, rfl, Pr.le_refl _⟩, trivial⟩ ?_
                  refine Tr.cond rfl (fun h => nomatch h) (fun _ => ?_)
                  refine Tr.skip ?_
                  refine Fin.block ?_
                  refine Fin.go ?_
                  refine Tr.reg0 ?_
                  first
                    | (refine Ch.op rfl rfl (by decide) (ok_add rfl (vl rfl) (vl rfl) ?hin) ?_; case hin => unfold InI; omega)
                    | refine Ch.op rfl rfl (by decide) (ok_int rfl (vl rfl) (vl rfl) rfl) ?_
                  refine Ch.op rfl rfl (by decide) (ok_move rfl (vl rfl)) ?_
                  refine Ch.nil ?_
                  exact Fin.fam_same (k + 1) ⟨⟨hk_k, (hinv_k.trans (rnextR_miss hown hx_k (by rintro ⟨a1, a2, a3⟩; simp only [Cal.free, decide_eq_true_eq] at a3; first | omega | (simp_all; done))))⟩, by omega⟩ ⟨⟨_, rfl, int_succ k⟩, ⟨_, rfl, Pr.le_refl _⟩, ⟨_, rfl, Pr.le_refl _⟩, ⟨_, rfl, Pr.le_refl _⟩, ⟨_, rfl, Pr.le_refl _⟩, ⟨_, rfl, Pr.le_refl _⟩, ⟨_, rfl, Pr.le_refl _⟩, trivial⟩
              ·
                have q7 := Nrm.nrm h7
                have he_k : k = (c.wins).length := by have := ge_of_dec h7; omega
                subst he_k
                refine Tr.exit ?_
                refine Fin.then_exit ?_
                refine Fin.then_exit ?_
                refine Fin.block_here ?_
                refine Fin.go ?_
                refine Tr.seq ?_
                refine Tr.reg0 ?_
                refine Ch.op rfl rfl (by decide) (ok_assign rfl (vl rfl)) ?_
                refine Ch.op rfl rfl (by decide) (ok_assign rfl (vl rfl)) ?_
                refine Ch.op rfl rfl (by decide) (ok_assign rfl (vl rfl)) ?_
                refine Ch.nil ?_
                refine Fin.go ?_
                refine Tr.ret ?_
                refine Fin.ret3 rfl (OutW.bse _ _) rfl ?_ rfl ?_ rfl ?_
                · refine int_eq ?_; rw [early_ok hfn, hinv_k, List.drop_length]; rfl
                · refine bool_eq ?_; rw [early_ok hfn, hinv_k, List.drop_length]; rfl
                · refine int_eq ?_; exact hfn.symm
theorem e_REarliest : Entry Try.prog 28 := ⟨_, Try.func28, rfl, rfl⟩
end Go.Proofs.Ytacifhfelijekaa
