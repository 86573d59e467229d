/-
  What the functions named below compute, proved from their text; printed by a program of our own.
-/
import Derived.Test.YtacifhfelijekaaTypes
import Derived.Test.YtacifhfelijekaaSlices
import Derived.Test.YtacifhfelijekaaWin1
import Derived.Test.YtacifhfelijekaaWin2
import Derived.Test.YtacifhfelijekaaWin3
import Derived.Test.YtacifhfelijekaaWin4
import Derived.Test.YtacifhfelijekaaWin5
import Derived.Test.YtacifhfelijekaaDice
import Derived.Test.YtacifhfelijekaaMove
import Derived.Test.YtacifhfelijekaaL30Full
import Derived.Test.YtacifhfelijekaaL30Next
import Derived.Test.YtacifhfelijekaaRef30
namespace Go.Proofs.Ytacifhfelijekaa
open Go Go.RowKit Cp

theorem all_take {c : Cal} {a b : List Int} {k : Nat} {n d : Int} (hx : a[k]? = some n) (hd : b[k]? = some d) (hm : c.may n d = true) (h : ((a.zip b).take k).all (fun p => c.may p.1 p.2) = true) : ((a.zip b).take (k + 1)).all (fun p => c.may p.1 p.2) = true := by
  rw [take_zip hx hd, List.all_append, h]; simp [hm]
theorem any_nil {c : Cal} {l : List Int} : (l ++ []).any (fun n => !c.has n) = l.any (fun n => !c.has n) := by rw [List.append_nil]

theorem w_Rfit {c : Cal} {teams days : List Int}  : Fun Try.prog 53 [calP c, ints teams, ints days] (int (c.fitE teams days [])) := by
  refine Fun.of Try.func53 rfl rfl (by exact Nat.le_of_ble_eq_true rfl) fun M0 w0 => ?_
  refine Tr.lenA 0 1 rfl rfl fun hlA_0_1 => ?_
  refine Tr.lenA 0 2 rfl rfl fun hlA_0_2 => ?_
  refine Tr.lenm 1 rfl fun hlm_1 => ?_
  refine Tr.lenm 2 rfl fun hlm_2 => ?_
  refine Tr.seq ?_
  refine Tr.reg0 ?_
  refine Ch.op rfl rfl (by decide) (ok_box rfl (VL.le (vl rfl) (agg_cellsP _))) ?_
  refine Ch.op rfl rfl (by decide) (ok_assign rfl (vl rfl)) ?_
  refine Ch.nil ?_
  refine Fin.go ?_
  refine Tr.seq ?_
  refine Tr.seq ?_
  refine Tr.reg0 ?_
  refine Ch.op rfl rfl (by decide) (ok_loadA rfl agg27 sz27 (vl rfl) rfl rfl) ?_
  refine Ch.op rfl rfl (by decide) (ok_fieldAddr rfl fo27_1 (vl rfl) rfl) ?_
  refine Ch.op rfl rfl (by decide) (ok_load1 rfl one22 (vl rfl)) ?_
  first
    | refine Ch.op rfl rfl (by decide) (ok_lenm rfl Try.underlying22 (vl rfl)) ?_
    | refine Ch.op rfl rfl (by decide) (ok_len rfl Try.underlying22 (vl rfl)) ?_
  refine Ch.op rfl rfl (by decide) (ok_call rfl (w_RCheck) ⟨⟨_, rfl, Pr.le_refl _⟩, ⟨_, rfl, Pr.le_refl _⟩, trivial⟩) ?_
  refine Ch.op rfl rfl (by decide) (ok_assign rfl (vl rfl)) ?_
  refine Ch.nil ?_
  refine Fin.go ?_
  refine Tr.seq ?_
  refine Tr.re 7 rfl (int_eq (b := c.own) rfl) ?_
  refine Tr.reg0 ?_
  refine Ch.op rfl rfl (by decide) (ok_move rfl (vl rfl)) ?_
  refine Ch.op rfl rfl (by decide) (ok_int rfl (vl rfl) (vl rfl) rfl) ?_
  refine Ch.nil ?_
  refine Fin.go ?_
  refine Tr.cond rfl (fun h1 => ?_) (fun h1 => ?_)
  ·
    have q1 := Nrm.nrm h1
    refine Tr.seq ?_
    refine Tr.reg0 ?_
    refine Ch.op rfl rfl (by decide) (ok_move rfl (vl rfl)) ?_
    refine Ch.op rfl rfl (by decide) (ok_assign rfl (vl rfl)) ?_
    refine Ch.nil ?_
    refine Fin.go ?_
    refine Tr.ret ?_
    refine Fin.then_ret ?_
    refine Fin.ret1 rfl (OutW.bse _ _) rfl ?_
    · refine int_eq ?_; unfold Cal.fitE; first | (rw [if_pos (by assumption)]; done) | (rw [if_neg (not_not_intro hown), if_pos (by omega)]; done) | (rw [if_neg (not_not_intro hown), if_neg (by omega), if_pos (by omega)]; done) | (rw [if_neg (not_not_intro hown), if_neg (by omega), if_neg (by omega), any_nil, if_pos (any_hit hx_a (by simp [Cal.has]; omega))]; done) | (rw [if_neg (not_not_intro hown), if_neg (by omega), if_neg (by omega), any_nil, if_neg (ne_true (any_miss hinv_a)), if_neg (all_no hx_k hd (by assumption))]; done) | (rw [if_neg (not_not_intro hown), if_neg (by omega), if_neg (by omega), any_nil, if_neg (ne_true (any_miss hinv_a)), if_pos (all_yes hinv_k (by omega))]; done)
  ·
    have q1 := Nrm.nrm h1
    have hown : c.own = 0 := q1
    refine Tr.skip ?_
    refine Fin.go ?_
    refine Tr.seq ?_
    refine Tr.seq ?_
    refine Tr.reg0 ?_
    refine Ch.op rfl rfl (by decide) (ok_move rfl (vl rfl)) ?_
    first
      | refine Ch.op rfl rfl (by decide) (ok_lenm rfl Try.underlying22 (vl rfl)) ?_
      | refine Ch.op rfl rfl (by decide) (ok_len rfl Try.underlying22 (vl rfl)) ?_
    refine Ch.op rfl rfl (by decide) (ok_move rfl (vl rfl)) ?_
    first
      | refine Ch.op rfl rfl (by decide) (ok_lenm rfl Try.underlying22 (vl rfl)) ?_
      | refine Ch.op rfl rfl (by decide) (ok_len rfl Try.underlying22 (vl rfl)) ?_
    refine Ch.op rfl rfl (by decide) (ok_int rfl (vl rfl) (vl rfl) rfl) ?_
    refine Ch.nil ?_
    refine Fin.go ?_
    refine Tr.weak [(1, _), (2, _), (3, _), (24, _)] ⟨⟨_, rfl, Pr.le_refl _⟩, ⟨_, rfl, Pr.le_refl _⟩, ⟨_, rfl, Pr.le_refl _⟩, ⟨_, rfl, Pr.le_refl _⟩, trivial⟩ ?_
    refine Tr.cond rfl (fun h2 => ?_) (fun h2 => ?_)
    ·
      have q2 := Nrm.nrm h2
      refine Tr.seq ?_
      refine Tr.reg0 ?_
      refine Ch.op rfl rfl (by decide) (ok_assign rfl (vl rfl)) ?_
      refine Ch.nil ?_
      refine Fin.go ?_
      refine Tr.ret ?_
      refine Fin.then_ret ?_
      refine Fin.ret1 rfl (OutW.bse _ _) rfl ?_
      · refine int_eq ?_; unfold Cal.fitE; first | (rw [if_pos (by assumption)]; done) | (rw [if_neg (not_not_intro hown), if_pos (by omega)]; done) | (rw [if_neg (not_not_intro hown), if_neg (by omega), if_pos (by omega)]; done) | (rw [if_neg (not_not_intro hown), if_neg (by omega), if_neg (by omega), any_nil, if_pos (any_hit hx_a (by simp [Cal.has]; omega))]; done) | (rw [if_neg (not_not_intro hown), if_neg (by omega), if_neg (by omega), any_nil, if_neg (ne_true (any_miss hinv_a)), if_neg (all_no hx_k hd (by assumption))]; done) | (rw [if_neg (not_not_intro hown), if_neg (by omega), if_neg (by omega), any_nil, if_neg (ne_true (any_miss hinv_a)), if_pos (all_yes hinv_k (by omega))]; done)
    ·
      have q2 := Nrm.nrm h2
      refine Tr.skip ?_
      refine Fin.go ?_
      refine Tr.seq ?_
      refine Tr.seq ?_
      refine Tr.reg0 ?_
      refine Ch.op rfl rfl (by decide) (ok_move rfl (vl rfl)) ?_
      first
        | refine Ch.op rfl rfl (by decide) (ok_lenm rfl Try.underlying22 (vl rfl)) ?_
        | refine Ch.op rfl rfl (by decide) (ok_len rfl Try.underlying22 (vl rfl)) ?_
      refine Ch.op rfl rfl (by decide) (ok_int rfl (vl rfl) (vl rfl) rfl) ?_
      refine Ch.nil ?_
      refine Fin.go ?_
      refine Tr.cond rfl (fun h3 => ?_) (fun h3 => ?_)
      ·
        have q3 := Nrm.nrm h3
        refine Tr.seq ?_
        refine Tr.reg0 ?_
        refine Ch.op rfl rfl (by decide) (ok_assign rfl (vl rfl)) ?_
        refine Ch.nil ?_
        refine Fin.go ?_
        refine Tr.ret ?_
        refine Fin.then_ret ?_
        refine Fin.ret1 rfl (OutW.bse _ _) rfl ?_
        · refine int_eq ?_; unfold Cal.fitE; first | (rw [if_pos (by assumption)]; done) | (rw [if_neg (not_not_intro hown), if_pos (by omega)]; done) | (rw [if_neg (not_not_intro hown), if_neg (by omega), if_pos (by omega)]; done) | (rw [if_neg (not_not_intro hown), if_neg (by omega), if_neg (by omega), any_nil, if_pos (any_hit hx_a (by simp [Cal.has]; omega))]; done) | (rw [if_neg (not_not_intro hown), if_neg (by omega), if_neg (by omega), any_nil, if_neg (ne_true (any_miss hinv_a)), if_neg (all_no hx_k hd (by assumption))]; done) | (rw [if_neg (not_not_intro hown), if_neg (by omega), if_neg (by omega), any_nil, if_neg (ne_true (any_miss hinv_a)), if_pos (all_yes hinv_k (by omega))]; done)
      ·
        have q3 := Nrm.nrm h3
        refine Tr.skip ?_
        refine Fin.go ?_
        refine Tr.seq ?_
        refine Tr.seq ?_
        refine Tr.reg0 ?_
        refine Ch.op rfl rfl (by decide) (ok_move rfl (vl rfl)) ?_
        first
          | refine Ch.op rfl rfl (by decide) (ok_lenm rfl Try.underlying22 (vl rfl)) ?_
          | refine Ch.op rfl rfl (by decide) (ok_len rfl Try.underlying22 (vl rfl)) ?_
        refine Ch.op rfl rfl (by decide) (ok_move rfl (vl rfl)) ?_
        refine Ch.nil ?_
        refine Fin.go ?_
        refine Tr.block ?_
        refine Tr.loopw [(1, _), (2, _), (3, _), (28, _), (29, _)] ⟨⟨_, rfl, Pr.le_refl _⟩, ⟨_, rfl, Pr.le_refl _⟩, ⟨_, rfl, Pr.le_refl _⟩, ⟨_, rfl, Pr.le_refl _⟩, ⟨_, rfl, Pr.le_refl _⟩, trivial⟩ (fun a : Nat => [(30, int ((a : Nat) : Int))]) (fun a : Nat => a ≤ (teams).length ∧ (Upto (fun n => !c.has n) teams a)) (fun a : Nat => (teams).length - a) 0 (⟨Nat.zero_le _, upto_0 _ _⟩) ⟨⟨_, rfl, Pr.le_refl _⟩, trivial⟩ ?_
        rintro a ⟨hle_a, hinv_a⟩
        refine Tr.seq ?_
        refine Tr.reg0 ?_
        refine Ch.op rfl rfl (by decide) (ok_int rfl (vl rfl) (vl rfl) rfl) ?_
        refine Ch.nil ?_
        refine Fin.go ?_
        refine Tr.seq ?_
        refine Tr.cond rfl (fun h4 => ?_) (fun h4 => ?_)
        ·
          have q4 := Nrm.nrm h4
          have hk_a : a < (teams).length := lt_of_dec h4
          obtain ⟨r, hx_a⟩ := at_ hk_a
          refine Tr.skip ?_
          refine Fin.go ?_
          refine Tr.seq ?_
          refine Tr.block ?_
          refine Tr.seq ?_
          refine Tr.reg0 ?_
          refine Ch.op rfl rfl (by decide) (ok_indexAddr rfl Try.underlying22 sz3 (vl rfl) (vl rfl) (by omega) (by first | exact row_at (by assumption) | exact row_atI (by assumption) | assumption)) ?_
          refine Ch.op rfl rfl (by decide) (ok_load1 rfl one3 (vl rfl)) ?_
          refine Ch.op rfl rfl (by decide) (ok_assign rfl (vl rfl)) ?_
          refine Ch.nil ?_
          refine Fin.go ?_
          refine Tr.seq ?_
          refine Tr.reg0 ?_
          refine Ch.op rfl rfl (by decide) (ok_move rfl (vl rfl)) ?_
          refine Ch.op rfl rfl (by decide) (ok_int rfl (vl rfl) (vl rfl) rfl) ?_
          refine Ch.op rfl rfl (by decide) (ok_move rfl (vl rfl)) ?_
          refine Ch.cases 36 rfl (fun h5 => ?_) (fun h5 => ?_)
          ·
            have q5 := Nrm.nrm h5
            refine Ch.no rfl rfl rfl (ne_false h5) rfl (by decide) ?_
            refine Ch.no rfl rfl rfl (ne_false h5) rfl (by decide) ?_
            refine Ch.no rfl rfl rfl (ne_false h5) rfl (by decide) ?_
            refine Ch.no rfl rfl rfl (ne_false h5) rfl (by decide) ?_
            refine Ch.no rfl rfl rfl (ne_false h5) rfl (by decide) ?_
            refine Ch.op rfl rfl (by decide) (ok_pick_t rfl (vl rfl) h5 (vl rfl)) ?_
            refine Ch.nil ?_
            refine Fin.go ?_
            refine Tr.weak [(1, _), (2, _), (3, _), (28, _), (29, _), (30, _), (42, _)] ⟨⟨_, rfl, Pr.le_refl _⟩, ⟨_, rfl, Pr.le_refl _⟩, ⟨_, rfl, Pr.le_refl _⟩, ⟨_, rfl, Pr.le_refl _⟩, ⟨_, rfl, Pr.le_refl _⟩, ⟨_, rfl, Pr.le_refl _⟩, ⟨_, rfl, Pr.le_refl _⟩, trivial⟩ ?_
            refine Tr.cond rfl (fun _ => ?_) (fun h => nomatch h)
            refine Tr.seq ?_
            refine Tr.reg0 ?_
            refine Ch.op rfl rfl (by decide) (ok_assign rfl (vl rfl)) ?_
            refine Ch.nil ?_
            refine Fin.go ?_
            refine Tr.ret ?_
            refine Fin.block_ret ?_
            refine Fin.then_ret ?_
            refine Fin.then_ret ?_
            refine Fin.block_ret ?_
            refine Fin.then_ret ?_
            refine Fin.ret1 rfl (OutW.bse _ _) rfl ?_
            · refine int_eq ?_; unfold Cal.fitE; first | (rw [if_pos (by assumption)]; done) | (rw [if_neg (not_not_intro hown), if_pos (by omega)]; done) | (rw [if_neg (not_not_intro hown), if_neg (by omega), if_pos (by omega)]; done) | (rw [if_neg (not_not_intro hown), if_neg (by omega), if_neg (by omega), any_nil, if_pos (any_hit hx_a (by simp [Cal.has]; omega))]; done) | (rw [if_neg (not_not_intro hown), if_neg (by omega), if_neg (by omega), any_nil, if_neg (ne_true (any_miss hinv_a)), if_neg (all_no hx_k hd (by assumption))]; done) | (rw [if_neg (not_not_intro hown), if_neg (by omega), if_neg (by omega), any_nil, if_neg (ne_true (any_miss hinv_a)), if_pos (all_yes hinv_k (by omega))]; done)
          ·
            have q5 := Nrm.nrm h5
            refine Ch.yes rfl rfl rfl h5 rfl (by decide) (ok_move rfl (vl rfl)) ?_
            refine Ch.yes rfl rfl rfl h5 rfl (by decide) (ok_fieldAddr rfl fo27_2 (vl rfl) rfl) ?_
            refine Ch.yes rfl rfl rfl h5 rfl (by decide) (ok_load1 rfl one22 (vl rfl)) ?_
            first
              | refine Ch.yes rfl rfl rfl h5 rfl (by decide) (ok_lenm rfl Try.underlying22 (vl rfl)) ?_
              | refine Ch.yes rfl rfl rfl h5 rfl (by decide) (ok_len rfl Try.underlying22 (vl rfl)) ?_
            refine Ch.yes rfl rfl rfl h5 rfl (by decide) (ok_int rfl (vl rfl) (vl rfl) rfl) ?_
            refine Ch.op rfl rfl (by decide) (ok_pick_f rfl (vl rfl) h5 (vl rfl)) ?_
            refine Ch.nil ?_
            refine Fin.go ?_
            refine Tr.weak [(1, _), (2, _), (3, _), (28, _), (29, _), (30, _), (42, _)] ⟨⟨_, rfl, Pr.le_refl _⟩, ⟨_, rfl, Pr.le_refl _⟩, ⟨_, rfl, Pr.le_refl _⟩, ⟨_, rfl, Pr.le_refl _⟩, ⟨_, rfl, Pr.le_refl _⟩, ⟨_, rfl, Pr.le_refl _⟩, ⟨_, rfl, Pr.le_refl _⟩, trivial⟩ ?_
            refine Tr.cond rfl (fun h6 => ?_) (fun h6 => ?_)
            ·
              have q6 := Nrm.nrm h6
              refine Tr.seq ?_
              refine Tr.reg0 ?_
              refine Ch.op rfl rfl (by decide) (ok_assign rfl (vl rfl)) ?_
              refine Ch.nil ?_
              refine Fin.go ?_
              refine Tr.ret ?_
              refine Fin.block_ret ?_
              refine Fin.then_ret ?_
              refine Fin.then_ret ?_
              refine Fin.block_ret ?_
              refine Fin.then_ret ?_
              refine Fin.ret1 rfl (OutW.bse _ _) rfl ?_
              · refine int_eq ?_; unfold Cal.fitE; first | (rw [if_pos (by assumption)]; done) | (rw [if_neg (not_not_intro hown), if_pos (by omega)]; done) | (rw [if_neg (not_not_intro hown), if_neg (by omega), if_pos (by omega)]; done) | (rw [if_neg (not_not_intro hown), if_neg (by omega), if_neg (by omega), any_nil, if_pos (any_hit hx_a (by simp [Cal.has]; omega))]; done) | (rw [if_neg (not_not_intro hown), if_neg (by omega), if_neg (by omega), any_nil, if_neg (ne_true (any_miss hinv_a)), if_neg (all_no hx_k hd (by assumption))]; done) | (rw [if_neg (not_not_intro hown), if_neg (by omega), if_neg (by omega), any_nil, if_neg (ne_true (any_miss hinv_a)), if_pos (all_yes hinv_k (by omega))]; done)
            ·
              have q6 := Nrm.nrm h6
              refine Tr.skip ?_
              refine Fin.block ?_
              refine Fin.go ?_
              refine Tr.reg0 ?_
              first
                | (refine Ch.op rfl rfl (by decide) (ok_add rfl (vl rfl) (vl rfl) ?hin) ?_; case hin => unfold InI; omega)
                | refine Ch.op rfl rfl (by decide) (ok_int rfl (vl rfl) (vl rfl) rfl) ?_
              refine Ch.op rfl rfl (by decide) (ok_move rfl (vl rfl)) ?_
              refine Ch.nil ?_
              exact Fin.fam_same (a + 1) ⟨⟨hk_a, upto_s hx_a (by simp [Cal.has]; omega) hinv_a⟩, by omega⟩ ⟨⟨_, rfl, int_succ a⟩, ⟨_, rfl, Pr.le_refl _⟩, ⟨_, rfl, Pr.le_refl _⟩, ⟨_, rfl, Pr.le_refl _⟩, ⟨_, rfl, Pr.le_refl _⟩, ⟨_, rfl, Pr.le_refl _⟩, trivial⟩
        ·
          have q4 := Nrm.nrm h4
          have he_a : a = (teams).length := by have := ge_of_dec h4; omega
          subst he_a
          refine Tr.exit ?_
          refine Fin.then_exit ?_
          refine Fin.then_exit ?_
          refine Fin.block_here ?_
          refine Fin.go ?_
          refine Tr.seq ?_
          refine Tr.seq ?_
          refine Tr.reg0 ?_
          refine Ch.op rfl rfl (by decide) (ok_move rfl (vl rfl)) ?_
          first
            | refine Ch.op rfl rfl (by decide) (ok_lenm rfl Try.underlying22 (vl rfl)) ?_
            | refine Ch.op rfl rfl (by decide) (ok_len rfl Try.underlying22 (vl rfl)) ?_
          refine Ch.op rfl rfl (by decide) (ok_move rfl (vl rfl)) ?_
          refine Ch.nil ?_
          refine Fin.go ?_
          refine Tr.block ?_
          refine Tr.loopw [(2, _), (3, _), (44, _), (45, _)] ⟨⟨_, rfl, Pr.le_refl _⟩, ⟨_, rfl, Pr.le_refl _⟩, ⟨_, rfl, Pr.le_refl _⟩, ⟨_, rfl, Pr.le_refl _⟩, trivial⟩ (fun k : Nat => [(46, int ((k : Nat) : Int))]) (fun k : Nat => k ≤ (teams).length ∧ (((teams.zip days).take k).all (fun p => c.may p.1 p.2) = true)) (fun k : Nat => (teams).length - k) 0 (⟨Nat.zero_le _, by simp⟩) ⟨⟨_, rfl, Pr.le_refl _⟩, trivial⟩ ?_
          rintro k ⟨hle_k, hinv_k⟩
          refine Tr.seq ?_
          refine Tr.reg0 ?_
          refine Ch.op rfl rfl (by decide) (ok_int rfl (vl rfl) (vl rfl) rfl) ?_
          refine Ch.nil ?_
          refine Fin.go ?_
          refine Tr.seq ?_
          refine Tr.cond rfl (fun h7 => ?_) (fun h7 => ?_)
          ·
            have q7 := Nrm.nrm h7
            have hk_k : k < (teams).length := lt_of_dec h7
            obtain ⟨n, hx_k⟩ := at_ hk_k
            obtain ⟨d, hd⟩ := at_ (l := days) (k := k) (by omega)
            refine Tr.skip ?_
            refine Fin.go ?_
            refine Tr.seq ?_
            refine Tr.block ?_
            refine Tr.seq ?_
            refine Tr.reg0 ?_
            refine Ch.op rfl rfl (by decide) (ok_move rfl (vl rfl)) ?_
            refine Ch.op rfl rfl (by decide) (ok_indexAddr rfl Try.underlying22 sz3 (vl rfl) (vl rfl) (by omega) (by first | exact row_at (by assumption) | exact row_atI (by assumption) | assumption)) ?_
            refine Ch.op rfl rfl (by decide) (ok_load1 rfl one3 (vl rfl)) ?_
            refine Ch.op rfl rfl (by decide) (ok_assign rfl (vl rfl)) ?_
            refine Ch.op rfl rfl (by decide) (ok_assign rfl (vl rfl)) ?_
            refine Ch.nil ?_
            refine Fin.go ?_
            refine Tr.seq ?_
            refine Tr.reg1 mixed (by kernel_rfl) ?_
            refine Ch.op rfl rfl (by decide) (ok_loadA rfl agg27 sz27 (vl rfl) rfl rfl) ?_
            refine Ch.op rfl rfl (by decide) (ok_move rfl (vl rfl)) ?_
            refine Ch.op rfl rfl (by decide) (ok_move rfl (vl rfl)) ?_
            refine Ch.op rfl rfl (by decide) (ok_move rfl (vl rfl)) ?_
            refine Ch.op rfl rfl (by decide) (ok_indexAddr rfl Try.underlying22 sz3 (vl rfl) (vl rfl) (by omega) (by first | exact row_at (by assumption) | exact row_atI (by assumption) | assumption)) ?_
            refine Ch.op rfl rfl (by decide) (ok_load1 rfl one3 (vl rfl)) ?_
            refine Ch.op rfl rfl (by decide) (ok_call rfl (w_Rmay) ⟨⟨_, rfl, Pr.le_refl _⟩, ⟨_, rfl, Pr.le_refl _⟩, ⟨_, rfl, Pr.le_refl _⟩, trivial⟩) ?_
            refine Ch.op rfl rfl (by decide) (ok_not rfl (vl rfl)) ?_
            refine Ch.nil ?_
            refine Fin.go ?_
            refine Tr.weak [(2, _), (3, _), (44, _), (45, _), (46, _), (58, _)] ⟨⟨_, rfl, Pr.le_refl _⟩, ⟨_, rfl, Pr.le_refl _⟩, ⟨_, rfl, Pr.le_refl _⟩, ⟨_, rfl, Pr.le_refl _⟩, ⟨_, rfl, Pr.le_refl _⟩, ⟨_, rfl, Pr.le_refl _⟩, trivial⟩ ?_
            refine Tr.cond rfl (fun h8 => ?_) (fun h8 => ?_)
            ·
              have q8 := Nrm.nrm h8
              refine Tr.seq ?_
              refine Tr.reg0 ?_
              refine Ch.op rfl rfl (by decide) (ok_assign rfl (vl rfl)) ?_
              refine Ch.nil ?_
              refine Fin.go ?_
              refine Tr.ret ?_
              refine Fin.block_ret ?_
              refine Fin.then_ret ?_
              refine Fin.then_ret ?_
              refine Fin.block_ret ?_
              refine Fin.then_ret ?_
              refine Fin.ret1 rfl (OutW.bse _ _) rfl ?_
              · refine int_eq ?_; unfold Cal.fitE; first | (rw [if_pos (by assumption)]; done) | (rw [if_neg (not_not_intro hown), if_pos (by omega)]; done) | (rw [if_neg (not_not_intro hown), if_neg (by omega), if_pos (by omega)]; done) | (rw [if_neg (not_not_intro hown), if_neg (by omega), if_neg (by omega), any_nil, if_pos (any_hit hx_a (by simp [Cal.has]; omega))]; done) | (rw [if_neg (not_not_intro hown), if_neg (by omega), if_neg (by omega), any_nil, if_neg (ne_true (any_miss hinv_a)), if_neg (all_no hx_k hd (by assumption))]; done) | (rw [if_neg (not_not_intro hown), if_neg (by omega), if_neg (by omega), any_nil, if_neg (ne_true (any_miss hinv_a)), if_pos (all_yes hinv_k (by omega))]; done)
            ·
              have q8 := Nrm.nrm h8
              refine Tr.skip ?_
              refine Fin.block ?_
              refine Fin.go ?_
              refine Tr.reg0 ?_
              first
                | (refine Ch.op rfl rfl (by decide) (ok_add rfl (vl rfl) (vl rfl) ?hin) ?_; case hin => unfold InI; omega)
                | refine Ch.op rfl rfl (by decide) (ok_int rfl (vl rfl) (vl rfl) rfl) ?_
              refine Ch.op rfl rfl (by decide) (ok_move rfl (vl rfl)) ?_
              refine Ch.nil ?_
              exact Fin.fam_same (k + 1) ⟨⟨hk_k, all_take hx_k hd (by simp_all) hinv_k⟩, by omega⟩ ⟨⟨_, rfl, int_succ k⟩, ⟨_, rfl, Pr.le_refl _⟩, ⟨_, rfl, Pr.le_refl _⟩, ⟨_, rfl, Pr.le_refl _⟩, ⟨_, rfl, Pr.le_refl _⟩, trivial⟩
          ·
            have q7 := Nrm.nrm h7
            have he_k : k = (teams).length := by have := ge_of_dec h7; omega
            subst he_k
            refine Tr.exit ?_
            refine Fin.then_exit ?_
            refine Fin.then_exit ?_
            refine Fin.block_here ?_
            refine Fin.go ?_
            refine Tr.seq ?_
            refine Tr.reg0 ?_
            refine Ch.op rfl rfl (by decide) (ok_assign rfl (vl rfl)) ?_
            refine Ch.nil ?_
            refine Fin.go ?_
            refine Tr.ret ?_
            refine Fin.ret1 rfl (OutW.bse _ _) rfl ?_
            · refine int_eq ?_; unfold Cal.fitE; first | (rw [if_pos (by assumption)]; done) | (rw [if_neg (not_not_intro hown), if_pos (by omega)]; done) | (rw [if_neg (not_not_intro hown), if_neg (by omega), if_pos (by omega)]; done) | (rw [if_neg (not_not_intro hown), if_neg (by omega), if_neg (by omega), any_nil, if_pos (any_hit hx_a (by simp [Cal.has]; omega))]; done) | (rw [if_neg (not_not_intro hown), if_neg (by omega), if_neg (by omega), any_nil, if_neg (ne_true (any_miss hinv_a)), if_neg (all_no hx_k hd (by assumption))]; done) | (rw [if_neg (not_not_intro hown), if_neg (by omega), if_neg (by omega), any_nil, if_neg (ne_true (any_miss hinv_a)), if_pos (all_yes hinv_k (by omega))]; done)
theorem e_Rfit : Entry Try.prog 53 := ⟨_, Try.func53, rfl, rfl⟩

def Cal.tbl (c : Cal) (l : List (Int × Int)) : List (List Int) := (List.range c.wins.length).map fun i => (List.range c.room.length).map fun n => (c.cnt l (i * 8 + n) : Int)
def tblP (c : Cal) (l : List (Int × Int)) : List (List Pr) := (c.tbl l).map fun r => r.map fun z => int z
def zrow (c : Cal) : List Pr := (List.replicate c.room.length (Value.int .i64 0)).map is
theorem tblP_length (c : Cal) (l : List (Int × Int)) : (tblP c l).length = c.wins.length := by simp [tblP, Cal.tbl]
theorem tblP_row {c : Cal} {l : List (Int × Int)} : ∀ r ∈ tblP c l, r.length = c.room.length := by
  intro r hr
  simp only [tblP, Cal.tbl, List.mem_map] at hr
  obtain ⟨_, ⟨i, _, rfl⟩, rfl⟩ := hr
  simp
theorem tblP_zero (c : Cal) : tblP c [] = List.replicate c.wins.length (zrow c) := by
  apply List.ext_getElem?
  intro i
  by_cases hi : i < c.wins.length
  · rw [List.getElem?_replicate, if_pos hi]
    simp only [tblP, Cal.tbl, List.getElem?_map, List.getElem?_range hi, Option.map_some]
    congr 1
    apply List.ext_getElem?
    intro n
    by_cases hn : n < c.room.length
    · simp [zrow, List.getElem?_range hn, List.getElem?_replicate, hn, Cal.cnt]
    · rw [List.getElem?_eq_none (by simp; omega), List.getElem?_eq_none (by simp [zrow]; omega)]
  · rw [List.getElem?_eq_none (by rw [tblP_length]; omega), List.getElem?_eq_none (by simp; omega)]
def rowP (c : Cal) (l : List (Int × Int)) (i : Nat) : List Pr := (List.range c.room.length).map fun n => int (c.cnt l (i * 8 + n))
theorem tblP_at {c : Cal} {l : List (Int × Int)} {i : Nat} (hi : i < c.wins.length) : (tblP c l)[i]? = some (rowP c l i) := by
  simp [tblP, Cal.tbl, List.getElem?_range hi, rowP]
theorem rowP_length (c : Cal) (l : List (Int × Int)) (i : Nat) : (rowP c l i).length = c.room.length := by simp [rowP]
theorem rowP_at {c : Cal} {l : List (Int × Int)} {i n : Nat} (hn : n < c.room.length) : (rowP c l i)[n]? = some (int (c.cnt l (i * 8 + n))) := by
  simp [rowP, List.getElem?_range hn]


theorem cnt_snoc (c : Cal) (l : List (Int × Int)) (x d : Int) (k : Nat) : c.cnt (l ++ [(x, d)]) k = c.cnt l k + if (c.at d).toNat * 8 + x.toNat = k then 1 else 0 := by
  unfold Cal.cnt
  rw [List.countP_append, List.countP_cons, List.countP_nil]
  simp [Cal.cell]
theorem rowP_other {c : Cal} {l : List (Int × Int)} {x d : Int} {j : Nat} (h8 : c.room.length ≤ 8) (hx : x.toNat < c.room.length) (hj : (c.at d).toNat ≠ j) : rowP c (l ++ [(x, d)]) j = rowP c l j := by
  unfold rowP
  refine List.map_congr_left fun m hm => ?_
  have := List.mem_range.1 hm
  rw [cnt_snoc, if_neg (by omega)]; rfl
theorem rowP_step {c : Cal} {l : List (Int × Int)} {x d : Int} (h8 : c.room.length ≤ 8) (hx : x.toNat < c.room.length) : (rowP c l (c.at d).toNat).take (0 + x.toNat * 1) ++ [int ((c.cnt l ((c.at d).toNat * 8 + x.toNat) : Int) + 1)] ++ (rowP c l (c.at d).toNat).drop (0 + x.toNat * 1 + 1) = rowP c (l ++ [(x, d)]) (c.at d).toNat := by
  rw [show 0 + x.toNat * 1 = x.toNat by omega]
  apply List.ext_getElem?
  intro k
  by_cases hk : k < c.room.length
  · rw [rowP_at hk, cnt_snoc]
    rcases Nat.lt_trichotomy k x.toNat with h | h | h
    · rw [List.append_assoc, List.getElem?_append_left (by rw [List.length_take, rowP_length]; omega), List.getElem?_take, if_pos h, rowP_at hk, if_neg (by omega)]; rfl
    · subst h
      rw [List.append_assoc, List.getElem?_append_right (by rw [List.length_take, rowP_length]; omega), List.length_take, rowP_length, Nat.min_eq_left (by omega), Nat.sub_self]
      simp
    · rw [List.getElem?_append_right (by rw [List.length_append, List.length_take, rowP_length]; simp; omega), List.length_append, List.length_take, rowP_length, List.getElem?_drop, Nat.min_eq_left (by omega)]
      simp only [List.length_cons, List.length_nil]
      rw [show x.toNat + 1 + (k - (x.toNat + (0 + 1))) = k by omega, rowP_at hk, if_neg (by omega)]; rfl
  · rw [List.getElem?_eq_none (by simp [rowP_length]; omega), List.getElem?_eq_none (by rw [rowP_length]; omega)]
theorem tbl_step {c : Cal} {l : List (Int × Int)} {x d : Int} (h8 : c.room.length ≤ 8) (hi : (c.at d).toNat < c.wins.length) (hx : x.toNat < c.room.length) : (tblP c l).set (c.at d).toNat (rowP c (l ++ [(x, d)]) (c.at d).toNat) = tblP c (l ++ [(x, d)]) := by
  apply List.ext_getElem?
  intro j
  rw [List.getElem?_set]
  by_cases hj : (c.at d).toNat = j
  · subst hj
    rw [if_pos rfl, if_pos (by rw [tblP_length]; exact hi), tblP_at hi]
  · rw [if_neg hj]
    by_cases hl : j < c.wins.length
    · rw [tblP_at hl, tblP_at hl, rowP_other h8 hx hj]
    · rw [List.getElem?_eq_none (by rw [tblP_length]; omega), List.getElem?_eq_none (by rw [tblP_length]; omega)]

end Go.Proofs.Ytacifhfelijekaa
