/-
  What the functions named below compute, proved from their text; printed by a program of our own.
-/
import Derived.Test.YtacifhfelijekaaTypes
import Derived.Test.YtacifhfelijekaaSlices
import Derived.Test.YtacifhfelijekaaWin1
import Derived.Test.YtacifhfelijekaaWin2
import Derived.Test.YtacifhfelijekaaWin3
import Derived.Test.YtacifhfelijekaaWin4
import Derived.Test.YtacifhfelijekaaWin5
import Derived.Test.YtacifhfelijekaaDice
import Derived.Test.YtacifhfelijekaaMove
import Derived.Test.YtacifhfelijekaaL30Full
import Derived.Test.YtacifhfelijekaaL30Next
import Derived.Test.YtacifhfelijekaaRef30
import Derived.Test.YtacifhfelijekaaRef30b
import Derived.Test.YtacifhfelijekaaRef30c
import Derived.Test.YtacifhfelijekaaRef30d
import Derived.Test.YtacifhfelijekaaRef30e
import Derived.Test.YtacifhfelijekaaFill
import Derived.Test.YtacifhfelijekaaLoad
namespace Go.Proofs.Ytacifhfelijekaa
open Go Go.RowKit Cp
theorem w_RLoad {c : Cal} {teams days : List Int}  : Fun Try.prog 29 [calP c, ints teams, ints days] (tup [slice 1 ((c.loadT teams days).map fun r => [ints r]), int (c.fitE teams days [])]) := by
  refine Fun.of Try.func29 rfl rfl (by exact Nat.le_of_ble_eq_true rfl) fun M0 w0 => ?_
  refine Tr.seq ?_
  refine Tr.reg0 ?_
  refine Ch.op rfl rfl (by decide) (ok_box rfl (VL.le (vl rfl) (agg_cellsP _))) ?_
  refine Ch.op rfl rfl (by decide) (ok_assign rfl (vl rfl)) ?_
  refine Ch.op rfl rfl (by decide) (ok_assign rfl (vl rfl)) ?_
  refine Ch.nil ?_
  refine Fin.go ?_
  refine Tr.seq ?_
  refine Tr.seq ?_
  refine Tr.reg0 ?_
  refine Ch.op rfl rfl (by decide) (ok_loadA rfl agg27 sz27 (vl rfl) rfl rfl) ?_
  refine Ch.op rfl rfl (by decide) (ok_move rfl (vl rfl)) ?_
  refine Ch.op rfl rfl (by decide) (ok_move rfl (vl rfl)) ?_
  refine Ch.op rfl rfl (by decide) (ok_call rfl (w_Rfit) ⟨⟨_, rfl, Pr.le_refl _⟩, ⟨_, rfl, Pr.le_refl _⟩, ⟨_, rfl, Pr.le_refl _⟩, trivial⟩) ?_
  refine Ch.op rfl rfl (by decide) (ok_assign rfl (vl rfl)) ?_
  refine Ch.nil ?_
  refine Fin.go ?_
  refine Tr.seq ?_
  refine Tr.reg0 ?_
  refine Ch.op rfl rfl (by decide) (ok_move rfl (vl rfl)) ?_
  refine Ch.op rfl rfl (by decide) (ok_int rfl (vl rfl) (vl rfl) rfl) ?_
  refine Ch.nil ?_
  refine Fin.go ?_
  refine Tr.cond rfl (fun h1 => ?_) (fun h1 => ?_)
  ·
    have q1 := Nrm.nrm h1
    refine Tr.seq ?_
    refine Tr.reg0 ?_
    refine Ch.op rfl rfl (by decide) (ok_move rfl (vl rfl)) ?_
    refine Ch.op rfl rfl (by decide) (ok_assign rfl (vl rfl)) ?_
    refine Ch.op rfl rfl (by decide) (ok_assign rfl (vl rfl)) ?_
    refine Ch.nil ?_
    refine Fin.go ?_
    refine Tr.ret ?_
    refine Fin.then_ret ?_
    refine Fin.ret2 rfl (OutW.bse _ _) rfl ?_ rfl ?_
    · rw [loadT_no (by assumption)]; exact nil_slice 1
    · first | exact Pr.le_refl _ | (refine int_eq ?_; simp_all; done) | (refine bool_eq ?_; simp_all; done) | (refine bool_eq ?_; simp_all; omega) | (refine int_eq ?_; omega)
  ·
    have q1 := Nrm.nrm h1
    have hf : c.fitE teams days [] = 0 := q1
    refine Tr.skip ?_
    refine Fin.go ?_
    refine Tr.seq ?_
    refine Tr.reg0 ?_
    refine Ch.op rfl rfl (by decide) (ok_loadA rfl agg27 sz27 (vl rfl) rfl rfl) ?_
    refine Ch.op rfl rfl (by decide) (ok_move rfl (vl rfl)) ?_
    refine Ch.op rfl rfl (by decide) (ok_move rfl (vl rfl)) ?_
    refine Ch.op rfl rfl (by decide) (ok_call rfl (w_Rload (by assumption)) ⟨⟨_, rfl, Pr.le_refl _⟩, ⟨_, rfl, Pr.le_refl _⟩, ⟨_, rfl, Pr.le_refl _⟩, trivial⟩) ?_
    refine Ch.op rfl rfl (by decide) (ok_assign rfl (vl rfl)) ?_
    refine Ch.op rfl rfl (by decide) (ok_assign rfl (vl rfl)) ?_
    refine Ch.nil ?_
    refine Fin.go ?_
    refine Tr.weak [(6, _), (7, _)] ⟨⟨_, rfl, Pr.le_refl _⟩, ⟨_, rfl, Pr.le_refl _⟩, trivial⟩ ?_
    refine Tr.ret ?_
    refine Fin.ret2 rfl (OutW.bse _ _) rfl ?_ rfl ?_
    · rw [loadT_ok hf]; exact Pr.le_refl _
    · refine int_eq ?_; exact hf.symm
theorem e_RLoad : Entry Try.prog 29 := ⟨_, Try.func29, rfl, rfl⟩
theorem w_SameLoad {a : List (List Int)}  : Fun Try.prog 30 [slice 1 (a.map fun r => [ints r]), slice 1 (a.map fun r => [ints r])] (bool true) := by
  refine Fun.of Try.func30 rfl rfl (by exact Nat.le_of_ble_eq_true rfl) fun M0 w0 => ?_
  refine Tr.lenm 0 rfl fun hlm_0 => ?_
  refine Tr.seq ?_
  refine Tr.reg0 ?_
  refine Ch.op rfl rfl (by decide) (ok_assign rfl (vl rfl)) ?_
  refine Ch.nil ?_
  refine Fin.go ?_
  refine Tr.seq ?_
  refine Tr.seq ?_
  refine Tr.reg0 ?_
  refine Ch.op rfl rfl (by decide) (ok_move rfl (vl rfl)) ?_
  first
    | refine Ch.op rfl rfl (by decide) (ok_lenm rfl Try.underlying32 (vl rfl)) ?_
    | refine Ch.op rfl rfl (by decide) (ok_len rfl Try.underlying32 (vl rfl)) ?_
  refine Ch.op rfl rfl (by decide) (ok_move rfl (vl rfl)) ?_
  first
    | refine Ch.op rfl rfl (by decide) (ok_lenm rfl Try.underlying32 (vl rfl)) ?_
    | refine Ch.op rfl rfl (by decide) (ok_len rfl Try.underlying32 (vl rfl)) ?_
  refine Ch.op rfl rfl (by decide) (ok_int rfl (vl rfl) (vl rfl) rfl) ?_
  refine Ch.nil ?_
  refine Fin.go ?_
  refine Tr.cond rfl (fun h1 => ?_) (fun h1 => ?_)
  ·
    have q1 := Nrm.nrm h1
    exact absurd rfl q1
  ·
    have q1 := Nrm.nrm h1
    refine Tr.skip ?_
    refine Fin.go ?_
    refine Tr.seq ?_
    refine Tr.seq ?_
    refine Tr.reg0 ?_
    refine Ch.op rfl rfl (by decide) (ok_move rfl (vl rfl)) ?_
    first
      | refine Ch.op rfl rfl (by decide) (ok_lenm rfl Try.underlying32 (vl rfl)) ?_
      | refine Ch.op rfl rfl (by decide) (ok_len rfl Try.underlying32 (vl rfl)) ?_
    refine Ch.op rfl rfl (by decide) (ok_move rfl (vl rfl)) ?_
    refine Ch.nil ?_
    refine Fin.go ?_
    refine Tr.block ?_
    refine Tr.loopw [(0, _), (1, _), (13, _)] ⟨⟨_, rfl, Pr.le_refl _⟩, ⟨_, rfl, Pr.le_refl _⟩, ⟨_, rfl, Pr.le_refl _⟩, trivial⟩ (fun i : Nat => [(14, int ((i : Nat) : Int))]) (fun i : Nat => i ≤ (a).length) (fun i : Nat => (a).length - i) 0 (Nat.zero_le _) ⟨⟨_, rfl, Pr.le_refl _⟩, trivial⟩ ?_
    rintro i hle_i
    refine Tr.seq ?_
    refine Tr.reg0 ?_
    refine Ch.op rfl rfl (by decide) (ok_int rfl (vl rfl) (vl rfl) rfl) ?_
    refine Ch.nil ?_
    refine Fin.go ?_
    refine Tr.seq ?_
    refine Tr.cond rfl (fun h2 => ?_) (fun h2 => ?_)
    ·
      have q2 := Nrm.nrm h2
      have hk_i : i < (a).length := lt_of_dec h2
      obtain ⟨r, hx_i⟩ := at_ hk_i
      refine Tr.skip ?_
      refine Fin.go ?_
      refine Tr.seq ?_
      refine Tr.block ?_
      refine Tr.seq ?_
      refine Tr.reg0 ?_
      refine Ch.op rfl rfl (by decide) (ok_move rfl (vl rfl)) ?_
      refine Ch.op rfl rfl (by decide) (ok_assign rfl (vl rfl)) ?_
      refine Ch.nil ?_
      refine Fin.go ?_
      refine Tr.seq ?_
      refine Tr.seq ?_
      refine Tr.reg1 mixed (by kernel_rfl) ?_
      refine Ch.op rfl rfl (by decide) (ok_move rfl (vl rfl)) ?_
      refine Ch.op rfl rfl (by decide) (ok_move rfl (vl rfl)) ?_
      refine Ch.op rfl rfl (by decide) (ok_indexAddr rfl Try.underlying32 sz22 (vl rfl) (vl rfl) (by omega) (by first | exact row_at (by assumption) | exact row_atI (by assumption) | assumption)) ?_
      refine Ch.op rfl rfl (by decide) (ok_load1 rfl one22 (vl rfl)) ?_
      first
        | refine Ch.op rfl rfl (by decide) (ok_lenm rfl Try.underlying22 (vl rfl)) ?_
        | refine Ch.op rfl rfl (by decide) (ok_len rfl Try.underlying22 (vl rfl)) ?_
      refine Ch.op rfl rfl (by decide) (ok_move rfl (vl rfl)) ?_
      refine Ch.op rfl rfl (by decide) (ok_move rfl (vl rfl)) ?_
      refine Ch.op rfl rfl (by decide) (ok_indexAddr rfl Try.underlying32 sz22 (vl rfl) (vl rfl) (by omega) (by first | exact row_at (by assumption) | exact row_atI (by assumption) | assumption)) ?_
      refine Ch.op rfl rfl (by decide) (ok_load1 rfl one22 (vl rfl)) ?_
      first
        | refine Ch.op rfl rfl (by decide) (ok_lenm rfl Try.underlying22 (vl rfl)) ?_
        | refine Ch.op rfl rfl (by decide) (ok_len rfl Try.underlying22 (vl rfl)) ?_
      refine Ch.op rfl rfl (by decide) (ok_int rfl (vl rfl) (vl rfl) rfl) ?_
      refine Ch.nil ?_
      refine Fin.go ?_
      refine Tr.weak [(0, _), (1, _), (5, _), (13, _), (14, _), (27, _)] ⟨⟨_, rfl, Pr.le_refl _⟩, ⟨_, rfl, Pr.le_refl _⟩, ⟨_, rfl, Pr.le_refl _⟩, ⟨_, rfl, Pr.le_refl _⟩, ⟨_, rfl, Pr.le_refl _⟩, ⟨_, rfl, Pr.le_refl _⟩, trivial⟩ ?_
      refine Tr.cond rfl (fun h3 => ?_) (fun h3 => ?_)
      ·
        have q3 := Nrm.nrm h3
        exact absurd rfl q3
      ·
        have q3 := Nrm.nrm h3
        refine Tr.skip ?_
        refine Fin.go ?_
        refine Tr.seq ?_
        refine Tr.reg0 ?_
        refine Ch.op rfl rfl (by decide) (ok_move rfl (vl rfl)) ?_
        refine Ch.op rfl rfl (by decide) (ok_move rfl (vl rfl)) ?_
        refine Ch.op rfl rfl (by decide) (ok_indexAddr rfl Try.underlying32 sz22 (vl rfl) (vl rfl) (by omega) (by first | exact row_at (by assumption) | exact row_atI (by assumption) | assumption)) ?_
        refine Ch.op rfl rfl (by decide) (ok_load1 rfl one22 (vl rfl)) ?_
        first
          | refine Ch.op rfl rfl (by decide) (ok_lenm rfl Try.underlying22 (vl rfl)) ?_
          | refine Ch.op rfl rfl (by decide) (ok_len rfl Try.underlying22 (vl rfl)) ?_
        refine Ch.op rfl rfl (by decide) (ok_move rfl (vl rfl)) ?_
        refine Ch.nil ?_
        refine Fin.go ?_
        refine Tr.block ?_
        refine Tr.lenm 31 rfl fun hlr => ?_
        refine Tr.loopw [(0, _), (1, _), (5, _), (13, _), (14, _), (32, _)] ⟨⟨_, rfl, Pr.le_refl _⟩, ⟨_, rfl, Pr.le_refl _⟩, ⟨_, rfl, Pr.le_refl _⟩, ⟨_, rfl, Pr.le_refl _⟩, ⟨_, rfl, Pr.le_refl _⟩, ⟨_, rfl, Pr.le_refl _⟩, trivial⟩ (fun m : Nat => [(33, int ((m : Nat) : Int))]) (fun m : Nat => m ≤ (r).length) (fun m : Nat => (r).length - m) 0 (Nat.zero_le _) ⟨⟨_, rfl, Pr.le_refl _⟩, trivial⟩ ?_
        rintro m hle_m
        refine Tr.seq ?_
        refine Tr.reg0 ?_
        refine Ch.op rfl rfl (by decide) (ok_int rfl (vl rfl) (vl rfl) rfl) ?_
        refine Ch.nil ?_
        refine Fin.go ?_
        refine Tr.seq ?_
        refine Tr.cond rfl (fun h4 => ?_) (fun h4 => ?_)
        ·
          have q4 := Nrm.nrm h4
          have hk_m : m < (r).length := lt_of_dec h4
          obtain ⟨z, hx_m⟩ := at_ hk_m
          refine Tr.skip ?_
          refine Fin.go ?_
          refine Tr.seq ?_
          refine Tr.block ?_
          refine Tr.seq ?_
          refine Tr.reg0 ?_
          refine Ch.op rfl rfl (by decide) (ok_move rfl (vl rfl)) ?_
          refine Ch.op rfl rfl (by decide) (ok_assign rfl (vl rfl)) ?_
          refine Ch.nil ?_
          refine Fin.go ?_
          refine Tr.seq ?_
          refine Tr.reg1 mixed (by kernel_rfl) ?_
          refine Ch.op rfl rfl (by decide) (ok_move rfl (vl rfl)) ?_
          refine Ch.op rfl rfl (by decide) (ok_move rfl (vl rfl)) ?_
          refine Ch.op rfl rfl (by decide) (ok_indexAddr rfl Try.underlying32 sz22 (vl rfl) (vl rfl) (by omega) (by first | exact row_at (by assumption) | exact row_atI (by assumption) | assumption)) ?_
          refine Ch.op rfl rfl (by decide) (ok_load1 rfl one22 (vl rfl)) ?_
          refine Ch.op rfl rfl (by decide) (ok_move rfl (vl rfl)) ?_
          refine Ch.op rfl rfl (by decide) (ok_indexAddr rfl Try.underlying22 sz3 (vl rfl) (vl rfl) (by omega) (by first | exact row_at (by assumption) | exact row_atI (by assumption) | assumption)) ?_
          refine Ch.op rfl rfl (by decide) (ok_load1 rfl one3 (vl rfl)) ?_
          refine Ch.op rfl rfl (by decide) (ok_move rfl (vl rfl)) ?_
          refine Ch.op rfl rfl (by decide) (ok_move rfl (vl rfl)) ?_
          refine Ch.op rfl rfl (by decide) (ok_indexAddr rfl Try.underlying32 sz22 (vl rfl) (vl rfl) (by omega) (by first | exact row_at (by assumption) | exact row_atI (by assumption) | assumption)) ?_
          refine Ch.op rfl rfl (by decide) (ok_load1 rfl one22 (vl rfl)) ?_
          refine Ch.op rfl rfl (by decide) (ok_move rfl (vl rfl)) ?_
          refine Ch.op rfl rfl (by decide) (ok_indexAddr rfl Try.underlying22 sz3 (vl rfl) (vl rfl) (by omega) (by first | exact row_at (by assumption) | exact row_atI (by assumption) | assumption)) ?_
          refine Ch.op rfl rfl (by decide) (ok_load1 rfl one3 (vl rfl)) ?_
          refine Ch.op rfl rfl (by decide) (ok_int rfl (vl rfl) (vl rfl) rfl) ?_
          refine Ch.nil ?_
          refine Fin.go ?_
          refine Tr.weak [(0, _), (1, _), (5, _), (13, _), (14, _), (32, _), (33, _), (50, _)] ⟨⟨_, rfl, Pr.le_refl _⟩, ⟨_, rfl, Pr.le_refl _⟩, ⟨_, rfl, Pr.le_refl _⟩, ⟨_, rfl, Pr.le_refl _⟩, ⟨_, rfl, Pr.le_refl _⟩, ⟨_, rfl, Pr.le_refl _⟩, ⟨_, rfl, Pr.le_refl _⟩, ⟨_, rfl, Pr.le_refl _⟩, trivial⟩ ?_
          refine Tr.cond rfl (fun h5 => ?_) (fun h5 => ?_)
          ·
            have q5 := Nrm.nrm h5
            exact absurd rfl q5
          ·
            have q5 := Nrm.nrm h5
            refine Tr.skip ?_
            refine Fin.block ?_
            refine Fin.go ?_
            refine Tr.reg0 ?_
            first
              | (refine Ch.op rfl rfl (by decide) (ok_add rfl (vl rfl) (vl rfl) ?hin) ?_; case hin => unfold InI; omega)
              | refine Ch.op rfl rfl (by decide) (ok_int rfl (vl rfl) (vl rfl) rfl) ?_
            refine Ch.op rfl rfl (by decide) (ok_move rfl (vl rfl)) ?_
            refine Ch.nil ?_
            exact Fin.fam_same (m + 1) ⟨hk_m, by omega⟩ ⟨⟨_, rfl, int_succ m⟩, ⟨_, rfl, Pr.le_refl _⟩, ⟨_, rfl, Pr.le_refl _⟩, ⟨_, rfl, Pr.le_refl _⟩, ⟨_, rfl, Pr.le_refl _⟩, ⟨_, rfl, Pr.le_refl _⟩, ⟨_, rfl, Pr.le_refl _⟩, trivial⟩
        ·
          have q4 := Nrm.nrm h4
          have he_m : m = (r).length := by have := ge_of_dec h4; omega
          refine Tr.exit ?_
          refine Fin.then_exit ?_
          refine Fin.then_exit ?_
          refine Fin.block_here ?_
          refine Fin.block ?_
          refine Fin.go ?_
          refine Tr.reg0 ?_
          first
            | (refine Ch.op rfl rfl (by decide) (ok_add rfl (vl rfl) (vl rfl) ?hin) ?_; case hin => unfold InI; omega)
            | refine Ch.op rfl rfl (by decide) (ok_int rfl (vl rfl) (vl rfl) rfl) ?_
          refine Ch.op rfl rfl (by decide) (ok_move rfl (vl rfl)) ?_
          refine Ch.nil ?_
          exact Fin.fam_same (i + 1) ⟨hk_i, by omega⟩ ⟨⟨_, rfl, int_succ i⟩, ⟨_, rfl, Pr.le_refl _⟩, ⟨_, rfl, Pr.le_refl _⟩, ⟨_, rfl, Pr.le_refl _⟩, trivial⟩
    ·
      have q2 := Nrm.nrm h2
      have he_i : i = (a).length := by have := ge_of_dec h2; omega
      refine Tr.exit ?_
      refine Fin.then_exit ?_
      refine Fin.then_exit ?_
      refine Fin.block_here ?_
      refine Fin.go ?_
      refine Tr.seq ?_
      refine Tr.reg0 ?_
      refine Ch.op rfl rfl (by decide) (ok_assign rfl (vl rfl)) ?_
      refine Ch.nil ?_
      refine Fin.go ?_
      refine Tr.ret ?_
      refine Fin.ret1 rfl (OutW.bse _ _) rfl ?_
      · first | exact Pr.le_refl _ | (refine int_eq ?_; simp_all; done) | (refine bool_eq ?_; simp_all; done) | (refine bool_eq ?_; simp_all; omega) | (refine int_eq ?_; omega)
theorem e_SameLoad : Entry Try.prog 30 := ⟨_, Try.func30, rfl, rfl⟩
end Go.Proofs.Ytacifhfelijekaa
