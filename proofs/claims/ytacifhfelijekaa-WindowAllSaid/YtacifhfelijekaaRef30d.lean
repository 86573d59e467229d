/-
  What the functions named below compute, proved from their text; printed by a program of our own.
-/
import Derived.Test.YtacifhfelijekaaTypes
import Derived.Test.YtacifhfelijekaaSlices
import Derived.Test.YtacifhfelijekaaWin1
import Derived.Test.YtacifhfelijekaaWin2
import Derived.Test.YtacifhfelijekaaWin3
import Derived.Test.YtacifhfelijekaaWin4
import Derived.Test.YtacifhfelijekaaWin5
import Derived.Test.YtacifhfelijekaaDice
import Derived.Test.YtacifhfelijekaaMove
import Derived.Test.YtacifhfelijekaaL30Full
import Derived.Test.YtacifhfelijekaaL30Next
import Derived.Test.YtacifhfelijekaaRef30
import Derived.Test.YtacifhfelijekaaRef30b
import Derived.Test.YtacifhfelijekaaRef30c
namespace Go.Proofs.Ytacifhfelijekaa
open Go Go.RowKit Cp

abbrev tblS (c : Cal) (l : List (Int × Int)) : Pr := slice 1 ((c.tbl l).map fun r => [ints r])
theorem tbl_row {c : Cal} {l : List (Int × Int)} {i : Nat} {r : List Int} (h : (c.tbl l)[i]? = some r) : i < c.wins.length ∧ r = (List.range c.room.length).map fun n => (c.cnt l (i * 8 + n) : Int) := by
  have hi : i < c.wins.length := by
    rcases Nat.lt_or_ge i c.wins.length with h' | h'
    · exact h'
    · rw [List.getElem?_eq_none (by simp [Cal.tbl]; omega)] at h; cases h
  refine ⟨hi, ?_⟩
  simp [Cal.tbl, List.getElem?_range hi] at h
  exact h.symm
theorem row_el {c : Cal} {l : List (Int × Int)} {i n : Nat} {r : List Int} {z : Int} (hr : r = (List.range c.room.length).map fun n => (c.cnt l (i * 8 + n) : Int)) (h : r[n]? = some z) : n < c.room.length ∧ z = c.cnt l (i * 8 + n) := by
  subst hr
  have hn : n < c.room.length := by
    rcases Nat.lt_or_ge n c.room.length with h' | h'
    · exact h'
    · rw [List.getElem?_eq_none (by simp; omega)] at h; cases h
  refine ⟨hn, ?_⟩
  simp [List.getElem?_range hn] at h
  exact h.symm
theorem tbl_length (c : Cal) (l : List (Int × Int)) : (c.tbl l).length = c.wins.length := by simp [Cal.tbl]

theorem w_RFits {c : Cal} {teams days : List Int}  : Fun Try.prog 31 [calP c, ints teams, ints days] (int (c.fitsE teams days [])) := by
  refine Fun.of Try.func31 rfl rfl (by exact Nat.le_of_ble_eq_true rfl) fun M0 w0 => ?_
  refine Tr.seq ?_
  refine Tr.reg0 ?_
  refine Ch.op rfl rfl (by decide) (ok_box rfl (VL.le (vl rfl) (agg_cellsP _))) ?_
  refine Ch.op rfl rfl (by decide) (ok_assign rfl (vl rfl)) ?_
  refine Ch.nil ?_
  refine Fin.go ?_
  refine Tr.seq ?_
  refine Tr.seq ?_
  refine Tr.reg0 ?_
  refine Ch.op rfl rfl (by decide) (ok_loadA rfl agg27 sz27 (vl rfl) rfl rfl) ?_
  refine Ch.op rfl rfl (by decide) (ok_move rfl (vl rfl)) ?_
  refine Ch.op rfl rfl (by decide) (ok_move rfl (vl rfl)) ?_
  refine Ch.op rfl rfl (by decide) (ok_call rfl (w_Rfit) ⟨⟨_, rfl, Pr.le_refl _⟩, ⟨_, rfl, Pr.le_refl _⟩, ⟨_, rfl, Pr.le_refl _⟩, trivial⟩) ?_
  refine Ch.op rfl rfl (by decide) (ok_assign rfl (vl rfl)) ?_
  refine Ch.nil ?_
  refine Fin.go ?_
  refine Tr.seq ?_
  refine Tr.reg0 ?_
  refine Ch.op rfl rfl (by decide) (ok_move rfl (vl rfl)) ?_
  refine Ch.op rfl rfl (by decide) (ok_int rfl (vl rfl) (vl rfl) rfl) ?_
  refine Ch.nil ?_
  refine Fin.go ?_
  refine Tr.cond rfl (fun h1 => ?_) (fun h1 => ?_)
  ·
    have q1 := Nrm.nrm h1
    refine Tr.seq ?_
    refine Tr.reg0 ?_
    refine Ch.op rfl rfl (by decide) (ok_move rfl (vl rfl)) ?_
    refine Ch.op rfl rfl (by decide) (ok_assign rfl (vl rfl)) ?_
    refine Ch.nil ?_
    refine Fin.go ?_
    refine Tr.ret ?_
    refine Fin.then_ret ?_
    refine Fin.ret1 rfl (OutW.bse _ _) rfl ?_
    · refine int_eq ?_; unfold Cal.fitsE; rw [if_pos (by assumption)]
  ·
    have q1 := Nrm.nrm h1
    have hf : c.fitE teams days [] = 0 := q1
    refine Tr.skip ?_
    refine Fin.go ?_
    refine Tr.seq ?_
    refine Tr.seq ?_
    refine Tr.reg0 ?_
    refine Ch.op rfl rfl (by decide) (ok_loadA rfl agg27 sz27 (vl rfl) rfl rfl) ?_
    refine Ch.op rfl rfl (by decide) (ok_move rfl (vl rfl)) ?_
    refine Ch.op rfl rfl (by decide) (ok_move rfl (vl rfl)) ?_
    refine Ch.op rfl rfl (by decide) (ok_call rfl (w_Rload (by assumption)) ⟨⟨_, rfl, Pr.le_refl _⟩, ⟨_, rfl, Pr.le_refl _⟩, ⟨_, rfl, Pr.le_refl _⟩, trivial⟩) ?_
    first
      | refine Ch.op rfl rfl (by decide) (ok_lenm rfl Try.underlying32 (vl rfl)) ?_
      | refine Ch.op rfl rfl (by decide) (ok_len rfl Try.underlying32 (vl rfl)) ?_
    refine Ch.op rfl rfl (by decide) (ok_move rfl (vl rfl)) ?_
    refine Ch.nil ?_
    refine Fin.go ?_
    refine Tr.weak [(3, _), (22, _), (23, _), (24, _)] ⟨⟨_, rfl, Pr.le_refl _⟩, ⟨_, rfl, Pr.le_refl _⟩, ⟨_, rfl, Pr.le_refl _⟩, ⟨_, rfl, Pr.le_refl _⟩, trivial⟩ ?_
    refine Tr.block ?_
    refine Tr.lenm 22 rfl fun hlt => ?_
    refine Tr.loopw [(3, _), (22, _), (23, _)] ⟨⟨_, rfl, Pr.le_refl _⟩, ⟨_, rfl, Pr.le_refl _⟩, ⟨_, rfl, Pr.le_refl _⟩, trivial⟩ (fun i : Nat => [(24, int ((i : Nat) : Int))]) (fun i : Nat => i ≤ (c.tbl (teams.zip days)).length ∧ (∀ i' n r, i' < i → c.room[n]? = some r → (c.cnt (teams.zip days) (i' * 8 + n) : Int) ≤ r)) (fun i : Nat => (c.tbl (teams.zip days)).length - i) 0 (⟨Nat.zero_le _, fun i' n r hi => absurd hi (by omega)⟩) ⟨⟨_, rfl, Pr.le_refl _⟩, trivial⟩ ?_
    rintro i ⟨hle_i, hinv_i⟩
    refine Tr.seq ?_
    refine Tr.reg0 ?_
    refine Ch.op rfl rfl (by decide) (ok_int rfl (vl rfl) (vl rfl) rfl) ?_
    refine Ch.nil ?_
    refine Fin.go ?_
    refine Tr.seq ?_
    refine Tr.cond rfl (fun h2 => ?_) (fun h2 => ?_)
    ·
      have q2 := Nrm.nrm h2
      have hk_i : i < (c.tbl (teams.zip days)).length := lt_of_dec h2
      obtain ⟨row, hx_i⟩ := at_ hk_i
      obtain ⟨hiw, hrow⟩ := tbl_row hx_i
      have hrl : row.length = c.room.length := by rw [hrow]; simp
      refine Tr.skip ?_
      refine Fin.go ?_
      refine Tr.seq ?_
      refine Tr.block ?_
      refine Tr.seq ?_
      refine Tr.reg0 ?_
      refine Ch.op rfl rfl (by decide) (ok_indexAddr rfl Try.underlying32 sz22 (vl rfl) (vl rfl) (by omega) (by first | exact row_at (by assumption) | exact row_atI (by assumption) | assumption)) ?_
      refine Ch.op rfl rfl (by decide) (ok_load1 rfl one22 (vl rfl)) ?_
      refine Ch.op rfl rfl (by decide) (ok_assign rfl (vl rfl)) ?_
      refine Ch.nil ?_
      refine Fin.go ?_
      refine Tr.seq ?_
      refine Tr.reg0 ?_
      refine Ch.op rfl rfl (by decide) (ok_move rfl (vl rfl)) ?_
      first
        | refine Ch.op rfl rfl (by decide) (ok_lenm rfl Try.underlying22 (vl rfl)) ?_
        | refine Ch.op rfl rfl (by decide) (ok_len rfl Try.underlying22 (vl rfl)) ?_
      refine Ch.op rfl rfl (by decide) (ok_move rfl (vl rfl)) ?_
      refine Ch.nil ?_
      refine Fin.go ?_
      refine Tr.block ?_
      refine Tr.lenm 28 rfl fun hlr => ?_
      refine Tr.loopw [(3, _), (22, _), (23, _), (24, _), (28, _), (29, _)] ⟨⟨_, rfl, Pr.le_refl _⟩, ⟨_, rfl, Pr.le_refl _⟩, ⟨_, rfl, Pr.le_refl _⟩, ⟨_, rfl, Pr.le_refl _⟩, ⟨_, rfl, Pr.le_refl _⟩, ⟨_, rfl, Pr.le_refl _⟩, trivial⟩ (fun m : Nat => [(30, int ((m : Nat) : Int))]) (fun m : Nat => m ≤ (row).length ∧ (∀ n r, n < m → c.room[n]? = some r → (c.cnt (teams.zip days) (i * 8 + n) : Int) ≤ r)) (fun m : Nat => (row).length - m) 0 (⟨Nat.zero_le _, fun n r hn => absurd hn (by omega)⟩) ⟨⟨_, rfl, Pr.le_refl _⟩, trivial⟩ ?_
      rintro m ⟨hle_m, hinv_m⟩
      refine Tr.seq ?_
      refine Tr.reg0 ?_
      refine Ch.op rfl rfl (by decide) (ok_int rfl (vl rfl) (vl rfl) rfl) ?_
      refine Ch.nil ?_
      refine Fin.go ?_
      refine Tr.seq ?_
      refine Tr.cond rfl (fun h3 => ?_) (fun h3 => ?_)
      ·
        have q3 := Nrm.nrm h3
        have hk_m : m < (row).length := lt_of_dec h3
        obtain ⟨z, hx_m⟩ := at_ hk_m
        obtain ⟨hmr, hz⟩ := row_el hrow hx_m
        obtain ⟨r, hr⟩ := at_ hmr
        subst hz
        refine Tr.skip ?_
        refine Fin.go ?_
        refine Tr.seq ?_
        refine Tr.block ?_
        refine Tr.seq ?_
        refine Tr.reg0 ?_
        refine Ch.op rfl rfl (by decide) (ok_move rfl (vl rfl)) ?_
        refine Ch.op rfl rfl (by decide) (ok_indexAddr rfl Try.underlying22 sz3 (vl rfl) (vl rfl) (by omega) (by first | exact row_at (by assumption) | exact row_atI (by assumption) | assumption)) ?_
        refine Ch.op rfl rfl (by decide) (ok_load1 rfl one3 (vl rfl)) ?_
        refine Ch.op rfl rfl (by decide) (ok_assign rfl (vl rfl)) ?_
        refine Ch.op rfl rfl (by decide) (ok_assign rfl (vl rfl)) ?_
        refine Ch.nil ?_
        refine Fin.go ?_
        refine Tr.seq ?_
        refine Tr.reg0 ?_
        refine Ch.op rfl rfl (by decide) (ok_move rfl (vl rfl)) ?_
        refine Ch.op rfl rfl (by decide) (ok_fieldAddr rfl fo27_2 (vl rfl) rfl) ?_
        refine Ch.op rfl rfl (by decide) (ok_load1 rfl one22 (vl rfl)) ?_
        refine Ch.op rfl rfl (by decide) (ok_move rfl (vl rfl)) ?_
        refine Ch.op rfl rfl (by decide) (ok_indexAddr rfl Try.underlying22 sz3 (vl rfl) (vl rfl) (by omega) (by first | exact row_at (by assumption) | exact row_atI (by assumption) | assumption)) ?_
        refine Ch.op rfl rfl (by decide) (ok_load1 rfl one3 (vl rfl)) ?_
        refine Ch.op rfl rfl (by decide) (ok_int rfl (vl rfl) (vl rfl) rfl) ?_
        refine Ch.nil ?_
        refine Fin.go ?_
        refine Tr.weak [(3, _), (22, _), (23, _), (24, _), (28, _), (29, _), (30, _), (41, _)] ⟨⟨_, rfl, Pr.le_refl _⟩, ⟨_, rfl, Pr.le_refl _⟩, ⟨_, rfl, Pr.le_refl _⟩, ⟨_, rfl, Pr.le_refl _⟩, ⟨_, rfl, Pr.le_refl _⟩, ⟨_, rfl, Pr.le_refl _⟩, ⟨_, rfl, Pr.le_refl _⟩, ⟨_, rfl, Pr.le_refl _⟩, trivial⟩ ?_
        refine Tr.cond rfl (fun h4 => ?_) (fun h4 => ?_)
        ·
          have q4 := Nrm.nrm h4
          refine Tr.seq ?_
          refine Tr.reg0 ?_
          refine Ch.op rfl rfl (by decide) (ok_assign rfl (vl rfl)) ?_
          refine Ch.nil ?_
          refine Fin.go ?_
          refine Tr.ret ?_
          refine Fin.block_ret ?_
          refine Fin.then_ret ?_
          refine Fin.then_ret ?_
          refine Fin.block_ret ?_
          refine Fin.block_ret ?_
          refine Fin.then_ret ?_
          refine Fin.then_ret ?_
          refine Fin.block_ret ?_
          refine Fin.then_ret ?_
          refine Fin.ret1 rfl (OutW.bse _ _) rfl ?_
          · refine int_eq ?_; unfold Cal.fitsE; rw [if_neg (not_not_intro hf), if_pos ⟨i, m, r, hiw, hr, by omega⟩]
        ·
          have q4 := Nrm.nrm h4
          refine Tr.skip ?_
          refine Fin.block ?_
          refine Fin.go ?_
          refine Tr.reg0 ?_
          first
            | (refine Ch.op rfl rfl (by decide) (ok_add rfl (vl rfl) (vl rfl) ?hin) ?_; case hin => unfold InI; omega)
            | refine Ch.op rfl rfl (by decide) (ok_int rfl (vl rfl) (vl rfl) rfl) ?_
          refine Ch.op rfl rfl (by decide) (ok_move rfl (vl rfl)) ?_
          refine Ch.nil ?_
          exact Fin.fam_same (m + 1) ⟨⟨hk_m, fits_step2 hinv_m hr (by omega)⟩, by omega⟩ ⟨⟨_, rfl, int_succ m⟩, ⟨_, rfl, Pr.le_refl _⟩, ⟨_, rfl, Pr.le_refl _⟩, ⟨_, rfl, Pr.le_refl _⟩, ⟨_, rfl, Pr.le_refl _⟩, ⟨_, rfl, Pr.le_refl _⟩, ⟨_, rfl, Pr.le_refl _⟩, trivial⟩
      ·
        have q3 := Nrm.nrm h3
        have he_m : m = (row).length := by have := ge_of_dec h3; omega
        subst he_m
        refine Tr.exit ?_
        refine Fin.then_exit ?_
        refine Fin.then_exit ?_
        refine Fin.block_here ?_
        refine Fin.block ?_
        refine Fin.go ?_
        refine Tr.reg0 ?_
        first
          | (refine Ch.op rfl rfl (by decide) (ok_add rfl (vl rfl) (vl rfl) ?hin) ?_; case hin => unfold InI; omega)
          | refine Ch.op rfl rfl (by decide) (ok_int rfl (vl rfl) (vl rfl) rfl) ?_
        refine Ch.op rfl rfl (by decide) (ok_move rfl (vl rfl)) ?_
        refine Ch.nil ?_
        exact Fin.fam_same (i + 1) ⟨⟨hk_i, fits_step1 hinv_i (by rw [← hrl]; exact hinv_m)⟩, by omega⟩ ⟨⟨_, rfl, int_succ i⟩, ⟨_, rfl, Pr.le_refl _⟩, ⟨_, rfl, Pr.le_refl _⟩, ⟨_, rfl, Pr.le_refl _⟩, trivial⟩
    ·
      have q2 := Nrm.nrm h2
      have he_i : i = (c.tbl (teams.zip days)).length := by have := ge_of_dec h2; omega
      subst he_i
      refine Tr.exit ?_
      refine Fin.then_exit ?_
      refine Fin.then_exit ?_
      refine Fin.block_here ?_
      refine Fin.go ?_
      refine Tr.seq ?_
      refine Tr.reg0 ?_
      refine Ch.op rfl rfl (by decide) (ok_assign rfl (vl rfl)) ?_
      refine Ch.nil ?_
      refine Fin.go ?_
      refine Tr.ret ?_
      refine Fin.ret1 rfl (OutW.bse _ _) rfl ?_
      · refine int_eq ?_; unfold Cal.fitsE; rw [if_neg (not_not_intro hf), if_neg (by rintro ⟨i, n, r, h1, h2, h3⟩; have := hinv_i i n r (by rw [tbl_length]; exact h1) h2; omega)]
theorem e_RFits : Entry Try.prog 31 := ⟨_, Try.func31, rfl, rfl⟩
end Go.Proofs.Ytacifhfelijekaa
