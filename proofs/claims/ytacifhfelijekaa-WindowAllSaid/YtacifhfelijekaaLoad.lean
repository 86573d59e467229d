/-
  What the functions named below compute, proved from their text; printed by a program of our own.
-/
import Derived.Test.YtacifhfelijekaaTypes
import Derived.Test.YtacifhfelijekaaSlices
import Derived.Test.YtacifhfelijekaaWin1
import Derived.Test.YtacifhfelijekaaWin2
import Derived.Test.YtacifhfelijekaaWin3
import Derived.Test.YtacifhfelijekaaWin4
import Derived.Test.YtacifhfelijekaaWin5
import Derived.Test.YtacifhfelijekaaDice
import Derived.Test.YtacifhfelijekaaMove
import Derived.Test.YtacifhfelijekaaL30Full
import Derived.Test.YtacifhfelijekaaL30Next
import Derived.Test.YtacifhfelijekaaRef30
import Derived.Test.YtacifhfelijekaaRef30b
import Derived.Test.YtacifhfelijekaaRef30c
import Derived.Test.YtacifhfelijekaaRef30d
namespace Go.Proofs.Ytacifhfelijekaa
open Go Go.RowKit Cp
theorem w_CloneP {l : List Int} (hl : l.length ≤ 1000000000) : Fun Try.prog 33 [ints l] (ints l) := by
  refine Fun.of Try.func33 rfl rfl (by exact Nat.le_of_ble_eq_true rfl) fun M0 w0 => ?_
  refine Tr.seq ?_
  refine Tr.reg0 ?_
  refine Ch.op rfl rfl (by decide) (ok_assign rfl (vl rfl)) ?_
  refine Ch.nil ?_
  refine Fin.go ?_
  refine Tr.seq ?_
  refine Tr.seq ?_
  refine Tr.reg0 ?_
  refine Ch.op rfl rfl (by decide) (ok_move rfl (vl rfl)) ?_
  refine Ch.op rfl rfl (by decide) (ok_eqnil rfl Try.underlying22 (vl rfl)) ?_
  refine Ch.nil ?_
  refine Fin.go ?_
  refine Tr.ex 4 rfl (fun z1 => Tr.fact 4 rfl fun hz1 => ?_)
  refine Tr.cond rfl (fun h1 => ?_) (fun h1 => ?_)
  ·
    have q1 := Nrm.nrm h1
    refine Tr.seq ?_
    refine Tr.reg0 ?_
    refine Ch.op rfl rfl (by decide) (ok_assign rfl (vl rfl)) ?_
    refine Ch.nil ?_
    refine Fin.go ?_
    refine Tr.ret ?_
    refine Fin.then_ret ?_
    refine Fin.ret1 rfl (OutW.bse _ _) rfl ?_
    · (have hl0 : l = [] := (by simpa using hz1 h1)); subst hl0; exact nil_slice 1
  ·
    have q1 := Nrm.nrm h1
    refine Tr.skip ?_
    refine Fin.go ?_
    refine Tr.seq ?_
    refine Tr.regT ?_
    refine TO.op rfl rfl (by decide) (ok_buildSlice (xs := []) (rows := []) rfl rfl Try.underlying22 sz3 z3 rfl (by decide) trivial (by decide)) ?_
    refine TO.op rfl rfl (by decide) (ok_move rfl (vl rfl)) ?_
    refine TO.pad ?_
    refine TO.efs 0 rfl rfl (by decide) (ef_append rfl rfl (by decide) rfl Try.underlying22 sz3 by3 z3 rfl (by decide) ⟨_, rfl, full_le _ _⟩ (vl rfl) (by simp only [List.length_map, List.length_append, List.length_cons, List.length_nil]; unfold maxLen; omega) (by simp only [List.length_map, List.length_append, List.length_cons, List.length_nil]; omega) (appR_full (by exact List.Mem.head _) (vl rfl))) (fun v1 => ?_)
    refine TO.op rfl rfl (by decide) (ok_assign rfl (vl rfl)) ?_
    refine TO.nil ?_
    refine Fin.go ?_
    refine Tr.ret ?_
    refine Fin.ret1 rfl (OutW.bse _ _) rfl ?_
    · exact Pr.le_trans (andIs_le _ _) (Pr.le_of_eq (by simp))
theorem e_CloneP : Entry Try.prog 33 := ⟨_, Try.func33, rfl, rfl⟩

noncomputable def Cal.loadT (c : Cal) (teams days : List Int) : List (List Int) := if c.fitE teams days [] = 0 then c.tbl (teams.zip days) else []
theorem loadT_ok {c : Cal} {teams days : List Int} (h : c.fitE teams days [] = 0) : c.loadT teams days = c.tbl (teams.zip days) := by unfold Cal.loadT; rw [if_pos h]
theorem loadT_no {c : Cal} {teams days : List Int} (h : ¬ c.fitE teams days [] = 0) : c.loadT teams days = [] := by unfold Cal.loadT; rw [if_neg h]
def Cal.row (c : Cal) (l : List (Int × Int)) (i : Nat) : List Int := (List.range c.room.length).map fun n => (c.cnt l (i * 8 + n) : Int)
theorem tbl_at {c : Cal} {l : List (Int × Int)} {i : Nat} (h : i < c.wins.length) : (c.tbl l)[i]? = some (c.row l i) := by
  simp [Cal.tbl, List.getElem?_range h, Cal.row]
theorem load_row (c : Cal) (l : List (Int × Int)) {i : Nat} (hi : i < 32) (h8 : c.room.length ≤ 8) : ((((loadP c l).drop (((i : Nat) : Int).toNat * 8)).take ((c.room.length : Nat) : Int).toNat).map ([·])) = (c.row l i).map fun n => [int n] := by
  rw [Int.toNat_natCast, Int.toNat_natCast]
  apply List.ext_getElem?
  intro n
  by_cases hn : n < c.room.length
  · rw [List.getElem?_map, List.getElem?_take, if_pos hn, List.getElem?_drop, loadP_at c l (by omega)]
    simp [Cal.row, List.getElem?_range hn]
  · rw [List.getElem?_eq_none (by simp; omega), List.getElem?_eq_none (by simp [Cal.row]; omega)]
theorem tbl_step' {c : Cal} {l : List (Int × Int)} {i : Nat} (h : i < c.wins.length) : ((c.tbl l).take i).map (fun r => [ints r]) ++ [[ints (c.row l i)]] = ((c.tbl l).take (i + 1)).map fun r => [ints r] := by
  rw [List.take_add_one, tbl_at h, List.map_append]; rfl

theorem w_Load {c : Cal} {teams days : List Int}  : Fun Try.prog 12 [calP c, ints teams, ints days] (tup [slice 1 ((c.loadT teams days).map fun r => [ints r]), int (c.fitE teams days [])]) := by
  refine Fun.of Try.func12 rfl rfl (by exact Nat.le_of_ble_eq_true rfl) fun M0 w0 => ?_
  refine Tr.lenA 0 0 rfl rfl fun hlA_0_0 => ?_
  refine Tr.lenA 0 2 rfl rfl fun hlA_0_2 => ?_
  refine Tr.seq ?_
  refine Tr.reg0 ?_
  refine Ch.op rfl rfl (by decide) (ok_box rfl (VL.le (vl rfl) (agg_cellsP _))) ?_
  refine Ch.op rfl rfl (by decide) (ok_assign rfl (vl rfl)) ?_
  refine Ch.op rfl rfl (by decide) (ok_assign rfl (vl rfl)) ?_
  refine Ch.nil ?_
  refine Fin.go ?_
  refine Tr.seq ?_
  refine Tr.reg0 ?_
  refine Ch.op rfl rfl (by decide) (ok_loadA rfl agg27 sz27 (vl rfl) rfl rfl) ?_
  refine Ch.op rfl rfl (by decide) (ok_move rfl (vl rfl)) ?_
  refine Ch.op rfl rfl (by decide) (ok_move rfl (vl rfl)) ?_
  refine Ch.op rfl rfl (by decide) (ok_call rfl (w_load (others := []) (by simp)) ⟨⟨_, rfl, Pr.le_refl _⟩, ⟨_, rfl, Pr.le_refl _⟩, ⟨_, rfl, Pr.le_refl _⟩, ⟨_, rfl, nil_slice _⟩, trivial⟩) ?_
  refine Ch.op rfl rfl (by decide) (ok_move rfl (vl rfl)) ?_
  refine Ch.op rfl rfl (by decide) (ok_extract rfl (vl rfl) rfl) ?_
  refine Ch.op rfl rfl (by decide) (ok_extract rfl (vl rfl) rfl) ?_
  refine Ch.op rfl rfl (by decide) (ok_assign rfl (vl rfl)) ?_
  refine Ch.op rfl rfl (by decide) (ok_assign rfl (vl rfl)) ?_
  refine Ch.nil ?_
  refine Fin.go ?_
  refine Tr.seq ?_
  refine Tr.seq ?_
  refine Tr.reg0 ?_
  refine Ch.op rfl rfl (by decide) (ok_move rfl (vl rfl)) ?_
  refine Ch.op rfl rfl (by decide) (ok_int rfl (vl rfl) (vl rfl) rfl) ?_
  refine Ch.nil ?_
  refine Fin.go ?_
  refine Tr.weak [(3, _), (8, _), (9, _), (20, _)] ⟨⟨_, rfl, Pr.le_refl _⟩, ⟨_, rfl, Pr.le_refl _⟩, ⟨_, rfl, Pr.le_refl _⟩, ⟨_, rfl, Pr.le_refl _⟩, trivial⟩ ?_
  refine Tr.cond rfl (fun h1 => ?_) (fun h1 => ?_)
  ·
    have q1 := Nrm.nrm h1
    refine Tr.seq ?_
    refine Tr.reg0 ?_
    refine Ch.op rfl rfl (by decide) (ok_move rfl (vl rfl)) ?_
    refine Ch.op rfl rfl (by decide) (ok_assign rfl (vl rfl)) ?_
    refine Ch.op rfl rfl (by decide) (ok_assign rfl (vl rfl)) ?_
    refine Ch.nil ?_
    refine Fin.go ?_
    refine Tr.ret ?_
    refine Fin.then_ret ?_
    refine Fin.ret2 rfl (OutW.bse _ _) rfl ?_ rfl ?_
    · rw [loadT_no q1]; exact nil_slice 1
    · first | exact Pr.le_refl _ | (refine int_eq ?_; simp_all; done) | (refine bool_eq ?_; simp_all; done) | (refine bool_eq ?_; simp_all; omega) | (refine int_eq ?_; omega)
  ·
    have q1 := Nrm.nrm h1
    have hf : c.fitE teams days [] = 0 := q1
    obtain ⟨hl1, hl2⟩ := fitE_len hf
    have hown := fitE_own hf
    obtain ⟨h32, h8⟩ := own_zero hown
    refine Tr.re 8 rfl (Pr.le_of_eq (loadR_ok hf)) ?_
    refine Tr.skip ?_
    refine Fin.go ?_
    refine Tr.seq ?_
    refine Tr.reg0 ?_
    refine Ch.op rfl rfl (by decide) (ok_assign rfl (vl rfl)) ?_
    refine Ch.nil ?_
    refine Fin.go ?_
    refine Tr.seq ?_
    refine Tr.seq ?_
    refine Tr.reg0 ?_
    refine Ch.op rfl rfl (by decide) (ok_fieldAddr rfl fo27_0 (vl rfl) rfl) ?_
    refine Ch.op rfl rfl (by decide) (ok_load1 rfl one25 (vl rfl)) ?_
    first
      | refine Ch.op rfl rfl (by decide) (ok_lenm rfl Try.underlying25 (vl rfl)) ?_
      | refine Ch.op rfl rfl (by decide) (ok_len rfl Try.underlying25 (vl rfl)) ?_
    refine Ch.op rfl rfl (by decide) (ok_move rfl (vl rfl)) ?_
    refine Ch.nil ?_
    refine Fin.go ?_
    refine Tr.block ?_
    refine Tr.addnil 22 1 ?_
    refine Tr.loopV1 [(3, _), (8, _), (24, _)] ⟨⟨_, rfl, Pr.le_refl _⟩, ⟨_, rfl, Pr.le_refl _⟩, ⟨_, rfl, Pr.le_refl _⟩, trivial⟩ (fun k u => [(25, int ((k : Nat) : Int)), (10, andIs u (slice 1 (((c.tbl (teams.zip days)).take k).map fun r => [ints r])))]) (fun k u => Hp M0 w0 noS ([appRes 22 1 u])) (fun k : Nat => k ≤ (c.wins).length) (fun k : Nat => (c.wins).length - k) 0 (.slice none 0 0) (Nat.zero_le _) ⟨⟨_, rfl, Pr.le_refl _⟩, ⟨_, rfl, own_nil (by simp)⟩, trivial⟩ (fun _ _ h => h) ?_
    rintro k u hle_k
    refine Tr.seq ?_
    refine Tr.reg0 ?_
    refine Ch.op rfl rfl (by decide) (ok_int rfl (vl rfl) (vl rfl) rfl) ?_
    refine Ch.nil ?_
    refine Fin.go ?_
    refine Tr.seq ?_
    refine Tr.cond rfl (fun h2 => ?_) (fun h2 => ?_)
    ·
      have q2 := Nrm.nrm h2
      have hk_k : k < (c.wins).length := lt_of_dec h2
      obtain ⟨x, hx_k⟩ := at_ hk_k
      refine Tr.skip ?_
      refine Fin.go ?_
      refine Tr.seq ?_
      refine Tr.block ?_
      refine Tr.seq ?_
      refine Tr.reg0 ?_
      refine Ch.op rfl rfl (by decide) (ok_move rfl (vl rfl)) ?_
      refine Ch.op rfl rfl (by decide) (ok_assign rfl (vl rfl)) ?_
      refine Ch.nil ?_
      refine Fin.go ?_
      refine Tr.pad ?_
      refine Tr.regX mixed [none, none, none, none, none, none, none, none, none, none, none, some (0, 1, true, 39), some (39, 1, true, 10)] (by kernel_rfl) ?_
      refine Cx.op rfl rfl (by decide) (fun _ => ok_move rfl (vl rfl)) ?_
      refine Cx.op rfl rfl (by decide) (fun _ => ok_move rfl (vl rfl)) ?_
      refine Cx.op rfl rfl (by decide) (fun _ => ok_move rfl (vl rfl)) ?_
      first
        | refine Cx.op rfl rfl (by decide) (fun _ => ok_nilCheck_ref rfl (vl rfl)) ?_
        | refine Cx.op rfl rfl (by decide) (fun _ => ok_nilCheck_fn rfl (vl rfl)) ?_
      refine Cx.op rfl rfl (by decide) (fun _ => ok_indexArr rfl Try.underlying80 sz66 (vl rfl) (vl rfl) (by omega) (by omega) rfl) ?_
      refine Cx.op rfl rfl (by decide) (fun _ => ok_fieldAddr rfl fo27_2 (vl rfl) rfl) ?_
      refine Cx.op rfl rfl (by decide) (fun _ => ok_load1 rfl one22 (vl rfl)) ?_
      first
        | refine Cx.op rfl rfl (by decide) (fun _ => ok_lenm rfl Try.underlying22 (vl rfl)) ?_
        | refine Cx.op rfl rfl (by decide) (fun _ => ok_len rfl Try.underlying22 (vl rfl)) ?_
      refine Cx.op rfl rfl (by decide) (fun _ => ok_sliceArr rfl Try.underlying66 sz3 (vl rfl) (vl rfl) (by omega) (by omega) (by simp [loadP_length]; omega) (by decide)) ?_
      refine Cx.op rfl rfl (by decide) (fun _ => ok_call rfl (w_CloneP (l := c.row (teams.zip days) k) (by simp [Cal.row]; omega)) ⟨⟨_, rfl, Pr.le_of_eq (congrArg (slice 1) (load_row c _ (by omega) h8))⟩, trivial⟩) ?_
      refine Cx.op rfl rfl (by decide) (fun _ => ok_buildSlice (xs := [.tmp 37]) (rows := [[_]]) rfl rfl Try.underlying32 sz22 z22 rfl (by decide) ⟨⟨(by exact rfl), (VL.le (vl rfl) (one_cellsP _))⟩, trivial⟩ (by decide)) ?_
      refine Cx.ef 1 rfl rfl (by decide) (ef_append rfl rfl (by decide) rfl Try.underlying32 sz22 by22 z22 rfl (by decide) ⟨_, rfl, andIs_le _ _⟩ ⟨_, rfl, full_le _ _⟩ (by simp; unfold maxLen; omega) (by simp; omega) (appR_is (by exact List.Mem.head _) ⟨_, rfl, andIs_is _ _⟩)) ?_
      refine Cx.ef 1 rfl rfl (by decide) (ef_move rfl rfl (by decide) rfl (vl rfl)) ?_
      refine Cx.nil ⟨rfl, ?_⟩
      refine FinX.open_ 1 10 rfl rfl (fun v1 => ?_)
      refine FinX.done (AllC.cons (AllC.cons (AllC.map _))) ?_
      refine Fin.block ?_
      refine Fin.go ?_
      refine Tr.drop 0 ?_
      refine Tr.weak [(3, _), (8, _), (10, _), (24, _), (25, _)] ⟨⟨_, rfl, Pr.le_refl _⟩, ⟨_, rfl, Pr.le_refl _⟩, ⟨_, rfl, Pr.le_refl _⟩, ⟨_, rfl, Pr.le_refl _⟩, ⟨_, rfl, Pr.le_refl _⟩, trivial⟩ ?_
      refine Tr.reg0 ?_
      first
        | (refine Ch.op rfl rfl (by decide) (ok_add rfl (vl rfl) (vl rfl) ?hin) ?_; case hin => unfold InI; omega)
        | refine Ch.op rfl rfl (by decide) (ok_int rfl (vl rfl) (vl rfl) rfl) ?_
      refine Ch.op rfl rfl (by decide) (ok_move rfl (vl rfl)) ?_
      refine Ch.nil ?_
      exact Fin.famV1 (k + 1) v1 (⟨hk_k, by omega⟩) ⟨⟨_, rfl, int_succ k⟩, ⟨_, rfl, own_le (tbl_step' hk_k)⟩, ⟨_, rfl, Pr.le_refl _⟩, ⟨_, rfl, Pr.le_refl _⟩, ⟨_, rfl, Pr.le_refl _⟩, trivial⟩ (fun _ _ h => h)
    ·
      have q2 := Nrm.nrm h2
      have he_k : k = (c.wins).length := by have := ge_of_dec h2; omega
      subst he_k
      refine Tr.exit ?_
      refine Fin.then_exit ?_
      refine Fin.then_exit ?_
      refine Fin.block_here ?_
      refine Fin.go ?_
      refine Tr.seq ?_
      refine Tr.reg0 ?_
      refine Ch.op rfl rfl (by decide) (ok_move rfl (vl rfl)) ?_
      refine Ch.op rfl rfl (by decide) (ok_assign rfl (vl rfl)) ?_
      refine Ch.op rfl rfl (by decide) (ok_assign rfl (vl rfl)) ?_
      refine Ch.nil ?_
      refine Fin.go ?_
      refine Tr.ret ?_
      refine Fin.ret2 rfl (OutW.bse _ _) rfl ?_ rfl ?_
      · rw [loadT_ok hf]; exact Pr.le_trans (andIs_le _ _) (Pr.le_of_eq (by rw [List.take_of_length_le (by rw [tbl_length]; omega)]))
      · refine int_eq ?_; exact hf.symm
theorem e_Load : Entry Try.prog 12 := ⟨_, Try.func12, rfl, rfl⟩
end Go.Proofs.Ytacifhfelijekaa
