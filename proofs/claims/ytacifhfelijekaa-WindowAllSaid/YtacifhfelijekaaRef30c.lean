/-
  What the functions named below compute, proved from their text; printed by a program of our own.
-/
import Derived.Test.YtacifhfelijekaaTypes
import Derived.Test.YtacifhfelijekaaSlices
import Derived.Test.YtacifhfelijekaaWin1
import Derived.Test.YtacifhfelijekaaWin2
import Derived.Test.YtacifhfelijekaaWin3
import Derived.Test.YtacifhfelijekaaWin4
import Derived.Test.YtacifhfelijekaaWin5
import Derived.Test.YtacifhfelijekaaDice
import Derived.Test.YtacifhfelijekaaMove
import Derived.Test.YtacifhfelijekaaL30Full
import Derived.Test.YtacifhfelijekaaL30Next
import Derived.Test.YtacifhfelijekaaRef30
import Derived.Test.YtacifhfelijekaaRef30b
namespace Go.Proofs.Ytacifhfelijekaa
open Go Go.RowKit Cp

abbrev rowsOf (c : Cal) (bs : List Nat) : Pr := slice 1 (bs.map fun b => [is (slB c.room.length b)])
theorem fitE_len {c : Cal} {teams days others : List Int} (h : c.fitE teams days others = 0) : teams.length = days.length ∧ teams.length ≤ 24 := by
  have ho := fitE_own h
  unfold Cal.fitE at h
  rw [if_neg (not_not_intro ho)] at h
  split at h
  · cases h
  · split at h
    · cases h
    · omega
theorem fitE_may {c : Cal} {teams days others : List Int} (h : c.fitE teams days others = 0) : (teams.zip days).all (fun p => c.may p.1 p.2) = true := by
  have ho := fitE_own h
  unfold Cal.fitE at h
  rw [if_neg (not_not_intro ho)] at h
  split at h
  · cases h
  · split at h
    · cases h
    · split at h
      · cases h
      · split at h
        · assumption
        · cases h

theorem w_Rload {c : Cal} {teams days : List Int} (hf : c.fitE teams days [] = 0) : Fun Try.prog 52 [calP c, ints teams, ints days] (slice 1 ((c.tbl (teams.zip days)).map fun r => [ints r])) := by
  refine Fun.of Try.func52 rfl rfl (by exact Nat.le_of_ble_eq_true rfl) fun M0 w0 => ?_
  have hown := fitE_own hf
  obtain ⟨h32, h8⟩ := own_zero hown
  obtain ⟨hlen, h24⟩ := fitE_len hf
  have hmay := fitE_may hf
  have hhas := fitE_has hf
  have hm : c.room.length ≤ maxLen := by unfold maxLen; omega
  refine Tr.seq ?_
  refine Tr.reg0 ?_
  refine Ch.op rfl rfl (by decide) (ok_box rfl (VL.le (vl rfl) (agg_cellsP _))) ?_
  refine Ch.op rfl rfl (by decide) (ok_assign rfl (vl rfl)) ?_
  refine Ch.nil ?_
  refine Fin.go ?_
  refine Tr.seq ?_
  refine Tr.reg0 ?_
  refine Ch.op rfl rfl (by decide) (ok_assign rfl (vl rfl)) ?_
  refine Ch.nil ?_
  refine Fin.go ?_
  refine Tr.seq ?_
  refine Tr.seq ?_
  refine Tr.reg0 ?_
  refine Ch.op rfl rfl (by decide) (ok_fieldAddr rfl fo27_0 (vl rfl) rfl) ?_
  refine Ch.op rfl rfl (by decide) (ok_load1 rfl one25 (vl rfl)) ?_
  first
    | refine Ch.op rfl rfl (by decide) (ok_lenm rfl Try.underlying25 (vl rfl)) ?_
    | refine Ch.op rfl rfl (by decide) (ok_len rfl Try.underlying25 (vl rfl)) ?_
  refine Ch.op rfl rfl (by decide) (ok_move rfl (vl rfl)) ?_
  refine Ch.nil ?_
  refine Fin.go ?_
  refine Tr.block ?_
  refine Tr.addnil 22 1 ?_
  refine Tr.loopD1V1 [(1, _), (2, _), (3, _), (12, _)] ⟨⟨_, rfl, Pr.le_refl _⟩, ⟨_, rfl, Pr.le_refl _⟩, ⟨_, rfl, Pr.le_refl _⟩, ⟨_, rfl, Pr.le_refl _⟩, trivial⟩ (fun (bs : List Nat) u => [(13, int ((bs.length : Nat) : Int)), (7, andIs u (rowsOf c bs))]) (fun (bs : List Nat) u => Hp M0 w0 noS (appRes 22 1 u :: rowsRes 3 bs (List.replicate bs.length (zrow c)))) (fun (bs : List Nat) => bs.length ≤ c.wins.length) (fun (bs : List Nat) => c.wins.length - bs.length) ([]) (.slice none 0 0) (by simp) ⟨⟨_, rfl, Pr.le_refl _⟩, ⟨_, rfl, own_nil (by simp)⟩, trivial⟩ (fun _ _ h => h) ?_
  rintro bs u hbl
  refine Tr.seq ?_
  refine Tr.reg0 ?_
  refine Ch.op rfl rfl (by decide) (ok_int rfl (vl rfl) (vl rfl) rfl) ?_
  refine Ch.nil ?_
  refine Fin.go ?_
  refine Tr.seq ?_
  refine Tr.cond rfl (fun h1 => ?_) (fun h1 => ?_)
  ·
    have q1 := Nrm.nrm h1
    have hlt : bs.length < c.wins.length := lt_of_dec h1
    refine Tr.skip ?_
    refine Fin.go ?_
    refine Tr.seq ?_
    refine Tr.block ?_
    refine Tr.regT ?_
    refine TO.op rfl rfl (by decide) (ok_move rfl (vl rfl)) ?_
    refine TO.op rfl rfl (by decide) (ok_fieldAddr rfl fo27_2 (vl rfl) rfl) ?_
    refine TO.op rfl rfl (by decide) (ok_load1 rfl one22 (vl rfl)) ?_
    first
      | refine TO.op rfl rfl (by decide) (ok_lenm rfl Try.underlying22 (vl rfl)) ?_
      | refine TO.op rfl rfl (by decide) (ok_len rfl Try.underlying22 (vl rfl)) ?_
    refine TO.mkslice rfl rfl (by decide) rfl Try.underlying22 sz3 by3 z3 rfl (vl rfl) (vl rfl) (by unfold maxLen; omega) (by omega) (fun b1 => ?_)
    refine TO.op rfl rfl (by decide) (ok_buildSlice (xs := [.tmp 19]) (rows := [[_]]) rfl rfl Try.underlying32 sz22 z22 rfl (by decide) ⟨⟨(by exact rfl), (VL.le (vl rfl) (one_cellsP _))⟩, trivial⟩ (by decide)) ?_
    refine TO.efs 1 rfl rfl (by decide) (ef_append rfl rfl (by decide) rfl Try.underlying32 sz22 by22 z22 rfl (by decide) ⟨_, rfl, andIs_le _ _⟩ ⟨_, rfl, full_le _ _⟩ (by simp only [List.length_map, List.length_append, List.length_cons, List.length_nil]; unfold maxLen; omega) (by simp only [List.length_map, List.length_append, List.length_cons, List.length_nil]; omega) (appR_is (by exact List.Mem.head _) ⟨_, rfl, andIs_is _ _⟩)) (fun v1 => ?_)
    refine TO.op rfl rfl (by decide) (ok_assign rfl (vl rfl)) ?_
    refine TO.nil ?_
    refine Fin.block ?_
    refine Fin.go ?_
    refine Tr.weak [(1, _), (2, _), (3, _), (7, _), (12, _), (13, _)] ⟨⟨_, rfl, Pr.le_refl _⟩, ⟨_, rfl, Pr.le_refl _⟩, ⟨_, rfl, Pr.le_refl _⟩, ⟨_, rfl, Pr.le_refl _⟩, ⟨_, rfl, Pr.le_refl _⟩, ⟨_, rfl, Pr.le_refl _⟩, trivial⟩ ?_
    refine Tr.reg0 ?_
    first
      | (refine Ch.op rfl rfl (by decide) (ok_add rfl (vl rfl) (vl rfl) ?hin) ?_; case hin => unfold InI; omega)
      | refine Ch.op rfl rfl (by decide) (ok_int rfl (vl rfl) (vl rfl) rfl) ?_
    refine Ch.op rfl rfl (by decide) (ok_move rfl (vl rfl)) ?_
    refine Ch.nil ?_
    refine Fin.perm (rs' := appRes 22 1 v1 :: rowsRes 3 (bs ++ [b1]) (List.replicate (bs ++ [b1]).length (zrow c))) ((List.Perm.swap _ _ _).trans (List.Perm.cons _ (by rw [List.length_append, List.length_singleton, List.replicate_succ']; exact (rows_snoc (by simp)).symm))) ?_
    exact Fin.famD1V1 (bs ++ [b1]) v1 (⟨by simp; omega, by simp; omega⟩) ⟨⟨_, rfl, int_eq (by simp)⟩, ⟨_, rfl, own_le (by rw [List.map_append]; rfl)⟩, ⟨_, rfl, Pr.le_refl _⟩, ⟨_, rfl, Pr.le_refl _⟩, ⟨_, rfl, Pr.le_refl _⟩, ⟨_, rfl, Pr.le_refl _⟩, trivial⟩ (fun _ _ h => h)
  ·
    have q1 := Nrm.nrm h1
    have hbe : bs.length = c.wins.length := by have := ge_of_dec h1; omega
    refine Tr.exit ?_
    refine Fin.then_exit ?_
    refine Fin.then_exit ?_
    refine Fin.block_here ?_
    refine Fin.go ?_
    refine Tr.seq ?_
    refine Tr.seq ?_
    refine Tr.reg0 ?_
    refine Ch.op rfl rfl (by decide) (ok_move rfl (vl rfl)) ?_
    first
      | refine Ch.op rfl rfl (by decide) (ok_lenm rfl Try.underlying22 (vl rfl)) ?_
      | refine Ch.op rfl rfl (by decide) (ok_len rfl Try.underlying22 (vl rfl)) ?_
    refine Ch.op rfl rfl (by decide) (ok_move rfl (vl rfl)) ?_
    refine Ch.nil ?_
    refine Fin.go ?_
    refine Tr.block ?_
    refine Tr.loopV1 [(2, _), (3, _), (23, _), (24, _)] ⟨⟨_, rfl, Pr.le_refl _⟩, ⟨_, rfl, Pr.le_refl _⟩, ⟨_, rfl, Pr.le_refl _⟩, ⟨_, rfl, Pr.le_refl _⟩, trivial⟩ (fun k u2 => [(25, int ((k : Nat) : Int)), (7, andIs u2 (rowsOf c bs))]) (fun k u2 => Hp M0 w0 noS (appRes 22 1 u2 :: rowsRes 3 bs (tblP c ((teams.zip days).take k)))) (fun k : Nat => k ≤ (teams).length) (fun k : Nat => (teams).length - k) 0 u (Nat.zero_le _) ⟨⟨_, rfl, Pr.le_refl _⟩, ⟨_, rfl, own_le (by simp)⟩, trivial⟩ ((by rw [List.take_zero, tblP_zero, ← hbe]; exact fun _ _ h => h)) ?_
    rintro k u2 hle_k
    refine Tr.seq ?_
    refine Tr.reg0 ?_
    refine Ch.op rfl rfl (by decide) (ok_int rfl (vl rfl) (vl rfl) rfl) ?_
    refine Ch.nil ?_
    refine Fin.go ?_
    refine Tr.seq ?_
    refine Tr.cond rfl (fun h2 => ?_) (fun h2 => ?_)
    ·
      have q2 := Nrm.nrm h2
      have hk_k : k < (teams).length := lt_of_dec h2
      obtain ⟨n, hx_k⟩ := at_ hk_k
      obtain ⟨d, hd⟩ := at_ (l := days) (k := k) (by omega)
      have hmk : c.may n d = true := by have := List.all_eq_true.1 hmay (n, d) (List.mem_of_getElem? (by rw [List.getElem?_zip_eq_some]; exact ⟨hx_k, hd⟩)); exact this
      have hat := may_at hmk
      have hai : (c.at d).toNat < c.wins.length := by have := (idx_range (inWin d) c.wins).2; unfold Cal.at at *; omega
      obtain ⟨b0, hb0⟩ := at_ (l := bs) (k := (c.at d).toNat) (by omega)
      have hn8 := hhas n (List.mem_append_left _ (List.mem_of_getElem? hx_k))
      have hn9 : 0 ≤ n ∧ n < c.room.length := by unfold Cal.has at hn8; simpa using hn8
      have hxn : n.toNat < c.room.length := by omega
      have hbt : bs.length = (tblP c ((teams.zip days).take k)).length := by rw [tblP_length]; exact hbe
      have hcnt : c.cnt ((teams.zip days).take k) ((c.at d).toNat * 8 + n.toNat) ≤ 24 := Nat.le_trans (cnt_le _ _ _) (by simp; omega)
      refine Tr.skip ?_
      refine Fin.go ?_
      refine Tr.seq ?_
      refine Tr.block ?_
      refine Tr.seq ?_
      refine Tr.reg0 ?_
      refine Ch.op rfl rfl (by decide) (ok_move rfl (vl rfl)) ?_
      refine Ch.op rfl rfl (by decide) (ok_indexAddr rfl Try.underlying22 sz3 (vl rfl) (vl rfl) (by omega) (by first | exact row_at (by assumption) | exact row_atI (by assumption) | assumption)) ?_
      refine Ch.op rfl rfl (by decide) (ok_load1 rfl one3 (vl rfl)) ?_
      refine Ch.op rfl rfl (by decide) (ok_assign rfl (vl rfl)) ?_
      refine Ch.op rfl rfl (by decide) (ok_assign rfl (vl rfl)) ?_
      refine Ch.nil ?_
      refine Fin.go ?_
      refine Tr.perm (rs' := cellsRes true b0 3 (rowP c ((teams.zip days).take k) (c.at d).toNat) :: appRes 22 1 u2 :: rowsRes 3 (bs.eraseIdx (c.at d).toNat) ((tblP c ((teams.zip days).take k)).eraseIdx (c.at d).toNat)) (((rows_at' hbt hb0 (tblP_at hai)).cons _).trans (List.Perm.swap _ _ _)) ?_
      refine Tr.regX mixed [none, none, none, none, none, none, none, none, none, none, none, some (0, 0, false, 0), none, none, some (0, 0, true, 0)] (by kernel_rfl) ?_
      refine Cx.op rfl rfl (by decide) (fun _ => ok_move rfl (vl rfl)) ?_
      refine Cx.op rfl rfl (by decide) (fun _ => ok_loadA rfl agg27 sz27 (vl rfl) rfl rfl) ?_
      refine Cx.op rfl rfl (by decide) (fun _ => ok_move rfl (vl rfl)) ?_
      refine Cx.op rfl rfl (by decide) (fun _ => ok_move rfl (vl rfl)) ?_
      refine Cx.op rfl rfl (by decide) (fun _ => ok_indexAddr rfl Try.underlying22 sz3 (vl rfl) (vl rfl) (by omega) (by first | exact row_at (by assumption) | exact row_atI (by assumption) | assumption)) ?_
      refine Cx.op rfl rfl (by decide) (fun _ => ok_load1 rfl one3 (vl rfl)) ?_
      refine Cx.op rfl rfl (by decide) (fun _ => ok_call rfl (w_Rat) ⟨⟨_, rfl, Pr.le_refl _⟩, ⟨_, rfl, Pr.le_refl _⟩, trivial⟩) ?_
      refine Cx.op rfl rfl (by decide) (fun _ => ok_indexAddr rfl Try.underlying32 sz22 ⟨_, rfl, andIs_le _ _⟩ (vl rfl) (by omega) (by first | exact row_at (by assumption) | exact row_atI (by assumption) | assumption)) ?_
      refine Cx.op rfl rfl (by decide) (fun _ => ok_load1 rfl one22 (vl rfl)) ?_
      refine Cx.op rfl rfl (by decide) (fun _ => ok_move rfl (vl rfl)) ?_
      refine Cx.op rfl rfl (by decide) (fun _ => okp_indexSl rfl Try.underlying22 sz3 (vl rfl) (vl rfl) (by omega) (by omega)) ?_
      refine Cx.rd 0 rfl rfl rfl (by decide) (rd_load1 rfl one3 (vl rfl) (by rw [show 0 + n.toNat * 1 = n.toNat by omega]; exact rowP_at hxn)) ?_
      first
        | (refine Cx.op rfl rfl (by decide) (fun _ => ok_add rfl (vl rfl) (vl rfl) ?hin) ?_; case hin => unfold InI; omega)
        | refine Cx.op rfl rfl (by decide) (fun _ => ok_int rfl (vl rfl) (vl rfl) rfl) ?_
      refine Cx.op rfl rfl (by decide) (fun _ => okp_indexSl rfl Try.underlying22 sz3 (vl rfl) (vl rfl) (by omega) (by omega)) ?_
      refine Cx.ef0 0 rfl rfl (ef_store rfl rfl (vl rfl) (VL.le (vl rfl) (one_cellsP _)) sz3 rfl (by rw [rowP_length]; omega) (rowP_step h8 hxn)) ?_
      refine Cx.nil ⟨rfl, ?_⟩
      refine FinX.done (AllC.cons (AllC.cons (AllC.map _))) ?_
      refine Fin.block ?_
      refine Fin.go ?_
      refine Tr.weak [(2, _), (3, _), (7, _), (23, _), (24, _), (25, _)] ⟨⟨_, rfl, Pr.le_refl _⟩, ⟨_, rfl, Pr.le_refl _⟩, ⟨_, rfl, Pr.le_refl _⟩, ⟨_, rfl, Pr.le_refl _⟩, ⟨_, rfl, Pr.le_refl _⟩, ⟨_, rfl, Pr.le_refl _⟩, trivial⟩ ?_
      refine Tr.reg0 ?_
      first
        | (refine Ch.op rfl rfl (by decide) (ok_add rfl (vl rfl) (vl rfl) ?hin) ?_; case hin => unfold InI; omega)
        | refine Ch.op rfl rfl (by decide) (ok_int rfl (vl rfl) (vl rfl) rfl) ?_
      refine Ch.op rfl rfl (by decide) (ok_move rfl (vl rfl)) ?_
      refine Ch.nil ?_
      refine Fin.perm (rs' := appRes 22 1 u2 :: rowsRes 3 bs (tblP c ((teams.zip days).take (k + 1)))) ((List.Perm.swap _ _ _).trans (List.Perm.cons _ (by rw [take_zip hx_k hd, ← tbl_step h8 hai hxn]; exact (rows_at _ hbt hb0).symm))) ?_
      exact Fin.famV1 (k + 1) u2 (⟨hk_k, by omega⟩) ⟨⟨_, rfl, int_succ k⟩, ⟨_, rfl, own_le (by simp)⟩, ⟨_, rfl, Pr.le_refl _⟩, ⟨_, rfl, Pr.le_refl _⟩, ⟨_, rfl, Pr.le_refl _⟩, ⟨_, rfl, Pr.le_refl _⟩, trivial⟩ (fun _ _ h => h)
    ·
      have q2 := Nrm.nrm h2
      have he_k : k = (teams).length := by have := ge_of_dec h2; omega
      subst he_k
      have hbt : bs.length = (tblP c ((teams.zip days).take teams.length)).length := by rw [tblP_length]; exact hbe
      refine Tr.exit ?_
      refine Fin.then_exit ?_
      refine Fin.then_exit ?_
      refine Fin.block_here ?_
      refine Fin.go ?_
      refine Tr.seq ?_
      refine Tr.drop 0 ?_
      refine Tr.freezeRows0 7 hbt hm tblP_row rfl (andIs_le _ _) ?_
      refine Tr.reg0 ?_
      refine Ch.op rfl rfl (by decide) (ok_move rfl (vl rfl)) ?_
      refine Ch.op rfl rfl (by decide) (ok_assign rfl (vl rfl)) ?_
      refine Ch.nil ?_
      refine Fin.go ?_
      refine Tr.ret ?_
      refine Fin.ret1 rfl (OutW.bse _ _) rfl ?_
      · exact Pr.le_of_eq (by rw [List.take_of_length_le (by simp; omega)]; unfold tblP; rw [List.map_map]; exact congrArg _ (List.map_congr_left fun r _ => by show [slice 1 _] = [slice 1 _]; rw [List.map_map]; rfl))
theorem e_Rload : Entry Try.prog 52 := ⟨_, Try.func52, rfl, rfl⟩
end Go.Proofs.Ytacifhfelijekaa
