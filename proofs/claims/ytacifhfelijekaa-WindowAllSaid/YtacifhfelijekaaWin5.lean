/-
  What the functions named below compute, proved from their text; printed by a program of our own.
-/
import Derived.Test.YtacifhfelijekaaTypes
import Derived.Test.YtacifhfelijekaaSlices
import Derived.Test.YtacifhfelijekaaWin1
import Derived.Test.YtacifhfelijekaaWin2
import Derived.Test.YtacifhfelijekaaWin3
import Derived.Test.YtacifhfelijekaaWin4
namespace Go.Proofs.Ytacifhfelijekaa
open Go Go.RowKit Cp

def Cal.over (c : Cal) (l : List (Int × Int)) : Prop := ∃ (i n : Nat) (r : Int), i < c.wins.length ∧ c.room[n]? = some r ∧ r < (c.cnt l (i * 8 + n) : Int)
open Classical in
noncomputable def Cal.fitsE (c : Cal) (teams days others : List Int) : Int :=
  if c.fitE teams days others ≠ 0 then c.fitE teams days others else if c.over (teams.zip days) then 48 else 0
noncomputable def fitsR (c : Cal) (teams days others : List Int) : Pr := if c.fitsE teams days others = 0 then ref (loadP c (teams.zip days)) else is (.pointer none)
noncomputable instance one_fitsR (c : Cal) (teams days others : List Int) : One (fitsR c teams days others) := by
  unfold fitsR; split
  · exact one_ref _
  · exact one_ptr _
theorem fitsR_err {c : Cal} {teams days others : List Int} {e : Int} (h : c.fitsE teams days others = e) (he : e ≠ 0) : Pr.le (is (.pointer none)) (fitsR c teams days others) := by
  unfold fitsR; rw [if_neg (by rw [h]; exact he)]; exact Pr.le_refl _
theorem fitsR_ok {c : Cal} {teams days others : List Int} (h : c.fitsE teams days others = 0) : fitsR c teams days others = ref (loadP c (teams.zip days)) := by
  unfold fitsR; rw [if_pos h]
theorem fitE_own {c : Cal} {teams days others : List Int} (h : c.fitE teams days others = 0) : c.own = 0 := by
  unfold Cal.fitE at h
  by_cases h' : c.own = 0
  · exact h'
  · rw [if_pos h'] at h; exact absurd h h'
theorem fitE_has {c : Cal} {teams days others : List Int} (h : c.fitE teams days others = 0) : ∀ n ∈ teams ++ others, c.has n = true := by
  have ho := fitE_own h
  unfold Cal.fitE at h
  rw [if_neg (not_not_intro ho)] at h
  split at h
  · cases h
  · split at h
    · cases h
    · split at h
      · cases h
      · rename_i h1
        intro n hn
        exact has_of (by simpa using h1) hn
theorem fitsE_fitE {c : Cal} {teams days others : List Int} (h : c.fitsE teams days others = 0) : c.fitE teams days others = 0 := by
  unfold Cal.fitsE at h
  by_cases h' : c.fitE teams days others = 0
  · exact h'
  · rw [if_pos h'] at h; exact absurd h h'
theorem loadP_hd (c : Cal) (l : List (Int × Int)) {i m : Nat} (h1 : i < 32) (h2 : m < 8) : (((loadP c l).drop (((i : Nat) : Int).toNat * 8)).drop (((m : Nat) : Int).toNat * 1))[0]? = some (int (c.cnt l (i * 8 + m))) := by
  rw [List.drop_drop, List.getElem?_drop, Int.toNat_natCast, Int.toNat_natCast, show i * 8 + m * 1 + 0 = i * 8 + m by omega]
  exact loadP_at c l (by omega)
theorem loadP_hdI (c : Cal) (l : List (Int × Int)) {i : Nat} {m : Int} (h1 : i < 32) (h2 : 0 ≤ m ∧ m < 8) : (((loadP c l).drop (((i : Nat) : Int).toNat * 8)).drop (m.toNat * 1))[0]? = some (int (c.cnt l (i * 8 + m.toNat))) := by
  have := loadP_hd c l (i := i) (m := m.toNat) h1 (by omega)
  rwa [Int.toNat_natCast m.toNat] at this
theorem fits_step1 {c : Cal} {l : List (Int × Int)} {i : Nat} (h0 : ∀ i' n r, i' < i → c.room[n]? = some r → (c.cnt l (i' * 8 + n) : Int) ≤ r) (h1 : ∀ n r, n < c.room.length → c.room[n]? = some r → (c.cnt l (i * 8 + n) : Int) ≤ r) : ∀ i' n r, i' < i + 1 → c.room[n]? = some r → (c.cnt l (i' * 8 + n) : Int) ≤ r := by
  intro i' n r hi hr
  by_cases hii : i' = i
  · subst hii
    refine h1 n r ?_ hr
    rcases Nat.lt_or_ge n c.room.length with h | h
    · exact h
    · rw [List.getElem?_eq_none h] at hr; cases hr
  · exact h0 i' n r (by omega) hr
theorem fits_step2 {c : Cal} {l : List (Int × Int)} {i m : Nat} {r : Int} (h0 : ∀ n r, n < m → c.room[n]? = some r → (c.cnt l (i * 8 + n) : Int) ≤ r) (hx : c.room[m]? = some r) (hle : (c.cnt l (i * 8 + m) : Int) ≤ r) : ∀ n r, n < m + 1 → c.room[n]? = some r → (c.cnt l (i * 8 + n) : Int) ≤ r := by
  intro n r' hn hr
  by_cases hnm : n = m
  · subst hnm; rw [hx] at hr; cases hr; exact hle
  · exact h0 n r' (by omega) hr
def Cal.roomOf (c : Cal) (n : Int) : Int := (c.room[n.toNat]?).getD 0
theorem has_room {c : Cal} {n : Int} (h : c.has n = true) : 0 ≤ n ∧ c.room[n.toNat]? = some (c.roomOf n) := by
  unfold Cal.has at h
  simp at h
  refine ⟨h.1, ?_⟩
  have : n.toNat < c.room.length := by omega
  unfold Cal.roomOf
  rw [List.getElem?_eq_getElem this]; rfl
/-- Whether team n has room in window i. -/
def Cal.free (c : Cal) (l : List (Int × Int)) (n : Int) (i : Nat) : Bool := decide ((c.cnt l (i * 8 + n.toNat) : Int) < c.roomOf n)
noncomputable def Cal.early (c : Cal) (teams days : List Int) (n from_ : Int) : Option Int := if c.fitsE teams days [n] = 0 then c.next n from_ (c.free (teams.zip days) n) else none

theorem w_fits {c : Cal} {teams days others : List Int} (ho : others.length ≤ 1000000000) : Fun Try.prog 34 [calP c, ints teams, ints days, ints others] (tup [fitsR c teams days others, int (c.fitsE teams days others)]) := by
  refine Fun.of Try.func34 rfl rfl (by exact Nat.le_of_ble_eq_true rfl) fun M0 w0 => ?_
  refine Tr.lenA 0 0 rfl rfl fun hlA_0_0 => ?_
  refine Tr.lenA 0 2 rfl rfl fun hlA_0_2 => ?_
  refine Tr.seq ?_
  refine Tr.reg0 ?_
  refine Ch.op rfl rfl (by decide) (ok_box rfl (VL.le (vl rfl) (agg_cellsP _))) ?_
  refine Ch.op rfl rfl (by decide) (ok_assign rfl (vl rfl)) ?_
  refine Ch.op rfl rfl (by decide) (ok_assign rfl (vl rfl)) ?_
  refine Ch.nil ?_
  refine Fin.go ?_
  refine Tr.seq ?_
  refine Tr.reg0 ?_
  refine Ch.op rfl rfl (by decide) (ok_loadA rfl agg27 sz27 (vl rfl) rfl rfl) ?_
  refine Ch.op rfl rfl (by decide) (ok_move rfl (vl rfl)) ?_
  refine Ch.op rfl rfl (by decide) (ok_move rfl (vl rfl)) ?_
  refine Ch.op rfl rfl (by decide) (ok_move rfl (vl rfl)) ?_
  refine Ch.op rfl rfl (by decide) (ok_call rfl (w_load (by assumption)) ⟨⟨_, rfl, Pr.le_refl _⟩, ⟨_, rfl, Pr.le_refl _⟩, ⟨_, rfl, Pr.le_refl _⟩, ⟨_, rfl, Pr.le_refl _⟩, trivial⟩) ?_
  refine Ch.op rfl rfl (by decide) (ok_move rfl (vl rfl)) ?_
  refine Ch.op rfl rfl (by decide) (ok_extract rfl (vl rfl) rfl) ?_
  refine Ch.op rfl rfl (by decide) (ok_extract rfl (vl rfl) rfl) ?_
  refine Ch.op rfl rfl (by decide) (ok_assign rfl (vl rfl)) ?_
  refine Ch.op rfl rfl (by decide) (ok_assign rfl (vl rfl)) ?_
  refine Ch.nil ?_
  refine Fin.go ?_
  refine Tr.seq ?_
  refine Tr.seq ?_
  refine Tr.reg0 ?_
  refine Ch.op rfl rfl (by decide) (ok_move rfl (vl rfl)) ?_
  refine Ch.op rfl rfl (by decide) (ok_int rfl (vl rfl) (vl rfl) rfl) ?_
  refine Ch.nil ?_
  refine Fin.go ?_
  refine Tr.weak [(4, _), (10, _), (11, _), (24, _)] ⟨⟨_, rfl, Pr.le_refl _⟩, ⟨_, rfl, Pr.le_refl _⟩, ⟨_, rfl, Pr.le_refl _⟩, ⟨_, rfl, Pr.le_refl _⟩, trivial⟩ ?_
  refine Tr.cond rfl (fun h1 => ?_) (fun h1 => ?_)
  ·
    have q1 := Nrm.nrm h1
    refine Tr.seq ?_
    refine Tr.reg0 ?_
    refine Ch.op rfl rfl (by decide) (ok_move rfl (vl rfl)) ?_
    refine Ch.op rfl rfl (by decide) (ok_assign rfl (vl rfl)) ?_
    refine Ch.op rfl rfl (by decide) (ok_assign rfl (vl rfl)) ?_
    refine Ch.nil ?_
    refine Fin.go ?_
    refine Tr.ret ?_
    refine Fin.then_ret ?_
    refine Fin.ret2 rfl (OutW.bse _ _) rfl ?_ rfl ?_
    · exact fitsR_err (by unfold Cal.fitsE; rw [if_pos q1]) q1
    · refine int_eq ?_; unfold Cal.fitsE; rw [if_pos q1]
  ·
    have q1 := Nrm.nrm h1
    have hf : c.fitE teams days others = 0 := q1
    have hown := fitE_own hf
    have hw := own_zero hown
    refine Tr.re 10 rfl (Pr.le_of_eq (loadR_ok hf)) ?_
    refine Tr.skip ?_
    refine Fin.go ?_
    refine Tr.seq ?_
    refine Tr.seq ?_
    refine Tr.reg0 ?_
    refine Ch.op rfl rfl (by decide) (ok_fieldAddr rfl fo27_0 (vl rfl) rfl) ?_
    refine Ch.op rfl rfl (by decide) (ok_load1 rfl one25 (vl rfl)) ?_
    first
      | refine Ch.op rfl rfl (by decide) (ok_lenm rfl Try.underlying25 (vl rfl)) ?_
      | refine Ch.op rfl rfl (by decide) (ok_len rfl Try.underlying25 (vl rfl)) ?_
    refine Ch.op rfl rfl (by decide) (ok_move rfl (vl rfl)) ?_
    refine Ch.nil ?_
    refine Fin.go ?_
    refine Tr.block ?_
    refine Tr.loopw [(4, _), (10, _), (28, _)] ⟨⟨_, rfl, Pr.le_refl _⟩, ⟨_, rfl, Pr.le_refl _⟩, ⟨_, rfl, Pr.le_refl _⟩, trivial⟩ (fun i : Nat => [(29, int ((i : Nat) : Int))]) (fun i : Nat => i ≤ (c.wins).length ∧ (∀ i' n r, i' < i → c.room[n]? = some r → (c.cnt (teams.zip days) (i' * 8 + n) : Int) ≤ r)) (fun i : Nat => (c.wins).length - i) 0 (⟨Nat.zero_le _, fun i' n r hi => absurd hi (by omega)⟩) ⟨⟨_, rfl, Pr.le_refl _⟩, trivial⟩ ?_
    rintro i ⟨hle_i, hinv_i⟩
    refine Tr.seq ?_
    refine Tr.reg0 ?_
    refine Ch.op rfl rfl (by decide) (ok_int rfl (vl rfl) (vl rfl) rfl) ?_
    refine Ch.nil ?_
    refine Fin.go ?_
    refine Tr.seq ?_
    refine Tr.cond rfl (fun h2 => ?_) (fun h2 => ?_)
    ·
      have q2 := Nrm.nrm h2
      have hk_i : i < (c.wins).length := lt_of_dec h2
      obtain ⟨w, hx_i⟩ := at_ hk_i
      refine Tr.skip ?_
      refine Fin.go ?_
      refine Tr.seq ?_
      refine Tr.block ?_
      refine Tr.seq ?_
      refine Tr.reg0 ?_
      refine Ch.op rfl rfl (by decide) (ok_move rfl (vl rfl)) ?_
      refine Ch.op rfl rfl (by decide) (ok_assign rfl (vl rfl)) ?_
      refine Ch.nil ?_
      refine Fin.go ?_
      refine Tr.seq ?_
      refine Tr.reg0 ?_
      refine Ch.op rfl rfl (by decide) (ok_fieldAddr rfl fo27_2 (vl rfl) rfl) ?_
      refine Ch.op rfl rfl (by decide) (ok_load1 rfl one22 (vl rfl)) ?_
      first
        | refine Ch.op rfl rfl (by decide) (ok_lenm rfl Try.underlying22 (vl rfl)) ?_
        | refine Ch.op rfl rfl (by decide) (ok_len rfl Try.underlying22 (vl rfl)) ?_
      refine Ch.op rfl rfl (by decide) (ok_move rfl (vl rfl)) ?_
      refine Ch.nil ?_
      refine Fin.go ?_
      refine Tr.block ?_
      refine Tr.loopw [(4, _), (10, _), (12, _), (28, _), (29, _), (33, _), (34, _)] ⟨⟨_, rfl, Pr.le_refl _⟩, ⟨_, rfl, Pr.le_refl _⟩, ⟨_, rfl, Pr.le_refl _⟩, ⟨_, rfl, Pr.le_refl _⟩, ⟨_, rfl, Pr.le_refl _⟩, ⟨_, rfl, Pr.le_refl _⟩, ⟨_, rfl, Pr.le_refl _⟩, trivial⟩ (fun m : Nat => [(35, int ((m : Nat) : Int))]) (fun m : Nat => m ≤ (c.room).length ∧ (∀ n r, n < m → c.room[n]? = some r → (c.cnt (teams.zip days) (i * 8 + n) : Int) ≤ r)) (fun m : Nat => (c.room).length - m) 0 (⟨Nat.zero_le _, fun n r hn => absurd hn (by omega)⟩) ⟨⟨_, rfl, Pr.le_refl _⟩, trivial⟩ ?_
      rintro m ⟨hle_m, hinv_m⟩
      refine Tr.seq ?_
      refine Tr.reg0 ?_
      refine Ch.op rfl rfl (by decide) (ok_int rfl (vl rfl) (vl rfl) rfl) ?_
      refine Ch.nil ?_
      refine Fin.go ?_
      refine Tr.seq ?_
      refine Tr.cond rfl (fun h3 => ?_) (fun h3 => ?_)
      ·
        have q3 := Nrm.nrm h3
        have hk_m : m < (c.room).length := lt_of_dec h3
        obtain ⟨r, hx_m⟩ := at_ hk_m
        refine Tr.skip ?_
        refine Fin.go ?_
        refine Tr.seq ?_
        refine Tr.block ?_
        refine Tr.seq ?_
        refine Tr.reg0 ?_
        refine Ch.op rfl rfl (by decide) (ok_move rfl (vl rfl)) ?_
        refine Ch.op rfl rfl (by decide) (ok_indexAddr rfl Try.underlying22 sz3 (vl rfl) (vl rfl) (by omega) (by first | exact row_at (by assumption) | exact row_atI (by assumption) | assumption)) ?_
        refine Ch.op rfl rfl (by decide) (ok_load1 rfl one3 (vl rfl)) ?_
        refine Ch.op rfl rfl (by decide) (ok_assign rfl (vl rfl)) ?_
        refine Ch.op rfl rfl (by decide) (ok_assign rfl (vl rfl)) ?_
        refine Ch.nil ?_
        refine Fin.go ?_
        refine Tr.weak [(4, _), (10, _), (12, _), (13, _), (14, _), (28, _), (29, _), (33, _), (34, _), (35, _)] ⟨⟨_, rfl, Pr.le_refl _⟩, ⟨_, rfl, Pr.le_refl _⟩, ⟨_, rfl, Pr.le_refl _⟩, ⟨_, rfl, Pr.le_refl _⟩, ⟨_, rfl, Pr.le_refl _⟩, ⟨_, rfl, Pr.le_refl _⟩, ⟨_, rfl, Pr.le_refl _⟩, ⟨_, rfl, Pr.le_refl _⟩, ⟨_, rfl, Pr.le_refl _⟩, ⟨_, rfl, Pr.le_refl _⟩, trivial⟩ ?_
        refine Tr.seq ?_
        refine Tr.reg0 ?_
        refine Ch.op rfl rfl (by decide) (ok_move rfl (vl rfl)) ?_
        refine Ch.op rfl rfl (by decide) (ok_move rfl (vl rfl)) ?_
        refine Ch.op rfl rfl (by decide) (ok_move rfl (vl rfl)) ?_
        first
          | refine Ch.op rfl rfl (by decide) (ok_nilCheck_ref rfl (vl rfl)) ?_
          | refine Ch.op rfl rfl (by decide) (ok_nilCheck_fn rfl (vl rfl)) ?_
        refine Ch.op rfl rfl (by decide) (ok_indexArr rfl Try.underlying80 sz66 (vl rfl) (vl rfl) (by omega) (by omega) rfl) ?_
        refine Ch.op rfl rfl (by decide) (ok_indexArr rfl Try.underlying66 sz3 (vl rfl) (vl rfl) (by omega) (by omega) rfl) ?_
        refine Ch.op rfl rfl (by decide) (ok_load_hd rfl one3 (vl rfl) (loadP_hd c _ (by omega) (by omega))) ?_
        refine Ch.op rfl rfl (by decide) (ok_move rfl (vl rfl)) ?_
        refine Ch.op rfl rfl (by decide) (ok_int rfl (vl rfl) (vl rfl) rfl) ?_
        refine Ch.nil ?_
        refine Fin.go ?_
        refine Tr.weak [(4, _), (10, _), (12, _), (28, _), (29, _), (33, _), (34, _), (35, _), (48, _)] ⟨⟨_, rfl, Pr.le_refl _⟩, ⟨_, rfl, Pr.le_refl _⟩, ⟨_, rfl, Pr.le_refl _⟩, ⟨_, rfl, Pr.le_refl _⟩, ⟨_, rfl, Pr.le_refl _⟩, ⟨_, rfl, Pr.le_refl _⟩, ⟨_, rfl, Pr.le_refl _⟩, ⟨_, rfl, Pr.le_refl _⟩, ⟨_, rfl, Pr.le_refl _⟩, trivial⟩ ?_
        refine Tr.cond rfl (fun h4 => ?_) (fun h4 => ?_)
        ·
          have q4 := Nrm.nrm h4
          refine Tr.seq ?_
          refine Tr.reg0 ?_
          refine Ch.op rfl rfl (by decide) (ok_assign rfl (vl rfl)) ?_
          refine Ch.op rfl rfl (by decide) (ok_assign rfl (vl rfl)) ?_
          refine Ch.nil ?_
          refine Fin.go ?_
          refine Tr.ret ?_
          refine Fin.block_ret ?_
          refine Fin.then_ret ?_
          refine Fin.then_ret ?_
          refine Fin.block_ret ?_
          refine Fin.block_ret ?_
          refine Fin.then_ret ?_
          refine Fin.then_ret ?_
          refine Fin.block_ret ?_
          refine Fin.then_ret ?_
          refine Fin.ret2 rfl (OutW.bse _ _) rfl ?_ rfl ?_
          · exact fitsR_err (by unfold Cal.fitsE; rw [if_neg (not_not_intro hf), if_pos ⟨i, m, r, hk_i, hx_m, by assumption⟩]) (by decide)
          · refine int_eq ?_; unfold Cal.fitsE; rw [if_neg (not_not_intro hf), if_pos ⟨i, m, r, hk_i, hx_m, by assumption⟩]
        ·
          have q4 := Nrm.nrm h4
          refine Tr.skip ?_
          refine Fin.block ?_
          refine Fin.go ?_
          refine Tr.reg0 ?_
          first
            | (refine Ch.op rfl rfl (by decide) (ok_add rfl (vl rfl) (vl rfl) ?hin) ?_; case hin => unfold InI; omega)
            | refine Ch.op rfl rfl (by decide) (ok_int rfl (vl rfl) (vl rfl) rfl) ?_
          refine Ch.op rfl rfl (by decide) (ok_move rfl (vl rfl)) ?_
          refine Ch.nil ?_
          exact Fin.fam_same (m + 1) ⟨⟨hk_m, (fits_step2 hinv_m hx_m (by assumption))⟩, by omega⟩ ⟨⟨_, rfl, int_succ m⟩, ⟨_, rfl, Pr.le_refl _⟩, ⟨_, rfl, Pr.le_refl _⟩, ⟨_, rfl, Pr.le_refl _⟩, ⟨_, rfl, Pr.le_refl _⟩, ⟨_, rfl, Pr.le_refl _⟩, ⟨_, rfl, Pr.le_refl _⟩, ⟨_, rfl, Pr.le_refl _⟩, trivial⟩
      ·
        have q3 := Nrm.nrm h3
        have he_m : m = (c.room).length := by have := ge_of_dec h3; omega
        subst he_m
        refine Tr.exit ?_
        refine Fin.then_exit ?_
        refine Fin.then_exit ?_
        refine Fin.block_here ?_
        refine Fin.block ?_
        refine Fin.go ?_
        refine Tr.reg0 ?_
        first
          | (refine Ch.op rfl rfl (by decide) (ok_add rfl (vl rfl) (vl rfl) ?hin) ?_; case hin => unfold InI; omega)
          | refine Ch.op rfl rfl (by decide) (ok_int rfl (vl rfl) (vl rfl) rfl) ?_
        refine Ch.op rfl rfl (by decide) (ok_move rfl (vl rfl)) ?_
        refine Ch.nil ?_
        exact Fin.fam_same (i + 1) ⟨⟨hk_i, (fits_step1 hinv_i hinv_m)⟩, by omega⟩ ⟨⟨_, rfl, int_succ i⟩, ⟨_, rfl, Pr.le_refl _⟩, ⟨_, rfl, Pr.le_refl _⟩, ⟨_, rfl, Pr.le_refl _⟩, trivial⟩
    ·
      have q2 := Nrm.nrm h2
      have he_i : i = (c.wins).length := by have := ge_of_dec h2; omega
      subst he_i
      refine Tr.exit ?_
      refine Fin.then_exit ?_
      refine Fin.then_exit ?_
      refine Fin.block_here ?_
      refine Fin.go ?_
      refine Tr.seq ?_
      refine Tr.reg0 ?_
      refine Ch.op rfl rfl (by decide) (ok_move rfl (vl rfl)) ?_
      refine Ch.op rfl rfl (by decide) (ok_assign rfl (vl rfl)) ?_
      refine Ch.op rfl rfl (by decide) (ok_assign rfl (vl rfl)) ?_
      refine Ch.nil ?_
      refine Fin.go ?_
      refine Tr.ret ?_
      refine Fin.ret2 rfl (OutW.bse _ _) rfl ?_ rfl ?_
      · rw [fitsR_ok (by unfold Cal.fitsE; rw [if_neg (not_not_intro hf), if_neg (by rintro ⟨i, n, r, h1, h2, h3⟩; have := hinv_i i n r h1 h2; omega)])]; exact Pr.le_refl _
      · refine int_eq ?_; unfold Cal.fitsE; rw [if_neg (not_not_intro hf), if_neg (by rintro ⟨i, n, r, h1, h2, h3⟩; have := hinv_i i n r h1 h2; omega)]
theorem e_fits : Entry Try.prog 34 := ⟨_, Try.func34, rfl, rfl⟩
theorem w_Fits {c : Cal} {teams days : List Int}  : Fun Try.prog 13 [calP c, ints teams, ints days] (int (c.fitsE teams days [])) := by
  refine Fun.of Try.func13 rfl rfl (by exact Nat.le_of_ble_eq_true rfl) fun M0 w0 => ?_
  refine Tr.seq ?_
  refine Tr.reg0 ?_
  refine Ch.op rfl rfl (by decide) (ok_box rfl (VL.le (vl rfl) (agg_cellsP _))) ?_
  refine Ch.op rfl rfl (by decide) (ok_assign rfl (vl rfl)) ?_
  refine Ch.nil ?_
  refine Fin.go ?_
  refine Tr.seq ?_
  refine Tr.reg0 ?_
  refine Ch.op rfl rfl (by decide) (ok_loadA rfl agg27 sz27 (vl rfl) rfl rfl) ?_
  refine Ch.op rfl rfl (by decide) (ok_move rfl (vl rfl)) ?_
  refine Ch.op rfl rfl (by decide) (ok_move rfl (vl rfl)) ?_
  refine Ch.op rfl rfl (by decide) (ok_call rfl (w_fits (others := []) (by simp)) ⟨⟨_, rfl, Pr.le_refl _⟩, ⟨_, rfl, Pr.le_refl _⟩, ⟨_, rfl, Pr.le_refl _⟩, ⟨_, rfl, nil_slice _⟩, trivial⟩) ?_
  refine Ch.op rfl rfl (by decide) (ok_move rfl (vl rfl)) ?_
  refine Ch.op rfl rfl (by decide) (ok_extract rfl (vl rfl) rfl) ?_
  refine Ch.op rfl rfl (by decide) (ok_extract rfl (vl rfl) rfl) ?_
  refine Ch.op rfl rfl (by decide) (ok_assign rfl (vl rfl)) ?_
  refine Ch.op rfl rfl (by decide) (ok_assign rfl (vl rfl)) ?_
  refine Ch.nil ?_
  refine Fin.go ?_
  refine Tr.seq ?_
  refine Tr.reg0 ?_
  refine Ch.op rfl rfl (by decide) (ok_move rfl (vl rfl)) ?_
  refine Ch.op rfl rfl (by decide) (ok_assign rfl (vl rfl)) ?_
  refine Ch.nil ?_
  refine Fin.go ?_
  refine Tr.ret ?_
  refine Fin.ret1 rfl (OutW.bse _ _) rfl ?_
  · first | exact Pr.le_refl _ | (refine int_eq ?_; simp_all; done) | (refine bool_eq ?_; simp_all; done) | (refine bool_eq ?_; simp_all; omega) | (refine int_eq ?_; omega)
theorem e_Fits : Entry Try.prog 13 := ⟨_, Try.func13, rfl, rfl⟩
theorem w_Earl1 {c : Cal} {l : List (Int × Int)} {n : Int} {i : Fin c.wins.length} (hown : c.own = 0) (hn : c.has n = true) : Fun Try.prog 38 [int ((i.1 : Nat) : Int), ref [ref (loadP c l)], ref [int n], ref [winsP c.wins, ints c.team, ints c.room]] (bool (c.free l n i.1)) := by
  refine Fun.of Try.func38 rfl rfl (by exact Nat.le_of_ble_eq_true rfl) fun M0 w0 => ?_
  have hw := own_zero hown
  obtain ⟨hn0, hr⟩ := has_room hn
  have hn8 := has_lt hown hn
  have hi := i.2
  refine Tr.seq ?_
  refine Tr.reg0 ?_
  refine Ch.op rfl rfl (by decide) (ok_assign rfl (vl rfl)) ?_
  refine Ch.nil ?_
  refine Fin.go ?_
  refine Tr.seq ?_
  refine Tr.reg1 mixed (by kernel_rfl) ?_
  refine Ch.op rfl rfl (by decide) (ok_load1 rfl one62 (vl rfl)) ?_
  refine Ch.op rfl rfl (by decide) (ok_move rfl (vl rfl)) ?_
  refine Ch.op rfl rfl (by decide) (ok_load1 rfl one3 (vl rfl)) ?_
  first
    | refine Ch.op rfl rfl (by decide) (ok_nilCheck_ref rfl (vl rfl)) ?_
    | refine Ch.op rfl rfl (by decide) (ok_nilCheck_fn rfl (vl rfl)) ?_
  refine Ch.op rfl rfl (by decide) (ok_indexArr rfl Try.underlying80 sz66 (vl rfl) (vl rfl) (by omega) (by omega) rfl) ?_
  refine Ch.op rfl rfl (by decide) (ok_indexArr rfl Try.underlying66 sz3 (vl rfl) (vl rfl) (by omega) (by omega) rfl) ?_
  refine Ch.op rfl rfl (by decide) (ok_load_hd rfl one3 (vl rfl) (loadP_hdI c l (by omega) hn8)) ?_
  refine Ch.op rfl rfl (by decide) (ok_fieldAddr rfl fo27_2 (vl rfl) rfl) ?_
  refine Ch.op rfl rfl (by decide) (ok_load1 rfl one22 (vl rfl)) ?_
  refine Ch.op rfl rfl (by decide) (ok_load1 rfl one3 (vl rfl)) ?_
  refine Ch.op rfl rfl (by decide) (ok_indexAddr rfl Try.underlying22 sz3 (vl rfl) (vl rfl) (by omega) (row_atI hr)) ?_
  refine Ch.op rfl rfl (by decide) (ok_load1 rfl one3 (vl rfl)) ?_
  refine Ch.op rfl rfl (by decide) (ok_int rfl (vl rfl) (vl rfl) rfl) ?_
  refine Ch.op rfl rfl (by decide) (ok_assign rfl (vl rfl)) ?_
  refine Ch.nil ?_
  refine Fin.go ?_
  refine Tr.weak [(5, _)] ⟨⟨_, rfl, Pr.le_refl _⟩, trivial⟩ ?_
  refine Tr.ret ?_
  refine Fin.ret1 rfl (OutW.bse _ _) rfl ?_
  · first | exact Pr.le_refl _ | (refine int_eq ?_; simp_all; done) | (refine bool_eq ?_; simp_all; done) | (refine bool_eq ?_; simp_all; omega) | (refine int_eq ?_; omega)
theorem e_Earl1 : Entry Try.prog 38 := ⟨_, Try.func38, rfl, rfl⟩
theorem w_Earliest {c : Cal} {teams days : List Int} {n from_ : Int}  : Fun Try.prog 16 [calP c, ints teams, ints days, int n, int from_] (tup [int ((c.early teams days n from_).getD 0), bool (c.early teams days n from_).isSome, int (c.fitsE teams days [n])]) := by
  refine Fun.of Try.func16 rfl rfl (by exact Nat.le_of_ble_eq_true rfl) fun M0 w0 => ?_
  refine Tr.seq ?_
  refine Tr.reg0 ?_
  refine Ch.op rfl rfl (by decide) (ok_box rfl (VL.le (vl rfl) (agg_cellsP _))) ?_
  refine Ch.op rfl rfl (by decide) (ok_box rfl (VL.le (vl rfl) (one_cellsP _))) ?_
  refine Ch.op rfl rfl (by decide) (ok_assign rfl (vl rfl)) ?_
  refine Ch.op rfl rfl (by decide) (ok_assign rfl (vl rfl)) ?_
  refine Ch.op rfl rfl (by decide) (ok_assign rfl (vl rfl)) ?_
  refine Ch.nil ?_
  refine Fin.go ?_
  refine Tr.seq ?_
  refine Tr.regT ?_
  refine TO.op rfl rfl (by decide) (ok_loadA rfl agg27 sz27 (vl rfl) rfl rfl) ?_
  refine TO.op rfl rfl (by decide) (ok_move rfl (vl rfl)) ?_
  refine TO.op rfl rfl (by decide) (ok_move rfl (vl rfl)) ?_
  refine TO.op rfl rfl (by decide) (ok_load1 rfl one3 (vl rfl)) ?_
  refine TO.op rfl rfl (by decide) (ok_buildSlice (xs := [.tmp 21]) (rows := [[_]]) rfl rfl Try.underlying22 sz3 z3 rfl (by decide) ⟨⟨(by exact rfl), (VL.le (vl rfl) (one_cellsP _))⟩, trivial⟩ (by decide)) ?_
  refine TO.op rfl rfl (by decide) (ok_call rfl (w_fits (others := [n]) (by simp)) ⟨⟨_, rfl, Pr.le_refl _⟩, ⟨_, rfl, Pr.le_refl _⟩, ⟨_, rfl, Pr.le_refl _⟩, ⟨_, rfl, full_le _ _⟩, trivial⟩) ?_
  refine TO.op rfl rfl (by decide) (ok_move rfl (vl rfl)) ?_
  refine TO.op rfl rfl (by decide) (ok_extract rfl (vl rfl) rfl) ?_
  refine TO.op rfl rfl (by decide) (ok_extract rfl (vl rfl) rfl) ?_
  refine TO.alloc rfl rfl (by decide) rfl z62 zo62 (fun b1 => ?_)
  refine TO.store_all 0 rfl rfl rfl (vl rfl) (VL.le (vl rfl) (one_cellsP _)) rfl sz62 rfl rfl ?_
  refine TO.freeze 0 13 rfl rfl ?_
  refine TO.op rfl rfl (by decide) (ok_assign rfl (vl rfl)) ?_
  refine TO.nil ?_
  refine Fin.go ?_
  refine Tr.weak [(4, _), (5, _), (8, _), (13, _), (14, _)] ⟨⟨_, rfl, Pr.le_refl _⟩, ⟨_, rfl, Pr.le_refl _⟩, ⟨_, rfl, Pr.le_refl _⟩, ⟨_, rfl, Pr.le_refl _⟩, ⟨_, rfl, Pr.le_refl _⟩, trivial⟩ ?_
  refine Tr.seq ?_
  refine Tr.seq ?_
  refine Tr.reg0 ?_
  refine Ch.op rfl rfl (by decide) (ok_move rfl (vl rfl)) ?_
  refine Ch.op rfl rfl (by decide) (ok_int rfl (vl rfl) (vl rfl) rfl) ?_
  refine Ch.nil ?_
  refine Fin.go ?_
  refine Tr.cond rfl (fun h1 => ?_) (fun h1 => ?_)
  ·
    have q1 := Nrm.nrm h1
    refine Tr.seq ?_
    refine Tr.reg0 ?_
    refine Ch.op rfl rfl (by decide) (ok_move rfl (vl rfl)) ?_
    refine Ch.op rfl rfl (by decide) (ok_assign rfl (vl rfl)) ?_
    refine Ch.op rfl rfl (by decide) (ok_assign rfl (vl rfl)) ?_
    refine Ch.op rfl rfl (by decide) (ok_assign rfl (vl rfl)) ?_
    refine Ch.nil ?_
    refine Fin.go ?_
    refine Tr.ret ?_
    refine Fin.then_ret ?_
    refine Fin.ret3 rfl (OutW.bse _ _) rfl ?_ rfl ?_ rfl ?_
    · refine int_eq ?_; unfold Cal.early; rw [if_neg q1]; rfl
    · refine bool_eq ?_; unfold Cal.early; rw [if_neg q1]; rfl
    · first | exact Pr.le_refl _ | (refine int_eq ?_; simp_all; done) | (refine bool_eq ?_; simp_all; done) | (refine bool_eq ?_; simp_all; omega) | (refine int_eq ?_; omega)
  ·
    have q1 := Nrm.nrm h1
    have hf : c.fitsE teams days [n] = 0 := q1
    have hown := fitE_own (fitsE_fitE hf)
    have hn := fitE_has (fitsE_fitE hf) n (by simp)
    refine Tr.re 13 rfl (Pr.le_of_eq (by rw [fitsR_ok hf])) ?_
    refine Tr.skip ?_
    refine Fin.go ?_
    refine Tr.seq ?_
    refine Tr.reg0 ?_
    refine Ch.op rfl rfl (by decide) (ok_loadA rfl agg27 sz27 (vl rfl) rfl rfl) ?_
    refine Ch.op rfl rfl (by decide) (ok_load1 rfl one3 (vl rfl)) ?_
    refine Ch.op rfl rfl (by decide) (ok_move rfl (vl rfl)) ?_
    refine Ch.op rfl rfl (by decide) (ok_makeFunc rfl rfl) ?_
    refine Ch.op rfl rfl (by decide) (ok_call rfl (w_next (room := c.free (teams.zip days) n)) ⟨⟨_, rfl, Pr.le_refl _⟩, ⟨_, rfl, Pr.le_refl _⟩, ⟨_, rfl, Pr.le_refl _⟩, ⟨_, rfl, fn_le_clo e_Earl1 (fun i => w_Earl1 (i := i) hown hn)⟩, trivial⟩) ?_
    refine Ch.op rfl rfl (by decide) (ok_move rfl (vl rfl)) ?_
    refine Ch.op rfl rfl (by decide) (ok_extract rfl (vl rfl) rfl) ?_
    refine Ch.op rfl rfl (by decide) (ok_extract rfl (vl rfl) rfl) ?_
    refine Ch.op rfl rfl (by decide) (ok_assign rfl (vl rfl)) ?_
    refine Ch.op rfl rfl (by decide) (ok_assign rfl (vl rfl)) ?_
    refine Ch.nil ?_
    refine Fin.go ?_
    refine Tr.weak [(15, _), (16, _)] ⟨⟨_, rfl, Pr.le_refl _⟩, ⟨_, rfl, Pr.le_refl _⟩, trivial⟩ ?_
    refine Tr.seq ?_
    refine Tr.reg0 ?_
    refine Ch.op rfl rfl (by decide) (ok_move rfl (vl rfl)) ?_
    refine Ch.op rfl rfl (by decide) (ok_move rfl (vl rfl)) ?_
    refine Ch.op rfl rfl (by decide) (ok_assign rfl (vl rfl)) ?_
    refine Ch.op rfl rfl (by decide) (ok_assign rfl (vl rfl)) ?_
    refine Ch.op rfl rfl (by decide) (ok_assign rfl (vl rfl)) ?_
    refine Ch.nil ?_
    refine Fin.go ?_
    refine Tr.ret ?_
    refine Fin.ret3 rfl (OutW.bse _ _) rfl ?_ rfl ?_ rfl ?_
    · unfold Cal.early; rw [if_pos hf]; exact Pr.le_refl _
    · unfold Cal.early; rw [if_pos hf]; exact Pr.le_refl _
    · refine int_eq ?_; exact hf.symm
theorem e_Earliest : Entry Try.prog 16 := ⟨_, Try.func16, rfl, rfl⟩
end Go.Proofs.Ytacifhfelijekaa
