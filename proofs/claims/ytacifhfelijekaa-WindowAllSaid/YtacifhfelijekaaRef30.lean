/-
  What the functions named below compute, proved from their text; printed by a program of our own.
-/
import Derived.Test.YtacifhfelijekaaTypes
import Derived.Test.YtacifhfelijekaaSlices
import Derived.Test.YtacifhfelijekaaWin1
import Derived.Test.YtacifhfelijekaaWin2
import Derived.Test.YtacifhfelijekaaWin3
import Derived.Test.YtacifhfelijekaaWin4
import Derived.Test.YtacifhfelijekaaWin5
import Derived.Test.YtacifhfelijekaaDice
import Derived.Test.YtacifhfelijekaaMove
import Derived.Test.YtacifhfelijekaaL30Full
import Derived.Test.YtacifhfelijekaaL30Next
namespace Go.Proofs.Ytacifhfelijekaa
open Go Go.RowKit Cp

theorem any_hit {β : Type} {p : β → Bool} {l : List β} {k : Nat} {x : β} (hx : l[k]? = some x) (hp : p x = true) : l.any p = true := List.any_eq_true.2 ⟨x, List.mem_of_getElem? hx, hp⟩
theorem any_miss {β : Type} {p : β → Bool} {l : List β} (h : ∀ j y, j < l.length → l[j]? = some y → p y = false) : l.any p = false := by
  rw [List.any_eq_false]
  intro y hy
  obtain ⟨j, hj⟩ := List.mem_iff_getElem?.1 hy
  have := h j y (by rcases Nat.lt_or_ge j l.length with h | h; exact h; rw [List.getElem?_eq_none h] at hj; cases hj) hj
  simp [this]
abbrev Upto {β : Type} (p : β → Bool) (l : List β) (k : Nat) : Prop := ∀ j y, j < k → l[j]? = some y → p y = false
theorem upto_0 {β : Type} (p : β → Bool) (l : List β) : Upto p l 0 := fun j y hj => absurd hj (by omega)
theorem upto_s {β : Type} {p : β → Bool} {l : List β} {k : Nat} {x : β} (hx : l[k]? = some x) (hp : p x = false) (h : Upto p l k) : Upto p l (k + 1) := step_no hx hp h
abbrev badTeams (c : Cal) : Win → Bool := fun w => w.teams.any fun n => !c.has n

set_option maxHeartbeats 800000 in
theorem w_RCheck {c : Cal} {m : Int}  : Fun Try.prog 23 [calP c, int m] (int (c.check m)) := by
  refine Fun.of Try.func23 rfl rfl (by exact Nat.le_of_ble_eq_true rfl) fun M0 w0 => ?_
  refine Tr.lenA 0 0 rfl rfl fun hlA_0_0 => ?_
  refine Tr.lenA 0 1 rfl rfl fun hlA_0_1 => ?_
  refine Tr.lenA 0 2 rfl rfl fun hlA_0_2 => ?_
  refine Tr.seq ?_
  refine Tr.reg0 ?_
  refine Ch.op rfl rfl (by decide) (ok_box rfl (VL.le (vl rfl) (agg_cellsP _))) ?_
  refine Ch.op rfl rfl (by decide) (ok_assign rfl (vl rfl)) ?_
  refine Ch.nil ?_
  refine Fin.go ?_
  refine Tr.seq ?_
  refine Tr.seq ?_
  refine Tr.reg0 ?_
  refine Ch.op rfl rfl (by decide) (ok_fieldAddr rfl fo27_0 (vl rfl) rfl) ?_
  refine Ch.op rfl rfl (by decide) (ok_load1 rfl one25 (vl rfl)) ?_
  first
    | refine Ch.op rfl rfl (by decide) (ok_lenm rfl Try.underlying25 (vl rfl)) ?_
    | refine Ch.op rfl rfl (by decide) (ok_len rfl Try.underlying25 (vl rfl)) ?_
  refine Ch.op rfl rfl (by decide) (ok_int rfl (vl rfl) (vl rfl) rfl) ?_
  refine Ch.op rfl rfl (by decide) (ok_move rfl (vl rfl)) ?_
  refine Ch.cases 22 rfl (fun h1 => ?_) (fun h1 => ?_)
  ·
    have q1 := Nrm.nrm h1
    refine Ch.no rfl rfl rfl (ne_false h1) rfl (by decide) ?_
    refine Ch.no rfl rfl rfl (ne_false h1) rfl (by decide) ?_
    refine Ch.no rfl rfl rfl (ne_false h1) rfl (by decide) ?_
    refine Ch.no rfl rfl rfl (ne_false h1) rfl (by decide) ?_
    refine Ch.op rfl rfl (by decide) (ok_pick_t rfl (vl rfl) h1 (vl rfl)) ?_
    refine Ch.nil ?_
    refine Fin.go ?_
    refine Tr.cond rfl (fun _ => ?_) (fun h => nomatch h)
    refine Tr.seq ?_
    refine Tr.reg0 ?_
    refine Ch.op rfl rfl (by decide) (ok_assign rfl (vl rfl)) ?_
    refine Ch.nil ?_
    refine Fin.go ?_
    refine Tr.ret ?_
    refine Fin.then_ret ?_
    refine Fin.ret1 rfl (OutW.bse _ _) rfl ?_
    · refine int_eq ?_; unfold Cal.check; first | (rw [if_pos (by omega)]; done) | (rw [if_neg (by omega), if_pos (any_hit hx_a (by simp [badRoom]; omega))]; done) | (rw [if_neg (by omega), if_neg (ne_true (any_miss hinv_a)), if_pos (any_hit hx_b (by simp [badWin]; omega))]; done) | (rw [if_neg (by omega), if_neg (ne_true (any_miss hinv_a)), if_neg (ne_true (any_miss hinv_b)), if_pos (not_ordW (by omega) hx_k hpw (by assumption))]; done) | (rw [if_neg (by omega), if_neg (ne_true (any_miss hinv_a)), if_neg (ne_true (any_miss hinv_b)), if_pos (not_ordT hx_k (by omega) ht hu (by omega))]; done) | (rw [if_neg (by omega), if_neg (ne_true (any_miss hinv_a)), if_neg (ne_true (any_miss hinv_b)), if_neg (not_not_intro (ord_all hinv_k)), if_pos (any_hit hx_d (any_hit hx_e (by simp [Cal.has]; omega)))]; done) | (rw [if_neg (by omega), if_neg (ne_true (any_miss hinv_a)), if_neg (ne_true (any_miss hinv_b)), if_neg (not_not_intro (ord_all hinv_k)), if_neg (ne_true (any_miss hinv_d)), if_pos (.inl (by assumption))]; done) | (rw [if_neg (by omega), if_neg (ne_true (any_miss hinv_a)), if_neg (ne_true (any_miss hinv_b)), if_neg (not_not_intro (ord_all hinv_k)), if_neg (ne_true (any_miss hinv_d)), if_pos (.inr (any_hit hx_g (by simp [Cal.has]; omega)))]; done) | (rw [if_neg (by omega), if_neg (ne_true (any_miss hinv_a)), if_neg (ne_true (any_miss hinv_b)), if_neg (not_not_intro (ord_all hinv_k)), if_neg (ne_true (any_miss hinv_d)), if_neg (not_or.2 ⟨not_not_intro (by omega), ne_true (any_miss hinv_g)⟩)]; done)
  ·
    have q1 := Nrm.nrm h1
    refine Ch.yes rfl rfl rfl h1 rfl (by decide) (ok_fieldAddr rfl fo27_2 (vl rfl) rfl) ?_
    refine Ch.yes rfl rfl rfl h1 rfl (by decide) (ok_load1 rfl one22 (vl rfl)) ?_
    first
      | refine Ch.yes rfl rfl rfl h1 rfl (by decide) (ok_lenm rfl Try.underlying22 (vl rfl)) ?_
      | refine Ch.yes rfl rfl rfl h1 rfl (by decide) (ok_len rfl Try.underlying22 (vl rfl)) ?_
    refine Ch.yes rfl rfl rfl h1 rfl (by decide) (ok_int rfl (vl rfl) (vl rfl) rfl) ?_
    refine Ch.op rfl rfl (by decide) (ok_pick_f rfl (vl rfl) h1 (vl rfl)) ?_
    refine Ch.nil ?_
    refine Fin.go ?_
    refine Tr.cond rfl (fun h2 => ?_) (fun h2 => ?_)
    ·
      have q2 := Nrm.nrm h2
      refine Tr.seq ?_
      refine Tr.reg0 ?_
      refine Ch.op rfl rfl (by decide) (ok_assign rfl (vl rfl)) ?_
      refine Ch.nil ?_
      refine Fin.go ?_
      refine Tr.ret ?_
      refine Fin.then_ret ?_
      refine Fin.ret1 rfl (OutW.bse _ _) rfl ?_
      · refine int_eq ?_; unfold Cal.check; first | (rw [if_pos (by omega)]; done) | (rw [if_neg (by omega), if_pos (any_hit hx_a (by simp [badRoom]; omega))]; done) | (rw [if_neg (by omega), if_neg (ne_true (any_miss hinv_a)), if_pos (any_hit hx_b (by simp [badWin]; omega))]; done) | (rw [if_neg (by omega), if_neg (ne_true (any_miss hinv_a)), if_neg (ne_true (any_miss hinv_b)), if_pos (not_ordW (by omega) hx_k hpw (by assumption))]; done) | (rw [if_neg (by omega), if_neg (ne_true (any_miss hinv_a)), if_neg (ne_true (any_miss hinv_b)), if_pos (not_ordT hx_k (by omega) ht hu (by omega))]; done) | (rw [if_neg (by omega), if_neg (ne_true (any_miss hinv_a)), if_neg (ne_true (any_miss hinv_b)), if_neg (not_not_intro (ord_all hinv_k)), if_pos (any_hit hx_d (any_hit hx_e (by simp [Cal.has]; omega)))]; done) | (rw [if_neg (by omega), if_neg (ne_true (any_miss hinv_a)), if_neg (ne_true (any_miss hinv_b)), if_neg (not_not_intro (ord_all hinv_k)), if_neg (ne_true (any_miss hinv_d)), if_pos (.inl (by assumption))]; done) | (rw [if_neg (by omega), if_neg (ne_true (any_miss hinv_a)), if_neg (ne_true (any_miss hinv_b)), if_neg (not_not_intro (ord_all hinv_k)), if_neg (ne_true (any_miss hinv_d)), if_pos (.inr (any_hit hx_g (by simp [Cal.has]; omega)))]; done) | (rw [if_neg (by omega), if_neg (ne_true (any_miss hinv_a)), if_neg (ne_true (any_miss hinv_b)), if_neg (not_not_intro (ord_all hinv_k)), if_neg (ne_true (any_miss hinv_d)), if_neg (not_or.2 ⟨not_not_intro (by omega), ne_true (any_miss hinv_g)⟩)]; done)
    ·
      have q2 := Nrm.nrm h2
      refine Tr.skip ?_
      refine Fin.go ?_
      refine Tr.seq ?_
      refine Tr.seq ?_
      refine Tr.reg0 ?_
      refine Ch.op rfl rfl (by decide) (ok_fieldAddr rfl fo27_2 (vl rfl) rfl) ?_
      refine Ch.op rfl rfl (by decide) (ok_load1 rfl one22 (vl rfl)) ?_
      first
        | refine Ch.op rfl rfl (by decide) (ok_lenm rfl Try.underlying22 (vl rfl)) ?_
        | refine Ch.op rfl rfl (by decide) (ok_len rfl Try.underlying22 (vl rfl)) ?_
      refine Ch.op rfl rfl (by decide) (ok_move rfl (vl rfl)) ?_
      refine Ch.nil ?_
      refine Fin.go ?_
      refine Tr.weak [(1, _), (2, _), (29, _), (30, _), (31, _)] ⟨⟨_, rfl, Pr.le_refl _⟩, ⟨_, rfl, Pr.le_refl _⟩, ⟨_, rfl, Pr.le_refl _⟩, ⟨_, rfl, Pr.le_refl _⟩, ⟨_, rfl, Pr.le_refl _⟩, trivial⟩ ?_
      refine Tr.block ?_
      refine Tr.loopw [(1, _), (2, _), (29, _), (30, _)] ⟨⟨_, rfl, Pr.le_refl _⟩, ⟨_, rfl, Pr.le_refl _⟩, ⟨_, rfl, Pr.le_refl _⟩, ⟨_, rfl, Pr.le_refl _⟩, trivial⟩ (fun a : Nat => [(31, int ((a : Nat) : Int))]) (fun a : Nat => a ≤ (c.room).length ∧ (Upto badRoom c.room a)) (fun a : Nat => (c.room).length - a) 0 (⟨Nat.zero_le _, upto_0 _ _⟩) ⟨⟨_, rfl, Pr.le_refl _⟩, trivial⟩ ?_
      rintro a ⟨hle_a, hinv_a⟩
      refine Tr.seq ?_
      refine Tr.reg0 ?_
      refine Ch.op rfl rfl (by decide) (ok_int rfl (vl rfl) (vl rfl) rfl) ?_
      refine Ch.nil ?_
      refine Fin.go ?_
      refine Tr.seq ?_
      refine Tr.cond rfl (fun h3 => ?_) (fun h3 => ?_)
      ·
        have q3 := Nrm.nrm h3
        have hk_a : a < (c.room).length := lt_of_dec h3
        obtain ⟨r, hx_a⟩ := at_ hk_a
        refine Tr.skip ?_
        refine Fin.go ?_
        refine Tr.seq ?_
        refine Tr.block ?_
        refine Tr.seq ?_
        refine Tr.reg0 ?_
        refine Ch.op rfl rfl (by decide) (ok_indexAddr rfl Try.underlying22 sz3 (vl rfl) (vl rfl) (by omega) (by first | exact row_at (by assumption) | exact row_atI (by assumption) | assumption)) ?_
        refine Ch.op rfl rfl (by decide) (ok_load1 rfl one3 (vl rfl)) ?_
        refine Ch.op rfl rfl (by decide) (ok_assign rfl (vl rfl)) ?_
        refine Ch.nil ?_
        refine Fin.go ?_
        refine Tr.seq ?_
        refine Tr.reg0 ?_
        refine Ch.op rfl rfl (by decide) (ok_move rfl (vl rfl)) ?_
        refine Ch.op rfl rfl (by decide) (ok_int rfl (vl rfl) (vl rfl) rfl) ?_
        refine Ch.op rfl rfl (by decide) (ok_move rfl (vl rfl)) ?_
        refine Ch.cases 37 rfl (fun h4 => ?_) (fun h4 => ?_)
        ·
          have q4 := Nrm.nrm h4
          refine Ch.no rfl rfl rfl (ne_false h4) rfl (by decide) ?_
          refine Ch.no rfl rfl rfl (ne_false h4) rfl (by decide) ?_
          refine Ch.op rfl rfl (by decide) (ok_pick_t rfl (vl rfl) h4 (vl rfl)) ?_
          refine Ch.nil ?_
          refine Fin.go ?_
          refine Tr.weak [(1, _), (2, _), (29, _), (30, _), (31, _), (40, _)] ⟨⟨_, rfl, Pr.le_refl _⟩, ⟨_, rfl, Pr.le_refl _⟩, ⟨_, rfl, Pr.le_refl _⟩, ⟨_, rfl, Pr.le_refl _⟩, ⟨_, rfl, Pr.le_refl _⟩, ⟨_, rfl, Pr.le_refl _⟩, trivial⟩ ?_
          refine Tr.cond rfl (fun _ => ?_) (fun h => nomatch h)
          refine Tr.seq ?_
          refine Tr.reg0 ?_
          refine Ch.op rfl rfl (by decide) (ok_assign rfl (vl rfl)) ?_
          refine Ch.nil ?_
          refine Fin.go ?_
          refine Tr.ret ?_
          refine Fin.block_ret ?_
          refine Fin.then_ret ?_
          refine Fin.then_ret ?_
          refine Fin.block_ret ?_
          refine Fin.then_ret ?_
          refine Fin.ret1 rfl (OutW.bse _ _) rfl ?_
          · refine int_eq ?_; unfold Cal.check; first | (rw [if_pos (by omega)]; done) | (rw [if_neg (by omega), if_pos (any_hit hx_a (by simp [badRoom]; omega))]; done) | (rw [if_neg (by omega), if_neg (ne_true (any_miss hinv_a)), if_pos (any_hit hx_b (by simp [badWin]; omega))]; done) | (rw [if_neg (by omega), if_neg (ne_true (any_miss hinv_a)), if_neg (ne_true (any_miss hinv_b)), if_pos (not_ordW (by omega) hx_k hpw (by assumption))]; done) | (rw [if_neg (by omega), if_neg (ne_true (any_miss hinv_a)), if_neg (ne_true (any_miss hinv_b)), if_pos (not_ordT hx_k (by omega) ht hu (by omega))]; done) | (rw [if_neg (by omega), if_neg (ne_true (any_miss hinv_a)), if_neg (ne_true (any_miss hinv_b)), if_neg (not_not_intro (ord_all hinv_k)), if_pos (any_hit hx_d (any_hit hx_e (by simp [Cal.has]; omega)))]; done) | (rw [if_neg (by omega), if_neg (ne_true (any_miss hinv_a)), if_neg (ne_true (any_miss hinv_b)), if_neg (not_not_intro (ord_all hinv_k)), if_neg (ne_true (any_miss hinv_d)), if_pos (.inl (by assumption))]; done) | (rw [if_neg (by omega), if_neg (ne_true (any_miss hinv_a)), if_neg (ne_true (any_miss hinv_b)), if_neg (not_not_intro (ord_all hinv_k)), if_neg (ne_true (any_miss hinv_d)), if_pos (.inr (any_hit hx_g (by simp [Cal.has]; omega)))]; done) | (rw [if_neg (by omega), if_neg (ne_true (any_miss hinv_a)), if_neg (ne_true (any_miss hinv_b)), if_neg (not_not_intro (ord_all hinv_k)), if_neg (ne_true (any_miss hinv_d)), if_neg (not_or.2 ⟨not_not_intro (by omega), ne_true (any_miss hinv_g)⟩)]; done)
        ·
          have q4 := Nrm.nrm h4
          refine Ch.yes rfl rfl rfl h4 rfl (by decide) (ok_move rfl (vl rfl)) ?_
          refine Ch.yes rfl rfl rfl h4 rfl (by decide) (ok_int rfl (vl rfl) (vl rfl) rfl) ?_
          refine Ch.op rfl rfl (by decide) (ok_pick_f rfl (vl rfl) h4 (vl rfl)) ?_
          refine Ch.nil ?_
          refine Fin.go ?_
          refine Tr.weak [(1, _), (2, _), (29, _), (30, _), (31, _), (40, _)] ⟨⟨_, rfl, Pr.le_refl _⟩, ⟨_, rfl, Pr.le_refl _⟩, ⟨_, rfl, Pr.le_refl _⟩, ⟨_, rfl, Pr.le_refl _⟩, ⟨_, rfl, Pr.le_refl _⟩, ⟨_, rfl, Pr.le_refl _⟩, trivial⟩ ?_
          refine Tr.cond rfl (fun h5 => ?_) (fun h5 => ?_)
          ·
            have q5 := Nrm.nrm h5
            refine Tr.seq ?_
            refine Tr.reg0 ?_
            refine Ch.op rfl rfl (by decide) (ok_assign rfl (vl rfl)) ?_
            refine Ch.nil ?_
            refine Fin.go ?_
            refine Tr.ret ?_
            refine Fin.block_ret ?_
            refine Fin.then_ret ?_
            refine Fin.then_ret ?_
            refine Fin.block_ret ?_
            refine Fin.then_ret ?_
            refine Fin.ret1 rfl (OutW.bse _ _) rfl ?_
            · refine int_eq ?_; unfold Cal.check; first | (rw [if_pos (by omega)]; done) | (rw [if_neg (by omega), if_pos (any_hit hx_a (by simp [badRoom]; omega))]; done) | (rw [if_neg (by omega), if_neg (ne_true (any_miss hinv_a)), if_pos (any_hit hx_b (by simp [badWin]; omega))]; done) | (rw [if_neg (by omega), if_neg (ne_true (any_miss hinv_a)), if_neg (ne_true (any_miss hinv_b)), if_pos (not_ordW (by omega) hx_k hpw (by assumption))]; done) | (rw [if_neg (by omega), if_neg (ne_true (any_miss hinv_a)), if_neg (ne_true (any_miss hinv_b)), if_pos (not_ordT hx_k (by omega) ht hu (by omega))]; done) | (rw [if_neg (by omega), if_neg (ne_true (any_miss hinv_a)), if_neg (ne_true (any_miss hinv_b)), if_neg (not_not_intro (ord_all hinv_k)), if_pos (any_hit hx_d (any_hit hx_e (by simp [Cal.has]; omega)))]; done) | (rw [if_neg (by omega), if_neg (ne_true (any_miss hinv_a)), if_neg (ne_true (any_miss hinv_b)), if_neg (not_not_intro (ord_all hinv_k)), if_neg (ne_true (any_miss hinv_d)), if_pos (.inl (by assumption))]; done) | (rw [if_neg (by omega), if_neg (ne_true (any_miss hinv_a)), if_neg (ne_true (any_miss hinv_b)), if_neg (not_not_intro (ord_all hinv_k)), if_neg (ne_true (any_miss hinv_d)), if_pos (.inr (any_hit hx_g (by simp [Cal.has]; omega)))]; done) | (rw [if_neg (by omega), if_neg (ne_true (any_miss hinv_a)), if_neg (ne_true (any_miss hinv_b)), if_neg (not_not_intro (ord_all hinv_k)), if_neg (ne_true (any_miss hinv_d)), if_neg (not_or.2 ⟨not_not_intro (by omega), ne_true (any_miss hinv_g)⟩)]; done)
          ·
            have q5 := Nrm.nrm h5
            refine Tr.skip ?_
            refine Fin.block ?_
            refine Fin.go ?_
            refine Tr.reg0 ?_
            first
              | (refine Ch.op rfl rfl (by decide) (ok_add rfl (vl rfl) (vl rfl) ?hin) ?_; case hin => unfold InI; omega)
              | refine Ch.op rfl rfl (by decide) (ok_int rfl (vl rfl) (vl rfl) rfl) ?_
            refine Ch.op rfl rfl (by decide) (ok_move rfl (vl rfl)) ?_
            refine Ch.nil ?_
            exact Fin.fam_same (a + 1) ⟨⟨hk_a, upto_s hx_a (by simp [badRoom]; omega) hinv_a⟩, by omega⟩ ⟨⟨_, rfl, int_succ a⟩, ⟨_, rfl, Pr.le_refl _⟩, ⟨_, rfl, Pr.le_refl _⟩, ⟨_, rfl, Pr.le_refl _⟩, ⟨_, rfl, Pr.le_refl _⟩, trivial⟩
      ·
        have q3 := Nrm.nrm h3
        have he_a : a = (c.room).length := by have := ge_of_dec h3; omega
        subst he_a
        refine Tr.exit ?_
        refine Fin.then_exit ?_
        refine Fin.then_exit ?_
        refine Fin.block_here ?_
        refine Fin.go ?_
        refine Tr.seq ?_
        refine Tr.seq ?_
        refine Tr.reg0 ?_
        refine Ch.op rfl rfl (by decide) (ok_fieldAddr rfl fo27_0 (vl rfl) rfl) ?_
        refine Ch.op rfl rfl (by decide) (ok_load1 rfl one25 (vl rfl)) ?_
        first
          | refine Ch.op rfl rfl (by decide) (ok_lenm rfl Try.underlying25 (vl rfl)) ?_
          | refine Ch.op rfl rfl (by decide) (ok_len rfl Try.underlying25 (vl rfl)) ?_
        refine Ch.op rfl rfl (by decide) (ok_move rfl (vl rfl)) ?_
        refine Ch.nil ?_
        refine Fin.go ?_
        refine Tr.block ?_
        refine Tr.loopw [(1, _), (2, _), (43, _), (44, _)] ⟨⟨_, rfl, Pr.le_refl _⟩, ⟨_, rfl, Pr.le_refl _⟩, ⟨_, rfl, Pr.le_refl _⟩, ⟨_, rfl, Pr.le_refl _⟩, trivial⟩ (fun b : Nat => [(45, int ((b : Nat) : Int))]) (fun b : Nat => b ≤ (c.wins).length ∧ (Upto badWin c.wins b)) (fun b : Nat => (c.wins).length - b) 0 (⟨Nat.zero_le _, upto_0 _ _⟩) ⟨⟨_, rfl, Pr.le_refl _⟩, trivial⟩ ?_
        rintro b ⟨hle_b, hinv_b⟩
        refine Tr.seq ?_
        refine Tr.reg0 ?_
        refine Ch.op rfl rfl (by decide) (ok_int rfl (vl rfl) (vl rfl) rfl) ?_
        refine Ch.nil ?_
        refine Fin.go ?_
        refine Tr.seq ?_
        refine Tr.cond rfl (fun h6 => ?_) (fun h6 => ?_)
        ·
          have q6 := Nrm.nrm h6
          have hk_b : b < (c.wins).length := lt_of_dec h6
          obtain ⟨w, hx_b⟩ := at_ hk_b
          refine Tr.skip ?_
          refine Fin.go ?_
          refine Tr.seq ?_
          refine Tr.block ?_
          refine Tr.seq ?_
          refine Tr.regT ?_
          refine TO.op rfl rfl (by decide) (ok_indexAddr rfl Try.underlying25 sz45 (vl rfl) (vl rfl) (by omega) (by first | exact row_at (by assumption) | exact row_atI (by assumption) | assumption)) ?_
          refine TO.op rfl rfl (by decide) (ok_loadA rfl agg45 sz45 (vl rfl) rfl rfl) ?_
          refine TO.alloc rfl rfl (by decide) rfl z45 zo45 (fun b1 => ?_)
          refine TO.store_all 0 rfl rfl rfl (vl rfl) (VL.le (vl rfl) (agg_cellsP _)) rfl sz45 rfl rfl ?_
          refine TO.freeze 0 8 rfl rfl ?_
          refine TO.nil ?_
          refine Fin.go ?_
          refine Tr.seq ?_
          refine Tr.reg0 ?_
          refine Ch.op rfl rfl (by decide) (ok_fieldAddr rfl fo45_0 (vl rfl) rfl) ?_
          refine Ch.op rfl rfl (by decide) (ok_fieldAddr rfl fo43_0 (vl rfl) rfl) ?_
          refine Ch.op rfl rfl (by decide) (ok_load1 rfl one3 (vl rfl)) ?_
          refine Ch.op rfl rfl (by decide) (ok_int rfl (vl rfl) (vl rfl) rfl) ?_
          refine Ch.op rfl rfl (by decide) (ok_move rfl (vl rfl)) ?_
          refine Ch.cases 53 rfl (fun h7 => ?_) (fun h7 => ?_)
          ·
            have q7 := Nrm.nrm h7
            refine Ch.no rfl rfl rfl (ne_false h7) rfl (by decide) ?_
            refine Ch.no rfl rfl rfl (ne_false h7) rfl (by decide) ?_
            refine Ch.no rfl rfl rfl (ne_false h7) rfl (by decide) ?_
            refine Ch.no rfl rfl rfl (ne_false h7) rfl (by decide) ?_
            refine Ch.no rfl rfl rfl (ne_false h7) rfl (by decide) ?_
            refine Ch.no rfl rfl rfl (ne_false h7) rfl (by decide) ?_
            refine Ch.no rfl rfl rfl (ne_false h7) rfl (by decide) ?_
            refine Ch.op rfl rfl (by decide) (ok_pick_t rfl (vl rfl) h7 (vl rfl)) ?_
            refine Ch.op rfl rfl (by decide) (ok_move rfl (vl rfl)) ?_
            refine Ch.no rfl rfl rfl (by decide) rfl (by decide) ?_
            refine Ch.no rfl rfl rfl (by decide) rfl (by decide) ?_
            refine Ch.no rfl rfl rfl (by decide) rfl (by decide) ?_
            refine Ch.no rfl rfl rfl (by decide) rfl (by decide) ?_
            refine Ch.op rfl rfl (by decide) (ok_pick_t rfl (vl rfl) rfl (vl rfl)) ?_
            refine Ch.nil ?_
            refine Fin.go ?_
            refine Tr.weak [(1, _), (2, _), (43, _), (44, _), (45, _), (67, _)] ⟨⟨_, rfl, Pr.le_refl _⟩, ⟨_, rfl, Pr.le_refl _⟩, ⟨_, rfl, Pr.le_refl _⟩, ⟨_, rfl, Pr.le_refl _⟩, ⟨_, rfl, Pr.le_refl _⟩, ⟨_, rfl, Pr.le_refl _⟩, trivial⟩ ?_
            refine Tr.cond rfl (fun _ => ?_) (fun h => nomatch h)
            refine Tr.seq ?_
            refine Tr.reg0 ?_
            refine Ch.op rfl rfl (by decide) (ok_assign rfl (vl rfl)) ?_
            refine Ch.nil ?_
            refine Fin.go ?_
            refine Tr.ret ?_
            refine Fin.block_ret ?_
            refine Fin.then_ret ?_
            refine Fin.then_ret ?_
            refine Fin.block_ret ?_
            refine Fin.then_ret ?_
            refine Fin.ret1 rfl (OutW.bse _ _) rfl ?_
            · refine int_eq ?_; unfold Cal.check; first | (rw [if_pos (by omega)]; done) | (rw [if_neg (by omega), if_pos (any_hit hx_a (by simp [badRoom]; omega))]; done) | (rw [if_neg (by omega), if_neg (ne_true (any_miss hinv_a)), if_pos (any_hit hx_b (by simp [badWin]; omega))]; done) | (rw [if_neg (by omega), if_neg (ne_true (any_miss hinv_a)), if_neg (ne_true (any_miss hinv_b)), if_pos (not_ordW (by omega) hx_k hpw (by assumption))]; done) | (rw [if_neg (by omega), if_neg (ne_true (any_miss hinv_a)), if_neg (ne_true (any_miss hinv_b)), if_pos (not_ordT hx_k (by omega) ht hu (by omega))]; done) | (rw [if_neg (by omega), if_neg (ne_true (any_miss hinv_a)), if_neg (ne_true (any_miss hinv_b)), if_neg (not_not_intro (ord_all hinv_k)), if_pos (any_hit hx_d (any_hit hx_e (by simp [Cal.has]; omega)))]; done) | (rw [if_neg (by omega), if_neg (ne_true (any_miss hinv_a)), if_neg (ne_true (any_miss hinv_b)), if_neg (not_not_intro (ord_all hinv_k)), if_neg (ne_true (any_miss hinv_d)), if_pos (.inl (by assumption))]; done) | (rw [if_neg (by omega), if_neg (ne_true (any_miss hinv_a)), if_neg (ne_true (any_miss hinv_b)), if_neg (not_not_intro (ord_all hinv_k)), if_neg (ne_true (any_miss hinv_d)), if_pos (.inr (any_hit hx_g (by simp [Cal.has]; omega)))]; done) | (rw [if_neg (by omega), if_neg (ne_true (any_miss hinv_a)), if_neg (ne_true (any_miss hinv_b)), if_neg (not_not_intro (ord_all hinv_k)), if_neg (ne_true (any_miss hinv_d)), if_neg (not_or.2 ⟨not_not_intro (by omega), ne_true (any_miss hinv_g)⟩)]; done)
          ·
            have q7 := Nrm.nrm h7
            refine Ch.yes rfl rfl rfl h7 rfl (by decide) (ok_fieldAddr rfl fo45_0 (vl rfl) rfl) ?_
            refine Ch.yes rfl rfl rfl h7 rfl (by decide) (ok_fieldAddr rfl fo43_0 (vl rfl) rfl) ?_
            refine Ch.yes rfl rfl rfl h7 rfl (by decide) (ok_load1 rfl one3 (vl rfl)) ?_
            refine Ch.yes rfl rfl rfl h7 rfl (by decide) (ok_fieldAddr rfl fo45_0 (vl rfl) rfl) ?_
            refine Ch.yes rfl rfl rfl h7 rfl (by decide) (ok_fieldAddr rfl fo43_1 (vl rfl) rfl) ?_
            refine Ch.yes rfl rfl rfl h7 rfl (by decide) (ok_load1 rfl one3 (vl rfl)) ?_
            refine Ch.yes rfl rfl rfl h7 rfl (by decide) (ok_int rfl (vl rfl) (vl rfl) rfl) ?_
            refine Ch.op rfl rfl (by decide) (ok_pick_f rfl (vl rfl) h7 (vl rfl)) ?_
            refine Ch.op rfl rfl (by decide) (ok_move rfl (vl rfl)) ?_
            refine Ch.cases 62 rfl (fun h8 => ?_) (fun h8 => ?_)
            ·
              have q8 := Nrm.nrm h8
              refine Ch.no rfl rfl rfl (ne_false h8) rfl (by decide) ?_
              refine Ch.no rfl rfl rfl (ne_false h8) rfl (by decide) ?_
              refine Ch.no rfl rfl rfl (ne_false h8) rfl (by decide) ?_
              refine Ch.no rfl rfl rfl (ne_false h8) rfl (by decide) ?_
              refine Ch.op rfl rfl (by decide) (ok_pick_t rfl (vl rfl) h8 (vl rfl)) ?_
              refine Ch.nil ?_
              refine Fin.go ?_
              refine Tr.weak [(1, _), (2, _), (43, _), (44, _), (45, _), (67, _)] ⟨⟨_, rfl, Pr.le_refl _⟩, ⟨_, rfl, Pr.le_refl _⟩, ⟨_, rfl, Pr.le_refl _⟩, ⟨_, rfl, Pr.le_refl _⟩, ⟨_, rfl, Pr.le_refl _⟩, ⟨_, rfl, Pr.le_refl _⟩, trivial⟩ ?_
              refine Tr.cond rfl (fun _ => ?_) (fun h => nomatch h)
              refine Tr.seq ?_
              refine Tr.reg0 ?_
              refine Ch.op rfl rfl (by decide) (ok_assign rfl (vl rfl)) ?_
              refine Ch.nil ?_
              refine Fin.go ?_
              refine Tr.ret ?_
              refine Fin.block_ret ?_
              refine Fin.then_ret ?_
              refine Fin.then_ret ?_
              refine Fin.block_ret ?_
              refine Fin.then_ret ?_
              refine Fin.ret1 rfl (OutW.bse _ _) rfl ?_
              · refine int_eq ?_; unfold Cal.check; first | (rw [if_pos (by omega)]; done) | (rw [if_neg (by omega), if_pos (any_hit hx_a (by simp [badRoom]; omega))]; done) | (rw [if_neg (by omega), if_neg (ne_true (any_miss hinv_a)), if_pos (any_hit hx_b (by simp [badWin]; omega))]; done) | (rw [if_neg (by omega), if_neg (ne_true (any_miss hinv_a)), if_neg (ne_true (any_miss hinv_b)), if_pos (not_ordW (by omega) hx_k hpw (by assumption))]; done) | (rw [if_neg (by omega), if_neg (ne_true (any_miss hinv_a)), if_neg (ne_true (any_miss hinv_b)), if_pos (not_ordT hx_k (by omega) ht hu (by omega))]; done) | (rw [if_neg (by omega), if_neg (ne_true (any_miss hinv_a)), if_neg (ne_true (any_miss hinv_b)), if_neg (not_not_intro (ord_all hinv_k)), if_pos (any_hit hx_d (any_hit hx_e (by simp [Cal.has]; omega)))]; done) | (rw [if_neg (by omega), if_neg (ne_true (any_miss hinv_a)), if_neg (ne_true (any_miss hinv_b)), if_neg (not_not_intro (ord_all hinv_k)), if_neg (ne_true (any_miss hinv_d)), if_pos (.inl (by assumption))]; done) | (rw [if_neg (by omega), if_neg (ne_true (any_miss hinv_a)), if_neg (ne_true (any_miss hinv_b)), if_neg (not_not_intro (ord_all hinv_k)), if_neg (ne_true (any_miss hinv_d)), if_pos (.inr (any_hit hx_g (by simp [Cal.has]; omega)))]; done) | (rw [if_neg (by omega), if_neg (ne_true (any_miss hinv_a)), if_neg (ne_true (any_miss hinv_b)), if_neg (not_not_intro (ord_all hinv_k)), if_neg (ne_true (any_miss hinv_d)), if_neg (not_or.2 ⟨not_not_intro (by omega), ne_true (any_miss hinv_g)⟩)]; done)
            ·
              have q8 := Nrm.nrm h8
              refine Ch.yes rfl rfl rfl h8 rfl (by decide) (ok_fieldAddr rfl fo45_0 (vl rfl) rfl) ?_
              refine Ch.yes rfl rfl rfl h8 rfl (by decide) (ok_fieldAddr rfl fo43_1 (vl rfl) rfl) ?_
              refine Ch.yes rfl rfl rfl h8 rfl (by decide) (ok_load1 rfl one3 (vl rfl)) ?_
              refine Ch.yes rfl rfl rfl h8 rfl (by decide) (ok_int rfl (vl rfl) (vl rfl) rfl) ?_
              refine Ch.op rfl rfl (by decide) (ok_pick_f rfl (vl rfl) h8 (vl rfl)) ?_
              refine Ch.nil ?_
              refine Fin.go ?_
              refine Tr.weak [(1, _), (2, _), (43, _), (44, _), (45, _), (67, _)] ⟨⟨_, rfl, Pr.le_refl _⟩, ⟨_, rfl, Pr.le_refl _⟩, ⟨_, rfl, Pr.le_refl _⟩, ⟨_, rfl, Pr.le_refl _⟩, ⟨_, rfl, Pr.le_refl _⟩, ⟨_, rfl, Pr.le_refl _⟩, trivial⟩ ?_
              refine Tr.cond rfl (fun h9 => ?_) (fun h9 => ?_)
              ·
                have q9 := Nrm.nrm h9
                refine Tr.seq ?_
                refine Tr.reg0 ?_
                refine Ch.op rfl rfl (by decide) (ok_assign rfl (vl rfl)) ?_
                refine Ch.nil ?_
                refine Fin.go ?_
                refine Tr.ret ?_
                refine Fin.block_ret ?_
                refine Fin.then_ret ?_
                refine Fin.then_ret ?_
                refine Fin.block_ret ?_
                refine Fin.then_ret ?_
                refine Fin.ret1 rfl (OutW.bse _ _) rfl ?_
                · refine int_eq ?_; unfold Cal.check; first | (rw [if_pos (by omega)]; done) | (rw [if_neg (by omega), if_pos (any_hit hx_a (by simp [badRoom]; omega))]; done) | (rw [if_neg (by omega), if_neg (ne_true (any_miss hinv_a)), if_pos (any_hit hx_b (by simp [badWin]; omega))]; done) | (rw [if_neg (by omega), if_neg (ne_true (any_miss hinv_a)), if_neg (ne_true (any_miss hinv_b)), if_pos (not_ordW (by omega) hx_k hpw (by assumption))]; done) | (rw [if_neg (by omega), if_neg (ne_true (any_miss hinv_a)), if_neg (ne_true (any_miss hinv_b)), if_pos (not_ordT hx_k (by omega) ht hu (by omega))]; done) | (rw [if_neg (by omega), if_neg (ne_true (any_miss hinv_a)), if_neg (ne_true (any_miss hinv_b)), if_neg (not_not_intro (ord_all hinv_k)), if_pos (any_hit hx_d (any_hit hx_e (by simp [Cal.has]; omega)))]; done) | (rw [if_neg (by omega), if_neg (ne_true (any_miss hinv_a)), if_neg (ne_true (any_miss hinv_b)), if_neg (not_not_intro (ord_all hinv_k)), if_neg (ne_true (any_miss hinv_d)), if_pos (.inl (by assumption))]; done) | (rw [if_neg (by omega), if_neg (ne_true (any_miss hinv_a)), if_neg (ne_true (any_miss hinv_b)), if_neg (not_not_intro (ord_all hinv_k)), if_neg (ne_true (any_miss hinv_d)), if_pos (.inr (any_hit hx_g (by simp [Cal.has]; omega)))]; done) | (rw [if_neg (by omega), if_neg (ne_true (any_miss hinv_a)), if_neg (ne_true (any_miss hinv_b)), if_neg (not_not_intro (ord_all hinv_k)), if_neg (ne_true (any_miss hinv_d)), if_neg (not_or.2 ⟨not_not_intro (by omega), ne_true (any_miss hinv_g)⟩)]; done)
              ·
                have q9 := Nrm.nrm h9
                refine Tr.skip ?_
                refine Fin.block ?_
                refine Fin.go ?_
                refine Tr.reg0 ?_
                first
                  | (refine Ch.op rfl rfl (by decide) (ok_add rfl (vl rfl) (vl rfl) ?hin) ?_; case hin => unfold InI; omega)
                  | refine Ch.op rfl rfl (by decide) (ok_int rfl (vl rfl) (vl rfl) rfl) ?_
                refine Ch.op rfl rfl (by decide) (ok_move rfl (vl rfl)) ?_
                refine Ch.nil ?_
                exact Fin.fam_same (b + 1) ⟨⟨hk_b, upto_s hx_b (by simp [badWin]; omega) hinv_b⟩, by omega⟩ ⟨⟨_, rfl, int_succ b⟩, ⟨_, rfl, Pr.le_refl _⟩, ⟨_, rfl, Pr.le_refl _⟩, ⟨_, rfl, Pr.le_refl _⟩, ⟨_, rfl, Pr.le_refl _⟩, trivial⟩
        ·
          have q6 := Nrm.nrm h6
          have he_b : b = (c.wins).length := by have := ge_of_dec h6; omega
          subst he_b
          refine Tr.exit ?_
          refine Fin.then_exit ?_
          refine Fin.then_exit ?_
          refine Fin.block_here ?_
          refine Fin.go ?_
          refine Tr.seq ?_
          refine Tr.seq ?_
          refine Tr.reg0 ?_
          refine Ch.op rfl rfl (by decide) (ok_fieldAddr rfl fo27_0 (vl rfl) rfl) ?_
          refine Ch.op rfl rfl (by decide) (ok_load1 rfl one25 (vl rfl)) ?_
          first
            | refine Ch.op rfl rfl (by decide) (ok_lenm rfl Try.underlying25 (vl rfl)) ?_
            | refine Ch.op rfl rfl (by decide) (ok_len rfl Try.underlying25 (vl rfl)) ?_
          refine Ch.op rfl rfl (by decide) (ok_move rfl (vl rfl)) ?_
          refine Ch.nil ?_
          refine Fin.go ?_
          refine Tr.block ?_
          refine Tr.loopw [(1, _), (2, _), (70, _), (71, _)] ⟨⟨_, rfl, Pr.le_refl _⟩, ⟨_, rfl, Pr.le_refl _⟩, ⟨_, rfl, Pr.le_refl _⟩, ⟨_, rfl, Pr.le_refl _⟩, trivial⟩ (fun k : Nat => [(72, int ((k : Nat) : Int))]) (fun k : Nat => k ≤ (c.wins).length ∧ ((∀ (j : Nat) a b, j + 1 < k → c.wins[j]? = some a → c.wins[j + 1]? = some b → a.hi ≤ b.lo) ∧ ∀ (j : Nat) a, j < k → c.wins[j]? = some a → OrdT a.teams)) (fun k : Nat => (c.wins).length - k) 0 (⟨Nat.zero_le _, ⟨fun j a b hj => absurd hj (by omega), fun j a hj => absurd hj (by omega)⟩⟩) ⟨⟨_, rfl, Pr.le_refl _⟩, trivial⟩ ?_
          rintro k ⟨hle_k, hinv_k⟩
          refine Tr.seq ?_
          refine Tr.reg0 ?_
          refine Ch.op rfl rfl (by decide) (ok_int rfl (vl rfl) (vl rfl) rfl) ?_
          refine Ch.nil ?_
          refine Fin.go ?_
          refine Tr.seq ?_
          refine Tr.cond rfl (fun h10 => ?_) (fun h10 => ?_)
          ·
            have q10 := Nrm.nrm h10
            have hk_k : k < (c.wins).length := lt_of_dec h10
            obtain ⟨x, hx_k⟩ := at_ hk_k
            refine Tr.skip ?_
            refine Fin.go ?_
            refine Tr.seq ?_
            refine Tr.block ?_
            refine Tr.seq ?_
            refine Tr.regT ?_
            refine TO.op rfl rfl (by decide) (ok_move rfl (vl rfl)) ?_
            refine TO.op rfl rfl (by decide) (ok_indexAddr rfl Try.underlying25 sz45 (vl rfl) (vl rfl) (by omega) (by first | exact row_at (by assumption) | exact row_atI (by assumption) | assumption)) ?_
            refine TO.op rfl rfl (by decide) (ok_loadA rfl agg45 sz45 (vl rfl) rfl rfl) ?_
            refine TO.alloc rfl rfl (by decide) rfl z45 zo45 (fun b2 => ?_)
            refine TO.op rfl rfl (by decide) (ok_assign rfl (vl rfl)) ?_
            refine TO.store_all 0 rfl rfl rfl (vl rfl) (VL.le (vl rfl) (agg_cellsP _)) rfl sz45 rfl rfl ?_
            refine TO.freeze 0 10 rfl rfl ?_
            refine TO.nil ?_
            refine Fin.go ?_
            refine Tr.weak [(1, _), (2, _), (9, _), (10, _), (70, _), (71, _), (72, _)] ⟨⟨_, rfl, Pr.le_refl _⟩, ⟨_, rfl, Pr.le_refl _⟩, ⟨_, rfl, Pr.le_refl _⟩, ⟨_, rfl, Pr.le_refl _⟩, ⟨_, rfl, Pr.le_refl _⟩, ⟨_, rfl, Pr.le_refl _⟩, ⟨_, rfl, Pr.le_refl _⟩, trivial⟩ ?_
            refine Tr.cutk [1, 2, 10, 70, 71, 72] [] (∀ y, 0 < k → c.wins[k - 1]? = some y → y.hi ≤ x.lo) ?_ (fun hprev => ?_)
            ·
              refine Tr.seq ?_
              refine Tr.reg1 mixed (by kernel_rfl) ?_
              refine Ch.op rfl rfl (by decide) (ok_move rfl (vl rfl)) ?_
              refine Ch.op rfl rfl (by decide) (ok_int rfl (vl rfl) (vl rfl) rfl) ?_
              refine Ch.op rfl rfl (by decide) (ok_move rfl (vl rfl)) ?_
              refine Ch.cases 79 rfl (fun h12 => ?_) (fun h12 => ?_)
              ·
                have q12 := Nrm.nrm h12
                obtain ⟨pw, hpw⟩ := at_ (l := c.wins) (k := k - 1) (by omega)
                refine Ch.yes rfl rfl rfl h12 rfl (by decide) (ok_fieldAddr rfl fo45_0 (vl rfl) rfl) ?_
                refine Ch.yes rfl rfl rfl h12 rfl (by decide) (ok_fieldAddr rfl fo43_0 (vl rfl) rfl) ?_
                refine Ch.yes rfl rfl rfl h12 rfl (by decide) (ok_load1 rfl one3 (vl rfl)) ?_
                refine Ch.yes rfl rfl rfl h12 rfl (by decide) (ok_fieldAddr rfl fo27_0 (vl rfl) rfl) ?_
                refine Ch.yes rfl rfl rfl h12 rfl (by decide) (ok_load1 rfl one25 (vl rfl)) ?_
                refine Ch.yes rfl rfl rfl h12 rfl (by decide) (ok_move rfl (vl rfl)) ?_
                first
                  | (refine Ch.yes rfl rfl rfl h12 rfl (by decide) (ok_sub rfl (vl rfl) (vl rfl) ?hin) ?_; case hin => unfold InI; omega)
                  | refine Ch.yes rfl rfl rfl h12 rfl (by decide) (ok_int rfl (vl rfl) (vl rfl) rfl) ?_
                refine Ch.yes rfl rfl rfl h12 rfl (by decide) (ok_indexAddr rfl Try.underlying25 sz45 (vl rfl) (vl rfl) (by omega) (row_pred (by omega) hpw)) ?_
                refine Ch.yes rfl rfl rfl h12 rfl (by decide) (ok_fieldAddr rfl fo45_0 (vl rfl) rfl) ?_
                refine Ch.yes rfl rfl rfl h12 rfl (by decide) (ok_fieldAddr rfl fo43_1 (vl rfl) rfl) ?_
                refine Ch.yes rfl rfl rfl h12 rfl (by decide) (ok_load1 rfl one3 (vl rfl)) ?_
                refine Ch.yes rfl rfl rfl h12 rfl (by decide) (ok_int rfl (vl rfl) (vl rfl) rfl) ?_
                refine Ch.op rfl rfl (by decide) (ok_pick_t rfl (vl rfl) h12 (vl rfl)) ?_
                refine Ch.nil ?_
                refine Fin.go ?_
                refine Tr.weak [(1, _), (2, _), (10, _), (70, _), (71, _), (72, _), (92, _)] ⟨⟨_, rfl, Pr.le_refl _⟩, ⟨_, rfl, Pr.le_refl _⟩, ⟨_, rfl, Pr.le_refl _⟩, ⟨_, rfl, Pr.le_refl _⟩, ⟨_, rfl, Pr.le_refl _⟩, ⟨_, rfl, Pr.le_refl _⟩, ⟨_, rfl, Pr.le_refl _⟩, trivial⟩ ?_
                refine Tr.cond rfl (fun h13 => ?_) (fun h13 => ?_)
                ·
                  have q13 := Nrm.nrm h13
                  refine Tr.seq ?_
                  refine Tr.reg0 ?_
                  refine Ch.op rfl rfl (by decide) (ok_assign rfl (vl rfl)) ?_
                  refine Ch.nil ?_
                  refine Fin.go ?_
                  refine Tr.ret ?_
                  refine Fin.then_ret ?_
                  refine Fin.block_ret ?_
                  refine Fin.then_ret ?_
                  refine Fin.then_ret ?_
                  refine Fin.block_ret ?_
                  refine Fin.then_ret ?_
                  refine Fin.ret1 rfl (OutW.bse _ _) rfl ?_
                  · refine int_eq ?_; unfold Cal.check; first | (rw [if_pos (by omega)]; done) | (rw [if_neg (by omega), if_pos (any_hit hx_a (by simp [badRoom]; omega))]; done) | (rw [if_neg (by omega), if_neg (ne_true (any_miss hinv_a)), if_pos (any_hit hx_b (by simp [badWin]; omega))]; done) | (rw [if_neg (by omega), if_neg (ne_true (any_miss hinv_a)), if_neg (ne_true (any_miss hinv_b)), if_pos (not_ordW (by omega) hx_k hpw (by assumption))]; done) | (rw [if_neg (by omega), if_neg (ne_true (any_miss hinv_a)), if_neg (ne_true (any_miss hinv_b)), if_pos (not_ordT hx_k (by omega) ht hu (by omega))]; done) | (rw [if_neg (by omega), if_neg (ne_true (any_miss hinv_a)), if_neg (ne_true (any_miss hinv_b)), if_neg (not_not_intro (ord_all hinv_k)), if_pos (any_hit hx_d (any_hit hx_e (by simp [Cal.has]; omega)))]; done) | (rw [if_neg (by omega), if_neg (ne_true (any_miss hinv_a)), if_neg (ne_true (any_miss hinv_b)), if_neg (not_not_intro (ord_all hinv_k)), if_neg (ne_true (any_miss hinv_d)), if_pos (.inl (by assumption))]; done) | (rw [if_neg (by omega), if_neg (ne_true (any_miss hinv_a)), if_neg (ne_true (any_miss hinv_b)), if_neg (not_not_intro (ord_all hinv_k)), if_neg (ne_true (any_miss hinv_d)), if_pos (.inr (any_hit hx_g (by simp [Cal.has]; omega)))]; done) | (rw [if_neg (by omega), if_neg (ne_true (any_miss hinv_a)), if_neg (ne_true (any_miss hinv_b)), if_neg (not_not_intro (ord_all hinv_k)), if_neg (ne_true (any_miss hinv_d)), if_neg (not_or.2 ⟨not_not_intro (by omega), ne_true (any_miss hinv_g)⟩)]; done)
                ·
                  have q13 := Nrm.nrm h13
                  refine Tr.skip ?_
                  exact Fin.fam_same () (by intro y' hk' hy'; first | omega | (rw [hpw] at hy'; cases hy'; omega)) ⟨⟨_, rfl, Pr.le_refl _⟩, ⟨_, rfl, Pr.le_refl _⟩, ⟨_, rfl, Pr.le_refl _⟩, ⟨_, rfl, Pr.le_refl _⟩, ⟨_, rfl, Pr.le_refl _⟩, ⟨_, rfl, Pr.le_refl _⟩, trivial⟩
              ·
                have q12 := Nrm.nrm h12
                refine Ch.no rfl rfl rfl (ne_true h12) rfl (by decide) ?_
                refine Ch.no rfl rfl rfl (ne_true h12) rfl (by decide) ?_
                refine Ch.no rfl rfl rfl (ne_true h12) rfl (by decide) ?_
                refine Ch.no rfl rfl rfl (ne_true h12) rfl (by decide) ?_
                refine Ch.no rfl rfl rfl (ne_true h12) rfl (by decide) ?_
                refine Ch.no rfl rfl rfl (ne_true h12) rfl (by decide) ?_
                refine Ch.no rfl rfl rfl (ne_true h12) rfl (by decide) ?_
                refine Ch.no rfl rfl rfl (ne_true h12) rfl (by decide) ?_
                refine Ch.no rfl rfl rfl (ne_true h12) rfl (by decide) ?_
                refine Ch.no rfl rfl rfl (ne_true h12) rfl (by decide) ?_
                refine Ch.no rfl rfl rfl (ne_true h12) rfl (by decide) ?_
                refine Ch.no rfl rfl rfl (ne_true h12) rfl (by decide) ?_
                refine Ch.op rfl rfl (by decide) (ok_pick_f rfl (vl rfl) h12 (vl rfl)) ?_
                refine Ch.nil ?_
                refine Fin.go ?_
                refine Tr.weak [(1, _), (2, _), (10, _), (70, _), (71, _), (72, _), (92, _)] ⟨⟨_, rfl, Pr.le_refl _⟩, ⟨_, rfl, Pr.le_refl _⟩, ⟨_, rfl, Pr.le_refl _⟩, ⟨_, rfl, Pr.le_refl _⟩, ⟨_, rfl, Pr.le_refl _⟩, ⟨_, rfl, Pr.le_refl _⟩, ⟨_, rfl, Pr.le_refl _⟩, trivial⟩ ?_
                refine Tr.cond rfl (fun h => nomatch h) (fun _ => ?_)
                refine Tr.skip ?_
                exact Fin.fam_same () (by intro y' hk' hy'; first | omega | (rw [hpw] at hy'; cases hy'; omega)) ⟨⟨_, rfl, Pr.le_refl _⟩, ⟨_, rfl, Pr.le_refl _⟩, ⟨_, rfl, Pr.le_refl _⟩, ⟨_, rfl, Pr.le_refl _⟩, ⟨_, rfl, Pr.le_refl _⟩, ⟨_, rfl, Pr.le_refl _⟩, trivial⟩
            ·
              refine Tr.seq ?_
              refine Tr.reg0 ?_
              refine Ch.op rfl rfl (by decide) (ok_assign rfl (vl rfl)) ?_
              refine Ch.nil ?_
              refine Fin.go ?_
              refine Tr.block ?_
              refine Tr.loopw [(1, _), (2, _), (10, _), (70, _), (71, _), (72, _)] ⟨⟨_, rfl, Pr.le_refl _⟩, ⟨_, rfl, Pr.le_refl _⟩, ⟨_, rfl, Pr.le_refl _⟩, ⟨_, rfl, Pr.le_refl _⟩, ⟨_, rfl, Pr.le_refl _⟩, ⟨_, rfl, Pr.le_refl _⟩, trivial⟩ (fun i : Nat => [(11, int ((i : Nat) : Int))]) (fun i : Nat => 1 ≤ i ∧ i ≤ max 1 x.teams.length ∧ ∀ (j : Nat) a b, j + 1 < i → x.teams[j]? = some a → x.teams[j + 1]? = some b → a < b) (fun i : Nat => x.teams.length - i) 1 (⟨by omega, by omega, fun j a b hj => absurd hj (by omega)⟩) ⟨⟨_, rfl, Pr.le_refl _⟩, trivial⟩ ?_
              rintro i ⟨hi1, hi2, hinv_i⟩
              refine Tr.seq ?_
              refine Tr.seq ?_
              refine Tr.reg0 ?_
              refine Ch.op rfl rfl (by decide) (ok_move rfl (vl rfl)) ?_
              refine Ch.op rfl rfl (by decide) (ok_fieldAddr rfl fo45_1 (vl rfl) rfl) ?_
              refine Ch.op rfl rfl (by decide) (ok_load1 rfl one22 (vl rfl)) ?_
              first
                | refine Ch.op rfl rfl (by decide) (ok_lenm rfl Try.underlying22 (vl rfl)) ?_
                | refine Ch.op rfl rfl (by decide) (ok_len rfl Try.underlying22 (vl rfl)) ?_
              refine Ch.op rfl rfl (by decide) (ok_int rfl (vl rfl) (vl rfl) rfl) ?_
              refine Ch.nil ?_
              refine Fin.go ?_
              refine Tr.cond rfl (fun h14 => ?_) (fun h14 => ?_)
              ·
                have q14 := Nrm.nrm h14
                have hk_i : i < x.teams.length := lt_of_dec h14
                obtain ⟨t, ht⟩ := at_ hk_i
                obtain ⟨u, hu⟩ := at_ (l := x.teams) (k := i - 1) (by omega)
                refine Tr.lenm 95 rfl fun hlt => ?_
                refine Tr.skip ?_
                refine Fin.go ?_
                refine Tr.seq ?_
                refine Tr.block ?_
                refine Tr.seq ?_
                refine Tr.reg1 mixed (by kernel_rfl) ?_
                refine Ch.op rfl rfl (by decide) (ok_fieldAddr rfl fo45_1 (vl rfl) rfl) ?_
                refine Ch.op rfl rfl (by decide) (ok_load1 rfl one22 (vl rfl)) ?_
                refine Ch.op rfl rfl (by decide) (ok_move rfl (vl rfl)) ?_
                first
                  | (refine Ch.op rfl rfl (by decide) (ok_sub rfl (vl rfl) (vl rfl) ?hin) ?_; case hin => unfold InI; omega)
                  | refine Ch.op rfl rfl (by decide) (ok_int rfl (vl rfl) (vl rfl) rfl) ?_
                refine Ch.op rfl rfl (by decide) (ok_indexAddr rfl Try.underlying22 sz3 (vl rfl) (vl rfl) (by omega) (row_pred (by omega) hu)) ?_
                refine Ch.op rfl rfl (by decide) (ok_load1 rfl one3 (vl rfl)) ?_
                refine Ch.op rfl rfl (by decide) (ok_fieldAddr rfl fo45_1 (vl rfl) rfl) ?_
                refine Ch.op rfl rfl (by decide) (ok_load1 rfl one22 (vl rfl)) ?_
                refine Ch.op rfl rfl (by decide) (ok_move rfl (vl rfl)) ?_
                refine Ch.op rfl rfl (by decide) (ok_indexAddr rfl Try.underlying22 sz3 (vl rfl) (vl rfl) (by omega) (by first | exact row_at (by assumption) | exact row_atI (by assumption) | assumption)) ?_
                refine Ch.op rfl rfl (by decide) (ok_load1 rfl one3 (vl rfl)) ?_
                refine Ch.op rfl rfl (by decide) (ok_int rfl (vl rfl) (vl rfl) rfl) ?_
                refine Ch.nil ?_
                refine Fin.go ?_
                refine Tr.weak [(1, _), (2, _), (10, _), (11, _), (70, _), (71, _), (72, _), (111, _)] ⟨⟨_, rfl, Pr.le_refl _⟩, ⟨_, rfl, Pr.le_refl _⟩, ⟨_, rfl, Pr.le_refl _⟩, ⟨_, rfl, Pr.le_refl _⟩, ⟨_, rfl, Pr.le_refl _⟩, ⟨_, rfl, Pr.le_refl _⟩, ⟨_, rfl, Pr.le_refl _⟩, ⟨_, rfl, Pr.le_refl _⟩, trivial⟩ ?_
                refine Tr.cond rfl (fun h15 => ?_) (fun h15 => ?_)
                ·
                  have q15 := Nrm.nrm h15
                  refine Tr.seq ?_
                  refine Tr.reg0 ?_
                  refine Ch.op rfl rfl (by decide) (ok_assign rfl (vl rfl)) ?_
                  refine Ch.nil ?_
                  refine Fin.go ?_
                  refine Tr.ret ?_
                  refine Fin.block_ret ?_
                  refine Fin.then_ret ?_
                  refine Fin.then_ret ?_
                  refine Fin.block_ret ?_
                  refine Fin.block_ret ?_
                  refine Fin.then_ret ?_
                  refine Fin.then_ret ?_
                  refine Fin.block_ret ?_
                  refine Fin.then_ret ?_
                  refine Fin.ret1 rfl (OutW.bse _ _) rfl ?_
                  · refine int_eq ?_; unfold Cal.check; first | (rw [if_pos (by omega)]; done) | (rw [if_neg (by omega), if_pos (any_hit hx_a (by simp [badRoom]; omega))]; done) | (rw [if_neg (by omega), if_neg (ne_true (any_miss hinv_a)), if_pos (any_hit hx_b (by simp [badWin]; omega))]; done) | (rw [if_neg (by omega), if_neg (ne_true (any_miss hinv_a)), if_neg (ne_true (any_miss hinv_b)), if_pos (not_ordW (by omega) hx_k hpw (by assumption))]; done) | (rw [if_neg (by omega), if_neg (ne_true (any_miss hinv_a)), if_neg (ne_true (any_miss hinv_b)), if_pos (not_ordT hx_k (by omega) ht hu (by omega))]; done) | (rw [if_neg (by omega), if_neg (ne_true (any_miss hinv_a)), if_neg (ne_true (any_miss hinv_b)), if_neg (not_not_intro (ord_all hinv_k)), if_pos (any_hit hx_d (any_hit hx_e (by simp [Cal.has]; omega)))]; done) | (rw [if_neg (by omega), if_neg (ne_true (any_miss hinv_a)), if_neg (ne_true (any_miss hinv_b)), if_neg (not_not_intro (ord_all hinv_k)), if_neg (ne_true (any_miss hinv_d)), if_pos (.inl (by assumption))]; done) | (rw [if_neg (by omega), if_neg (ne_true (any_miss hinv_a)), if_neg (ne_true (any_miss hinv_b)), if_neg (not_not_intro (ord_all hinv_k)), if_neg (ne_true (any_miss hinv_d)), if_pos (.inr (any_hit hx_g (by simp [Cal.has]; omega)))]; done) | (rw [if_neg (by omega), if_neg (ne_true (any_miss hinv_a)), if_neg (ne_true (any_miss hinv_b)), if_neg (not_not_intro (ord_all hinv_k)), if_neg (ne_true (any_miss hinv_d)), if_neg (not_or.2 ⟨not_not_intro (by omega), ne_true (any_miss hinv_g)⟩)]; done)
                ·
                  have q15 := Nrm.nrm h15
                  refine Tr.skip ?_
                  refine Fin.block ?_
                  refine Fin.go ?_
                  refine Tr.reg0 ?_
                  refine Ch.op rfl rfl (by decide) (ok_move rfl (vl rfl)) ?_
                  first
                    | (refine Ch.op rfl rfl (by decide) (ok_add rfl (vl rfl) (vl rfl) ?hin) ?_; case hin => unfold InI; omega)
                    | refine Ch.op rfl rfl (by decide) (ok_int rfl (vl rfl) (vl rfl) rfl) ?_
                  refine Ch.op rfl rfl (by decide) (ok_assign rfl (vl rfl)) ?_
                  refine Ch.nil ?_
                  exact Fin.fam_same (i + 1) ⟨⟨by omega, by omega, step_ordT ht (by intro y' hk' hy'; rw [hu] at hy'; cases hy'; omega) hinv_i⟩, by omega⟩ ⟨⟨_, rfl, int_succ i⟩, ⟨_, rfl, Pr.le_refl _⟩, ⟨_, rfl, Pr.le_refl _⟩, ⟨_, rfl, Pr.le_refl _⟩, ⟨_, rfl, Pr.le_refl _⟩, ⟨_, rfl, Pr.le_refl _⟩, ⟨_, rfl, Pr.le_refl _⟩, trivial⟩
              ·
                have q14 := Nrm.nrm h14
                have hge : x.teams.length ≤ i := ge_of_dec h14
                have hall : ∀ (j : Nat) a b, j + 1 < x.teams.length → x.teams[j]? = some a → x.teams[j + 1]? = some b → a < b := fun j a b hj => hinv_i j a b (by omega)
                refine Tr.exit ?_
                refine Fin.then_exit ?_
                refine Fin.then_exit ?_
                refine Fin.block_here ?_
                refine Fin.block ?_
                refine Fin.go ?_
                refine Tr.reg0 ?_
                first
                  | (refine Ch.op rfl rfl (by decide) (ok_add rfl (vl rfl) (vl rfl) ?hin) ?_; case hin => unfold InI; omega)
                  | refine Ch.op rfl rfl (by decide) (ok_int rfl (vl rfl) (vl rfl) rfl) ?_
                refine Ch.op rfl rfl (by decide) (ok_move rfl (vl rfl)) ?_
                refine Ch.nil ?_
                exact Fin.fam_same (k + 1) ⟨⟨hk_k, ⟨step_ordW hx_k hprev hinv_k.1, step_lt hx_k hall hinv_k.2⟩⟩, by omega⟩ ⟨⟨_, rfl, int_succ k⟩, ⟨_, rfl, Pr.le_refl _⟩, ⟨_, rfl, Pr.le_refl _⟩, ⟨_, rfl, Pr.le_refl _⟩, ⟨_, rfl, Pr.le_refl _⟩, trivial⟩
          ·
            have q10 := Nrm.nrm h10
            have he_k : k = (c.wins).length := by have := ge_of_dec h10; omega
            subst he_k
            refine Tr.exit ?_
            refine Fin.then_exit ?_
            refine Fin.then_exit ?_
            refine Fin.block_here ?_
            refine Fin.go ?_
            refine Tr.seq ?_
            refine Tr.seq ?_
            refine Tr.reg0 ?_
            refine Ch.op rfl rfl (by decide) (ok_fieldAddr rfl fo27_0 (vl rfl) rfl) ?_
            refine Ch.op rfl rfl (by decide) (ok_load1 rfl one25 (vl rfl)) ?_
            first
              | refine Ch.op rfl rfl (by decide) (ok_lenm rfl Try.underlying25 (vl rfl)) ?_
              | refine Ch.op rfl rfl (by decide) (ok_len rfl Try.underlying25 (vl rfl)) ?_
            refine Ch.op rfl rfl (by decide) (ok_move rfl (vl rfl)) ?_
            refine Ch.nil ?_
            refine Fin.go ?_
            refine Tr.block ?_
            refine Tr.loopw [(1, _), (2, _), (114, _), (115, _)] ⟨⟨_, rfl, Pr.le_refl _⟩, ⟨_, rfl, Pr.le_refl _⟩, ⟨_, rfl, Pr.le_refl _⟩, ⟨_, rfl, Pr.le_refl _⟩, trivial⟩ (fun d : Nat => [(116, int ((d : Nat) : Int))]) (fun d : Nat => d ≤ (c.wins).length ∧ (Upto (badTeams c) c.wins d)) (fun d : Nat => (c.wins).length - d) 0 (⟨Nat.zero_le _, upto_0 _ _⟩) ⟨⟨_, rfl, Pr.le_refl _⟩, trivial⟩ ?_
            rintro d ⟨hle_d, hinv_d⟩
            refine Tr.seq ?_
            refine Tr.reg0 ?_
            refine Ch.op rfl rfl (by decide) (ok_int rfl (vl rfl) (vl rfl) rfl) ?_
            refine Ch.nil ?_
            refine Fin.go ?_
            refine Tr.seq ?_
            refine Tr.cond rfl (fun h16 => ?_) (fun h16 => ?_)
            ·
              have q16 := Nrm.nrm h16
              have hk_d : d < (c.wins).length := lt_of_dec h16
              obtain ⟨z, hx_d⟩ := at_ hk_d
              refine Tr.skip ?_
              refine Fin.go ?_
              refine Tr.seq ?_
              refine Tr.block ?_
              refine Tr.seq ?_
              refine Tr.regT ?_
              refine TO.op rfl rfl (by decide) (ok_indexAddr rfl Try.underlying25 sz45 (vl rfl) (vl rfl) (by omega) (by first | exact row_at (by assumption) | exact row_atI (by assumption) | assumption)) ?_
              refine TO.op rfl rfl (by decide) (ok_loadA rfl agg45 sz45 (vl rfl) rfl rfl) ?_
              refine TO.alloc rfl rfl (by decide) rfl z45 zo45 (fun b3 => ?_)
              refine TO.store_all 0 rfl rfl rfl (vl rfl) (VL.le (vl rfl) (agg_cellsP _)) rfl sz45 rfl rfl ?_
              refine TO.freeze 0 13 rfl rfl ?_
              refine TO.nil ?_
              refine Fin.go ?_
              refine Tr.seq ?_
              refine Tr.reg0 ?_
              refine Ch.op rfl rfl (by decide) (ok_fieldAddr rfl fo45_1 (vl rfl) rfl) ?_
              refine Ch.op rfl rfl (by decide) (ok_load1 rfl one22 (vl rfl)) ?_
              first
                | refine Ch.op rfl rfl (by decide) (ok_lenm rfl Try.underlying22 (vl rfl)) ?_
                | refine Ch.op rfl rfl (by decide) (ok_len rfl Try.underlying22 (vl rfl)) ?_
              refine Ch.op rfl rfl (by decide) (ok_move rfl (vl rfl)) ?_
              refine Ch.nil ?_
              refine Fin.go ?_
              refine Tr.weak [(1, _), (2, _), (114, _), (115, _), (116, _), (121, _), (122, _), (123, _)] ⟨⟨_, rfl, Pr.le_refl _⟩, ⟨_, rfl, Pr.le_refl _⟩, ⟨_, rfl, Pr.le_refl _⟩, ⟨_, rfl, Pr.le_refl _⟩, ⟨_, rfl, Pr.le_refl _⟩, ⟨_, rfl, Pr.le_refl _⟩, ⟨_, rfl, Pr.le_refl _⟩, ⟨_, rfl, Pr.le_refl _⟩, trivial⟩ ?_
              refine Tr.block ?_
              refine Tr.lenm 121 rfl fun hlz => ?_
              refine Tr.loopw [(1, _), (2, _), (114, _), (115, _), (116, _), (121, _), (122, _)] ⟨⟨_, rfl, Pr.le_refl _⟩, ⟨_, rfl, Pr.le_refl _⟩, ⟨_, rfl, Pr.le_refl _⟩, ⟨_, rfl, Pr.le_refl _⟩, ⟨_, rfl, Pr.le_refl _⟩, ⟨_, rfl, Pr.le_refl _⟩, ⟨_, rfl, Pr.le_refl _⟩, trivial⟩ (fun e : Nat => [(123, int ((e : Nat) : Int))]) (fun e : Nat => e ≤ (z.teams).length ∧ (Upto (fun n => !c.has n) z.teams e)) (fun e : Nat => (z.teams).length - e) 0 (⟨Nat.zero_le _, upto_0 _ _⟩) ⟨⟨_, rfl, Pr.le_refl _⟩, trivial⟩ ?_
              rintro e ⟨hle_e, hinv_e⟩
              refine Tr.seq ?_
              refine Tr.reg0 ?_
              refine Ch.op rfl rfl (by decide) (ok_int rfl (vl rfl) (vl rfl) rfl) ?_
              refine Ch.nil ?_
              refine Fin.go ?_
              refine Tr.seq ?_
              refine Tr.cond rfl (fun h17 => ?_) (fun h17 => ?_)
              ·
                have q17 := Nrm.nrm h17
                have hk_e : e < (z.teams).length := lt_of_dec h17
                obtain ⟨y, hx_e⟩ := at_ hk_e
                refine Tr.skip ?_
                refine Fin.go ?_
                refine Tr.seq ?_
                refine Tr.block ?_
                refine Tr.seq ?_
                refine Tr.reg0 ?_
                refine Ch.op rfl rfl (by decide) (ok_indexAddr rfl Try.underlying22 sz3 (vl rfl) (vl rfl) (by omega) (by first | exact row_at (by assumption) | exact row_atI (by assumption) | assumption)) ?_
                refine Ch.op rfl rfl (by decide) (ok_load1 rfl one3 (vl rfl)) ?_
                refine Ch.op rfl rfl (by decide) (ok_assign rfl (vl rfl)) ?_
                refine Ch.nil ?_
                refine Fin.go ?_
                refine Tr.seq ?_
                refine Tr.reg0 ?_
                refine Ch.op rfl rfl (by decide) (ok_move rfl (vl rfl)) ?_
                refine Ch.op rfl rfl (by decide) (ok_int rfl (vl rfl) (vl rfl) rfl) ?_
                refine Ch.op rfl rfl (by decide) (ok_move rfl (vl rfl)) ?_
                refine Ch.cases 129 rfl (fun h18 => ?_) (fun h18 => ?_)
                ·
                  have q18 := Nrm.nrm h18
                  refine Ch.no rfl rfl rfl (ne_false h18) rfl (by decide) ?_
                  refine Ch.no rfl rfl rfl (ne_false h18) rfl (by decide) ?_
                  refine Ch.no rfl rfl rfl (ne_false h18) rfl (by decide) ?_
                  refine Ch.no rfl rfl rfl (ne_false h18) rfl (by decide) ?_
                  refine Ch.no rfl rfl rfl (ne_false h18) rfl (by decide) ?_
                  refine Ch.op rfl rfl (by decide) (ok_pick_t rfl (vl rfl) h18 (vl rfl)) ?_
                  refine Ch.nil ?_
                  refine Fin.go ?_
                  refine Tr.weak [(1, _), (2, _), (114, _), (115, _), (116, _), (121, _), (122, _), (123, _), (135, _)] ⟨⟨_, rfl, Pr.le_refl _⟩, ⟨_, rfl, Pr.le_refl _⟩, ⟨_, rfl, Pr.le_refl _⟩, ⟨_, rfl, Pr.le_refl _⟩, ⟨_, rfl, Pr.le_refl _⟩, ⟨_, rfl, Pr.le_refl _⟩, ⟨_, rfl, Pr.le_refl _⟩, ⟨_, rfl, Pr.le_refl _⟩, ⟨_, rfl, Pr.le_refl _⟩, trivial⟩ ?_
                  refine Tr.cond rfl (fun _ => ?_) (fun h => nomatch h)
                  refine Tr.seq ?_
                  refine Tr.reg0 ?_
                  refine Ch.op rfl rfl (by decide) (ok_assign rfl (vl rfl)) ?_
                  refine Ch.nil ?_
                  refine Fin.go ?_
                  refine Tr.ret ?_
                  refine Fin.block_ret ?_
                  refine Fin.then_ret ?_
                  refine Fin.then_ret ?_
                  refine Fin.block_ret ?_
                  refine Fin.block_ret ?_
                  refine Fin.then_ret ?_
                  refine Fin.then_ret ?_
                  refine Fin.block_ret ?_
                  refine Fin.then_ret ?_
                  refine Fin.ret1 rfl (OutW.bse _ _) rfl ?_
                  · refine int_eq ?_; unfold Cal.check; first | (rw [if_pos (by omega)]; done) | (rw [if_neg (by omega), if_pos (any_hit hx_a (by simp [badRoom]; omega))]; done) | (rw [if_neg (by omega), if_neg (ne_true (any_miss hinv_a)), if_pos (any_hit hx_b (by simp [badWin]; omega))]; done) | (rw [if_neg (by omega), if_neg (ne_true (any_miss hinv_a)), if_neg (ne_true (any_miss hinv_b)), if_pos (not_ordW (by omega) hx_k hpw (by assumption))]; done) | (rw [if_neg (by omega), if_neg (ne_true (any_miss hinv_a)), if_neg (ne_true (any_miss hinv_b)), if_pos (not_ordT hx_k (by omega) ht hu (by omega))]; done) | (rw [if_neg (by omega), if_neg (ne_true (any_miss hinv_a)), if_neg (ne_true (any_miss hinv_b)), if_neg (not_not_intro (ord_all hinv_k)), if_pos (any_hit hx_d (any_hit hx_e (by simp [Cal.has]; omega)))]; done) | (rw [if_neg (by omega), if_neg (ne_true (any_miss hinv_a)), if_neg (ne_true (any_miss hinv_b)), if_neg (not_not_intro (ord_all hinv_k)), if_neg (ne_true (any_miss hinv_d)), if_pos (.inl (by assumption))]; done) | (rw [if_neg (by omega), if_neg (ne_true (any_miss hinv_a)), if_neg (ne_true (any_miss hinv_b)), if_neg (not_not_intro (ord_all hinv_k)), if_neg (ne_true (any_miss hinv_d)), if_pos (.inr (any_hit hx_g (by simp [Cal.has]; omega)))]; done) | (rw [if_neg (by omega), if_neg (ne_true (any_miss hinv_a)), if_neg (ne_true (any_miss hinv_b)), if_neg (not_not_intro (ord_all hinv_k)), if_neg (ne_true (any_miss hinv_d)), if_neg (not_or.2 ⟨not_not_intro (by omega), ne_true (any_miss hinv_g)⟩)]; done)
                ·
                  have q18 := Nrm.nrm h18
                  refine Ch.yes rfl rfl rfl h18 rfl (by decide) (ok_move rfl (vl rfl)) ?_
                  refine Ch.yes rfl rfl rfl h18 rfl (by decide) (ok_fieldAddr rfl fo27_2 (vl rfl) rfl) ?_
                  refine Ch.yes rfl rfl rfl h18 rfl (by decide) (ok_load1 rfl one22 (vl rfl)) ?_
                  first
                    | refine Ch.yes rfl rfl rfl h18 rfl (by decide) (ok_lenm rfl Try.underlying22 (vl rfl)) ?_
                    | refine Ch.yes rfl rfl rfl h18 rfl (by decide) (ok_len rfl Try.underlying22 (vl rfl)) ?_
                  refine Ch.yes rfl rfl rfl h18 rfl (by decide) (ok_int rfl (vl rfl) (vl rfl) rfl) ?_
                  refine Ch.op rfl rfl (by decide) (ok_pick_f rfl (vl rfl) h18 (vl rfl)) ?_
                  refine Ch.nil ?_
                  refine Fin.go ?_
                  refine Tr.weak [(1, _), (2, _), (114, _), (115, _), (116, _), (121, _), (122, _), (123, _), (135, _)] ⟨⟨_, rfl, Pr.le_refl _⟩, ⟨_, rfl, Pr.le_refl _⟩, ⟨_, rfl, Pr.le_refl _⟩, ⟨_, rfl, Pr.le_refl _⟩, ⟨_, rfl, Pr.le_refl _⟩, ⟨_, rfl, Pr.le_refl _⟩, ⟨_, rfl, Pr.le_refl _⟩, ⟨_, rfl, Pr.le_refl _⟩, ⟨_, rfl, Pr.le_refl _⟩, trivial⟩ ?_
                  refine Tr.cond rfl (fun h19 => ?_) (fun h19 => ?_)
                  ·
                    have q19 := Nrm.nrm h19
                    refine Tr.seq ?_
                    refine Tr.reg0 ?_
                    refine Ch.op rfl rfl (by decide) (ok_assign rfl (vl rfl)) ?_
                    refine Ch.nil ?_
                    refine Fin.go ?_
                    refine Tr.ret ?_
                    refine Fin.block_ret ?_
                    refine Fin.then_ret ?_
                    refine Fin.then_ret ?_
                    refine Fin.block_ret ?_
                    refine Fin.block_ret ?_
                    refine Fin.then_ret ?_
                    refine Fin.then_ret ?_
                    refine Fin.block_ret ?_
                    refine Fin.then_ret ?_
                    refine Fin.ret1 rfl (OutW.bse _ _) rfl ?_
                    · refine int_eq ?_; unfold Cal.check; first | (rw [if_pos (by omega)]; done) | (rw [if_neg (by omega), if_pos (any_hit hx_a (by simp [badRoom]; omega))]; done) | (rw [if_neg (by omega), if_neg (ne_true (any_miss hinv_a)), if_pos (any_hit hx_b (by simp [badWin]; omega))]; done) | (rw [if_neg (by omega), if_neg (ne_true (any_miss hinv_a)), if_neg (ne_true (any_miss hinv_b)), if_pos (not_ordW (by omega) hx_k hpw (by assumption))]; done) | (rw [if_neg (by omega), if_neg (ne_true (any_miss hinv_a)), if_neg (ne_true (any_miss hinv_b)), if_pos (not_ordT hx_k (by omega) ht hu (by omega))]; done) | (rw [if_neg (by omega), if_neg (ne_true (any_miss hinv_a)), if_neg (ne_true (any_miss hinv_b)), if_neg (not_not_intro (ord_all hinv_k)), if_pos (any_hit hx_d (any_hit hx_e (by simp [Cal.has]; omega)))]; done) | (rw [if_neg (by omega), if_neg (ne_true (any_miss hinv_a)), if_neg (ne_true (any_miss hinv_b)), if_neg (not_not_intro (ord_all hinv_k)), if_neg (ne_true (any_miss hinv_d)), if_pos (.inl (by assumption))]; done) | (rw [if_neg (by omega), if_neg (ne_true (any_miss hinv_a)), if_neg (ne_true (any_miss hinv_b)), if_neg (not_not_intro (ord_all hinv_k)), if_neg (ne_true (any_miss hinv_d)), if_pos (.inr (any_hit hx_g (by simp [Cal.has]; omega)))]; done) | (rw [if_neg (by omega), if_neg (ne_true (any_miss hinv_a)), if_neg (ne_true (any_miss hinv_b)), if_neg (not_not_intro (ord_all hinv_k)), if_neg (ne_true (any_miss hinv_d)), if_neg (not_or.2 ⟨not_not_intro (by omega), ne_true (any_miss hinv_g)⟩)]; done)
                  ·
                    have q19 := Nrm.nrm h19
                    refine Tr.skip ?_
                    refine Fin.block ?_
                    refine Fin.go ?_
                    refine Tr.reg0 ?_
                    first
                      | (refine Ch.op rfl rfl (by decide) (ok_add rfl (vl rfl) (vl rfl) ?hin) ?_; case hin => unfold InI; omega)
                      | refine Ch.op rfl rfl (by decide) (ok_int rfl (vl rfl) (vl rfl) rfl) ?_
                    refine Ch.op rfl rfl (by decide) (ok_move rfl (vl rfl)) ?_
                    refine Ch.nil ?_
                    exact Fin.fam_same (e + 1) ⟨⟨hk_e, upto_s hx_e (by simp [Cal.has]; omega) hinv_e⟩, by omega⟩ ⟨⟨_, rfl, int_succ e⟩, ⟨_, rfl, Pr.le_refl _⟩, ⟨_, rfl, Pr.le_refl _⟩, ⟨_, rfl, Pr.le_refl _⟩, ⟨_, rfl, Pr.le_refl _⟩, ⟨_, rfl, Pr.le_refl _⟩, ⟨_, rfl, Pr.le_refl _⟩, ⟨_, rfl, Pr.le_refl _⟩, trivial⟩
              ·
                have q17 := Nrm.nrm h17
                have he_e : e = (z.teams).length := by have := ge_of_dec h17; omega
                subst he_e
                refine Tr.exit ?_
                refine Fin.then_exit ?_
                refine Fin.then_exit ?_
                refine Fin.block_here ?_
                refine Fin.block ?_
                refine Fin.go ?_
                refine Tr.reg0 ?_
                first
                  | (refine Ch.op rfl rfl (by decide) (ok_add rfl (vl rfl) (vl rfl) ?hin) ?_; case hin => unfold InI; omega)
                  | refine Ch.op rfl rfl (by decide) (ok_int rfl (vl rfl) (vl rfl) rfl) ?_
                refine Ch.op rfl rfl (by decide) (ok_move rfl (vl rfl)) ?_
                refine Ch.nil ?_
                exact Fin.fam_same (d + 1) ⟨⟨hk_d, upto_s hx_d (any_miss hinv_e) hinv_d⟩, by omega⟩ ⟨⟨_, rfl, int_succ d⟩, ⟨_, rfl, Pr.le_refl _⟩, ⟨_, rfl, Pr.le_refl _⟩, ⟨_, rfl, Pr.le_refl _⟩, ⟨_, rfl, Pr.le_refl _⟩, trivial⟩
            ·
              have q16 := Nrm.nrm h16
              have he_d : d = (c.wins).length := by have := ge_of_dec h16; omega
              subst he_d
              refine Tr.exit ?_
              refine Fin.then_exit ?_
              refine Fin.then_exit ?_
              refine Fin.block_here ?_
              refine Fin.go ?_
              refine Tr.seq ?_
              refine Tr.seq ?_
              refine Tr.reg0 ?_
              refine Ch.op rfl rfl (by decide) (ok_fieldAddr rfl fo27_1 (vl rfl) rfl) ?_
              refine Ch.op rfl rfl (by decide) (ok_load1 rfl one22 (vl rfl)) ?_
              first
                | refine Ch.op rfl rfl (by decide) (ok_lenm rfl Try.underlying22 (vl rfl)) ?_
                | refine Ch.op rfl rfl (by decide) (ok_len rfl Try.underlying22 (vl rfl)) ?_
              refine Ch.op rfl rfl (by decide) (ok_move rfl (vl rfl)) ?_
              refine Ch.op rfl rfl (by decide) (ok_int rfl (vl rfl) (vl rfl) rfl) ?_
              refine Ch.nil ?_
              refine Fin.go ?_
              refine Tr.cond rfl (fun h20 => ?_) (fun h20 => ?_)
              ·
                have q20 := Nrm.nrm h20
                refine Tr.seq ?_
                refine Tr.reg0 ?_
                refine Ch.op rfl rfl (by decide) (ok_assign rfl (vl rfl)) ?_
                refine Ch.nil ?_
                refine Fin.go ?_
                refine Tr.ret ?_
                refine Fin.then_ret ?_
                refine Fin.ret1 rfl (OutW.bse _ _) rfl ?_
                · refine int_eq ?_; unfold Cal.check; first | (rw [if_pos (by omega)]; done) | (rw [if_neg (by omega), if_pos (any_hit hx_a (by simp [badRoom]; omega))]; done) | (rw [if_neg (by omega), if_neg (ne_true (any_miss hinv_a)), if_pos (any_hit hx_b (by simp [badWin]; omega))]; done) | (rw [if_neg (by omega), if_neg (ne_true (any_miss hinv_a)), if_neg (ne_true (any_miss hinv_b)), if_pos (not_ordW (by omega) hx_k hpw (by assumption))]; done) | (rw [if_neg (by omega), if_neg (ne_true (any_miss hinv_a)), if_neg (ne_true (any_miss hinv_b)), if_pos (not_ordT hx_k (by omega) ht hu (by omega))]; done) | (rw [if_neg (by omega), if_neg (ne_true (any_miss hinv_a)), if_neg (ne_true (any_miss hinv_b)), if_neg (not_not_intro (ord_all hinv_k)), if_pos (any_hit hx_d (any_hit hx_e (by simp [Cal.has]; omega)))]; done) | (rw [if_neg (by omega), if_neg (ne_true (any_miss hinv_a)), if_neg (ne_true (any_miss hinv_b)), if_neg (not_not_intro (ord_all hinv_k)), if_neg (ne_true (any_miss hinv_d)), if_pos (.inl (by assumption))]; done) | (rw [if_neg (by omega), if_neg (ne_true (any_miss hinv_a)), if_neg (ne_true (any_miss hinv_b)), if_neg (not_not_intro (ord_all hinv_k)), if_neg (ne_true (any_miss hinv_d)), if_pos (.inr (any_hit hx_g (by simp [Cal.has]; omega)))]; done) | (rw [if_neg (by omega), if_neg (ne_true (any_miss hinv_a)), if_neg (ne_true (any_miss hinv_b)), if_neg (not_not_intro (ord_all hinv_k)), if_neg (ne_true (any_miss hinv_d)), if_neg (not_or.2 ⟨not_not_intro (by omega), ne_true (any_miss hinv_g)⟩)]; done)
              ·
                have q20 := Nrm.nrm h20
                refine Tr.skip ?_
                refine Fin.go ?_
                refine Tr.seq ?_
                refine Tr.seq ?_
                refine Tr.reg0 ?_
                refine Ch.op rfl rfl (by decide) (ok_fieldAddr rfl fo27_1 (vl rfl) rfl) ?_
                refine Ch.op rfl rfl (by decide) (ok_load1 rfl one22 (vl rfl)) ?_
                first
                  | refine Ch.op rfl rfl (by decide) (ok_lenm rfl Try.underlying22 (vl rfl)) ?_
                  | refine Ch.op rfl rfl (by decide) (ok_len rfl Try.underlying22 (vl rfl)) ?_
                refine Ch.op rfl rfl (by decide) (ok_move rfl (vl rfl)) ?_
                refine Ch.nil ?_
                refine Fin.go ?_
                refine Tr.weak [(2, _), (144, _), (145, _), (146, _)] ⟨⟨_, rfl, Pr.le_refl _⟩, ⟨_, rfl, Pr.le_refl _⟩, ⟨_, rfl, Pr.le_refl _⟩, ⟨_, rfl, Pr.le_refl _⟩, trivial⟩ ?_
                refine Tr.block ?_
                refine Tr.loopw [(2, _), (144, _), (145, _)] ⟨⟨_, rfl, Pr.le_refl _⟩, ⟨_, rfl, Pr.le_refl _⟩, ⟨_, rfl, Pr.le_refl _⟩, trivial⟩ (fun g : Nat => [(146, int ((g : Nat) : Int))]) (fun g : Nat => g ≤ (c.team).length ∧ (Upto (fun n => !c.has n) c.team g)) (fun g : Nat => (c.team).length - g) 0 (⟨Nat.zero_le _, upto_0 _ _⟩) ⟨⟨_, rfl, Pr.le_refl _⟩, trivial⟩ ?_
                rintro g ⟨hle_g, hinv_g⟩
                refine Tr.seq ?_
                refine Tr.reg0 ?_
                refine Ch.op rfl rfl (by decide) (ok_int rfl (vl rfl) (vl rfl) rfl) ?_
                refine Ch.nil ?_
                refine Fin.go ?_
                refine Tr.seq ?_
                refine Tr.cond rfl (fun h21 => ?_) (fun h21 => ?_)
                ·
                  have q21 := Nrm.nrm h21
                  have hk_g : g < (c.team).length := lt_of_dec h21
                  obtain ⟨v, hx_g⟩ := at_ hk_g
                  refine Tr.skip ?_
                  refine Fin.go ?_
                  refine Tr.seq ?_
                  refine Tr.block ?_
                  refine Tr.seq ?_
                  refine Tr.reg0 ?_
                  refine Ch.op rfl rfl (by decide) (ok_indexAddr rfl Try.underlying22 sz3 (vl rfl) (vl rfl) (by omega) (by first | exact row_at (by assumption) | exact row_atI (by assumption) | assumption)) ?_
                  refine Ch.op rfl rfl (by decide) (ok_load1 rfl one3 (vl rfl)) ?_
                  refine Ch.op rfl rfl (by decide) (ok_assign rfl (vl rfl)) ?_
                  refine Ch.nil ?_
                  refine Fin.go ?_
                  refine Tr.seq ?_
                  refine Tr.reg0 ?_
                  refine Ch.op rfl rfl (by decide) (ok_move rfl (vl rfl)) ?_
                  refine Ch.op rfl rfl (by decide) (ok_int rfl (vl rfl) (vl rfl) rfl) ?_
                  refine Ch.op rfl rfl (by decide) (ok_move rfl (vl rfl)) ?_
                  refine Ch.cases 152 rfl (fun h22 => ?_) (fun h22 => ?_)
                  ·
                    have q22 := Nrm.nrm h22
                    refine Ch.no rfl rfl rfl (ne_false h22) rfl (by decide) ?_
                    refine Ch.no rfl rfl rfl (ne_false h22) rfl (by decide) ?_
                    refine Ch.no rfl rfl rfl (ne_false h22) rfl (by decide) ?_
                    refine Ch.no rfl rfl rfl (ne_false h22) rfl (by decide) ?_
                    refine Ch.no rfl rfl rfl (ne_false h22) rfl (by decide) ?_
                    refine Ch.op rfl rfl (by decide) (ok_pick_t rfl (vl rfl) h22 (vl rfl)) ?_
                    refine Ch.nil ?_
                    refine Fin.go ?_
                    refine Tr.weak [(2, _), (144, _), (145, _), (146, _), (158, _)] ⟨⟨_, rfl, Pr.le_refl _⟩, ⟨_, rfl, Pr.le_refl _⟩, ⟨_, rfl, Pr.le_refl _⟩, ⟨_, rfl, Pr.le_refl _⟩, ⟨_, rfl, Pr.le_refl _⟩, trivial⟩ ?_
                    refine Tr.cond rfl (fun _ => ?_) (fun h => nomatch h)
                    refine Tr.seq ?_
                    refine Tr.reg0 ?_
                    refine Ch.op rfl rfl (by decide) (ok_assign rfl (vl rfl)) ?_
                    refine Ch.nil ?_
                    refine Fin.go ?_
                    refine Tr.ret ?_
                    refine Fin.block_ret ?_
                    refine Fin.then_ret ?_
                    refine Fin.then_ret ?_
                    refine Fin.block_ret ?_
                    refine Fin.then_ret ?_
                    refine Fin.ret1 rfl (OutW.bse _ _) rfl ?_
                    · refine int_eq ?_; unfold Cal.check; first | (rw [if_pos (by omega)]; done) | (rw [if_neg (by omega), if_pos (any_hit hx_a (by simp [badRoom]; omega))]; done) | (rw [if_neg (by omega), if_neg (ne_true (any_miss hinv_a)), if_pos (any_hit hx_b (by simp [badWin]; omega))]; done) | (rw [if_neg (by omega), if_neg (ne_true (any_miss hinv_a)), if_neg (ne_true (any_miss hinv_b)), if_pos (not_ordW (by omega) hx_k hpw (by assumption))]; done) | (rw [if_neg (by omega), if_neg (ne_true (any_miss hinv_a)), if_neg (ne_true (any_miss hinv_b)), if_pos (not_ordT hx_k (by omega) ht hu (by omega))]; done) | (rw [if_neg (by omega), if_neg (ne_true (any_miss hinv_a)), if_neg (ne_true (any_miss hinv_b)), if_neg (not_not_intro (ord_all hinv_k)), if_pos (any_hit hx_d (any_hit hx_e (by simp [Cal.has]; omega)))]; done) | (rw [if_neg (by omega), if_neg (ne_true (any_miss hinv_a)), if_neg (ne_true (any_miss hinv_b)), if_neg (not_not_intro (ord_all hinv_k)), if_neg (ne_true (any_miss hinv_d)), if_pos (.inl (by assumption))]; done) | (rw [if_neg (by omega), if_neg (ne_true (any_miss hinv_a)), if_neg (ne_true (any_miss hinv_b)), if_neg (not_not_intro (ord_all hinv_k)), if_neg (ne_true (any_miss hinv_d)), if_pos (.inr (any_hit hx_g (by simp [Cal.has]; omega)))]; done) | (rw [if_neg (by omega), if_neg (ne_true (any_miss hinv_a)), if_neg (ne_true (any_miss hinv_b)), if_neg (not_not_intro (ord_all hinv_k)), if_neg (ne_true (any_miss hinv_d)), if_neg (not_or.2 ⟨not_not_intro (by omega), ne_true (any_miss hinv_g)⟩)]; done)
                  ·
                    have q22 := Nrm.nrm h22
                    refine Ch.yes rfl rfl rfl h22 rfl (by decide) (ok_move rfl (vl rfl)) ?_
                    refine Ch.yes rfl rfl rfl h22 rfl (by decide) (ok_fieldAddr rfl fo27_2 (vl rfl) rfl) ?_
                    refine Ch.yes rfl rfl rfl h22 rfl (by decide) (ok_load1 rfl one22 (vl rfl)) ?_
                    first
                      | refine Ch.yes rfl rfl rfl h22 rfl (by decide) (ok_lenm rfl Try.underlying22 (vl rfl)) ?_
                      | refine Ch.yes rfl rfl rfl h22 rfl (by decide) (ok_len rfl Try.underlying22 (vl rfl)) ?_
                    refine Ch.yes rfl rfl rfl h22 rfl (by decide) (ok_int rfl (vl rfl) (vl rfl) rfl) ?_
                    refine Ch.op rfl rfl (by decide) (ok_pick_f rfl (vl rfl) h22 (vl rfl)) ?_
                    refine Ch.nil ?_
                    refine Fin.go ?_
                    refine Tr.weak [(2, _), (144, _), (145, _), (146, _), (158, _)] ⟨⟨_, rfl, Pr.le_refl _⟩, ⟨_, rfl, Pr.le_refl _⟩, ⟨_, rfl, Pr.le_refl _⟩, ⟨_, rfl, Pr.le_refl _⟩, ⟨_, rfl, Pr.le_refl _⟩, trivial⟩ ?_
                    refine Tr.cond rfl (fun h23 => ?_) (fun h23 => ?_)
                    ·
                      have q23 := Nrm.nrm h23
                      refine Tr.seq ?_
                      refine Tr.reg0 ?_
                      refine Ch.op rfl rfl (by decide) (ok_assign rfl (vl rfl)) ?_
                      refine Ch.nil ?_
                      refine Fin.go ?_
                      refine Tr.ret ?_
                      refine Fin.block_ret ?_
                      refine Fin.then_ret ?_
                      refine Fin.then_ret ?_
                      refine Fin.block_ret ?_
                      refine Fin.then_ret ?_
                      refine Fin.ret1 rfl (OutW.bse _ _) rfl ?_
                      · refine int_eq ?_; unfold Cal.check; first | (rw [if_pos (by omega)]; done) | (rw [if_neg (by omega), if_pos (any_hit hx_a (by simp [badRoom]; omega))]; done) | (rw [if_neg (by omega), if_neg (ne_true (any_miss hinv_a)), if_pos (any_hit hx_b (by simp [badWin]; omega))]; done) | (rw [if_neg (by omega), if_neg (ne_true (any_miss hinv_a)), if_neg (ne_true (any_miss hinv_b)), if_pos (not_ordW (by omega) hx_k hpw (by assumption))]; done) | (rw [if_neg (by omega), if_neg (ne_true (any_miss hinv_a)), if_neg (ne_true (any_miss hinv_b)), if_pos (not_ordT hx_k (by omega) ht hu (by omega))]; done) | (rw [if_neg (by omega), if_neg (ne_true (any_miss hinv_a)), if_neg (ne_true (any_miss hinv_b)), if_neg (not_not_intro (ord_all hinv_k)), if_pos (any_hit hx_d (any_hit hx_e (by simp [Cal.has]; omega)))]; done) | (rw [if_neg (by omega), if_neg (ne_true (any_miss hinv_a)), if_neg (ne_true (any_miss hinv_b)), if_neg (not_not_intro (ord_all hinv_k)), if_neg (ne_true (any_miss hinv_d)), if_pos (.inl (by assumption))]; done) | (rw [if_neg (by omega), if_neg (ne_true (any_miss hinv_a)), if_neg (ne_true (any_miss hinv_b)), if_neg (not_not_intro (ord_all hinv_k)), if_neg (ne_true (any_miss hinv_d)), if_pos (.inr (any_hit hx_g (by simp [Cal.has]; omega)))]; done) | (rw [if_neg (by omega), if_neg (ne_true (any_miss hinv_a)), if_neg (ne_true (any_miss hinv_b)), if_neg (not_not_intro (ord_all hinv_k)), if_neg (ne_true (any_miss hinv_d)), if_neg (not_or.2 ⟨not_not_intro (by omega), ne_true (any_miss hinv_g)⟩)]; done)
                    ·
                      have q23 := Nrm.nrm h23
                      refine Tr.skip ?_
                      refine Fin.block ?_
                      refine Fin.go ?_
                      refine Tr.reg0 ?_
                      first
                        | (refine Ch.op rfl rfl (by decide) (ok_add rfl (vl rfl) (vl rfl) ?hin) ?_; case hin => unfold InI; omega)
                        | refine Ch.op rfl rfl (by decide) (ok_int rfl (vl rfl) (vl rfl) rfl) ?_
                      refine Ch.op rfl rfl (by decide) (ok_move rfl (vl rfl)) ?_
                      refine Ch.nil ?_
                      exact Fin.fam_same (g + 1) ⟨⟨hk_g, upto_s hx_g (by simp [Cal.has]; omega) hinv_g⟩, by omega⟩ ⟨⟨_, rfl, int_succ g⟩, ⟨_, rfl, Pr.le_refl _⟩, ⟨_, rfl, Pr.le_refl _⟩, ⟨_, rfl, Pr.le_refl _⟩, trivial⟩
                ·
                  have q21 := Nrm.nrm h21
                  have he_g : g = (c.team).length := by have := ge_of_dec h21; omega
                  subst he_g
                  refine Tr.exit ?_
                  refine Fin.then_exit ?_
                  refine Fin.then_exit ?_
                  refine Fin.block_here ?_
                  refine Fin.go ?_
                  refine Tr.seq ?_
                  refine Tr.reg0 ?_
                  refine Ch.op rfl rfl (by decide) (ok_assign rfl (vl rfl)) ?_
                  refine Ch.nil ?_
                  refine Fin.go ?_
                  refine Tr.ret ?_
                  refine Fin.ret1 rfl (OutW.bse _ _) rfl ?_
                  · refine int_eq ?_; unfold Cal.check; first | (rw [if_pos (by omega)]; done) | (rw [if_neg (by omega), if_pos (any_hit hx_a (by simp [badRoom]; omega))]; done) | (rw [if_neg (by omega), if_neg (ne_true (any_miss hinv_a)), if_pos (any_hit hx_b (by simp [badWin]; omega))]; done) | (rw [if_neg (by omega), if_neg (ne_true (any_miss hinv_a)), if_neg (ne_true (any_miss hinv_b)), if_pos (not_ordW (by omega) hx_k hpw (by assumption))]; done) | (rw [if_neg (by omega), if_neg (ne_true (any_miss hinv_a)), if_neg (ne_true (any_miss hinv_b)), if_pos (not_ordT hx_k (by omega) ht hu (by omega))]; done) | (rw [if_neg (by omega), if_neg (ne_true (any_miss hinv_a)), if_neg (ne_true (any_miss hinv_b)), if_neg (not_not_intro (ord_all hinv_k)), if_pos (any_hit hx_d (any_hit hx_e (by simp [Cal.has]; omega)))]; done) | (rw [if_neg (by omega), if_neg (ne_true (any_miss hinv_a)), if_neg (ne_true (any_miss hinv_b)), if_neg (not_not_intro (ord_all hinv_k)), if_neg (ne_true (any_miss hinv_d)), if_pos (.inl (by assumption))]; done) | (rw [if_neg (by omega), if_neg (ne_true (any_miss hinv_a)), if_neg (ne_true (any_miss hinv_b)), if_neg (not_not_intro (ord_all hinv_k)), if_neg (ne_true (any_miss hinv_d)), if_pos (.inr (any_hit hx_g (by simp [Cal.has]; omega)))]; done) | (rw [if_neg (by omega), if_neg (ne_true (any_miss hinv_a)), if_neg (ne_true (any_miss hinv_b)), if_neg (not_not_intro (ord_all hinv_k)), if_neg (ne_true (any_miss hinv_d)), if_neg (not_or.2 ⟨not_not_intro (by omega), ne_true (any_miss hinv_g)⟩)]; done)
theorem e_RCheck : Entry Try.prog 23 := ⟨_, Try.func23, rfl, rfl⟩
theorem w_Rat {c : Cal} {day : Int}  : Fun Try.prog 49 [calP c, int day] (int (c.at day)) := by
  refine Fun.of Try.func49 rfl rfl (by exact Nat.le_of_ble_eq_true rfl) fun M0 w0 => ?_
  refine Tr.lenA 0 0 rfl rfl fun hlA_0_0 => ?_
  refine Tr.seq ?_
  refine Tr.reg0 ?_
  refine Ch.op rfl rfl (by decide) (ok_box rfl (VL.le (vl rfl) (agg_cellsP _))) ?_
  refine Ch.op rfl rfl (by decide) (ok_assign rfl (vl rfl)) ?_
  refine Ch.nil ?_
  refine Fin.go ?_
  refine Tr.seq ?_
  refine Tr.seq ?_
  refine Tr.reg0 ?_
  refine Ch.op rfl rfl (by decide) (ok_fieldAddr rfl fo27_0 (vl rfl) rfl) ?_
  refine Ch.op rfl rfl (by decide) (ok_load1 rfl one25 (vl rfl)) ?_
  first
    | refine Ch.op rfl rfl (by decide) (ok_lenm rfl Try.underlying25 (vl rfl)) ?_
    | refine Ch.op rfl rfl (by decide) (ok_len rfl Try.underlying25 (vl rfl)) ?_
  refine Ch.op rfl rfl (by decide) (ok_move rfl (vl rfl)) ?_
  refine Ch.nil ?_
  refine Fin.go ?_
  refine Tr.block ?_
  refine Tr.loopw [(1, _), (8, _), (9, _)] ⟨⟨_, rfl, Pr.le_refl _⟩, ⟨_, rfl, Pr.le_refl _⟩, ⟨_, rfl, Pr.le_refl _⟩, trivial⟩ (fun i : Nat => [(10, int ((i : Nat) : Int))]) (fun i : Nat => i ≤ (c.wins).length ∧ (Upto (inWin day) c.wins i)) (fun i : Nat => (c.wins).length - i) 0 (⟨Nat.zero_le _, upto_0 _ _⟩) ⟨⟨_, rfl, Pr.le_refl _⟩, trivial⟩ ?_
  rintro i ⟨hle_i, hinv_i⟩
  refine Tr.seq ?_
  refine Tr.reg0 ?_
  refine Ch.op rfl rfl (by decide) (ok_int rfl (vl rfl) (vl rfl) rfl) ?_
  refine Ch.nil ?_
  refine Fin.go ?_
  refine Tr.seq ?_
  refine Tr.cond rfl (fun h1 => ?_) (fun h1 => ?_)
  ·
    have q1 := Nrm.nrm h1
    have hk_i : i < (c.wins).length := lt_of_dec h1
    obtain ⟨w, hx_i⟩ := at_ hk_i
    refine Tr.skip ?_
    refine Fin.go ?_
    refine Tr.seq ?_
    refine Tr.block ?_
    refine Tr.seq ?_
    refine Tr.regT ?_
    refine TO.op rfl rfl (by decide) (ok_move rfl (vl rfl)) ?_
    refine TO.op rfl rfl (by decide) (ok_indexAddr rfl Try.underlying25 sz45 (vl rfl) (vl rfl) (by omega) (by first | exact row_at (by assumption) | exact row_atI (by assumption) | assumption)) ?_
    refine TO.op rfl rfl (by decide) (ok_loadA rfl agg45 sz45 (vl rfl) rfl rfl) ?_
    refine TO.alloc rfl rfl (by decide) rfl z45 zo45 (fun b1 => ?_)
    refine TO.op rfl rfl (by decide) (ok_assign rfl (vl rfl)) ?_
    refine TO.store_all 0 rfl rfl rfl (vl rfl) (VL.le (vl rfl) (agg_cellsP _)) rfl sz45 rfl rfl ?_
    refine TO.freeze 0 6 rfl rfl ?_
    refine TO.nil ?_
    refine Fin.go ?_
    refine Tr.seq ?_
    refine Tr.reg0 ?_
    refine Ch.op rfl rfl (by decide) (ok_move rfl (vl rfl)) ?_
    refine Ch.op rfl rfl (by decide) (ok_fieldAddr rfl fo45_0 (vl rfl) rfl) ?_
    refine Ch.op rfl rfl (by decide) (ok_fieldAddr rfl fo43_0 (vl rfl) rfl) ?_
    refine Ch.op rfl rfl (by decide) (ok_load1 rfl one3 (vl rfl)) ?_
    refine Ch.op rfl rfl (by decide) (ok_int rfl (vl rfl) (vl rfl) rfl) ?_
    refine Ch.op rfl rfl (by decide) (ok_move rfl (vl rfl)) ?_
    refine Ch.cases 20 rfl (fun h2 => ?_) (fun h2 => ?_)
    ·
      have q2 := Nrm.nrm h2
      refine Ch.yes rfl rfl rfl h2 rfl (by decide) (ok_move rfl (vl rfl)) ?_
      refine Ch.yes rfl rfl rfl h2 rfl (by decide) (ok_fieldAddr rfl fo45_0 (vl rfl) rfl) ?_
      refine Ch.yes rfl rfl rfl h2 rfl (by decide) (ok_fieldAddr rfl fo43_1 (vl rfl) rfl) ?_
      refine Ch.yes rfl rfl rfl h2 rfl (by decide) (ok_load1 rfl one3 (vl rfl)) ?_
      refine Ch.yes rfl rfl rfl h2 rfl (by decide) (ok_int rfl (vl rfl) (vl rfl) rfl) ?_
      refine Ch.op rfl rfl (by decide) (ok_pick_t rfl (vl rfl) h2 (vl rfl)) ?_
      refine Ch.nil ?_
      refine Fin.go ?_
      refine Tr.weak [(1, _), (5, _), (8, _), (9, _), (10, _), (26, _)] ⟨⟨_, rfl, Pr.le_refl _⟩, ⟨_, rfl, Pr.le_refl _⟩, ⟨_, rfl, Pr.le_refl _⟩, ⟨_, rfl, Pr.le_refl _⟩, ⟨_, rfl, Pr.le_refl _⟩, ⟨_, rfl, Pr.le_refl _⟩, trivial⟩ ?_
      refine Tr.cond rfl (fun h3 => ?_) (fun h3 => ?_)
      ·
        have q3 := Nrm.nrm h3
        refine Tr.seq ?_
        refine Tr.reg0 ?_
        refine Ch.op rfl rfl (by decide) (ok_move rfl (vl rfl)) ?_
        refine Ch.op rfl rfl (by decide) (ok_assign rfl (vl rfl)) ?_
        refine Ch.nil ?_
        refine Fin.go ?_
        refine Tr.ret ?_
        refine Fin.block_ret ?_
        refine Fin.then_ret ?_
        refine Fin.then_ret ?_
        refine Fin.block_ret ?_
        refine Fin.then_ret ?_
        refine Fin.ret1 rfl (OutW.bse _ _) rfl ?_
        · first | exact int_eq (idx_found hx_i (by simp [inWin]; omega) hinv_i) | exact int_eq (idx_none hinv_i)
      ·
        have q3 := Nrm.nrm h3
        refine Tr.skip ?_
        refine Fin.block ?_
        refine Fin.go ?_
        refine Tr.reg0 ?_
        first
          | (refine Ch.op rfl rfl (by decide) (ok_add rfl (vl rfl) (vl rfl) ?hin) ?_; case hin => unfold InI; omega)
          | refine Ch.op rfl rfl (by decide) (ok_int rfl (vl rfl) (vl rfl) rfl) ?_
        refine Ch.op rfl rfl (by decide) (ok_move rfl (vl rfl)) ?_
        refine Ch.nil ?_
        exact Fin.fam_same (i + 1) ⟨⟨hk_i, upto_s hx_i (by simp [inWin]; omega) hinv_i⟩, by omega⟩ ⟨⟨_, rfl, int_succ i⟩, ⟨_, rfl, Pr.le_refl _⟩, ⟨_, rfl, Pr.le_refl _⟩, ⟨_, rfl, Pr.le_refl _⟩, trivial⟩
    ·
      have q2 := Nrm.nrm h2
      refine Ch.no rfl rfl rfl (ne_true h2) rfl (by decide) ?_
      refine Ch.no rfl rfl rfl (ne_true h2) rfl (by decide) ?_
      refine Ch.no rfl rfl rfl (ne_true h2) rfl (by decide) ?_
      refine Ch.no rfl rfl rfl (ne_true h2) rfl (by decide) ?_
      refine Ch.no rfl rfl rfl (ne_true h2) rfl (by decide) ?_
      refine Ch.op rfl rfl (by decide) (ok_pick_f rfl (vl rfl) h2 (vl rfl)) ?_
      refine Ch.nil ?_
      refine Fin.go ?_
      refine Tr.weak [(1, _), (5, _), (8, _), (9, _), (10, _), (26, _)] ⟨⟨_, rfl, Pr.le_refl _⟩, ⟨_, rfl, Pr.le_refl _⟩, ⟨_, rfl, Pr.le_refl _⟩, ⟨_, rfl, Pr.le_refl _⟩, ⟨_, rfl, Pr.le_refl _⟩, ⟨_, rfl, Pr.le_refl _⟩, trivial⟩ ?_
      refine Tr.cond rfl (fun h => nomatch h) (fun _ => ?_)
      refine Tr.skip ?_
      refine Fin.block ?_
      refine Fin.go ?_
      refine Tr.reg0 ?_
      first
        | (refine Ch.op rfl rfl (by decide) (ok_add rfl (vl rfl) (vl rfl) ?hin) ?_; case hin => unfold InI; omega)
        | refine Ch.op rfl rfl (by decide) (ok_int rfl (vl rfl) (vl rfl) rfl) ?_
      refine Ch.op rfl rfl (by decide) (ok_move rfl (vl rfl)) ?_
      refine Ch.nil ?_
      exact Fin.fam_same (i + 1) ⟨⟨hk_i, upto_s hx_i (by simp [inWin]; omega) hinv_i⟩, by omega⟩ ⟨⟨_, rfl, int_succ i⟩, ⟨_, rfl, Pr.le_refl _⟩, ⟨_, rfl, Pr.le_refl _⟩, ⟨_, rfl, Pr.le_refl _⟩, trivial⟩
  ·
    have q1 := Nrm.nrm h1
    have he_i : i = (c.wins).length := by have := ge_of_dec h1; omega
    subst he_i
    refine Tr.exit ?_
    refine Fin.then_exit ?_
    refine Fin.then_exit ?_
    refine Fin.block_here ?_
    refine Fin.go ?_
    refine Tr.seq ?_
    refine Tr.reg0 ?_
    refine Ch.op rfl rfl (by decide) (ok_assign rfl (vl rfl)) ?_
    refine Ch.nil ?_
    refine Fin.go ?_
    refine Tr.ret ?_
    refine Fin.ret1 rfl (OutW.bse _ _) rfl ?_
    · first | exact int_eq (idx_found hx_i (by simp [inWin]; omega) hinv_i) | exact int_eq (idx_none hinv_i)
theorem e_Rat : Entry Try.prog 49 := ⟨_, Try.func49, rfl, rfl⟩

theorem may_no {c : Cal} {n day : Int} (h : c.at day < 0) : c.may n day = false := by
  have h2 := find_idx (inWin day) c.wins
  rw [if_neg (by unfold Cal.at at h; omega)] at h2
  unfold Cal.may Cal.winAt; rw [h2]
theorem may_at' {c : Cal} {n day : Int} {w : Win} (h : 0 ≤ c.at day) (hw : c.wins[(c.at day).toNat]? = some w) : c.may n day = w.teams.any (fun x => n == x) := by
  have h2 := find_idx (inWin day) c.wins
  unfold Cal.at at h hw
  rw [if_pos h, hw] at h2
  unfold Cal.may Cal.winAt; rw [h2]
theorem at_some {c : Cal} {day : Int} (h : 0 ≤ c.at day) : ∃ w, c.wins[(c.at day).toNat]? = some w ∧ inWin day w = true := by
  obtain ⟨w, h1, h2⟩ := idx_at (p := inWin day) (l := c.wins) h
  exact ⟨w, h1, h2⟩

theorem w_Rmay {c : Cal} {n day : Int}  : Fun Try.prog 51 [calP c, int n, int day] (bool (c.may n day)) := by
  refine Fun.of Try.func51 rfl rfl (by exact Nat.le_of_ble_eq_true rfl) fun M0 w0 => ?_
  refine Tr.seq ?_
  refine Tr.reg0 ?_
  refine Ch.op rfl rfl (by decide) (ok_box rfl (VL.le (vl rfl) (agg_cellsP _))) ?_
  refine Ch.op rfl rfl (by decide) (ok_assign rfl (vl rfl)) ?_
  refine Ch.nil ?_
  refine Fin.go ?_
  refine Tr.seq ?_
  refine Tr.reg0 ?_
  refine Ch.op rfl rfl (by decide) (ok_loadA rfl agg27 sz27 (vl rfl) rfl rfl) ?_
  refine Ch.op rfl rfl (by decide) (ok_move rfl (vl rfl)) ?_
  refine Ch.op rfl rfl (by decide) (ok_call rfl (w_Rat) ⟨⟨_, rfl, Pr.le_refl _⟩, ⟨_, rfl, Pr.le_refl _⟩, trivial⟩) ?_
  refine Ch.op rfl rfl (by decide) (ok_assign rfl (vl rfl)) ?_
  refine Ch.nil ?_
  refine Fin.go ?_
  refine Tr.seq ?_
  refine Tr.seq ?_
  refine Tr.reg0 ?_
  refine Ch.op rfl rfl (by decide) (ok_move rfl (vl rfl)) ?_
  refine Ch.op rfl rfl (by decide) (ok_int rfl (vl rfl) (vl rfl) rfl) ?_
  refine Ch.nil ?_
  refine Fin.go ?_
  refine Tr.cond rfl (fun h1 => ?_) (fun h1 => ?_)
  ·
    have q1 := Nrm.nrm h1
    refine Tr.seq ?_
    refine Tr.reg0 ?_
    refine Ch.op rfl rfl (by decide) (ok_assign rfl (vl rfl)) ?_
    refine Ch.nil ?_
    refine Fin.go ?_
    refine Tr.ret ?_
    refine Fin.then_ret ?_
    refine Fin.ret1 rfl (OutW.bse _ _) rfl ?_
    · exact bool_eq (may_no (by assumption)).symm
  ·
    have q1 := Nrm.nrm h1
    obtain ⟨w, hw, hin⟩ := at_some (c := c) (day := day) q1
    refine Tr.skip ?_
    refine Fin.go ?_
    refine Tr.seq ?_
    refine Tr.seq ?_
    refine Tr.reg0 ?_
    refine Ch.op rfl rfl (by decide) (ok_fieldAddr rfl fo27_0 (vl rfl) rfl) ?_
    refine Ch.op rfl rfl (by decide) (ok_load1 rfl one25 (vl rfl)) ?_
    refine Ch.op rfl rfl (by decide) (ok_move rfl (vl rfl)) ?_
    refine Ch.op rfl rfl (by decide) (ok_indexAddr rfl Try.underlying25 sz45 (vl rfl) (vl rfl) (by omega) (row_atI hw)) ?_
    refine Ch.op rfl rfl (by decide) (ok_fieldAddr rfl fo45_1 (vl rfl) rfl) ?_
    refine Ch.op rfl rfl (by decide) (ok_load1 rfl one22 (vl rfl)) ?_
    first
      | refine Ch.op rfl rfl (by decide) (ok_lenm rfl Try.underlying22 (vl rfl)) ?_
      | refine Ch.op rfl rfl (by decide) (ok_len rfl Try.underlying22 (vl rfl)) ?_
    refine Ch.op rfl rfl (by decide) (ok_move rfl (vl rfl)) ?_
    refine Ch.nil ?_
    refine Fin.go ?_
    refine Tr.weak [(1, _), (20, _), (21, _), (22, _)] ⟨⟨_, rfl, Pr.le_refl _⟩, ⟨_, rfl, Pr.le_refl _⟩, ⟨_, rfl, Pr.le_refl _⟩, ⟨_, rfl, Pr.le_refl _⟩, trivial⟩ ?_
    refine Tr.block ?_
    refine Tr.lenm 20 rfl fun hlt => ?_
    refine Tr.loopw [(1, _), (20, _), (21, _)] ⟨⟨_, rfl, Pr.le_refl _⟩, ⟨_, rfl, Pr.le_refl _⟩, ⟨_, rfl, Pr.le_refl _⟩, trivial⟩ (fun k : Nat => [(22, int ((k : Nat) : Int))]) (fun k : Nat => k ≤ (w.teams).length ∧ (Upto (fun x => n == x) w.teams k)) (fun k : Nat => (w.teams).length - k) 0 (⟨Nat.zero_le _, upto_0 _ _⟩) ⟨⟨_, rfl, Pr.le_refl _⟩, trivial⟩ ?_
    rintro k ⟨hle_k, hinv_k⟩
    refine Tr.seq ?_
    refine Tr.reg0 ?_
    refine Ch.op rfl rfl (by decide) (ok_int rfl (vl rfl) (vl rfl) rfl) ?_
    refine Ch.nil ?_
    refine Fin.go ?_
    refine Tr.seq ?_
    refine Tr.cond rfl (fun h2 => ?_) (fun h2 => ?_)
    ·
      have q2 := Nrm.nrm h2
      have hk_k : k < (w.teams).length := lt_of_dec h2
      obtain ⟨t, hx_k⟩ := at_ hk_k
      refine Tr.skip ?_
      refine Fin.go ?_
      refine Tr.seq ?_
      refine Tr.block ?_
      refine Tr.seq ?_
      refine Tr.reg0 ?_
      refine Ch.op rfl rfl (by decide) (ok_indexAddr rfl Try.underlying22 sz3 (vl rfl) (vl rfl) (by omega) (by first | exact row_at (by assumption) | exact row_atI (by assumption) | assumption)) ?_
      refine Ch.op rfl rfl (by decide) (ok_load1 rfl one3 (vl rfl)) ?_
      refine Ch.op rfl rfl (by decide) (ok_assign rfl (vl rfl)) ?_
      refine Ch.nil ?_
      refine Fin.go ?_
      refine Tr.seq ?_
      refine Tr.reg0 ?_
      refine Ch.op rfl rfl (by decide) (ok_move rfl (vl rfl)) ?_
      refine Ch.op rfl rfl (by decide) (ok_move rfl (vl rfl)) ?_
      refine Ch.op rfl rfl (by decide) (ok_int rfl (vl rfl) (vl rfl) rfl) ?_
      refine Ch.nil ?_
      refine Fin.go ?_
      refine Tr.cond rfl (fun h3 => ?_) (fun h3 => ?_)
      ·
        have q3 := Nrm.nrm h3
        refine Tr.seq ?_
        refine Tr.reg0 ?_
        refine Ch.op rfl rfl (by decide) (ok_assign rfl (vl rfl)) ?_
        refine Ch.nil ?_
        refine Fin.go ?_
        refine Tr.ret ?_
        refine Fin.block_ret ?_
        refine Fin.then_ret ?_
        refine Fin.then_ret ?_
        refine Fin.block_ret ?_
        refine Fin.then_ret ?_
        refine Fin.ret1 rfl (OutW.bse _ _) rfl ?_
        · refine bool_eq ?_; rw [may_at' (by assumption) hw]; exact (any_hit hx_k (by simp; omega)).symm
      ·
        have q3 := Nrm.nrm h3
        refine Tr.skip ?_
        refine Fin.block ?_
        refine Fin.go ?_
        refine Tr.reg0 ?_
        first
          | (refine Ch.op rfl rfl (by decide) (ok_add rfl (vl rfl) (vl rfl) ?hin) ?_; case hin => unfold InI; omega)
          | refine Ch.op rfl rfl (by decide) (ok_int rfl (vl rfl) (vl rfl) rfl) ?_
        refine Ch.op rfl rfl (by decide) (ok_move rfl (vl rfl)) ?_
        refine Ch.nil ?_
        exact Fin.fam_same (k + 1) ⟨⟨hk_k, upto_s hx_k (by simp; omega) hinv_k⟩, by omega⟩ ⟨⟨_, rfl, int_succ k⟩, ⟨_, rfl, Pr.le_refl _⟩, ⟨_, rfl, Pr.le_refl _⟩, ⟨_, rfl, Pr.le_refl _⟩, trivial⟩
    ·
      have q2 := Nrm.nrm h2
      have he_k : k = (w.teams).length := by have := ge_of_dec h2; omega
      subst he_k
      refine Tr.exit ?_
      refine Fin.then_exit ?_
      refine Fin.then_exit ?_
      refine Fin.block_here ?_
      refine Fin.go ?_
      refine Tr.seq ?_
      refine Tr.reg0 ?_
      refine Ch.op rfl rfl (by decide) (ok_assign rfl (vl rfl)) ?_
      refine Ch.nil ?_
      refine Fin.go ?_
      refine Tr.ret ?_
      refine Fin.ret1 rfl (OutW.bse _ _) rfl ?_
      · refine bool_eq ?_; rw [may_at' (by assumption) hw]; exact (any_miss hinv_k).symm
theorem e_Rmay : Entry Try.prog 51 := ⟨_, Try.func51, rfl, rfl⟩
theorem w_Rknown {c : Cal} {n : Int}  : Fun Try.prog 50 [calP c, int n] (int (if c.own ≠ 0 then c.own else if c.has n then 0 else 2)) := by
  refine Fun.of Try.func50 rfl rfl (by exact Nat.le_of_ble_eq_true rfl) fun M0 w0 => ?_
  refine Tr.lenA 0 1 rfl rfl fun hlA_0_1 => ?_
  refine Tr.lenA 0 2 rfl rfl fun hlA_0_2 => ?_
  refine Tr.seq ?_
  refine Tr.reg0 ?_
  refine Ch.op rfl rfl (by decide) (ok_box rfl (VL.le (vl rfl) (agg_cellsP _))) ?_
  refine Ch.op rfl rfl (by decide) (ok_assign rfl (vl rfl)) ?_
  refine Ch.nil ?_
  refine Fin.go ?_
  refine Tr.seq ?_
  refine Tr.seq ?_
  refine Tr.reg0 ?_
  refine Ch.op rfl rfl (by decide) (ok_loadA rfl agg27 sz27 (vl rfl) rfl rfl) ?_
  refine Ch.op rfl rfl (by decide) (ok_fieldAddr rfl fo27_1 (vl rfl) rfl) ?_
  refine Ch.op rfl rfl (by decide) (ok_load1 rfl one22 (vl rfl)) ?_
  first
    | refine Ch.op rfl rfl (by decide) (ok_lenm rfl Try.underlying22 (vl rfl)) ?_
    | refine Ch.op rfl rfl (by decide) (ok_len rfl Try.underlying22 (vl rfl)) ?_
  refine Ch.op rfl rfl (by decide) (ok_call rfl (w_RCheck) ⟨⟨_, rfl, Pr.le_refl _⟩, ⟨_, rfl, Pr.le_refl _⟩, trivial⟩) ?_
  refine Ch.op rfl rfl (by decide) (ok_assign rfl (vl rfl)) ?_
  refine Ch.nil ?_
  refine Fin.go ?_
  refine Tr.seq ?_
  refine Tr.re 5 rfl (int_eq (b := c.own) rfl) ?_
  refine Tr.reg0 ?_
  refine Ch.op rfl rfl (by decide) (ok_move rfl (vl rfl)) ?_
  refine Ch.op rfl rfl (by decide) (ok_int rfl (vl rfl) (vl rfl) rfl) ?_
  refine Ch.nil ?_
  refine Fin.go ?_
  refine Tr.cond rfl (fun h1 => ?_) (fun h1 => ?_)
  ·
    have q1 := Nrm.nrm h1
    refine Tr.seq ?_
    refine Tr.reg0 ?_
    refine Ch.op rfl rfl (by decide) (ok_move rfl (vl rfl)) ?_
    refine Ch.op rfl rfl (by decide) (ok_assign rfl (vl rfl)) ?_
    refine Ch.nil ?_
    refine Fin.go ?_
    refine Tr.ret ?_
    refine Fin.then_ret ?_
    refine Fin.ret1 rfl (OutW.bse _ _) rfl ?_
    · refine int_eq ?_; rw [if_pos (by assumption)]
  ·
    have q1 := Nrm.nrm h1
    refine Tr.skip ?_
    refine Fin.go ?_
    refine Tr.seq ?_
    refine Tr.seq ?_
    refine Tr.reg0 ?_
    refine Ch.op rfl rfl (by decide) (ok_move rfl (vl rfl)) ?_
    refine Ch.op rfl rfl (by decide) (ok_int rfl (vl rfl) (vl rfl) rfl) ?_
    refine Ch.op rfl rfl (by decide) (ok_move rfl (vl rfl)) ?_
    refine Ch.cases 16 rfl (fun h2 => ?_) (fun h2 => ?_)
    ·
      have q2 := Nrm.nrm h2
      refine Ch.no rfl rfl rfl (ne_false h2) rfl (by decide) ?_
      refine Ch.no rfl rfl rfl (ne_false h2) rfl (by decide) ?_
      refine Ch.no rfl rfl rfl (ne_false h2) rfl (by decide) ?_
      refine Ch.no rfl rfl rfl (ne_false h2) rfl (by decide) ?_
      refine Ch.no rfl rfl rfl (ne_false h2) rfl (by decide) ?_
      refine Ch.op rfl rfl (by decide) (ok_pick_t rfl (vl rfl) h2 (vl rfl)) ?_
      refine Ch.nil ?_
      refine Fin.go ?_
      refine Tr.weak [(22, _)] ⟨⟨_, rfl, Pr.le_refl _⟩, trivial⟩ ?_
      refine Tr.cond rfl (fun _ => ?_) (fun h => nomatch h)
      refine Tr.seq ?_
      refine Tr.reg0 ?_
      refine Ch.op rfl rfl (by decide) (ok_assign rfl (vl rfl)) ?_
      refine Ch.nil ?_
      refine Fin.go ?_
      refine Tr.ret ?_
      refine Fin.then_ret ?_
      refine Fin.ret1 rfl (OutW.bse _ _) rfl ?_
      · refine int_eq ?_; rw [if_neg (not_not_intro (by assumption))]; first | (rw [if_neg (by simp [Cal.has]; omega)]; done) | (rw [if_pos (by simp [Cal.has]; omega)]; done)
    ·
      have q2 := Nrm.nrm h2
      refine Ch.yes rfl rfl rfl h2 rfl (by decide) (ok_move rfl (vl rfl)) ?_
      refine Ch.yes rfl rfl rfl h2 rfl (by decide) (ok_fieldAddr rfl fo27_2 (vl rfl) rfl) ?_
      refine Ch.yes rfl rfl rfl h2 rfl (by decide) (ok_load1 rfl one22 (vl rfl)) ?_
      first
        | refine Ch.yes rfl rfl rfl h2 rfl (by decide) (ok_lenm rfl Try.underlying22 (vl rfl)) ?_
        | refine Ch.yes rfl rfl rfl h2 rfl (by decide) (ok_len rfl Try.underlying22 (vl rfl)) ?_
      refine Ch.yes rfl rfl rfl h2 rfl (by decide) (ok_int rfl (vl rfl) (vl rfl) rfl) ?_
      refine Ch.op rfl rfl (by decide) (ok_pick_f rfl (vl rfl) h2 (vl rfl)) ?_
      refine Ch.nil ?_
      refine Fin.go ?_
      refine Tr.weak [(22, _)] ⟨⟨_, rfl, Pr.le_refl _⟩, trivial⟩ ?_
      refine Tr.cond rfl (fun h3 => ?_) (fun h3 => ?_)
      ·
        have q3 := Nrm.nrm h3
        refine Tr.seq ?_
        refine Tr.reg0 ?_
        refine Ch.op rfl rfl (by decide) (ok_assign rfl (vl rfl)) ?_
        refine Ch.nil ?_
        refine Fin.go ?_
        refine Tr.ret ?_
        refine Fin.then_ret ?_
        refine Fin.ret1 rfl (OutW.bse _ _) rfl ?_
        · refine int_eq ?_; rw [if_neg (not_not_intro (by assumption))]; first | (rw [if_neg (by simp [Cal.has]; omega)]; done) | (rw [if_pos (by simp [Cal.has]; omega)]; done)
      ·
        have q3 := Nrm.nrm h3
        refine Tr.skip ?_
        refine Fin.go ?_
        refine Tr.seq ?_
        refine Tr.reg0 ?_
        refine Ch.op rfl rfl (by decide) (ok_assign rfl (vl rfl)) ?_
        refine Ch.nil ?_
        refine Fin.go ?_
        refine Tr.ret ?_
        refine Fin.ret1 rfl (OutW.bse _ _) rfl ?_
        · refine int_eq ?_; rw [if_neg (not_not_intro (by assumption))]; first | (rw [if_neg (by simp [Cal.has]; omega)]; done) | (rw [if_pos (by simp [Cal.has]; omega)]; done)
theorem e_Rknown : Entry Try.prog 50 := ⟨_, Try.func50, rfl, rfl⟩
theorem w_RAt {c : Cal} {day : Int}  : Fun Try.prog 25 [calP c, int day] (tup [int (if c.own = 0 then max (c.at day) 0 else 0), bool (decide (c.own = 0) && decide (c.at day ≥ 0)), int c.own]) := by
  refine Fun.of Try.func25 rfl rfl (by exact Nat.le_of_ble_eq_true rfl) fun M0 w0 => ?_
  refine Tr.lenA 0 1 rfl rfl fun hlA_0_1 => ?_
  refine Tr.seq ?_
  refine Tr.reg0 ?_
  refine Ch.op rfl rfl (by decide) (ok_box rfl (VL.le (vl rfl) (agg_cellsP _))) ?_
  refine Ch.op rfl rfl (by decide) (ok_assign rfl (vl rfl)) ?_
  refine Ch.op rfl rfl (by decide) (ok_assign rfl (vl rfl)) ?_
  refine Ch.op rfl rfl (by decide) (ok_assign rfl (vl rfl)) ?_
  refine Ch.nil ?_
  refine Fin.go ?_
  refine Tr.seq ?_
  refine Tr.seq ?_
  refine Tr.reg0 ?_
  refine Ch.op rfl rfl (by decide) (ok_loadA rfl agg27 sz27 (vl rfl) rfl rfl) ?_
  refine Ch.op rfl rfl (by decide) (ok_fieldAddr rfl fo27_1 (vl rfl) rfl) ?_
  refine Ch.op rfl rfl (by decide) (ok_load1 rfl one22 (vl rfl)) ?_
  first
    | refine Ch.op rfl rfl (by decide) (ok_lenm rfl Try.underlying22 (vl rfl)) ?_
    | refine Ch.op rfl rfl (by decide) (ok_len rfl Try.underlying22 (vl rfl)) ?_
  refine Ch.op rfl rfl (by decide) (ok_call rfl (w_RCheck) ⟨⟨_, rfl, Pr.le_refl _⟩, ⟨_, rfl, Pr.le_refl _⟩, trivial⟩) ?_
  refine Ch.op rfl rfl (by decide) (ok_assign rfl (vl rfl)) ?_
  refine Ch.nil ?_
  refine Fin.go ?_
  refine Tr.seq ?_
  refine Tr.re 7 rfl (int_eq (b := c.own) rfl) ?_
  refine Tr.reg0 ?_
  refine Ch.op rfl rfl (by decide) (ok_move rfl (vl rfl)) ?_
  refine Ch.op rfl rfl (by decide) (ok_int rfl (vl rfl) (vl rfl) rfl) ?_
  refine Ch.nil ?_
  refine Fin.go ?_
  refine Tr.cond rfl (fun h1 => ?_) (fun h1 => ?_)
  ·
    have q1 := Nrm.nrm h1
    refine Tr.seq ?_
    refine Tr.reg0 ?_
    refine Ch.op rfl rfl (by decide) (ok_move rfl (vl rfl)) ?_
    refine Ch.op rfl rfl (by decide) (ok_assign rfl (vl rfl)) ?_
    refine Ch.op rfl rfl (by decide) (ok_assign rfl (vl rfl)) ?_
    refine Ch.op rfl rfl (by decide) (ok_assign rfl (vl rfl)) ?_
    refine Ch.nil ?_
    refine Fin.go ?_
    refine Tr.weak [(4, _), (5, _), (6, _)] ⟨⟨_, rfl, Pr.le_refl _⟩, ⟨_, rfl, Pr.le_refl _⟩, ⟨_, rfl, Pr.le_refl _⟩, trivial⟩ ?_
    refine Tr.ret ?_
    refine Fin.then_ret ?_
    refine Fin.ret3 rfl (OutW.bse _ _) rfl ?_ rfl ?_ rfl ?_
    · refine int_eq ?_; rw [if_neg (by assumption)]
    · refine bool_eq ?_; simp; intro h; exact absurd h (by assumption)
    · first | exact Pr.le_refl _ | (refine int_eq ?_; simp_all; done) | (refine bool_eq ?_; simp_all; done) | (refine bool_eq ?_; simp_all; omega) | (refine int_eq ?_; omega)
  ·
    have q1 := Nrm.nrm h1
    refine Tr.skip ?_
    refine Fin.go ?_
    refine Tr.seq ?_
    refine Tr.seq ?_
    refine Tr.reg0 ?_
    refine Ch.op rfl rfl (by decide) (ok_loadA rfl agg27 sz27 (vl rfl) rfl rfl) ?_
    refine Ch.op rfl rfl (by decide) (ok_move rfl (vl rfl)) ?_
    refine Ch.op rfl rfl (by decide) (ok_call rfl (w_Rat) ⟨⟨_, rfl, Pr.le_refl _⟩, ⟨_, rfl, Pr.le_refl _⟩, trivial⟩) ?_
    refine Ch.op rfl rfl (by decide) (ok_assign rfl (vl rfl)) ?_
    refine Ch.nil ?_
    refine Fin.go ?_
    refine Tr.weak [(8, _)] ⟨⟨_, rfl, Pr.le_refl _⟩, trivial⟩ ?_
    refine Tr.seq ?_
    refine Tr.reg0 ?_
    refine Ch.op rfl rfl (by decide) (ok_move rfl (vl rfl)) ?_
    refine Ch.op rfl rfl (by decide) (ok_int rfl (vl rfl) (vl rfl) rfl) ?_
    refine Ch.nil ?_
    refine Fin.go ?_
    refine Tr.cond rfl (fun h2 => ?_) (fun h2 => ?_)
    ·
      have q2 := Nrm.nrm h2
      refine Tr.seq ?_
      refine Tr.reg0 ?_
      refine Ch.op rfl rfl (by decide) (ok_move rfl (vl rfl)) ?_
      refine Ch.op rfl rfl (by decide) (ok_assign rfl (vl rfl)) ?_
      refine Ch.op rfl rfl (by decide) (ok_assign rfl (vl rfl)) ?_
      refine Ch.op rfl rfl (by decide) (ok_assign rfl (vl rfl)) ?_
      refine Ch.nil ?_
      refine Fin.go ?_
      refine Tr.ret ?_
      refine Fin.then_ret ?_
      refine Fin.ret3 rfl (OutW.bse _ _) rfl ?_ rfl ?_ rfl ?_
      · refine int_eq ?_; rw [if_pos (by assumption)]; omega
      · refine bool_eq ?_; rw [decide_eq_true (show c.own = 0 by assumption)]; simp; omega
      · refine int_eq ?_; omega
    ·
      have q2 := Nrm.nrm h2
      refine Tr.skip ?_
      refine Fin.go ?_
      refine Tr.seq ?_
      refine Tr.reg0 ?_
      refine Ch.op rfl rfl (by decide) (ok_assign rfl (vl rfl)) ?_
      refine Ch.op rfl rfl (by decide) (ok_assign rfl (vl rfl)) ?_
      refine Ch.op rfl rfl (by decide) (ok_assign rfl (vl rfl)) ?_
      refine Ch.nil ?_
      refine Fin.go ?_
      refine Tr.ret ?_
      refine Fin.ret3 rfl (OutW.bse _ _) rfl ?_ rfl ?_ rfl ?_
      · refine int_eq ?_; rw [if_pos (by assumption)]; omega
      · refine bool_eq ?_; rw [decide_eq_true (show c.own = 0 by assumption)]; simp; omega
      · refine int_eq ?_; omega
theorem e_RAt : Entry Try.prog 25 := ⟨_, Try.func25, rfl, rfl⟩
theorem w_RMay {c : Cal} {n day : Int}  : Fun Try.prog 26 [calP c, int n, int day] (tup [bool (decide (c.own = 0) && c.has n && c.may n day), int (if c.own ≠ 0 then c.own else if c.has n then 0 else 2)]) := by
  refine Fun.of Try.func26 rfl rfl (by exact Nat.le_of_ble_eq_true rfl) fun M0 w0 => ?_
  refine Tr.seq ?_
  refine Tr.reg0 ?_
  refine Ch.op rfl rfl (by decide) (ok_box rfl (VL.le (vl rfl) (agg_cellsP _))) ?_
  refine Ch.op rfl rfl (by decide) (ok_assign rfl (vl rfl)) ?_
  refine Ch.op rfl rfl (by decide) (ok_assign rfl (vl rfl)) ?_
  refine Ch.nil ?_
  refine Fin.go ?_
  refine Tr.seq ?_
  refine Tr.seq ?_
  refine Tr.reg0 ?_
  refine Ch.op rfl rfl (by decide) (ok_loadA rfl agg27 sz27 (vl rfl) rfl rfl) ?_
  refine Ch.op rfl rfl (by decide) (ok_move rfl (vl rfl)) ?_
  refine Ch.op rfl rfl (by decide) (ok_call rfl (w_Rknown) ⟨⟨_, rfl, Pr.le_refl _⟩, ⟨_, rfl, Pr.le_refl _⟩, trivial⟩) ?_
  refine Ch.op rfl rfl (by decide) (ok_assign rfl (vl rfl)) ?_
  refine Ch.nil ?_
  refine Fin.go ?_
  refine Tr.seq ?_
  refine Tr.reg0 ?_
  refine Ch.op rfl rfl (by decide) (ok_move rfl (vl rfl)) ?_
  refine Ch.op rfl rfl (by decide) (ok_int rfl (vl rfl) (vl rfl) rfl) ?_
  refine Ch.nil ?_
  refine Fin.go ?_
  refine Tr.cond rfl (fun h1 => ?_) (fun h1 => ?_)
  ·
    have q1 := Nrm.nrm h1
    refine Tr.seq ?_
    refine Tr.reg0 ?_
    refine Ch.op rfl rfl (by decide) (ok_move rfl (vl rfl)) ?_
    refine Ch.op rfl rfl (by decide) (ok_assign rfl (vl rfl)) ?_
    refine Ch.op rfl rfl (by decide) (ok_assign rfl (vl rfl)) ?_
    refine Ch.nil ?_
    refine Fin.go ?_
    refine Tr.ret ?_
    refine Fin.then_ret ?_
    refine Fin.ret2 rfl (OutW.bse _ _) rfl ?_ rfl ?_
    · refine bool_eq ?_; by_cases h8 : c.own = 0 <;> by_cases h9 : c.has n = true <;> simp_all
    · first | exact Pr.le_refl _ | (refine int_eq ?_; simp_all; done) | (refine bool_eq ?_; simp_all; done) | (refine bool_eq ?_; simp_all; omega) | (refine int_eq ?_; omega)
  ·
    have q1 := Nrm.nrm h1
    refine Tr.skip ?_
    refine Fin.go ?_
    refine Tr.seq ?_
    refine Tr.reg0 ?_
    refine Ch.op rfl rfl (by decide) (ok_loadA rfl agg27 sz27 (vl rfl) rfl rfl) ?_
    refine Ch.op rfl rfl (by decide) (ok_move rfl (vl rfl)) ?_
    refine Ch.op rfl rfl (by decide) (ok_move rfl (vl rfl)) ?_
    refine Ch.op rfl rfl (by decide) (ok_call rfl (w_Rmay) ⟨⟨_, rfl, Pr.le_refl _⟩, ⟨_, rfl, Pr.le_refl _⟩, ⟨_, rfl, Pr.le_refl _⟩, trivial⟩) ?_
    refine Ch.op rfl rfl (by decide) (ok_assign rfl (vl rfl)) ?_
    refine Ch.op rfl rfl (by decide) (ok_assign rfl (vl rfl)) ?_
    refine Ch.nil ?_
    refine Fin.go ?_
    refine Tr.weak [(6, _), (7, _)] ⟨⟨_, rfl, Pr.le_refl _⟩, ⟨_, rfl, Pr.le_refl _⟩, trivial⟩ ?_
    refine Tr.ret ?_
    refine Fin.ret2 rfl (OutW.bse _ _) rfl ?_ rfl ?_
    · refine bool_eq ?_; by_cases h8 : c.own = 0 <;> by_cases h9 : c.has n = true <;> simp_all
    · first | exact Pr.le_refl _ | (refine int_eq ?_; simp_all; done) | (refine bool_eq ?_; simp_all; done) | (refine bool_eq ?_; simp_all; omega) | (refine int_eq ?_; omega)
theorem e_RMay : Entry Try.prog 26 := ⟨_, Try.func26, rfl, rfl⟩

/-- Going through the windows, the first day on which the team may work. -/
theorem next_ref {c : Cal} {n day : Int} (h : c.own = 0) {k : Nat} {w : Win} (hw : c.wins[k]? = some w) (hd : max day w.lo < w.hi) : c.may n (max day w.lo) = w.teams.any (fun x => n == x) := by
  obtain ⟨h1, h2⟩ := own_wins h
  have hm := List.mem_of_getElem? hw
  have h3 := h2 w hm
  unfold Cal.may Cal.winAt
  rw [find_in (ord_apart h1 h2) hm (in_mk (by omega))]
theorem rnext_hit {c : Cal} {n day : Int} (h : c.own = 0) {k : Nat} {w : Win} (hw : c.wins[k]? = some w) (hd : max day w.lo < w.hi) (hm : c.may n (max day w.lo) = true) : nextFrom n (max day 0) (fun _ => true) k (c.wins.drop k) = some (max day w.lo) := by
  have h3 := (own_wins h).2 w (List.mem_of_getElem? hw)
  rw [next_ref h hw hd] at hm
  rw [next_hit hw (by omega) hm rfl, show max (max day 0) w.lo = max day w.lo by omega]
theorem rnext_miss {c : Cal} {n day : Int} (h : c.own = 0) {k : Nat} {w : Win} (hw : c.wins[k]? = some w) (hd : ¬ (max day w.lo < w.hi ∧ c.may n (max day w.lo) = true)) : nextFrom n (max day 0) (fun _ => true) k (c.wins.drop k) = nextFrom n (max day 0) (fun _ => true) (k + 1) (c.wins.drop (k + 1)) := by
  have h3 := (own_wins h).2 w (List.mem_of_getElem? hw)
  refine next_miss hw ?_
  rintro ⟨h1, h2, _⟩
  have h4 : max day w.lo < w.hi := by omega
  exact hd ⟨h4, by rw [next_ref h hw h4]; exact h2⟩
theorem known_ok {c : Cal} {n : Int} (h : (if c.own ≠ 0 then c.own else if c.has n then 0 else 2) = 0) : c.own = 0 ∧ c.has n = true := by
  by_cases h8 : c.own = 0 <;> by_cases h9 : c.has n = true <;> simp_all
theorem known_no {c : Cal} {n : Int} (h : ¬ (if c.own ≠ 0 then c.own else if c.has n then 0 else 2) = 0) : ¬ (c.own = 0 ∧ c.has n = true) := by
  by_cases h8 : c.own = 0 <;> by_cases h9 : c.has n = true <;> simp_all

theorem w_RNext {c : Cal} {n day : Int}  : Fun Try.prog 27 [calP c, int n, int day] (tup [int (if c.own = 0 ∧ c.has n then (c.next n day fun _ => true).getD 0 else 0), bool (decide (c.own = 0) && c.has n && (c.next n day fun _ => true).isSome), int (if c.own ≠ 0 then c.own else if c.has n then 0 else 2)]) := by
  refine Fun.of Try.func27 rfl rfl (by exact Nat.le_of_ble_eq_true rfl) fun M0 w0 => ?_
  refine Tr.lenA 0 0 rfl rfl fun hlA_0_0 => ?_
  refine Tr.seq ?_
  refine Tr.reg0 ?_
  refine Ch.op rfl rfl (by decide) (ok_box rfl (VL.le (vl rfl) (agg_cellsP _))) ?_
  refine Ch.op rfl rfl (by decide) (ok_assign rfl (vl rfl)) ?_
  refine Ch.op rfl rfl (by decide) (ok_assign rfl (vl rfl)) ?_
  refine Ch.op rfl rfl (by decide) (ok_assign rfl (vl rfl)) ?_
  refine Ch.nil ?_
  refine Fin.go ?_
  refine Tr.seq ?_
  refine Tr.seq ?_
  refine Tr.reg0 ?_
  refine Ch.op rfl rfl (by decide) (ok_loadA rfl agg27 sz27 (vl rfl) rfl rfl) ?_
  refine Ch.op rfl rfl (by decide) (ok_move rfl (vl rfl)) ?_
  refine Ch.op rfl rfl (by decide) (ok_call rfl (w_Rknown) ⟨⟨_, rfl, Pr.le_refl _⟩, ⟨_, rfl, Pr.le_refl _⟩, trivial⟩) ?_
  refine Ch.op rfl rfl (by decide) (ok_assign rfl (vl rfl)) ?_
  refine Ch.nil ?_
  refine Fin.go ?_
  refine Tr.seq ?_
  refine Tr.reg0 ?_
  refine Ch.op rfl rfl (by decide) (ok_move rfl (vl rfl)) ?_
  refine Ch.op rfl rfl (by decide) (ok_int rfl (vl rfl) (vl rfl) rfl) ?_
  refine Ch.nil ?_
  refine Fin.go ?_
  refine Tr.cond rfl (fun h1 => ?_) (fun h1 => ?_)
  ·
    have q1 := Nrm.nrm h1
    refine Tr.seq ?_
    refine Tr.reg0 ?_
    refine Ch.op rfl rfl (by decide) (ok_move rfl (vl rfl)) ?_
    refine Ch.op rfl rfl (by decide) (ok_assign rfl (vl rfl)) ?_
    refine Ch.op rfl rfl (by decide) (ok_assign rfl (vl rfl)) ?_
    refine Ch.op rfl rfl (by decide) (ok_assign rfl (vl rfl)) ?_
    refine Ch.nil ?_
    refine Fin.go ?_
    refine Tr.weak [(6, _), (7, _), (8, _)] ⟨⟨_, rfl, Pr.le_refl _⟩, ⟨_, rfl, Pr.le_refl _⟩, ⟨_, rfl, Pr.le_refl _⟩, trivial⟩ ?_
    refine Tr.ret ?_
    refine Fin.then_ret ?_
    refine Fin.ret3 rfl (OutW.bse _ _) rfl ?_ rfl ?_ rfl ?_
    · refine int_eq ?_; rw [if_neg (known_no (by assumption))]
    · refine bool_eq ?_; have := known_no (by assumption); simp; intro h1 h2; exact absurd ⟨h1, h2⟩ this
    · first | exact Pr.le_refl _ | (refine int_eq ?_; simp_all; done) | (refine bool_eq ?_; simp_all; done) | (refine bool_eq ?_; simp_all; omega) | (refine int_eq ?_; omega)
  ·
    have q1 := Nrm.nrm h1
    obtain ⟨hown, hhas⟩ := known_ok q1
    refine Tr.skip ?_
    refine Fin.go ?_
    refine Tr.seq ?_
    refine Tr.seq ?_
    refine Tr.reg0 ?_
    refine Ch.op rfl rfl (by decide) (ok_fieldAddr rfl fo27_0 (vl rfl) rfl) ?_
    refine Ch.op rfl rfl (by decide) (ok_load1 rfl one25 (vl rfl)) ?_
    first
      | refine Ch.op rfl rfl (by decide) (ok_lenm rfl Try.underlying25 (vl rfl)) ?_
      | refine Ch.op rfl rfl (by decide) (ok_len rfl Try.underlying25 (vl rfl)) ?_
    refine Ch.op rfl rfl (by decide) (ok_move rfl (vl rfl)) ?_
    refine Ch.nil ?_
    refine Fin.go ?_
    refine Tr.weak [(1, _), (2, _), (3, _), (20, _), (21, _), (22, _)] ⟨⟨_, rfl, Pr.le_refl _⟩, ⟨_, rfl, Pr.le_refl _⟩, ⟨_, rfl, Pr.le_refl _⟩, ⟨_, rfl, Pr.le_refl _⟩, ⟨_, rfl, Pr.le_refl _⟩, ⟨_, rfl, Pr.le_refl _⟩, trivial⟩ ?_
    refine Tr.block ?_
    refine Tr.loopw [(1, _), (2, _), (3, _), (20, _), (21, _)] ⟨⟨_, rfl, Pr.le_refl _⟩, ⟨_, rfl, Pr.le_refl _⟩, ⟨_, rfl, Pr.le_refl _⟩, ⟨_, rfl, Pr.le_refl _⟩, ⟨_, rfl, Pr.le_refl _⟩, trivial⟩ (fun k : Nat => [(22, int ((k : Nat) : Int))]) (fun k : Nat => k ≤ (c.wins).length ∧ (c.next n day (fun _ => true) = nextFrom n (max day 0) (fun _ => true) k (c.wins.drop k))) (fun k : Nat => (c.wins).length - k) 0 (⟨Nat.zero_le _, rfl⟩) ⟨⟨_, rfl, Pr.le_refl _⟩, trivial⟩ ?_
    rintro k ⟨hle_k, hinv_k⟩
    refine Tr.seq ?_
    refine Tr.reg0 ?_
    refine Ch.op rfl rfl (by decide) (ok_int rfl (vl rfl) (vl rfl) rfl) ?_
    refine Ch.nil ?_
    refine Fin.go ?_
    refine Tr.seq ?_
    refine Tr.cond rfl (fun h2 => ?_) (fun h2 => ?_)
    ·
      have q2 := Nrm.nrm h2
      have hk_k : k < (c.wins).length := lt_of_dec h2
      obtain ⟨w, hx_k⟩ := at_ hk_k
      refine Tr.skip ?_
      refine Fin.go ?_
      refine Tr.seq ?_
      refine Tr.block ?_
      refine Tr.seq ?_
      refine Tr.regT ?_
      refine TO.op rfl rfl (by decide) (ok_indexAddr rfl Try.underlying25 sz45 (vl rfl) (vl rfl) (by omega) (by first | exact row_at (by assumption) | exact row_atI (by assumption) | assumption)) ?_
      refine TO.op rfl rfl (by decide) (ok_loadA rfl agg45 sz45 (vl rfl) rfl rfl) ?_
      refine TO.alloc rfl rfl (by decide) rfl z45 zo45 (fun b1 => ?_)
      refine TO.store_all 0 rfl rfl rfl (vl rfl) (VL.le (vl rfl) (agg_cellsP _)) rfl sz45 rfl rfl ?_
      refine TO.freeze 0 11 rfl rfl ?_
      refine TO.nil ?_
      refine Fin.go ?_
      refine Tr.seq ?_
      refine Tr.reg0 ?_
      refine Ch.op rfl rfl (by decide) (ok_move rfl (vl rfl)) ?_
      refine Ch.op rfl rfl (by decide) (ok_fieldAddr rfl fo45_0 (vl rfl) rfl) ?_
      refine Ch.op rfl rfl (by decide) (ok_fieldAddr rfl fo43_0 (vl rfl) rfl) ?_
      refine Ch.op rfl rfl (by decide) (ok_load1 rfl one3 (vl rfl)) ?_
      refine Ch.op rfl rfl (by decide) (ok_max rfl (vl rfl) (vl rfl)) ?_
      refine Ch.op rfl rfl (by decide) (ok_assign rfl (vl rfl)) ?_
      refine Ch.nil ?_
      refine Fin.go ?_
      refine Tr.weak [(1, _), (2, _), (3, _), (11, _), (12, _), (20, _), (21, _), (22, _)] ⟨⟨_, rfl, Pr.le_refl _⟩, ⟨_, rfl, Pr.le_refl _⟩, ⟨_, rfl, Pr.le_refl _⟩, ⟨_, rfl, Pr.le_refl _⟩, ⟨_, rfl, Pr.le_refl _⟩, ⟨_, rfl, Pr.le_refl _⟩, ⟨_, rfl, Pr.le_refl _⟩, ⟨_, rfl, Pr.le_refl _⟩, trivial⟩ ?_
      refine Tr.seq ?_
      refine Tr.reg0 ?_
      refine Ch.op rfl rfl (by decide) (ok_move rfl (vl rfl)) ?_
      refine Ch.op rfl rfl (by decide) (ok_fieldAddr rfl fo45_0 (vl rfl) rfl) ?_
      refine Ch.op rfl rfl (by decide) (ok_fieldAddr rfl fo43_1 (vl rfl) rfl) ?_
      refine Ch.op rfl rfl (by decide) (ok_load1 rfl one3 (vl rfl)) ?_
      refine Ch.op rfl rfl (by decide) (ok_int rfl (vl rfl) (vl rfl) rfl) ?_
      refine Ch.op rfl rfl (by decide) (ok_move rfl (vl rfl)) ?_
      refine Ch.cases 36 rfl (fun h3 => ?_) (fun h3 => ?_)
      ·
        have q3 := Nrm.nrm h3
        refine Ch.yes rfl rfl rfl h3 rfl (by decide) (ok_loadA rfl agg27 sz27 (vl rfl) rfl rfl) ?_
        refine Ch.yes rfl rfl rfl h3 rfl (by decide) (ok_move rfl (vl rfl)) ?_
        refine Ch.yes rfl rfl rfl h3 rfl (by decide) (ok_move rfl (vl rfl)) ?_
        refine Ch.yes rfl rfl rfl h3 rfl (by decide) (ok_call rfl (w_Rmay) ⟨⟨_, rfl, Pr.le_refl _⟩, ⟨_, rfl, Pr.le_refl _⟩, ⟨_, rfl, Pr.le_refl _⟩, trivial⟩) ?_
        refine Ch.op rfl rfl (by decide) (ok_pick_t rfl (vl rfl) h3 (vl rfl)) ?_
        refine Ch.nil ?_
        refine Fin.go ?_
        refine Tr.weak [(1, _), (2, _), (3, _), (12, _), (20, _), (21, _), (22, _), (41, _)] ⟨⟨_, rfl, Pr.le_refl _⟩, ⟨_, rfl, Pr.le_refl _⟩, ⟨_, rfl, Pr.le_refl _⟩, ⟨_, rfl, Pr.le_refl _⟩, ⟨_, rfl, Pr.le_refl _⟩, ⟨_, rfl, Pr.le_refl _⟩, ⟨_, rfl, Pr.le_refl _⟩, ⟨_, rfl, Pr.le_refl _⟩, trivial⟩ ?_
        refine Tr.cond rfl (fun h4 => ?_) (fun h4 => ?_)
        ·
          have q4 := Nrm.nrm h4
          refine Tr.seq ?_
          refine Tr.reg0 ?_
          refine Ch.op rfl rfl (by decide) (ok_move rfl (vl rfl)) ?_
          refine Ch.op rfl rfl (by decide) (ok_assign rfl (vl rfl)) ?_
          refine Ch.op rfl rfl (by decide) (ok_assign rfl (vl rfl)) ?_
          refine Ch.op rfl rfl (by decide) (ok_assign rfl (vl rfl)) ?_
          refine Ch.nil ?_
          refine Fin.go ?_
          refine Tr.ret ?_
          refine Fin.block_ret ?_
          refine Fin.then_ret ?_
          refine Fin.then_ret ?_
          refine Fin.block_ret ?_
          refine Fin.then_ret ?_
          refine Fin.ret3 rfl (OutW.bse _ _) rfl ?_ rfl ?_ rfl ?_
          · refine int_eq ?_; rw [if_pos ⟨hown, hhas⟩, hinv_k, rnext_hit hown hx_k (by assumption) (by assumption)]; rfl
          · refine bool_eq ?_; rw [hinv_k, rnext_hit hown hx_k (by assumption) (by assumption)]; simp [hown, hhas]
          · refine int_eq ?_; simp [hown, hhas]
        ·
          have q4 := Nrm.nrm h4
          refine Tr.skip ?_
          refine Fin.block ?_
          refine Fin.go ?_
          refine Tr.reg0 ?_
          first
            | (refine Ch.op rfl rfl (by decide) (ok_add rfl (vl rfl) (vl rfl) ?hin) ?_; case hin => unfold InI; omega)
            | refine Ch.op rfl rfl (by decide) (ok_int rfl (vl rfl) (vl rfl) rfl) ?_
          refine Ch.op rfl rfl (by decide) (ok_move rfl (vl rfl)) ?_
          refine Ch.nil ?_
          exact Fin.fam_same (k + 1) ⟨⟨hk_k, (hinv_k.trans (rnext_miss hown hx_k (by rintro ⟨a1, a2⟩; first | omega | (simp_all; done))))⟩, by omega⟩ ⟨⟨_, rfl, int_succ k⟩, ⟨_, rfl, Pr.le_refl _⟩, ⟨_, rfl, Pr.le_refl _⟩, ⟨_, rfl, Pr.le_refl _⟩, ⟨_, rfl, Pr.le_refl _⟩, ⟨_, rfl, Pr.le_refl _⟩, trivial⟩
      ·
        have q3 := Nrm.nrm h3
        refine Ch.no rfl rfl rfl (ne_true h3) rfl (by decide) ?_
        refine Ch.no rfl rfl rfl (ne_true h3) rfl (by decide) ?_
        refine Ch.no rfl rfl rfl (ne_true h3) rfl (by decide) ?_
        refine Ch.no rfl rfl rfl (ne_true h3) rfl (by decide) ?_
        refine Ch.op rfl rfl (by decide) (ok_pick_f rfl (vl rfl) h3 (vl rfl)) ?_
        refine Ch.nil ?_
        refine Fin.go ?_
        refine Tr.weak [(1, _), (2, _), (3, _), (12, _), (20, _), (21, _), (22, _), (41, _)] ⟨⟨_, rfl, Pr.le_refl _⟩, ⟨_, rfl, Pr.le_refl _⟩, ⟨_, rfl, Pr.le_refl _⟩, ⟨_, rfl, Pr.le_refl _⟩, ⟨_, rfl, Pr.le_refl _⟩, ⟨_, rfl, Pr.le_refl _⟩, ⟨_, rfl, Pr.le_refl _⟩, ⟨_, rfl, Pr.le_refl _⟩, trivial⟩ ?_
        refine Tr.cond rfl (fun h => nomatch h) (fun _ => ?_)
        refine Tr.skip ?_
        refine Fin.block ?_
        refine Fin.go ?_
        refine Tr.reg0 ?_
        first
          | (refine Ch.op rfl rfl (by decide) (ok_add rfl (vl rfl) (vl rfl) ?hin) ?_; case hin => unfold InI; omega)
          | refine Ch.op rfl rfl (by decide) (ok_int rfl (vl rfl) (vl rfl) rfl) ?_
        refine Ch.op rfl rfl (by decide) (ok_move rfl (vl rfl)) ?_
        refine Ch.nil ?_
        exact Fin.fam_same (k + 1) ⟨⟨hk_k, (hinv_k.trans (rnext_miss hown hx_k (by rintro ⟨a1, a2⟩; first | omega | (simp_all; done))))⟩, by omega⟩ ⟨⟨_, rfl, int_succ k⟩, ⟨_, rfl, Pr.le_refl _⟩, ⟨_, rfl, Pr.le_refl _⟩, ⟨_, rfl, Pr.le_refl _⟩, ⟨_, rfl, Pr.le_refl _⟩, ⟨_, rfl, Pr.le_refl _⟩, trivial⟩
    ·
      have q2 := Nrm.nrm h2
      have he_k : k = (c.wins).length := by have := ge_of_dec h2; omega
      subst he_k
      refine Tr.exit ?_
      refine Fin.then_exit ?_
      refine Fin.then_exit ?_
      refine Fin.block_here ?_
      refine Fin.go ?_
      refine Tr.seq ?_
      refine Tr.reg0 ?_
      refine Ch.op rfl rfl (by decide) (ok_assign rfl (vl rfl)) ?_
      refine Ch.op rfl rfl (by decide) (ok_assign rfl (vl rfl)) ?_
      refine Ch.op rfl rfl (by decide) (ok_assign rfl (vl rfl)) ?_
      refine Ch.nil ?_
      refine Fin.go ?_
      refine Tr.ret ?_
      refine Fin.ret3 rfl (OutW.bse _ _) rfl ?_ rfl ?_ rfl ?_
      · refine int_eq ?_; rw [if_pos ⟨hown, hhas⟩, hinv_k, List.drop_length]; rfl
      · refine bool_eq ?_; rw [hinv_k, List.drop_length]; simp [nextFrom]
      · refine int_eq ?_; simp [hown, hhas]
theorem e_RNext : Entry Try.prog 27 := ⟨_, Try.func27, rfl, rfl⟩
end Go.Proofs.Ytacifhfelijekaa
