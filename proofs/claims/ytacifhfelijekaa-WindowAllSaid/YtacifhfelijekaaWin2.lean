/-
  What the functions named below compute, proved from their text; printed by a program of our own.
-/
import Derived.Test.YtacifhfelijekaaTypes
import Derived.Test.YtacifhfelijekaaSlices
import Derived.Test.YtacifhfelijekaaWin1
namespace Go.Proofs.Ytacifhfelijekaa
open Go Go.RowKit Cp

theorem step_ordW {l : List Win} {k : Nat} {x : Win} (hx : l[k]? = some x) (hp : ∀ y, 0 < k → l[k - 1]? = some y → y.hi ≤ x.lo) (h : ∀ (j : Nat) a b, j + 1 < k → l[j]? = some a → l[j + 1]? = some b → a.hi ≤ b.lo) :
    ∀ (j : Nat) a b, j + 1 < k + 1 → l[j]? = some a → l[j + 1]? = some b → a.hi ≤ b.lo := by
  intro j a b hj ha hb
  by_cases hjk : j + 1 = k
  · subst hjk; rw [hx] at hb; cases hb; exact hp a (by omega) (by simpa using ha)
  · exact h j a b (by omega) ha hb
theorem step_ordT {l : List Int} {k : Nat} {x : Int} (hx : l[k]? = some x) (hp : ∀ y, 0 < k → l[k - 1]? = some y → y < x) (h : ∀ (j : Nat) a b, j + 1 < k → l[j]? = some a → l[j + 1]? = some b → a < b) :
    ∀ (j : Nat) a b, j + 1 < k + 1 → l[j]? = some a → l[j + 1]? = some b → a < b := by
  intro j a b hj ha hb
  by_cases hjk : j + 1 = k
  · subst hjk; rw [hx] at hb; cases hb; exact hp a (by omega) (by simpa using ha)
  · exact h j a b (by omega) ha hb
theorem step_lt {l : List Win} {k : Nat} {x : Win} (hx : l[k]? = some x) (hp : ∀ (j : Nat) a b, j + 1 < x.teams.length → x.teams[j]? = some a → x.teams[j + 1]? = some b → a < b) (h : ∀ (j : Nat) a, j < k → l[j]? = some a → OrdT a.teams) :
    ∀ (j : Nat) a, j < k + 1 → l[j]? = some a → OrdT a.teams := by
  intro j a hj ha
  by_cases hjk : j = k
  · subst hjk; rw [hx] at ha; cases ha
    intro i u v hu hv
    exact hp i u v (by rcases Nat.lt_or_ge (i + 1) x.teams.length with h | h; exact h; rw [List.getElem?_eq_none h] at hv; cases hv) hu hv
  · exact h j a (by omega) ha
theorem ord_all {l : List Win} (h : (∀ (j : Nat) a b, j + 1 < l.length → l[j]? = some a → l[j + 1]? = some b → a.hi ≤ b.lo) ∧ ∀ (j : Nat) a, j < l.length → l[j]? = some a → OrdT a.teams) : OrdW l ∧ ∀ w ∈ l, OrdT w.teams := by
  refine ⟨fun j a b ha hb => h.1 j a b (by rcases Nat.lt_or_ge (j + 1) l.length with h | h; exact h; rw [List.getElem?_eq_none h] at hb; cases hb) ha hb, fun w hw => ?_⟩
  obtain ⟨j, hj, rfl⟩ := List.mem_iff_getElem.1 hw
  exact h.2 j _ hj (List.getElem?_eq_getElem hj)
theorem not_ordW {l : List Win} {k : Nat} {x y : Win} (hk : 0 < k) (hx : l[k]? = some x) (hy : l[k - 1]? = some y) (h : x.lo < y.hi) : ¬ (OrdW l ∧ ∀ w ∈ l, OrdT w.teams) := by
  rintro ⟨h1, _⟩
  have := h1 (k - 1) y x hy (by rw [show k - 1 + 1 = k by omega]; exact hx)
  omega
theorem not_ordT {l : List Win} {k i : Nat} {x : Win} {t u : Int} (hx : l[k]? = some x) (hi : 0 < i) (ht : x.teams[i]? = some t) (hu : x.teams[i - 1]? = some u) (h : t ≤ u) : ¬ (OrdW l ∧ ∀ w ∈ l, OrdT w.teams) := by
  rintro ⟨_, h2⟩
  have := h2 x (List.mem_of_getElem? hx) (i - 1) u t hu (by rw [show i - 1 + 1 = i by omega]; exact ht)
  omega

theorem w_Check {c : Cal} {m : Int}  : Fun Try.prog 22 [calP c, int m] (int (c.check m)) := by
  refine Fun.of Try.func22 rfl rfl (by exact Nat.le_of_ble_eq_true rfl) fun M0 w0 => ?_
  refine Tr.lenA 0 0 rfl rfl fun hlA_0_0 => ?_
  refine Tr.lenA 0 1 rfl rfl fun hlA_0_1 => ?_
  refine Tr.lenA 0 2 rfl rfl fun hlA_0_2 => ?_
  refine Tr.seq ?_
  refine Tr.reg0 ?_
  refine Ch.op rfl rfl (by decide) (ok_box rfl (VL.le (vl rfl) (agg_cellsP _))) ?_
  refine Ch.op rfl rfl (by decide) (ok_assign rfl (vl rfl)) ?_
  refine Ch.nil ?_
  refine Fin.go ?_
  refine Tr.seq ?_
  refine Tr.seq ?_
  refine Tr.reg0 ?_
  refine Ch.op rfl rfl (by decide) (ok_fieldAddr rfl fo27_0 (vl rfl) rfl) ?_
  refine Ch.op rfl rfl (by decide) (ok_load1 rfl one25 (vl rfl)) ?_
  first
    | refine Ch.op rfl rfl (by decide) (ok_lenm rfl Try.underlying25 (vl rfl)) ?_
    | refine Ch.op rfl rfl (by decide) (ok_len rfl Try.underlying25 (vl rfl)) ?_
  refine Ch.op rfl rfl (by decide) (ok_int rfl (vl rfl) (vl rfl) rfl) ?_
  refine Ch.op rfl rfl (by decide) (ok_move rfl (vl rfl)) ?_
  refine Ch.cases 14 rfl (fun h1 => ?_) (fun h1 => ?_)
  ·
    have q1 := Nrm.nrm h1
    refine Ch.no rfl rfl rfl (ne_false h1) rfl (by decide) ?_
    refine Ch.no rfl rfl rfl (ne_false h1) rfl (by decide) ?_
    refine Ch.no rfl rfl rfl (ne_false h1) rfl (by decide) ?_
    refine Ch.no rfl rfl rfl (ne_false h1) rfl (by decide) ?_
    refine Ch.op rfl rfl (by decide) (ok_pick_t rfl (vl rfl) h1 (vl rfl)) ?_
    refine Ch.nil ?_
    refine Fin.go ?_
    refine Tr.cond rfl (fun _ => ?_) (fun h => nomatch h)
    refine Tr.seq ?_
    refine Tr.reg0 ?_
    refine Ch.op rfl rfl (by decide) (ok_assign rfl (vl rfl)) ?_
    refine Ch.nil ?_
    refine Fin.go ?_
    refine Tr.ret ?_
    refine Fin.then_ret ?_
    refine Fin.ret1 rfl (OutW.bse _ _) rfl ?_
    · refine int_eq ?_; unfold Cal.check; rw [if_pos (by omega)]
  ·
    have q1 := Nrm.nrm h1
    refine Ch.yes rfl rfl rfl h1 rfl (by decide) (ok_fieldAddr rfl fo27_2 (vl rfl) rfl) ?_
    refine Ch.yes rfl rfl rfl h1 rfl (by decide) (ok_load1 rfl one22 (vl rfl)) ?_
    first
      | refine Ch.yes rfl rfl rfl h1 rfl (by decide) (ok_lenm rfl Try.underlying22 (vl rfl)) ?_
      | refine Ch.yes rfl rfl rfl h1 rfl (by decide) (ok_len rfl Try.underlying22 (vl rfl)) ?_
    refine Ch.yes rfl rfl rfl h1 rfl (by decide) (ok_int rfl (vl rfl) (vl rfl) rfl) ?_
    refine Ch.op rfl rfl (by decide) (ok_pick_f rfl (vl rfl) h1 (vl rfl)) ?_
    refine Ch.nil ?_
    refine Fin.go ?_
    refine Tr.cond rfl (fun h2 => ?_) (fun h2 => ?_)
    ·
      have q2 := Nrm.nrm h2
      refine Tr.seq ?_
      refine Tr.reg0 ?_
      refine Ch.op rfl rfl (by decide) (ok_assign rfl (vl rfl)) ?_
      refine Ch.nil ?_
      refine Fin.go ?_
      refine Tr.ret ?_
      refine Fin.then_ret ?_
      refine Fin.ret1 rfl (OutW.bse _ _) rfl ?_
      · refine int_eq ?_; unfold Cal.check; rw [if_pos (by omega)]
    ·
      have q2 := Nrm.nrm h2
      refine Tr.skip ?_
      refine Fin.go ?_
      refine Tr.seq ?_
      refine Tr.seq ?_
      refine Tr.reg0 ?_
      refine Ch.op rfl rfl (by decide) (ok_fieldAddr rfl fo27_2 (vl rfl) rfl) ?_
      refine Ch.op rfl rfl (by decide) (ok_load1 rfl one22 (vl rfl)) ?_
      refine Ch.op rfl rfl (by decide) (ok_call rfl (w_ContainsFuncI (p := badRoom)) ⟨⟨_, rfl, Pr.le_refl _⟩, ⟨_, rfl, fn_le_clo (w_Check1 (n := 0)).1 (fun x => w_Check1 (n := x))⟩, trivial⟩) ?_
      refine Ch.nil ?_
      refine Fin.go ?_
      refine Tr.weak [(1, _), (2, _), (22, _)] ⟨⟨_, rfl, Pr.le_refl _⟩, ⟨_, rfl, Pr.le_refl _⟩, ⟨_, rfl, Pr.le_refl _⟩, trivial⟩ ?_
      refine Tr.cond rfl (fun h3 => ?_) (fun h3 => ?_)
      ·
        have q3 := Nrm.nrm h3
        refine Tr.seq ?_
        refine Tr.reg0 ?_
        refine Ch.op rfl rfl (by decide) (ok_assign rfl (vl rfl)) ?_
        refine Ch.nil ?_
        refine Fin.go ?_
        refine Tr.ret ?_
        refine Fin.then_ret ?_
        refine Fin.ret1 rfl (OutW.bse _ _) rfl ?_
        · refine int_eq ?_; unfold Cal.check; rw [if_neg (by omega), if_pos h3]
      ·
        have q3 := Nrm.nrm h3
        refine Tr.skip ?_
        refine Fin.go ?_
        refine Tr.seq ?_
        refine Tr.seq ?_
        refine Tr.reg0 ?_
        refine Ch.op rfl rfl (by decide) (ok_fieldAddr rfl fo27_0 (vl rfl) rfl) ?_
        refine Ch.op rfl rfl (by decide) (ok_load1 rfl one25 (vl rfl)) ?_
        refine Ch.op rfl rfl (by decide) (ok_call rfl (w_ContainsFuncW (p := badWin)) ⟨⟨_, rfl, Pr.le_refl _⟩, ⟨_, rfl, fn_le_clo (w_Check2 (w := ⟨0, 0, []⟩)).1 (fun x => w_Check2 (w := x))⟩, trivial⟩) ?_
        refine Ch.nil ?_
        refine Fin.go ?_
        refine Tr.cond rfl (fun h4 => ?_) (fun h4 => ?_)
        ·
          have q4 := Nrm.nrm h4
          refine Tr.seq ?_
          refine Tr.reg0 ?_
          refine Ch.op rfl rfl (by decide) (ok_assign rfl (vl rfl)) ?_
          refine Ch.nil ?_
          refine Fin.go ?_
          refine Tr.ret ?_
          refine Fin.then_ret ?_
          refine Fin.ret1 rfl (OutW.bse _ _) rfl ?_
          · refine int_eq ?_; unfold Cal.check; rw [if_neg (by omega), if_neg (ne_true h3), if_pos h4]
        ·
          have q4 := Nrm.nrm h4
          refine Tr.skip ?_
          refine Fin.go ?_
          refine Tr.seq ?_
          refine Tr.seq ?_
          refine Tr.reg0 ?_
          refine Ch.op rfl rfl (by decide) (ok_fieldAddr rfl fo27_0 (vl rfl) rfl) ?_
          refine Ch.op rfl rfl (by decide) (ok_load1 rfl one25 (vl rfl)) ?_
          first
            | refine Ch.op rfl rfl (by decide) (ok_lenm rfl Try.underlying25 (vl rfl)) ?_
            | refine Ch.op rfl rfl (by decide) (ok_len rfl Try.underlying25 (vl rfl)) ?_
          refine Ch.op rfl rfl (by decide) (ok_move rfl (vl rfl)) ?_
          refine Ch.nil ?_
          refine Fin.go ?_
          refine Tr.block ?_
          refine Tr.loopw [(1, _), (2, _), (27, _), (28, _)] ⟨⟨_, rfl, Pr.le_refl _⟩, ⟨_, rfl, Pr.le_refl _⟩, ⟨_, rfl, Pr.le_refl _⟩, ⟨_, rfl, Pr.le_refl _⟩, trivial⟩ (fun k : Nat => [(29, int ((k : Nat) : Int))]) (fun k : Nat => k ≤ (c.wins).length ∧ ((∀ (j : Nat) a b, j + 1 < k → c.wins[j]? = some a → c.wins[j + 1]? = some b → a.hi ≤ b.lo) ∧ ∀ (j : Nat) a, j < k → c.wins[j]? = some a → OrdT a.teams)) (fun k : Nat => (c.wins).length - k) 0 (⟨Nat.zero_le _, ⟨fun j a b hj => absurd hj (by omega), fun j a hj => absurd hj (by omega)⟩⟩) ⟨⟨_, rfl, Pr.le_refl _⟩, trivial⟩ ?_
          rintro k ⟨hle_k, hinv_k⟩
          refine Tr.seq ?_
          refine Tr.reg0 ?_
          refine Ch.op rfl rfl (by decide) (ok_int rfl (vl rfl) (vl rfl) rfl) ?_
          refine Ch.nil ?_
          refine Fin.go ?_
          refine Tr.seq ?_
          refine Tr.cond rfl (fun h5 => ?_) (fun h5 => ?_)
          ·
            have q5 := Nrm.nrm h5
            have hk_k : k < (c.wins).length := lt_of_dec h5
            obtain ⟨x, hx_k⟩ := at_ hk_k
            refine Tr.skip ?_
            refine Fin.go ?_
            refine Tr.seq ?_
            refine Tr.block ?_
            refine Tr.seq ?_
            refine Tr.regT ?_
            refine TO.op rfl rfl (by decide) (ok_move rfl (vl rfl)) ?_
            refine TO.op rfl rfl (by decide) (ok_indexAddr rfl Try.underlying25 sz45 (vl rfl) (vl rfl) (by omega) (by first | exact row_at (by assumption) | exact row_atI (by assumption) | assumption)) ?_
            refine TO.op rfl rfl (by decide) (ok_loadA rfl agg45 sz45 (vl rfl) rfl rfl) ?_
            refine TO.alloc rfl rfl (by decide) rfl z45 zo45 (fun b1 => ?_)
            refine TO.op rfl rfl (by decide) (ok_assign rfl (vl rfl)) ?_
            refine TO.store_all 0 rfl rfl rfl (vl rfl) (VL.le (vl rfl) (agg_cellsP _)) rfl sz45 rfl rfl ?_
            refine TO.freeze 0 6 rfl rfl ?_
            refine TO.nil ?_
            refine Fin.go ?_
            refine Tr.weak [(1, _), (2, _), (5, _), (6, _), (27, _), (28, _), (29, _)] ⟨⟨_, rfl, Pr.le_refl _⟩, ⟨_, rfl, Pr.le_refl _⟩, ⟨_, rfl, Pr.le_refl _⟩, ⟨_, rfl, Pr.le_refl _⟩, ⟨_, rfl, Pr.le_refl _⟩, ⟨_, rfl, Pr.le_refl _⟩, ⟨_, rfl, Pr.le_refl _⟩, trivial⟩ ?_
            refine Tr.cutk [1, 2, 6, 27, 28, 29] [] (∀ y, 0 < k → c.wins[k - 1]? = some y → y.hi ≤ x.lo) ?_ (fun hprev => ?_)
            ·
              refine Tr.seq ?_
              refine Tr.reg1 mixed (by kernel_rfl) ?_
              refine Ch.op rfl rfl (by decide) (ok_move rfl (vl rfl)) ?_
              refine Ch.op rfl rfl (by decide) (ok_int rfl (vl rfl) (vl rfl) rfl) ?_
              refine Ch.op rfl rfl (by decide) (ok_move rfl (vl rfl)) ?_
              refine Ch.cases 36 rfl (fun h7 => ?_) (fun h7 => ?_)
              ·
                have q7 := Nrm.nrm h7
                obtain ⟨y, hy⟩ := at_ (l := c.wins) (k := k - 1) (by omega)
                refine Ch.yes rfl rfl rfl h7 rfl (by decide) (ok_fieldAddr rfl fo45_0 (vl rfl) rfl) ?_
                refine Ch.yes rfl rfl rfl h7 rfl (by decide) (ok_fieldAddr rfl fo43_0 (vl rfl) rfl) ?_
                refine Ch.yes rfl rfl rfl h7 rfl (by decide) (ok_load1 rfl one3 (vl rfl)) ?_
                refine Ch.yes rfl rfl rfl h7 rfl (by decide) (ok_fieldAddr rfl fo27_0 (vl rfl) rfl) ?_
                refine Ch.yes rfl rfl rfl h7 rfl (by decide) (ok_load1 rfl one25 (vl rfl)) ?_
                refine Ch.yes rfl rfl rfl h7 rfl (by decide) (ok_move rfl (vl rfl)) ?_
                first
                  | (refine Ch.yes rfl rfl rfl h7 rfl (by decide) (ok_sub rfl (vl rfl) (vl rfl) ?hin) ?_; case hin => unfold InI; omega)
                  | refine Ch.yes rfl rfl rfl h7 rfl (by decide) (ok_int rfl (vl rfl) (vl rfl) rfl) ?_
                refine Ch.yes rfl rfl rfl h7 rfl (by decide) (ok_indexAddr rfl Try.underlying25 sz45 (vl rfl) (vl rfl) (by omega) (row_pred (by omega) hy)) ?_
                refine Ch.yes rfl rfl rfl h7 rfl (by decide) (ok_fieldAddr rfl fo45_0 (vl rfl) rfl) ?_
                refine Ch.yes rfl rfl rfl h7 rfl (by decide) (ok_fieldAddr rfl fo43_1 (vl rfl) rfl) ?_
                refine Ch.yes rfl rfl rfl h7 rfl (by decide) (ok_load1 rfl one3 (vl rfl)) ?_
                refine Ch.yes rfl rfl rfl h7 rfl (by decide) (ok_int rfl (vl rfl) (vl rfl) rfl) ?_
                refine Ch.op rfl rfl (by decide) (ok_pick_t rfl (vl rfl) h7 (vl rfl)) ?_
                refine Ch.nil ?_
                refine Fin.go ?_
                refine Tr.weak [(1, _), (2, _), (6, _), (27, _), (28, _), (29, _), (49, _)] ⟨⟨_, rfl, Pr.le_refl _⟩, ⟨_, rfl, Pr.le_refl _⟩, ⟨_, rfl, Pr.le_refl _⟩, ⟨_, rfl, Pr.le_refl _⟩, ⟨_, rfl, Pr.le_refl _⟩, ⟨_, rfl, Pr.le_refl _⟩, ⟨_, rfl, Pr.le_refl _⟩, trivial⟩ ?_
                refine Tr.cond rfl (fun h8 => ?_) (fun h8 => ?_)
                ·
                  have q8 := Nrm.nrm h8
                  refine Tr.seq ?_
                  refine Tr.reg0 ?_
                  refine Ch.op rfl rfl (by decide) (ok_assign rfl (vl rfl)) ?_
                  refine Ch.nil ?_
                  refine Fin.go ?_
                  refine Tr.ret ?_
                  refine Fin.then_ret ?_
                  refine Fin.block_ret ?_
                  refine Fin.then_ret ?_
                  refine Fin.then_ret ?_
                  refine Fin.block_ret ?_
                  refine Fin.then_ret ?_
                  refine Fin.ret1 rfl (OutW.bse _ _) rfl ?_
                  · refine int_eq ?_; unfold Cal.check; rw [if_neg (by omega), if_neg (ne_true h3), if_neg (ne_true h4), if_pos (not_ordW (by omega) hx_k hy (by assumption))]
                ·
                  have q8 := Nrm.nrm h8
                  refine Tr.skip ?_
                  exact Fin.fam_same () (by intro y' hk' hy'; first | omega | (rw [hy] at hy'; cases hy'; omega)) ⟨⟨_, rfl, Pr.le_refl _⟩, ⟨_, rfl, Pr.le_refl _⟩, ⟨_, rfl, Pr.le_refl _⟩, ⟨_, rfl, Pr.le_refl _⟩, ⟨_, rfl, Pr.le_refl _⟩, ⟨_, rfl, Pr.le_refl _⟩, trivial⟩
              ·
                have q7 := Nrm.nrm h7
                refine Ch.no rfl rfl rfl (ne_true h7) rfl (by decide) ?_
                refine Ch.no rfl rfl rfl (ne_true h7) rfl (by decide) ?_
                refine Ch.no rfl rfl rfl (ne_true h7) rfl (by decide) ?_
                refine Ch.no rfl rfl rfl (ne_true h7) rfl (by decide) ?_
                refine Ch.no rfl rfl rfl (ne_true h7) rfl (by decide) ?_
                refine Ch.no rfl rfl rfl (ne_true h7) rfl (by decide) ?_
                refine Ch.no rfl rfl rfl (ne_true h7) rfl (by decide) ?_
                refine Ch.no rfl rfl rfl (ne_true h7) rfl (by decide) ?_
                refine Ch.no rfl rfl rfl (ne_true h7) rfl (by decide) ?_
                refine Ch.no rfl rfl rfl (ne_true h7) rfl (by decide) ?_
                refine Ch.no rfl rfl rfl (ne_true h7) rfl (by decide) ?_
                refine Ch.no rfl rfl rfl (ne_true h7) rfl (by decide) ?_
                refine Ch.op rfl rfl (by decide) (ok_pick_f rfl (vl rfl) h7 (vl rfl)) ?_
                refine Ch.nil ?_
                refine Fin.go ?_
                refine Tr.weak [(1, _), (2, _), (6, _), (27, _), (28, _), (29, _), (49, _)] ⟨⟨_, rfl, Pr.le_refl _⟩, ⟨_, rfl, Pr.le_refl _⟩, ⟨_, rfl, Pr.le_refl _⟩, ⟨_, rfl, Pr.le_refl _⟩, ⟨_, rfl, Pr.le_refl _⟩, ⟨_, rfl, Pr.le_refl _⟩, ⟨_, rfl, Pr.le_refl _⟩, trivial⟩ ?_
                refine Tr.cond rfl (fun h => nomatch h) (fun _ => ?_)
                refine Tr.skip ?_
                exact Fin.fam_same () (by intro y' hk' hy'; first | omega | (rw [hy] at hy'; cases hy'; omega)) ⟨⟨_, rfl, Pr.le_refl _⟩, ⟨_, rfl, Pr.le_refl _⟩, ⟨_, rfl, Pr.le_refl _⟩, ⟨_, rfl, Pr.le_refl _⟩, ⟨_, rfl, Pr.le_refl _⟩, ⟨_, rfl, Pr.le_refl _⟩, trivial⟩
            ·
              refine Tr.seq ?_
              refine Tr.reg0 ?_
              refine Ch.op rfl rfl (by decide) (ok_fieldAddr rfl fo45_1 (vl rfl) rfl) ?_
              refine Ch.op rfl rfl (by decide) (ok_load1 rfl one22 (vl rfl)) ?_
              first
                | refine Ch.op rfl rfl (by decide) (ok_lenm rfl Try.underlying22 (vl rfl)) ?_
                | refine Ch.op rfl rfl (by decide) (ok_len rfl Try.underlying22 (vl rfl)) ?_
              refine Ch.op rfl rfl (by decide) (ok_move rfl (vl rfl)) ?_
              refine Ch.nil ?_
              refine Fin.go ?_
              refine Tr.block ?_
              refine Tr.lenm 51 rfl fun hlt => ?_
              refine Tr.loopw [(1, _), (2, _), (6, _), (27, _), (28, _), (29, _), (51, _), (52, _)] ⟨⟨_, rfl, Pr.le_refl _⟩, ⟨_, rfl, Pr.le_refl _⟩, ⟨_, rfl, Pr.le_refl _⟩, ⟨_, rfl, Pr.le_refl _⟩, ⟨_, rfl, Pr.le_refl _⟩, ⟨_, rfl, Pr.le_refl _⟩, ⟨_, rfl, Pr.le_refl _⟩, ⟨_, rfl, Pr.le_refl _⟩, trivial⟩ (fun i : Nat => [(53, int ((i : Nat) : Int))]) (fun i : Nat => i ≤ (x.teams).length ∧ (∀ (j : Nat) a b, j + 1 < i → x.teams[j]? = some a → x.teams[j + 1]? = some b → a < b)) (fun i : Nat => (x.teams).length - i) 0 (⟨Nat.zero_le _, fun j a b hj => absurd hj (by omega)⟩) ⟨⟨_, rfl, Pr.le_refl _⟩, trivial⟩ ?_
              rintro i ⟨hle_i, hinv_i⟩
              refine Tr.seq ?_
              refine Tr.reg0 ?_
              refine Ch.op rfl rfl (by decide) (ok_int rfl (vl rfl) (vl rfl) rfl) ?_
              refine Ch.nil ?_
              refine Fin.go ?_
              refine Tr.seq ?_
              refine Tr.cond rfl (fun h9 => ?_) (fun h9 => ?_)
              ·
                have q9 := Nrm.nrm h9
                have hk_i : i < (x.teams).length := lt_of_dec h9
                obtain ⟨t, hx_i⟩ := at_ hk_i
                refine Tr.skip ?_
                refine Fin.go ?_
                refine Tr.seq ?_
                refine Tr.block ?_
                refine Tr.seq ?_
                refine Tr.reg0 ?_
                refine Ch.op rfl rfl (by decide) (ok_move rfl (vl rfl)) ?_
                refine Ch.op rfl rfl (by decide) (ok_indexAddr rfl Try.underlying22 sz3 (vl rfl) (vl rfl) (by omega) (by first | exact row_at (by assumption) | exact row_atI (by assumption) | assumption)) ?_
                refine Ch.op rfl rfl (by decide) (ok_load1 rfl one3 (vl rfl)) ?_
                refine Ch.op rfl rfl (by decide) (ok_assign rfl (vl rfl)) ?_
                refine Ch.op rfl rfl (by decide) (ok_assign rfl (vl rfl)) ?_
                refine Ch.nil ?_
                refine Fin.go ?_
                refine Tr.weak [(1, _), (2, _), (6, _), (7, _), (8, _), (27, _), (28, _), (29, _), (51, _), (52, _), (53, _)] ⟨⟨_, rfl, Pr.le_refl _⟩, ⟨_, rfl, Pr.le_refl _⟩, ⟨_, rfl, Pr.le_refl _⟩, ⟨_, rfl, Pr.le_refl _⟩, ⟨_, rfl, Pr.le_refl _⟩, ⟨_, rfl, Pr.le_refl _⟩, ⟨_, rfl, Pr.le_refl _⟩, ⟨_, rfl, Pr.le_refl _⟩, ⟨_, rfl, Pr.le_refl _⟩, ⟨_, rfl, Pr.le_refl _⟩, ⟨_, rfl, Pr.le_refl _⟩, trivial⟩ ?_
                refine Tr.seq ?_
                refine Tr.reg0 ?_
                refine Ch.op rfl rfl (by decide) (ok_move rfl (vl rfl)) ?_
                refine Ch.op rfl rfl (by decide) (ok_int rfl (vl rfl) (vl rfl) rfl) ?_
                refine Ch.op rfl rfl (by decide) (ok_move rfl (vl rfl)) ?_
                refine Ch.cases 60 rfl (fun h10 => ?_) (fun h10 => ?_)
                ·
                  have q10 := Nrm.nrm h10
                  obtain ⟨u, hu⟩ := at_ (l := x.teams) (k := i - 1) (by omega)
                  refine Ch.yes rfl rfl rfl h10 rfl (by decide) (ok_move rfl (vl rfl)) ?_
                  refine Ch.yes rfl rfl rfl h10 rfl (by decide) (ok_fieldAddr rfl fo45_1 (vl rfl) rfl) ?_
                  refine Ch.yes rfl rfl rfl h10 rfl (by decide) (ok_load1 rfl one22 (vl rfl)) ?_
                  refine Ch.yes rfl rfl rfl h10 rfl (by decide) (ok_move rfl (vl rfl)) ?_
                  first
                    | (refine Ch.yes rfl rfl rfl h10 rfl (by decide) (ok_sub rfl (vl rfl) (vl rfl) ?hin) ?_; case hin => unfold InI; omega)
                    | refine Ch.yes rfl rfl rfl h10 rfl (by decide) (ok_int rfl (vl rfl) (vl rfl) rfl) ?_
                  refine Ch.yes rfl rfl rfl h10 rfl (by decide) (ok_indexAddr rfl Try.underlying22 sz3 (vl rfl) (vl rfl) (by omega) (row_pred (by omega) hu)) ?_
                  refine Ch.yes rfl rfl rfl h10 rfl (by decide) (ok_load1 rfl one3 (vl rfl)) ?_
                  refine Ch.yes rfl rfl rfl h10 rfl (by decide) (ok_int rfl (vl rfl) (vl rfl) rfl) ?_
                  refine Ch.op rfl rfl (by decide) (ok_pick_t rfl (vl rfl) h10 (vl rfl)) ?_
                  refine Ch.nil ?_
                  refine Fin.go ?_
                  refine Tr.weak [(1, _), (2, _), (6, _), (27, _), (28, _), (29, _), (51, _), (52, _), (53, _), (69, _)] ⟨⟨_, rfl, Pr.le_refl _⟩, ⟨_, rfl, Pr.le_refl _⟩, ⟨_, rfl, Pr.le_refl _⟩, ⟨_, rfl, Pr.le_refl _⟩, ⟨_, rfl, Pr.le_refl _⟩, ⟨_, rfl, Pr.le_refl _⟩, ⟨_, rfl, Pr.le_refl _⟩, ⟨_, rfl, Pr.le_refl _⟩, ⟨_, rfl, Pr.le_refl _⟩, ⟨_, rfl, Pr.le_refl _⟩, trivial⟩ ?_
                  refine Tr.cond rfl (fun h11 => ?_) (fun h11 => ?_)
                  ·
                    have q11 := Nrm.nrm h11
                    refine Tr.seq ?_
                    refine Tr.reg0 ?_
                    refine Ch.op rfl rfl (by decide) (ok_assign rfl (vl rfl)) ?_
                    refine Ch.nil ?_
                    refine Fin.go ?_
                    refine Tr.ret ?_
                    refine Fin.block_ret ?_
                    refine Fin.then_ret ?_
                    refine Fin.then_ret ?_
                    refine Fin.block_ret ?_
                    refine Fin.block_ret ?_
                    refine Fin.then_ret ?_
                    refine Fin.then_ret ?_
                    refine Fin.block_ret ?_
                    refine Fin.then_ret ?_
                    refine Fin.ret1 rfl (OutW.bse _ _) rfl ?_
                    · refine int_eq ?_; unfold Cal.check; rw [if_neg (by omega), if_neg (ne_true h3), if_neg (ne_true h4), if_pos (not_ordT hx_k (by omega) hx_i hu (by assumption))]
                  ·
                    have q11 := Nrm.nrm h11
                    refine Tr.skip ?_
                    refine Fin.block ?_
                    refine Fin.go ?_
                    refine Tr.reg0 ?_
                    first
                      | (refine Ch.op rfl rfl (by decide) (ok_add rfl (vl rfl) (vl rfl) ?hin) ?_; case hin => unfold InI; omega)
                      | refine Ch.op rfl rfl (by decide) (ok_int rfl (vl rfl) (vl rfl) rfl) ?_
                    refine Ch.op rfl rfl (by decide) (ok_move rfl (vl rfl)) ?_
                    refine Ch.nil ?_
                    exact Fin.fam_same (i + 1) ⟨⟨hk_i, step_ordT hx_i (by intro y' hk' hy'; first | omega | (rw [hu] at hy'; cases hy'; omega)) hinv_i⟩, by omega⟩ ⟨⟨_, rfl, int_succ i⟩, ⟨_, rfl, Pr.le_refl _⟩, ⟨_, rfl, Pr.le_refl _⟩, ⟨_, rfl, Pr.le_refl _⟩, ⟨_, rfl, Pr.le_refl _⟩, ⟨_, rfl, Pr.le_refl _⟩, ⟨_, rfl, Pr.le_refl _⟩, ⟨_, rfl, Pr.le_refl _⟩, ⟨_, rfl, Pr.le_refl _⟩, trivial⟩
                ·
                  have q10 := Nrm.nrm h10
                  refine Ch.no rfl rfl rfl (ne_true h10) rfl (by decide) ?_
                  refine Ch.no rfl rfl rfl (ne_true h10) rfl (by decide) ?_
                  refine Ch.no rfl rfl rfl (ne_true h10) rfl (by decide) ?_
                  refine Ch.no rfl rfl rfl (ne_true h10) rfl (by decide) ?_
                  refine Ch.no rfl rfl rfl (ne_true h10) rfl (by decide) ?_
                  refine Ch.no rfl rfl rfl (ne_true h10) rfl (by decide) ?_
                  refine Ch.no rfl rfl rfl (ne_true h10) rfl (by decide) ?_
                  refine Ch.no rfl rfl rfl (ne_true h10) rfl (by decide) ?_
                  refine Ch.op rfl rfl (by decide) (ok_pick_f rfl (vl rfl) h10 (vl rfl)) ?_
                  refine Ch.nil ?_
                  refine Fin.go ?_
                  refine Tr.weak [(1, _), (2, _), (6, _), (27, _), (28, _), (29, _), (51, _), (52, _), (53, _), (69, _)] ⟨⟨_, rfl, Pr.le_refl _⟩, ⟨_, rfl, Pr.le_refl _⟩, ⟨_, rfl, Pr.le_refl _⟩, ⟨_, rfl, Pr.le_refl _⟩, ⟨_, rfl, Pr.le_refl _⟩, ⟨_, rfl, Pr.le_refl _⟩, ⟨_, rfl, Pr.le_refl _⟩, ⟨_, rfl, Pr.le_refl _⟩, ⟨_, rfl, Pr.le_refl _⟩, ⟨_, rfl, Pr.le_refl _⟩, trivial⟩ ?_
                  refine Tr.cond rfl (fun h => nomatch h) (fun _ => ?_)
                  refine Tr.skip ?_
                  refine Fin.block ?_
                  refine Fin.go ?_
                  refine Tr.reg0 ?_
                  first
                    | (refine Ch.op rfl rfl (by decide) (ok_add rfl (vl rfl) (vl rfl) ?hin) ?_; case hin => unfold InI; omega)
                    | refine Ch.op rfl rfl (by decide) (ok_int rfl (vl rfl) (vl rfl) rfl) ?_
                  refine Ch.op rfl rfl (by decide) (ok_move rfl (vl rfl)) ?_
                  refine Ch.nil ?_
                  exact Fin.fam_same (i + 1) ⟨⟨hk_i, step_ordT hx_i (by intro y' hk' hy'; first | omega | (rw [hu] at hy'; cases hy'; omega)) hinv_i⟩, by omega⟩ ⟨⟨_, rfl, int_succ i⟩, ⟨_, rfl, Pr.le_refl _⟩, ⟨_, rfl, Pr.le_refl _⟩, ⟨_, rfl, Pr.le_refl _⟩, ⟨_, rfl, Pr.le_refl _⟩, ⟨_, rfl, Pr.le_refl _⟩, ⟨_, rfl, Pr.le_refl _⟩, ⟨_, rfl, Pr.le_refl _⟩, ⟨_, rfl, Pr.le_refl _⟩, trivial⟩
              ·
                have q9 := Nrm.nrm h9
                have he_i : i = (x.teams).length := by have := ge_of_dec h9; omega
                subst he_i
                refine Tr.exit ?_
                refine Fin.then_exit ?_
                refine Fin.then_exit ?_
                refine Fin.block_here ?_
                refine Fin.block ?_
                refine Fin.go ?_
                refine Tr.reg0 ?_
                first
                  | (refine Ch.op rfl rfl (by decide) (ok_add rfl (vl rfl) (vl rfl) ?hin) ?_; case hin => unfold InI; omega)
                  | refine Ch.op rfl rfl (by decide) (ok_int rfl (vl rfl) (vl rfl) rfl) ?_
                refine Ch.op rfl rfl (by decide) (ok_move rfl (vl rfl)) ?_
                refine Ch.nil ?_
                exact Fin.fam_same (k + 1) ⟨⟨hk_k, ⟨step_ordW hx_k hprev hinv_k.1, step_lt hx_k hinv_i hinv_k.2⟩⟩, by omega⟩ ⟨⟨_, rfl, int_succ k⟩, ⟨_, rfl, Pr.le_refl _⟩, ⟨_, rfl, Pr.le_refl _⟩, ⟨_, rfl, Pr.le_refl _⟩, ⟨_, rfl, Pr.le_refl _⟩, trivial⟩
          ·
            have q5 := Nrm.nrm h5
            have he_k : k = (c.wins).length := by have := ge_of_dec h5; omega
            subst he_k
            refine Tr.exit ?_
            refine Fin.then_exit ?_
            refine Fin.then_exit ?_
            refine Fin.block_here ?_
            refine Fin.go ?_
            refine Tr.seq ?_
            refine Tr.regT ?_
            refine TO.op rfl rfl (by decide) (ok_makeFunc rfl rfl) ?_
            refine TO.alloc rfl rfl (by decide) rfl z71 zo71 (fun b2 => ?_)
            refine TO.store_all 0 rfl rfl rfl (vl rfl) (VL.le (vl rfl) (one_cellsP _)) rfl sz71 rfl rfl ?_
            refine TO.freeze 0 9 rfl rfl ?_
            refine TO.nil ?_
            refine Fin.go ?_
            refine Tr.seq ?_
            refine Tr.seq ?_
            refine Tr.reg0 ?_
            refine Ch.op rfl rfl (by decide) (ok_fieldAddr rfl fo27_0 (vl rfl) rfl) ?_
            refine Ch.op rfl rfl (by decide) (ok_load1 rfl one25 (vl rfl)) ?_
            refine Ch.op rfl rfl (by decide) (ok_makeFunc rfl rfl) ?_
            refine Ch.op rfl rfl (by decide) (ok_call rfl (w_ContainsFuncW (p := fun w => w.teams.any fun n => !c.has n)) ⟨⟨_, rfl, Pr.le_refl _⟩, ⟨_, rfl, fn_le_clo (w_Check4 (c := c) (w := ⟨0, 0, []⟩)).1 (fun x => w_Check4 (c := c) (w := x))⟩, trivial⟩) ?_
            refine Ch.nil ?_
            refine Fin.go ?_
            refine Tr.weak [(1, _), (2, _), (9, _), (76, _)] ⟨⟨_, rfl, Pr.le_refl _⟩, ⟨_, rfl, Pr.le_refl _⟩, ⟨_, rfl, Pr.le_refl _⟩, ⟨_, rfl, Pr.le_refl _⟩, trivial⟩ ?_
            refine Tr.cond rfl (fun h12 => ?_) (fun h12 => ?_)
            ·
              have q12 := Nrm.nrm h12
              refine Tr.seq ?_
              refine Tr.reg0 ?_
              refine Ch.op rfl rfl (by decide) (ok_assign rfl (vl rfl)) ?_
              refine Ch.nil ?_
              refine Fin.go ?_
              refine Tr.ret ?_
              refine Fin.then_ret ?_
              refine Fin.ret1 rfl (OutW.bse _ _) rfl ?_
              · refine int_eq ?_; unfold Cal.check; rw [if_neg (by omega), if_neg (ne_true h3), if_neg (ne_true h4), if_neg (not_not_intro (ord_all hinv_k)), if_pos (by assumption)]
            ·
              have q12 := Nrm.nrm h12
              refine Tr.skip ?_
              refine Fin.go ?_
              refine Tr.seq ?_
              refine Tr.seq ?_
              refine Tr.reg0 ?_
              refine Ch.op rfl rfl (by decide) (ok_fieldAddr rfl fo27_1 (vl rfl) rfl) ?_
              refine Ch.op rfl rfl (by decide) (ok_load1 rfl one22 (vl rfl)) ?_
              first
                | refine Ch.op rfl rfl (by decide) (ok_lenm rfl Try.underlying22 (vl rfl)) ?_
                | refine Ch.op rfl rfl (by decide) (ok_len rfl Try.underlying22 (vl rfl)) ?_
              refine Ch.op rfl rfl (by decide) (ok_move rfl (vl rfl)) ?_
              refine Ch.op rfl rfl (by decide) (ok_int rfl (vl rfl) (vl rfl) rfl) ?_
              refine Ch.op rfl rfl (by decide) (ok_move rfl (vl rfl)) ?_
              refine Ch.cases 82 rfl (fun h13 => ?_) (fun h13 => ?_)
              ·
                have q13 := Nrm.nrm h13
                refine Ch.no rfl rfl rfl (ne_false h13) rfl (by decide) ?_
                refine Ch.no rfl rfl rfl (ne_false h13) rfl (by decide) ?_
                refine Ch.no rfl rfl rfl (ne_false h13) rfl (by decide) ?_
                refine Ch.no rfl rfl rfl (ne_false h13) rfl (by decide) ?_
                refine Ch.op rfl rfl (by decide) (ok_pick_t rfl (vl rfl) h13 (vl rfl)) ?_
                refine Ch.nil ?_
                refine Fin.go ?_
                refine Tr.weak [(87, _)] ⟨⟨_, rfl, Pr.le_refl _⟩, trivial⟩ ?_
                refine Tr.cond rfl (fun _ => ?_) (fun h => nomatch h)
                refine Tr.seq ?_
                refine Tr.reg0 ?_
                refine Ch.op rfl rfl (by decide) (ok_assign rfl (vl rfl)) ?_
                refine Ch.nil ?_
                refine Fin.go ?_
                refine Tr.ret ?_
                refine Fin.then_ret ?_
                refine Fin.ret1 rfl (OutW.bse _ _) rfl ?_
                · refine int_eq ?_; unfold Cal.check; rw [if_neg (by omega), if_neg (ne_true h3), if_neg (ne_true h4), if_neg (not_not_intro (ord_all hinv_k)), if_neg (ne_true (by assumption)), if_pos (.inl (by assumption))]
              ·
                have q13 := Nrm.nrm h13
                refine Ch.yes rfl rfl rfl h13 rfl (by decide) (ok_fieldAddr rfl fo27_1 (vl rfl) rfl) ?_
                refine Ch.yes rfl rfl rfl h13 rfl (by decide) (ok_load1 rfl one22 (vl rfl)) ?_
                refine Ch.yes rfl rfl rfl h13 rfl (by decide) (ok_load1 rfl one71 (vl rfl)) ?_
                refine Ch.yes rfl rfl rfl h13 rfl (by decide) (ok_call rfl (w_ContainsFuncI (p := fun n => !c.has n)) ⟨⟨_, rfl, Pr.le_refl _⟩, ⟨_, rfl, fn_le_clo (w_Check3 (c := c) (n := 0)).1 (fun x => w_Check3 (c := c) (n := x))⟩, trivial⟩) ?_
                refine Ch.op rfl rfl (by decide) (ok_pick_f rfl (vl rfl) h13 (vl rfl)) ?_
                refine Ch.nil ?_
                refine Fin.go ?_
                refine Tr.weak [(87, _)] ⟨⟨_, rfl, Pr.le_refl _⟩, trivial⟩ ?_
                refine Tr.cond rfl (fun h14 => ?_) (fun h14 => ?_)
                ·
                  have q14 := Nrm.nrm h14
                  refine Tr.seq ?_
                  refine Tr.reg0 ?_
                  refine Ch.op rfl rfl (by decide) (ok_assign rfl (vl rfl)) ?_
                  refine Ch.nil ?_
                  refine Fin.go ?_
                  refine Tr.ret ?_
                  refine Fin.then_ret ?_
                  refine Fin.ret1 rfl (OutW.bse _ _) rfl ?_
                  · refine int_eq ?_; unfold Cal.check; rw [if_neg (by omega), if_neg (ne_true h3), if_neg (ne_true h4), if_neg (not_not_intro (ord_all hinv_k)), if_neg (ne_true (by assumption)), if_pos (.inr (by assumption))]
                ·
                  have q14 := Nrm.nrm h14
                  refine Tr.skip ?_
                  refine Fin.go ?_
                  refine Tr.seq ?_
                  refine Tr.reg0 ?_
                  refine Ch.op rfl rfl (by decide) (ok_assign rfl (vl rfl)) ?_
                  refine Ch.nil ?_
                  refine Fin.go ?_
                  refine Tr.ret ?_
                  refine Fin.ret1 rfl (OutW.bse _ _) rfl ?_
                  · refine int_eq ?_; unfold Cal.check; rw [if_neg (by omega), if_neg (ne_true h3), if_neg (ne_true h4), if_neg (not_not_intro (ord_all hinv_k)), if_neg (ne_true (by assumption)), if_neg (not_or.2 ⟨not_not_intro (by assumption), ne_true (by assumption)⟩)]
theorem e_Check : Entry Try.prog 22 := ⟨_, Try.func22, rfl, rfl⟩
theorem w_own {c : Cal}  : Fun Try.prog 35 [calP c] (int c.own) := by
  refine Fun.of Try.func35 rfl rfl (by exact Nat.le_of_ble_eq_true rfl) fun M0 w0 => ?_
  refine Tr.seq ?_
  refine Tr.reg0 ?_
  refine Ch.op rfl rfl (by decide) (ok_box rfl (VL.le (vl rfl) (agg_cellsP _))) ?_
  refine Ch.op rfl rfl (by decide) (ok_assign rfl (vl rfl)) ?_
  refine Ch.nil ?_
  refine Fin.go ?_
  refine Tr.seq ?_
  refine Tr.reg0 ?_
  refine Ch.op rfl rfl (by decide) (ok_loadA rfl agg27 sz27 (vl rfl) rfl rfl) ?_
  refine Ch.op rfl rfl (by decide) (ok_fieldAddr rfl fo27_1 (vl rfl) rfl) ?_
  refine Ch.op rfl rfl (by decide) (ok_load1 rfl one22 (vl rfl)) ?_
  first
    | refine Ch.op rfl rfl (by decide) (ok_lenm rfl Try.underlying22 (vl rfl)) ?_
    | refine Ch.op rfl rfl (by decide) (ok_len rfl Try.underlying22 (vl rfl)) ?_
  refine Ch.op rfl rfl (by decide) (ok_call rfl (w_Check) ⟨⟨_, rfl, Pr.le_refl _⟩, ⟨_, rfl, Pr.le_refl _⟩, trivial⟩) ?_
  refine Ch.op rfl rfl (by decide) (ok_assign rfl (vl rfl)) ?_
  refine Ch.nil ?_
  refine Fin.go ?_
  refine Tr.ret ?_
  refine Fin.ret1 rfl (OutW.bse _ _) rfl ?_
  · first | exact Pr.le_refl _ | (refine int_eq ?_; simp_all; done) | (refine bool_eq ?_; simp_all; done) | (refine bool_eq ?_; simp_all; omega) | (refine int_eq ?_; omega)
theorem e_own : Entry Try.prog 35 := ⟨_, Try.func35, rfl, rfl⟩
end Go.Proofs.Ytacifhfelijekaa
