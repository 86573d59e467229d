/-
  What the functions named below compute, proved from their text; printed by a program of our own.
-/
import Derived.Test.YtacifhfelijekaaTypes
import Derived.Test.YtacifhfelijekaaSlices
import Derived.Test.YtacifhfelijekaaWin1
import Derived.Test.YtacifhfelijekaaWin2
import Derived.Test.YtacifhfelijekaaWin3
import Derived.Test.YtacifhfelijekaaWin4
import Derived.Test.YtacifhfelijekaaWin5
import Derived.Test.YtacifhfelijekaaDice
import Derived.Test.YtacifhfelijekaaMove
import Derived.Test.YtacifhfelijekaaL30Full
namespace Go.Proofs.Ytacifhfelijekaa
open Go Go.RowKit Cp

/-! ### The windows of a valid calendar lie apart -/
theorem check_zero {c : Cal} {n : Int} (h : c.check n = 0) : (c.wins.length ≤ 32 ∧ c.room.length ≤ 8) ∧ c.room.any badRoom = false ∧ c.wins.any badWin = false ∧ OrdW c.wins ∧ (∀ w ∈ c.wins, OrdT w.teams) ∧ c.wins.any (fun w => w.teams.any fun n => !c.has n) = false := by
  unfold Cal.check at h
  split at h
  · cases h
  · split at h
    · cases h
    · split at h
      · cases h
      · split at h
        · cases h
        · split at h
          · cases h
          · rename_i h1 h2 h3 h4 h5
            rw [Classical.not_not] at h4
            exact ⟨by omega, by simpa using h2, by simpa using h3, h4.1, h4.2, by simpa using h5⟩
theorem own_wins {c : Cal} (h : c.own = 0) : OrdW c.wins ∧ ∀ w ∈ c.wins, 0 ≤ w.lo ∧ w.lo < w.hi := by
  obtain ⟨_, _, h3, h4, _⟩ := check_zero h
  refine ⟨h4, fun w hw => ?_⟩
  rw [List.any_eq_false] at h3
  have := h3 w hw
  simp [badWin] at this
  omega
abbrev Apart (l : List Win) : Prop := l.Pairwise fun a b => a.hi ≤ b.lo
theorem ord_apart : ∀ {l : List Win}, OrdW l → (∀ w ∈ l, 0 ≤ w.lo ∧ w.lo < w.hi) → Apart l
  | [], _, _ => List.Pairwise.nil
  | [a], _, _ => by simp [Apart]
  | a :: b :: l, h, hw => by
    have ih : Apart (b :: l) := ord_apart (fun j x y hx hy => h (j + 1) x y (by simpa using hx) (by simpa using hy)) (fun w hm => hw w (List.mem_cons_of_mem _ hm))
    refine List.Pairwise.cons (fun w hm => ?_) ih
    have h0 := h 0 a b rfl rfl
    rcases List.mem_cons.1 hm with rfl | hm
    · exact h0
    · have h1 := (List.pairwise_cons.1 ih).1 w hm
      have := hw b (by simp)
      omega
theorem in_lo {k : Int} {w : Win} (h : inWin k w = true) : w.lo ≤ k ∧ k < w.hi := by unfold inWin at h; simpa using h
theorem in_mk {k : Int} {w : Win} (h : w.lo ≤ k ∧ k < w.hi) : inWin k w = true := by unfold inWin; simpa using h
theorem find_in {k : Int} : ∀ {l : List Win} {w : Win}, Apart l → w ∈ l → inWin k w = true → l.find? (inWin k) = some w
  | a :: l, w, hp, hm, hin => by
    rcases List.mem_cons.1 hm with rfl | hm
    · exact List.find?_cons_of_pos hin
    · have h1 := (List.pairwise_cons.1 hp).1 w hm
      have h2 := in_lo hin
      rw [List.find?_cons_of_neg (by intro h; have := in_lo h; omega)]
      exact find_in (List.pairwise_cons.1 hp).2 hm hin
theorem may_iff {c : Cal} {t k : Int} (h : c.own = 0) : c.may t k = true ↔ ∃ w ∈ c.wins, inWin k w = true ∧ w.teams.any (fun x => t == x) = true := by
  obtain ⟨h1, h2⟩ := own_wins h
  unfold Cal.may Cal.winAt
  constructor
  · intro hm
    cases hf : c.wins.find? (inWin k) with
    | none => rw [hf] at hm; cases hm
    | some w => rw [hf] at hm; exact ⟨w, List.mem_of_find?_eq_some hf, List.find?_some hf, hm⟩
  · rintro ⟨w, hw, hin, ht⟩
    rw [find_in (ord_apart h1 h2) hw hin]; exact ht
theorem next_some {t d x : Int} : ∀ {l : List Win} {i : Nat}, nextFrom t d (fun _ => true) i l = some x → Apart l → (∀ w ∈ l, 0 ≤ w.lo ∧ w.lo < w.hi) →
    d ≤ x ∧ (∃ w ∈ l, inWin x w = true ∧ w.teams.any (fun y => t == y) = true) ∧ ∀ k, d ≤ k → k < x → ∀ w ∈ l, inWin k w = true → w.teams.any (fun y => t == y) = false
  | [], _, h, _, _ => by cases h
  | a :: l, i, h, hp, hw => by
    have ha := hw a (by simp)
    unfold nextFrom at h
    split at h
    · rename_i hc
      simp only [Option.some.injEq] at h
      subst h
      refine ⟨by omega, ⟨a, by simp, in_mk (by omega), hc.2.1⟩, fun k hk hx w hm hin => ?_⟩
      have := in_lo hin
      rcases List.mem_cons.1 hm with rfl | hm
      · omega
      · have h1 := (List.pairwise_cons.1 hp).1 w hm
        omega
    · rename_i hc
      obtain ⟨h1, ⟨w, hm, h2, h3⟩, h4⟩ := next_some h (List.pairwise_cons.1 hp).2 (fun w hm => hw w (List.mem_cons_of_mem _ hm))
      refine ⟨h1, ⟨w, List.mem_cons_of_mem _ hm, h2, h3⟩, fun k hk hx u hu hin => ?_⟩
      rcases List.mem_cons.1 hu with rfl | hu
      · have := in_lo hin
        cases ht : u.teams.any fun y => t == y with
        | false => rfl
        | true => exact absurd ⟨by omega, ht, rfl⟩ hc
      · exact h4 k hk hx u hu hin
theorem next_none {t d : Int} : ∀ {l : List Win} {i : Nat}, nextFrom t d (fun _ => true) i l = none → ∀ k, d ≤ k → ∀ w ∈ l, inWin k w = true → w.teams.any (fun y => t == y) = false
  | [], _, _, _, _, w, hm, _ => by cases hm
  | a :: l, i, h, k, hk, w, hm, hin => by
    unfold nextFrom at h
    split at h
    · cases h
    · rename_i hc
      rcases List.mem_cons.1 hm with rfl | hm
      · have := in_lo hin
        cases ht : w.teams.any fun y => t == y with
        | false => rfl
        | true => exact absurd ⟨by omega, ht, rfl⟩ hc
      · exact next_none h k hk w hm hin
theorem next_yes {c : Cal} {t n : Int} (h : c.own = 0) (hn : 0 ≤ n) (htop : ∀ w ∈ c.wins, w.hi < 200) (hs : (c.next t n fun _ => true).isSome = true) :
    n ≤ (c.next t n fun _ => true).getD 0 ∧ c.may t ((c.next t n fun _ => true).getD 0) = true ∧ (c.next t n fun _ => true).getD 0 < 200 ∧ ∀ k, n ≤ k → k < (c.next t n fun _ => true).getD 0 → c.may t k = false := by
  obtain ⟨x, hx⟩ := Option.isSome_iff_exists.1 hs
  rw [hx]
  show n ≤ x ∧ c.may t x = true ∧ x < 200 ∧ ∀ k, n ≤ k → k < x → c.may t k = false
  unfold Cal.next at hx
  rw [show max n 0 = n by omega] at hx
  obtain ⟨h1, h2⟩ := own_wins h
  obtain ⟨h3, ⟨w, hm, h4, h5⟩, h6⟩ := next_some hx (ord_apart h1 h2) h2
  refine ⟨h3, (may_iff h).2 ⟨w, hm, h4, h5⟩, by have := in_lo h4; have := htop w hm; omega, fun k hk hkx => ?_⟩
  rw [Bool.eq_false_iff]
  intro hc
  obtain ⟨u, hu, h7, h8⟩ := (may_iff h).1 hc
  rw [h6 k hk hkx u hu h7] at h8; cases h8
theorem next_no {c : Cal} {t n : Int} (h : c.own = 0) (hn : 0 ≤ n) (hs : (c.next t n fun _ => true).isSome = false) : ∀ k, n ≤ k → c.may t k = false := by
  intro k hk
  have hx : c.next t n (fun _ => true) = none := by simpa using hs
  unfold Cal.next at hx
  rw [show max n 0 = n by omega] at hx
  rw [Bool.eq_false_iff]
  intro hc
  obtain ⟨u, hu, h7, h8⟩ := (may_iff h).1 hc
  rw [next_none hx k hk u hu h7] at h8; cases h8
theorem at_win {c : Cal} {k : Int} (h : 0 ≤ c.at k) : ∃ w, c.wins[(max (c.at k) 0).toNat]? = some w ∧ inWin k w = true := by
  obtain ⟨w, h1, h2⟩ := idx_at (p := inWin k) (l := c.wins) h
  exact ⟨w, by rw [show max (c.at k) 0 = c.at k by omega]; exact h1, h2⟩
theorem may_win {c : Cal} {t k : Int} (h : c.may t k = true) : 0 ≤ c.at k ∧ ∀ w, c.wins[(max (c.at k) 0).toNat]? = some w → w.teams.any (fun x => t == x) = true := by
  have h0 := may_at h
  refine ⟨h0, fun w hw => ?_⟩
  rw [show max (c.at k) 0 = c.at k by omega] at hw
  have h2 := find_idx (inWin k) c.wins
  rw [if_pos (show 0 ≤ idx (inWin k) c.wins from h0)] at h2
  unfold Cal.may Cal.winAt at h
  rw [h2] at h
  unfold Cal.at at hw
  rw [hw] at h
  exact h
theorem good_has {c : Cal} {m : Nat} (h : GoodCal c m) {t : Int} (ht : 0 ≤ t ∧ t < 2) : c.has t = true := by
  unfold Cal.has; simp [h.room]; omega


theorem nx_hit {c : Cal} {t n k : Int} (h : c.own = 0) (hn : 0 ≤ n) (htop : ∀ w ∈ c.wins, w.hi < 200) (hk : n ≤ k) (hinv : ∀ j, n ≤ j → j < k → c.may t j = false) (hm : c.may t k = true) : (c.next t n fun _ => true).isSome = true ∧ k = (c.next t n fun _ => true).getD 0 := by
  cases hs : (c.next t n fun _ => true).isSome with
  | false => rw [next_no h hn hs k hk] at hm; cases hm
  | true =>
    obtain ⟨h1, h2, h3, h4⟩ := next_yes h hn htop hs
    refine ⟨rfl, ?_⟩
    rcases Int.lt_trichotomy k ((c.next t n fun _ => true).getD 0) with hl | he | hg
    · rw [h4 k hk hl] at hm; cases hm
    · exact he
    · rw [hinv _ h1 hg] at h2; cases h2
theorem nx_end {c : Cal} {t n : Int} (h : c.own = 0) (hn : 0 ≤ n) (htop : ∀ w ∈ c.wins, w.hi < 200) (hinv : ∀ j, n ≤ j → j < 260 → c.may t j = false) : (c.next t n fun _ => true).isSome = false := by
  cases hs : (c.next t n fun _ => true).isSome with
  | false => rfl
  | true =>
    obtain ⟨h1, h2, h3, h4⟩ := next_yes h hn htop hs
    rw [hinv _ h1 (by omega)] at h2; cases h2
theorem inv_step {p : Int → Bool} {n k : Int} (h : ∀ j, n ≤ j → j < k → p j = false) (hk : p k = false) : ∀ j, n ≤ j → j < k + 1 → p j = false := by
  intro j h1 h2
  by_cases hjk : j = k
  · rw [hjk]; exact hk
  · exact h j h1 (by omega)

theorem w_WindowNext {t : List Int} {f : Int} (hf : 0 ≤ f ∧ f < 256) : Fun Try.prog 6 [ints t, is (.int .u8 f)] (bool true) := by
  refine Fun.of Try.func6 rfl rfl (by exact Nat.le_of_ble_eq_true rfl) fun M0 w0 => ?_
  have hft : 0 ≤ f.tmod 80 ∧ f.tmod 80 < 80 := by rw [Int.tmod_eq_emod_of_nonneg hf.1]; omega
  refine Tr.seq ?_
  refine Tr.reg0 ?_
  refine Ch.op rfl rfl (by decide) (ok_assign rfl (vl rfl)) ?_
  refine Ch.nil ?_
  refine Fin.go ?_
  refine Tr.seq ?_
  refine Tr.seq ?_
  refine Tr.reg0 ?_
  refine Ch.op rfl rfl (by decide) (ok_move rfl (vl rfl)) ?_
  refine Ch.op rfl rfl (by decide) (ok_call rfl (w_Light) ⟨⟨_, rfl, Pr.le_refl _⟩, trivial⟩) ?_
  refine Ch.op rfl rfl (by decide) (ok_not rfl (vl rfl)) ?_
  refine Ch.nil ?_
  refine Fin.go ?_
  refine Tr.cond rfl (fun h1 => ?_) (fun h1 => ?_)
  ·
    have q1 := Nrm.nrm h1
    refine Tr.seq ?_
    refine Tr.reg0 ?_
    refine Ch.op rfl rfl (by decide) (ok_call rfl (w_awake) trivial) ?_
    refine Ch.op rfl rfl (by decide) (ok_assign rfl (vl rfl)) ?_
    refine Ch.nil ?_
    refine Fin.go ?_
    refine Tr.ret ?_
    refine Fin.then_ret ?_
    refine Fin.ret1 rfl (OutW.bse _ _) rfl ?_
    · first | exact Pr.le_refl _ | (refine int_eq ?_; simp_all; done) | (refine bool_eq ?_; simp_all; done) | (refine bool_eq ?_; simp_all; omega) | (refine int_eq ?_; omega)
  ·
    have q1 := Nrm.nrm h1
    have ht4 : t.length ≤ 400 := by simpa using h1
    have ht9 : t.length ≤ 1000000000 := by omega
    refine Tr.skip ?_
    refine Fin.go ?_
    refine Tr.seq ?_
    refine Tr.regT ?_
    refine TO.op rfl rfl (by decide) (ok_move rfl (vl rfl)) ?_
    refine TO.pad ?_
    refine TO.efs 0 rfl rfl (by decide) (ef_call rfl rfl (by decide) rfl (w_Roll (l := t) ht9) ⟨⟨_, rfl, Pr.le_refl _⟩, trivial⟩) (fun v1 => ?_)
    refine TO.opn 23 0 _ rfl rfl (fun _ => rfl) (fun b1 => ?_)
    refine TO.op rfl rfl (by decide) (ok_assign rfl (vl rfl)) ?_
    refine TO.nil ?_
    refine Fin.go ?_
    refine Tr.seq ?_
    refine Tr.regT ?_
    refine TO.op rfl rfl (by decide) (ok_move rfl (vl rfl)) ?_
    refine TO.efc 0 rfl rfl (by decide) (ef_callc rfl rfl (by decide) rfl (w_Calendar (n := 3) (by omega)) ⟨⟨_, rfl, Pr.le_refl _⟩, ⟨_, rfl, Pr.le_refl _⟩, trivial⟩) ?_
    refine TO.ex 25 rfl (fun z1 => TO.fact 25 rfl fun hz1 => ?_)
    refine TO.alloc rfl rfl (by decide) rfl z27 zo27 (fun b2 => ?_)
    refine TO.store_all 0 rfl rfl rfl (vl rfl) (VL.le (vl rfl) (agg_cellsP _)) rfl sz27 rfl rfl ?_
    refine TO.freeze 0 6 rfl rfl ?_
    refine TO.nil ?_
    refine Fin.openD 0 rfl (fun s1 => ?_)
    refine Fin.go ?_
    refine Tr.seq ?_
    refine Tr.regT ?_
    refine TO.op rfl rfl (by decide) (ok_move rfl (vl rfl)) ?_
    refine TO.efc 0 rfl rfl (by decide) (ef_callc rfl rfl (by decide) rfl (w_DNext (by omega) (by omega)) ⟨⟨_, rfl, Pr.le_refl _⟩, ⟨_, rfl, Pr.le_refl _⟩, trivial⟩) ?_
    refine TO.op rfl rfl (by decide) (ok_move rfl (vl rfl)) ?_
    refine TO.op rfl rfl (by decide) (ok_rem rfl (vl rfl) (vl rfl) (by omega)) ?_
    first
      | refine TO.op rfl rfl (by decide) (ok_convI rfl Try.underlying5 Try.underlying3 (vl rfl) (by unfold InI; omega)) ?_
      | refine TO.op rfl rfl (by decide) (ok_conv rfl Try.underlying5 Try.underlying3 (vl rfl)) ?_
    refine TO.op rfl rfl (by decide) (ok_assign rfl (vl rfl)) ?_
    refine TO.op rfl rfl (by decide) (ok_assign rfl (vl rfl)) ?_
    refine TO.nil ?_
    refine Fin.go ?_
    refine Tr.weak [(6, _), (7, _), (8, _)] ⟨⟨_, rfl, Pr.le_refl _⟩, ⟨_, rfl, Pr.le_refl _⟩, ⟨_, rfl, Pr.le_refl _⟩, trivial⟩ ?_
    refine Tr.seq ?_
    have hc := hz1
    obtain ⟨tm, htm⟩ : ∃ tm, s1.val 2 = tm := ⟨_, rfl⟩
    have htm2 : 0 ≤ tm ∧ tm < 2 := by have := s1.val_in (n := 2) (by omega); omega
    obtain ⟨n, hn⟩ : ∃ n, f.tmod 80 = n := ⟨_, rfl⟩
    have hn2 : 0 ≤ n ∧ n < 80 := by rw [Int.tmod_eq_emod_of_nonneg hf.1] at hn; omega
    have hown := hc.own
    have hhas := good_has hc htm2
    refine Tr.re 7 rfl (int_eq htm) ?_
    refine Tr.re 8 rfl (int_eq hn) ?_
    refine Tr.reg0 ?_
    refine Ch.op rfl rfl (by decide) (ok_loadA rfl agg27 sz27 (vl rfl) rfl rfl) ?_
    refine Ch.op rfl rfl (by decide) (ok_move rfl (vl rfl)) ?_
    refine Ch.op rfl rfl (by decide) (ok_move rfl (vl rfl)) ?_
    refine Ch.op rfl rfl (by decide) (ok_call rfl (w_Next) ⟨⟨_, rfl, Pr.le_refl _⟩, ⟨_, rfl, Pr.le_refl _⟩, ⟨_, rfl, Pr.le_refl _⟩, trivial⟩) ?_
    refine Ch.op rfl rfl (by decide) (ok_move rfl (vl rfl)) ?_
    refine Ch.op rfl rfl (by decide) (ok_extract rfl (vl rfl) rfl) ?_
    refine Ch.op rfl rfl (by decide) (ok_extract rfl (vl rfl) rfl) ?_
    refine Ch.op rfl rfl (by decide) (ok_extract rfl (vl rfl) rfl) ?_
    refine Ch.op rfl rfl (by decide) (ok_assign rfl (vl rfl)) ?_
    refine Ch.op rfl rfl (by decide) (ok_assign rfl (vl rfl)) ?_
    refine Ch.op rfl rfl (by decide) (ok_assign rfl (vl rfl)) ?_
    refine Ch.nil ?_
    refine Fin.go ?_
    refine Tr.weak [(6, _), (7, _), (8, _), (9, _), (10, _), (11, _)] ⟨⟨_, rfl, Pr.le_refl _⟩, ⟨_, rfl, Pr.le_refl _⟩, ⟨_, rfl, Pr.le_refl _⟩, ⟨_, rfl, Pr.le_refl _⟩, ⟨_, rfl, Pr.le_refl _⟩, ⟨_, rfl, Pr.le_refl _⟩, trivial⟩ ?_
    refine Tr.seq ?_
    refine Tr.seq ?_
    refine Tr.re 9 rfl (int_eq (if_pos ⟨hown, hhas⟩)) ?_
    refine Tr.re 10 rfl (bool_eq (b := (z1.next tm n fun _ => true).isSome) (by simp [hown, hhas])) ?_
    refine Tr.re 11 rfl (int_eq (b := 0) (by simp [hown, hhas])) ?_
    refine Tr.reg0 ?_
    refine Ch.op rfl rfl (by decide) (ok_move rfl (vl rfl)) ?_
    refine Ch.op rfl rfl (by decide) (ok_int rfl (vl rfl) (vl rfl) rfl) ?_
    refine Ch.nil ?_
    refine Fin.go ?_
    refine Tr.cond rfl (fun h2 => ?_) (fun h2 => ?_)
    ·
      have q2 := Nrm.nrm h2
      exact absurd rfl q2
    ·
      have q2 := Nrm.nrm h2
      refine Tr.skip ?_
      refine Fin.go ?_
      refine Tr.seq ?_
      refine Tr.seq ?_
      refine Tr.reg0 ?_
      refine Ch.op rfl rfl (by decide) (ok_move rfl (vl rfl)) ?_
      refine Ch.op rfl rfl (by decide) (ok_assign rfl (vl rfl)) ?_
      refine Ch.nil ?_
      refine Fin.go ?_
      refine Tr.block ?_
      refine Tr.loopw [(6, _), (7, _), (9, _), (10, _)] ⟨⟨_, rfl, Pr.le_refl _⟩, ⟨_, rfl, Pr.le_refl _⟩, ⟨_, rfl, Pr.le_refl _⟩, ⟨_, rfl, Pr.le_refl _⟩, trivial⟩ (fun k : Int => [(12, int k)]) (fun k : Int => n ≤ k ∧ k ≤ 260 ∧ ∀ j, n ≤ j → j < k → z1.may tm j = false) (fun k : Int => (260 - k).toNat) n (⟨by omega, by omega, fun j h1 h2 => absurd h2 (by omega)⟩) ⟨⟨_, rfl, Pr.le_refl _⟩, trivial⟩ ?_
      rintro k ⟨hk0, hk1, hinv⟩
      refine Tr.seq ?_
      refine Tr.seq ?_
      refine Tr.reg0 ?_
      refine Ch.op rfl rfl (by decide) (ok_move rfl (vl rfl)) ?_
      refine Ch.op rfl rfl (by decide) (ok_int rfl (vl rfl) (vl rfl) rfl) ?_
      refine Ch.nil ?_
      refine Fin.go ?_
      refine Tr.cond rfl (fun h3 => ?_) (fun h3 => ?_)
      ·
        have q3 := Nrm.nrm h3
        have hk2 : k < 260 := of_decide_eq_true h3
        refine Tr.skip ?_
        refine Fin.go ?_
        refine Tr.seq ?_
        refine Tr.block ?_
        refine Tr.seq ?_
        refine Tr.reg0 ?_
        refine Ch.op rfl rfl (by decide) (ok_loadA rfl agg27 sz27 (vl rfl) rfl rfl) ?_
        refine Ch.op rfl rfl (by decide) (ok_move rfl (vl rfl)) ?_
        refine Ch.op rfl rfl (by decide) (ok_move rfl (vl rfl)) ?_
        refine Ch.op rfl rfl (by decide) (ok_call rfl (w_May) ⟨⟨_, rfl, Pr.le_refl _⟩, ⟨_, rfl, Pr.le_refl _⟩, ⟨_, rfl, Pr.le_refl _⟩, trivial⟩) ?_
        refine Ch.op rfl rfl (by decide) (ok_move rfl (vl rfl)) ?_
        refine Ch.op rfl rfl (by decide) (ok_extract rfl (vl rfl) rfl) ?_
        refine Ch.op rfl rfl (by decide) (ok_extract rfl (vl rfl) rfl) ?_
        refine Ch.op rfl rfl (by decide) (ok_assign rfl (vl rfl)) ?_
        refine Ch.op rfl rfl (by decide) (ok_assign rfl (vl rfl)) ?_
        refine Ch.nil ?_
        refine Fin.go ?_
        refine Tr.weak [(6, _), (7, _), (9, _), (10, _), (12, _), (13, _), (14, _)] ⟨⟨_, rfl, Pr.le_refl _⟩, ⟨_, rfl, Pr.le_refl _⟩, ⟨_, rfl, Pr.le_refl _⟩, ⟨_, rfl, Pr.le_refl _⟩, ⟨_, rfl, Pr.le_refl _⟩, ⟨_, rfl, Pr.le_refl _⟩, ⟨_, rfl, Pr.le_refl _⟩, trivial⟩ ?_
        refine Tr.seq ?_
        refine Tr.reg0 ?_
        refine Ch.op rfl rfl (by decide) (ok_loadA rfl agg27 sz27 (vl rfl) rfl rfl) ?_
        refine Ch.op rfl rfl (by decide) (ok_move rfl (vl rfl)) ?_
        refine Ch.op rfl rfl (by decide) (ok_call rfl (w_At) ⟨⟨_, rfl, Pr.le_refl _⟩, ⟨_, rfl, Pr.le_refl _⟩, trivial⟩) ?_
        refine Ch.op rfl rfl (by decide) (ok_move rfl (vl rfl)) ?_
        refine Ch.op rfl rfl (by decide) (ok_extract rfl (vl rfl) rfl) ?_
        refine Ch.op rfl rfl (by decide) (ok_extract rfl (vl rfl) rfl) ?_
        refine Ch.op rfl rfl (by decide) (ok_extract rfl (vl rfl) rfl) ?_
        refine Ch.op rfl rfl (by decide) (ok_assign rfl (vl rfl)) ?_
        refine Ch.op rfl rfl (by decide) (ok_assign rfl (vl rfl)) ?_
        refine Ch.op rfl rfl (by decide) (ok_assign rfl (vl rfl)) ?_
        refine Ch.nil ?_
        refine Fin.go ?_
        refine Tr.weak [(6, _), (7, _), (9, _), (10, _), (12, _), (13, _), (14, _), (15, _), (16, _), (17, _)] ⟨⟨_, rfl, Pr.le_refl _⟩, ⟨_, rfl, Pr.le_refl _⟩, ⟨_, rfl, Pr.le_refl _⟩, ⟨_, rfl, Pr.le_refl _⟩, ⟨_, rfl, Pr.le_refl _⟩, ⟨_, rfl, Pr.le_refl _⟩, ⟨_, rfl, Pr.le_refl _⟩, ⟨_, rfl, Pr.le_refl _⟩, ⟨_, rfl, Pr.le_refl _⟩, ⟨_, rfl, Pr.le_refl _⟩, trivial⟩ ?_
        refine Tr.seq ?_
        refine Tr.seq ?_
        refine Tr.re 13 rfl (bool_eq (b := z1.may tm k) (by simp [hown, hhas])) ?_
        refine Tr.re 14 rfl (int_eq (b := 0) (by simp [hown, hhas])) ?_
        refine Tr.re 15 rfl (int_eq (if_pos hown)) ?_
        refine Tr.re 16 rfl (bool_eq (b := decide (z1.at k ≥ 0)) (by simp [hown])) ?_
        refine Tr.re 17 rfl (int_eq hown) ?_
        refine Tr.reg0 ?_
        refine Ch.op rfl rfl (by decide) (ok_move rfl (vl rfl)) ?_
        refine Ch.op rfl rfl (by decide) (ok_int rfl (vl rfl) (vl rfl) rfl) ?_
        refine Ch.op rfl rfl (by decide) (ok_move rfl (vl rfl)) ?_
        refine Ch.cases 62 rfl (fun h4 => ?_) (fun h4 => ?_)
        ·
          have q4 := Nrm.nrm h4
          exfalso; omega
        ·
          have q4 := Nrm.nrm h4
          refine Ch.yes rfl rfl rfl h4 rfl (by decide) (ok_move rfl (vl rfl)) ?_
          refine Ch.yes rfl rfl rfl h4 rfl (by decide) (ok_fieldAddr rfl fo27_0 (vl rfl) rfl) ?_
          refine Ch.yes rfl rfl rfl h4 rfl (by decide) (ok_load1 rfl one25 (vl rfl)) ?_
          first
            | refine Ch.yes rfl rfl rfl h4 rfl (by decide) (ok_lenm rfl Try.underlying25 (vl rfl)) ?_
            | refine Ch.yes rfl rfl rfl h4 rfl (by decide) (ok_len rfl Try.underlying25 (vl rfl)) ?_
          refine Ch.yes rfl rfl rfl h4 rfl (by decide) (ok_int rfl (vl rfl) (vl rfl) rfl) ?_
          refine Ch.op rfl rfl (by decide) (ok_pick_f rfl (vl rfl) h4 (vl rfl)) ?_
          refine Ch.op rfl rfl (by decide) (ok_move rfl (vl rfl)) ?_
          refine Ch.cases 69 rfl (fun h5 => ?_) (fun h5 => ?_)
          ·
            have q5 := Nrm.nrm h5
            exfalso; have := (idx_range (inWin k) z1.wins).2; have := hc.some; unfold Cal.at at q5; omega
          ·
            have q5 := Nrm.nrm h5
            refine Ch.yes rfl rfl rfl h5 rfl (by decide) (ok_move rfl (vl rfl)) ?_
            refine Ch.yes rfl rfl rfl h5 rfl (by decide) (ok_int rfl (vl rfl) (vl rfl) rfl) ?_
            refine Ch.op rfl rfl (by decide) (ok_pick_f rfl (vl rfl) h5 (vl rfl)) ?_
            refine Ch.op rfl rfl (by decide) (ok_move rfl (vl rfl)) ?_
            refine Ch.cases 73 rfl (fun h6 => ?_) (fun h6 => ?_)
            ·
              have q6 := Nrm.nrm h6
              exact absurd rfl q6
            ·
              have q6 := Nrm.nrm h6
              refine Ch.yes rfl rfl rfl h6 rfl (by decide) (ok_move rfl (vl rfl)) ?_
              refine Ch.yes rfl rfl rfl h6 rfl (by decide) (ok_int rfl (vl rfl) (vl rfl) rfl) ?_
              refine Ch.op rfl rfl (by decide) (ok_pick_f rfl (vl rfl) h6 (vl rfl)) ?_
              refine Ch.op rfl rfl (by decide) (ok_move rfl (vl rfl)) ?_
              refine Ch.cases 77 rfl (fun h7 => ?_) (fun h7 => ?_)
              ·
                have q7 := Nrm.nrm h7
                exact absurd rfl q7
              ·
                have q7 := Nrm.nrm h7
                refine Ch.yes rfl rfl rfl h7 rfl (by decide) (ok_move rfl (vl rfl)) ?_
                refine Ch.yes rfl rfl rfl h7 rfl (by decide) (ok_move rfl (vl rfl)) ?_
                refine Ch.cases 79 rfl (fun h8 => ?_) (fun h8 => ?_)
                ·
                  have q8 := Nrm.nrm h8
                  obtain ⟨hmat, hmw⟩ := may_win h8
                  obtain ⟨w2, hw2, hin2⟩ := at_win hmat
                  refine Ch.yes rfl rfl rfl h8 rfl (by decide) (ok_move rfl (vl rfl)) ?_
                  refine Ch.yes rfl rfl rfl h8 rfl (by decide) (ok_not rfl (vl rfl)) ?_
                  refine Ch.yes rfl rfl rfl h8 rfl (by decide) (ok_move rfl (vl rfl)) ?_
                  refine Ch.cases 82 rfl (fun h9 => ?_) (fun h9 => ?_)
                  ·
                    have q9 := Nrm.nrm h9
                    exfalso; simp at h9; omega
                  ·
                    have q9 := Nrm.nrm h9
                    refine Ch.yes rfl rfl rfl h9 rfl (by decide) (ok_fieldAddr rfl fo27_0 (vl rfl) rfl) ?_
                    refine Ch.yes rfl rfl rfl h9 rfl (by decide) (ok_load1 rfl one25 (vl rfl)) ?_
                    refine Ch.yes rfl rfl rfl h9 rfl (by decide) (ok_move rfl (vl rfl)) ?_
                    refine Ch.yes rfl rfl rfl h9 rfl (by decide) (ok_indexAddr rfl Try.underlying25 sz45 (vl rfl) (vl rfl) (by omega) (by first | exact row_at (by assumption) | exact row_atI (by assumption) | assumption)) ?_
                    refine Ch.yes rfl rfl rfl h9 rfl (by decide) (ok_fieldAddr rfl fo45_1 (vl rfl) rfl) ?_
                    refine Ch.yes rfl rfl rfl h9 rfl (by decide) (ok_load1 rfl one22 (vl rfl)) ?_
                    refine Ch.yes rfl rfl rfl h9 rfl (by decide) (ok_move rfl (vl rfl)) ?_
                    refine Ch.yes rfl rfl rfl h9 rfl (by decide) (ok_call rfl (w_Has) ⟨⟨_, rfl, Pr.le_refl _⟩, ⟨_, rfl, Pr.le_refl _⟩, trivial⟩) ?_
                    refine Ch.yes rfl rfl rfl h9 rfl (by decide) (ok_not rfl (vl rfl)) ?_
                    refine Ch.yes rfl rfl rfl h8 rfl (by decide) (ok_pick_f rfl (vl rfl) h9 (vl rfl)) ?_
                    refine Ch.yes rfl rfl rfl h7 rfl (by decide) (ok_pick_t rfl (vl rfl) h8 (vl rfl)) ?_
                    refine Ch.op rfl rfl (by decide) (ok_pick_f rfl (vl rfl) h7 (vl rfl)) ?_
                    refine Ch.op rfl rfl (by decide) (ok_move rfl (vl rfl)) ?_
                    refine Ch.cases 95 rfl (fun h10 => ?_) (fun h10 => ?_)
                    ·
                      have q10 := Nrm.nrm h10
                      exact absurd h10 (by rw [hmw w2 hw2]; decide)
                    ·
                      have q10 := Nrm.nrm h10
                      refine Ch.yes rfl rfl rfl h10 rfl (by decide) (ok_move rfl (vl rfl)) ?_
                      refine Ch.yes rfl rfl rfl h10 rfl (by decide) (ok_move rfl (vl rfl)) ?_
                      refine Ch.cases 97 rfl (fun h11 => ?_) (fun h11 => ?_)
                      ·
                        have q11 := Nrm.nrm h11
                        obtain ⟨w2, hw2, hin2⟩ := at_win (of_decide_eq_true h11)
                        refine Ch.yes rfl rfl rfl h11 rfl (by decide) (ok_move rfl (vl rfl)) ?_
                        refine Ch.yes rfl rfl rfl h11 rfl (by decide) (ok_fieldAddr rfl fo27_0 (vl rfl) rfl) ?_
                        refine Ch.yes rfl rfl rfl h11 rfl (by decide) (ok_load1 rfl one25 (vl rfl)) ?_
                        refine Ch.yes rfl rfl rfl h11 rfl (by decide) (ok_move rfl (vl rfl)) ?_
                        refine Ch.yes rfl rfl rfl h11 rfl (by decide) (ok_indexAddr rfl Try.underlying25 sz45 (vl rfl) (vl rfl) (by omega) (by first | exact row_at (by assumption) | exact row_atI (by assumption) | assumption)) ?_
                        refine Ch.yes rfl rfl rfl h11 rfl (by decide) (ok_fieldAddr rfl fo45_0 (vl rfl) rfl) ?_
                        refine Ch.yes rfl rfl rfl h11 rfl (by decide) (ok_fieldAddr rfl fo43_0 (vl rfl) rfl) ?_
                        refine Ch.yes rfl rfl rfl h11 rfl (by decide) (ok_load1 rfl one3 (vl rfl)) ?_
                        refine Ch.yes rfl rfl rfl h11 rfl (by decide) (ok_int rfl (vl rfl) (vl rfl) rfl) ?_
                        refine Ch.yes rfl rfl rfl h11 rfl (by decide) (ok_move rfl (vl rfl)) ?_
                        refine Ch.cases 107 rfl (fun h12 => ?_) (fun h12 => ?_)
                        ·
                          have q12 := Nrm.nrm h12
                          exfalso; have := in_lo hin2; omega
                        ·
                          have q12 := Nrm.nrm h12
                          refine Ch.yes rfl rfl rfl h12 rfl (by decide) (ok_move rfl (vl rfl)) ?_
                          refine Ch.yes rfl rfl rfl h12 rfl (by decide) (ok_fieldAddr rfl fo27_0 (vl rfl) rfl) ?_
                          refine Ch.yes rfl rfl rfl h12 rfl (by decide) (ok_load1 rfl one25 (vl rfl)) ?_
                          refine Ch.yes rfl rfl rfl h12 rfl (by decide) (ok_move rfl (vl rfl)) ?_
                          refine Ch.yes rfl rfl rfl h12 rfl (by decide) (ok_indexAddr rfl Try.underlying25 sz45 (vl rfl) (vl rfl) (by omega) (by first | exact row_at (by assumption) | exact row_atI (by assumption) | assumption)) ?_
                          refine Ch.yes rfl rfl rfl h12 rfl (by decide) (ok_fieldAddr rfl fo45_0 (vl rfl) rfl) ?_
                          refine Ch.yes rfl rfl rfl h12 rfl (by decide) (ok_fieldAddr rfl fo43_1 (vl rfl) rfl) ?_
                          refine Ch.yes rfl rfl rfl h12 rfl (by decide) (ok_load1 rfl one3 (vl rfl)) ?_
                          refine Ch.yes rfl rfl rfl h12 rfl (by decide) (ok_int rfl (vl rfl) (vl rfl) rfl) ?_
                          refine Ch.yes rfl rfl rfl h11 rfl (by decide) (ok_pick_f rfl (vl rfl) h12 (vl rfl)) ?_
                          refine Ch.yes rfl rfl rfl h10 rfl (by decide) (ok_pick_t rfl (vl rfl) h11 (vl rfl)) ?_
                          refine Ch.op rfl rfl (by decide) (ok_pick_f rfl (vl rfl) h10 (vl rfl)) ?_
                          refine Ch.nil ?_
                          refine Fin.go ?_
                          refine Tr.weak [(6, _), (7, _), (9, _), (10, _), (12, _), (13, _), (119, _)] ⟨⟨_, rfl, Pr.le_refl _⟩, ⟨_, rfl, Pr.le_refl _⟩, ⟨_, rfl, Pr.le_refl _⟩, ⟨_, rfl, Pr.le_refl _⟩, ⟨_, rfl, Pr.le_refl _⟩, ⟨_, rfl, Pr.le_refl _⟩, ⟨_, rfl, Pr.le_refl _⟩, trivial⟩ ?_
                          refine Tr.cond rfl (fun h13 => ?_) (fun h13 => ?_)
                          ·
                            have q13 := Nrm.nrm h13
                            exfalso; have := in_lo hin2; omega
                          ·
                            have q13 := Nrm.nrm h13
                            refine Tr.skip ?_
                            refine Fin.go ?_
                            refine Tr.seq ?_
                            refine Tr.seq ?_
                            refine Tr.reg0 ?_
                            refine Ch.op rfl rfl (by decide) (ok_move rfl (vl rfl)) ?_
                            refine Ch.op rfl rfl (by decide) (ok_move rfl (vl rfl)) ?_
                            refine Ch.cases 121 rfl (fun h14 => ?_) (fun h14 => ?_)
                            ·
                              have q14 := Nrm.nrm h14
                              refine Ch.yes rfl rfl rfl h14 rfl (by decide) (ok_move rfl (vl rfl)) ?_
                              refine Ch.yes rfl rfl rfl h14 rfl (by decide) (ok_move rfl (vl rfl)) ?_
                              refine Ch.yes rfl rfl rfl h14 rfl (by decide) (ok_int rfl (vl rfl) (vl rfl) rfl) ?_
                              refine Ch.op rfl rfl (by decide) (ok_pick_t rfl (vl rfl) h14 (vl rfl)) ?_
                              refine Ch.nil ?_
                              refine Fin.go ?_
                              refine Tr.cond rfl (fun h15 => ?_) (fun h15 => ?_)
                              ·
                                have q15 := Nrm.nrm h15
                                have hkx : k = (z1.next tm n fun _ => true).getD 0 := q15
                                refine Tr.seq ?_
                                refine Tr.reg0 ?_
                                refine Ch.op rfl rfl (by decide) (ok_move rfl (vl rfl)) ?_
                                refine Ch.op rfl rfl (by decide) (ok_move rfl (vl rfl)) ?_
                                refine Ch.cases 127 rfl (fun h16 => ?_) (fun h16 => ?_)
                                ·
                                  have q16 := Nrm.nrm h16
                                  refine Ch.yes rfl rfl rfl h16 rfl (by decide) (ok_call rfl (w_awake) trivial) ?_
                                  refine Ch.op rfl rfl (by decide) (ok_pick_t rfl (vl rfl) h16 (vl rfl)) ?_
                                  refine Ch.op rfl rfl (by decide) (ok_assign rfl (vl rfl)) ?_
                                  refine Ch.nil ?_
                                  refine Fin.go ?_
                                  refine Tr.weak [(4, _)] ⟨⟨_, rfl, Pr.le_refl _⟩, trivial⟩ ?_
                                  refine Tr.ret ?_
                                  refine Fin.then_ret ?_
                                  refine Fin.block_ret ?_
                                  refine Fin.then_ret ?_
                                  refine Fin.then_ret ?_
                                  refine Fin.block_ret ?_
                                  refine Fin.then_ret ?_
                                  refine Fin.ret1 rfl (OutW.bse _ _) rfl ?_
                                  · first | exact Pr.le_refl _ | (refine int_eq ?_; simp_all; done) | (refine bool_eq ?_; simp_all; done) | (refine bool_eq ?_; simp_all; omega) | (refine int_eq ?_; omega)
                                ·
                                  have q16 := Nrm.nrm h16
                                  exfalso; obtain ⟨a1, a2, a3, a4⟩ := next_yes hown hn2.1 hc.top (by assumption); rw [← hkx] at a2; rw [a2] at h16; cases h16
                              ·
                                have q15 := Nrm.nrm h15
                                refine Tr.skip ?_
                                refine Fin.go ?_
                                refine Tr.seq ?_
                                refine Tr.reg0 ?_
                                refine Ch.op rfl rfl (by decide) (ok_move rfl (vl rfl)) ?_
                                refine Ch.nil ?_
                                refine Fin.go ?_
                                refine Tr.weak [(6, _), (7, _), (9, _), (10, _), (12, _), (130, _)] ⟨⟨_, rfl, Pr.le_refl _⟩, ⟨_, rfl, Pr.le_refl _⟩, ⟨_, rfl, Pr.le_refl _⟩, ⟨_, rfl, Pr.le_refl _⟩, ⟨_, rfl, Pr.le_refl _⟩, ⟨_, rfl, Pr.le_refl _⟩, trivial⟩ ?_
                                refine Tr.cond rfl (fun h17 => ?_) (fun h17 => ?_)
                                ·
                                  have q17 := Nrm.nrm h17
                                  exfalso; obtain ⟨e1, e2⟩ := nx_hit hown hn2.1 hc.top hk0 hinv h17; simp_all
                                ·
                                  have q17 := Nrm.nrm h17
                                  refine Tr.skip ?_
                                  refine Fin.block ?_
                                  refine Fin.go ?_
                                  refine Tr.reg0 ?_
                                  refine Ch.op rfl rfl (by decide) (ok_move rfl (vl rfl)) ?_
                                  first
                                    | (refine Ch.op rfl rfl (by decide) (ok_add rfl (vl rfl) (vl rfl) ?hin) ?_; case hin => unfold InI; omega)
                                    | refine Ch.op rfl rfl (by decide) (ok_int rfl (vl rfl) (vl rfl) rfl) ?_
                                  refine Ch.op rfl rfl (by decide) (ok_assign rfl (vl rfl)) ?_
                                  refine Ch.nil ?_
                                  exact Fin.fam_same (k + 1) ⟨⟨by omega, by omega, inv_step hinv (by assumption)⟩, by omega⟩ ⟨⟨_, rfl, Pr.le_refl _⟩, ⟨_, rfl, Pr.le_refl _⟩, ⟨_, rfl, Pr.le_refl _⟩, ⟨_, rfl, Pr.le_refl _⟩, ⟨_, rfl, Pr.le_refl _⟩, trivial⟩
                            ·
                              have q14 := Nrm.nrm h14
                              refine Ch.no rfl rfl rfl (ne_true h14) rfl (by decide) ?_
                              refine Ch.no rfl rfl rfl (ne_true h14) rfl (by decide) ?_
                              refine Ch.no rfl rfl rfl (ne_true h14) rfl (by decide) ?_
                              refine Ch.op rfl rfl (by decide) (ok_pick_f rfl (vl rfl) h14 (vl rfl)) ?_
                              refine Ch.nil ?_
                              refine Fin.go ?_
                              refine Tr.cond rfl (fun h => nomatch h) (fun _ => ?_)
                              refine Tr.skip ?_
                              refine Fin.go ?_
                              refine Tr.seq ?_
                              refine Tr.reg0 ?_
                              refine Ch.op rfl rfl (by decide) (ok_move rfl (vl rfl)) ?_
                              refine Ch.nil ?_
                              refine Fin.go ?_
                              refine Tr.weak [(6, _), (7, _), (9, _), (10, _), (12, _), (130, _)] ⟨⟨_, rfl, Pr.le_refl _⟩, ⟨_, rfl, Pr.le_refl _⟩, ⟨_, rfl, Pr.le_refl _⟩, ⟨_, rfl, Pr.le_refl _⟩, ⟨_, rfl, Pr.le_refl _⟩, ⟨_, rfl, Pr.le_refl _⟩, trivial⟩ ?_
                              refine Tr.cond rfl (fun h18 => ?_) (fun h18 => ?_)
                              ·
                                have q18 := Nrm.nrm h18
                                exfalso; obtain ⟨e1, e2⟩ := nx_hit hown hn2.1 hc.top hk0 hinv h18; simp_all
                              ·
                                have q18 := Nrm.nrm h18
                                refine Tr.skip ?_
                                refine Fin.block ?_
                                refine Fin.go ?_
                                refine Tr.reg0 ?_
                                refine Ch.op rfl rfl (by decide) (ok_move rfl (vl rfl)) ?_
                                first
                                  | (refine Ch.op rfl rfl (by decide) (ok_add rfl (vl rfl) (vl rfl) ?hin) ?_; case hin => unfold InI; omega)
                                  | refine Ch.op rfl rfl (by decide) (ok_int rfl (vl rfl) (vl rfl) rfl) ?_
                                refine Ch.op rfl rfl (by decide) (ok_assign rfl (vl rfl)) ?_
                                refine Ch.nil ?_
                                exact Fin.fam_same (k + 1) ⟨⟨by omega, by omega, inv_step hinv (by assumption)⟩, by omega⟩ ⟨⟨_, rfl, Pr.le_refl _⟩, ⟨_, rfl, Pr.le_refl _⟩, ⟨_, rfl, Pr.le_refl _⟩, ⟨_, rfl, Pr.le_refl _⟩, ⟨_, rfl, Pr.le_refl _⟩, trivial⟩
                      ·
                        have q11 := Nrm.nrm h11
                        refine Ch.no rfl rfl rfl (ne_true h11) rfl (by decide) ?_
                        refine Ch.no rfl rfl rfl (ne_true h11) rfl (by decide) ?_
                        refine Ch.no rfl rfl rfl (ne_true h11) rfl (by decide) ?_
                        refine Ch.no rfl rfl rfl (ne_true h11) rfl (by decide) ?_
                        refine Ch.no rfl rfl rfl (ne_true h11) rfl (by decide) ?_
                        refine Ch.no rfl rfl rfl (ne_true h11) rfl (by decide) ?_
                        refine Ch.no rfl rfl rfl (ne_true h11) rfl (by decide) ?_
                        refine Ch.no rfl rfl rfl (ne_true h11) rfl (by decide) ?_
                        refine Ch.no rfl rfl rfl (ne_true h11) rfl (by decide) ?_
                        refine Ch.no rfl rfl rfl (ne_true h11) rfl (by decide) ?_
                        refine Ch.un rfl rfl rfl rfl (by decide) ?_
                        refine Ch.un rfl rfl rfl rfl (by decide) ?_
                        refine Ch.un rfl rfl rfl rfl (by decide) ?_
                        refine Ch.un rfl rfl rfl rfl (by decide) ?_
                        refine Ch.un rfl rfl rfl rfl (by decide) ?_
                        refine Ch.un rfl rfl rfl rfl (by decide) ?_
                        refine Ch.un rfl rfl rfl rfl (by decide) ?_
                        refine Ch.un rfl rfl rfl rfl (by decide) ?_
                        refine Ch.un rfl rfl rfl rfl (by decide) ?_
                        refine Ch.no rfl rfl rfl (ne_true h11) rfl (by decide) ?_
                        refine Ch.yes rfl rfl rfl h10 rfl (by decide) (ok_pick_f rfl (vl rfl) h11 (vl rfl)) ?_
                        refine Ch.op rfl rfl (by decide) (ok_pick_f rfl (vl rfl) h10 (vl rfl)) ?_
                        refine Ch.nil ?_
                        refine Fin.go ?_
                        refine Tr.weak [(6, _), (7, _), (9, _), (10, _), (12, _), (13, _), (119, _)] ⟨⟨_, rfl, Pr.le_refl _⟩, ⟨_, rfl, Pr.le_refl _⟩, ⟨_, rfl, Pr.le_refl _⟩, ⟨_, rfl, Pr.le_refl _⟩, ⟨_, rfl, Pr.le_refl _⟩, ⟨_, rfl, Pr.le_refl _⟩, ⟨_, rfl, Pr.le_refl _⟩, trivial⟩ ?_
                        refine Tr.cond rfl (fun h => nomatch h) (fun _ => ?_)
                        refine Tr.skip ?_
                        refine Fin.go ?_
                        refine Tr.seq ?_
                        refine Tr.seq ?_
                        refine Tr.reg0 ?_
                        refine Ch.op rfl rfl (by decide) (ok_move rfl (vl rfl)) ?_
                        refine Ch.op rfl rfl (by decide) (ok_move rfl (vl rfl)) ?_
                        refine Ch.cases 121 rfl (fun h19 => ?_) (fun h19 => ?_)
                        ·
                          have q19 := Nrm.nrm h19
                          refine Ch.yes rfl rfl rfl h19 rfl (by decide) (ok_move rfl (vl rfl)) ?_
                          refine Ch.yes rfl rfl rfl h19 rfl (by decide) (ok_move rfl (vl rfl)) ?_
                          refine Ch.yes rfl rfl rfl h19 rfl (by decide) (ok_int rfl (vl rfl) (vl rfl) rfl) ?_
                          refine Ch.op rfl rfl (by decide) (ok_pick_t rfl (vl rfl) h19 (vl rfl)) ?_
                          refine Ch.nil ?_
                          refine Fin.go ?_
                          refine Tr.cond rfl (fun h20 => ?_) (fun h20 => ?_)
                          ·
                            have q20 := Nrm.nrm h20
                            have hkx : k = (z1.next tm n fun _ => true).getD 0 := q20
                            refine Tr.seq ?_
                            refine Tr.reg0 ?_
                            refine Ch.op rfl rfl (by decide) (ok_move rfl (vl rfl)) ?_
                            refine Ch.op rfl rfl (by decide) (ok_move rfl (vl rfl)) ?_
                            refine Ch.cases 127 rfl (fun h21 => ?_) (fun h21 => ?_)
                            ·
                              have q21 := Nrm.nrm h21
                              refine Ch.yes rfl rfl rfl h21 rfl (by decide) (ok_call rfl (w_awake) trivial) ?_
                              refine Ch.op rfl rfl (by decide) (ok_pick_t rfl (vl rfl) h21 (vl rfl)) ?_
                              refine Ch.op rfl rfl (by decide) (ok_assign rfl (vl rfl)) ?_
                              refine Ch.nil ?_
                              refine Fin.go ?_
                              refine Tr.weak [(4, _)] ⟨⟨_, rfl, Pr.le_refl _⟩, trivial⟩ ?_
                              refine Tr.ret ?_
                              refine Fin.then_ret ?_
                              refine Fin.block_ret ?_
                              refine Fin.then_ret ?_
                              refine Fin.then_ret ?_
                              refine Fin.block_ret ?_
                              refine Fin.then_ret ?_
                              refine Fin.ret1 rfl (OutW.bse _ _) rfl ?_
                              · first | exact Pr.le_refl _ | (refine int_eq ?_; simp_all; done) | (refine bool_eq ?_; simp_all; done) | (refine bool_eq ?_; simp_all; omega) | (refine int_eq ?_; omega)
                            ·
                              have q21 := Nrm.nrm h21
                              exfalso; obtain ⟨a1, a2, a3, a4⟩ := next_yes hown hn2.1 hc.top (by assumption); rw [← hkx] at a2; rw [a2] at h21; cases h21
                          ·
                            have q20 := Nrm.nrm h20
                            refine Tr.skip ?_
                            refine Fin.go ?_
                            refine Tr.seq ?_
                            refine Tr.reg0 ?_
                            refine Ch.op rfl rfl (by decide) (ok_move rfl (vl rfl)) ?_
                            refine Ch.nil ?_
                            refine Fin.go ?_
                            refine Tr.weak [(6, _), (7, _), (9, _), (10, _), (12, _), (130, _)] ⟨⟨_, rfl, Pr.le_refl _⟩, ⟨_, rfl, Pr.le_refl _⟩, ⟨_, rfl, Pr.le_refl _⟩, ⟨_, rfl, Pr.le_refl _⟩, ⟨_, rfl, Pr.le_refl _⟩, ⟨_, rfl, Pr.le_refl _⟩, trivial⟩ ?_
                            refine Tr.cond rfl (fun h22 => ?_) (fun h22 => ?_)
                            ·
                              have q22 := Nrm.nrm h22
                              exfalso; obtain ⟨e1, e2⟩ := nx_hit hown hn2.1 hc.top hk0 hinv h22; simp_all
                            ·
                              have q22 := Nrm.nrm h22
                              refine Tr.skip ?_
                              refine Fin.block ?_
                              refine Fin.go ?_
                              refine Tr.reg0 ?_
                              refine Ch.op rfl rfl (by decide) (ok_move rfl (vl rfl)) ?_
                              first
                                | (refine Ch.op rfl rfl (by decide) (ok_add rfl (vl rfl) (vl rfl) ?hin) ?_; case hin => unfold InI; omega)
                                | refine Ch.op rfl rfl (by decide) (ok_int rfl (vl rfl) (vl rfl) rfl) ?_
                              refine Ch.op rfl rfl (by decide) (ok_assign rfl (vl rfl)) ?_
                              refine Ch.nil ?_
                              exact Fin.fam_same (k + 1) ⟨⟨by omega, by omega, inv_step hinv (by assumption)⟩, by omega⟩ ⟨⟨_, rfl, Pr.le_refl _⟩, ⟨_, rfl, Pr.le_refl _⟩, ⟨_, rfl, Pr.le_refl _⟩, ⟨_, rfl, Pr.le_refl _⟩, ⟨_, rfl, Pr.le_refl _⟩, trivial⟩
                        ·
                          have q19 := Nrm.nrm h19
                          refine Ch.no rfl rfl rfl (ne_true h19) rfl (by decide) ?_
                          refine Ch.no rfl rfl rfl (ne_true h19) rfl (by decide) ?_
                          refine Ch.no rfl rfl rfl (ne_true h19) rfl (by decide) ?_
                          refine Ch.op rfl rfl (by decide) (ok_pick_f rfl (vl rfl) h19 (vl rfl)) ?_
                          refine Ch.nil ?_
                          refine Fin.go ?_
                          refine Tr.cond rfl (fun h => nomatch h) (fun _ => ?_)
                          refine Tr.skip ?_
                          refine Fin.go ?_
                          refine Tr.seq ?_
                          refine Tr.reg0 ?_
                          refine Ch.op rfl rfl (by decide) (ok_move rfl (vl rfl)) ?_
                          refine Ch.nil ?_
                          refine Fin.go ?_
                          refine Tr.weak [(6, _), (7, _), (9, _), (10, _), (12, _), (130, _)] ⟨⟨_, rfl, Pr.le_refl _⟩, ⟨_, rfl, Pr.le_refl _⟩, ⟨_, rfl, Pr.le_refl _⟩, ⟨_, rfl, Pr.le_refl _⟩, ⟨_, rfl, Pr.le_refl _⟩, ⟨_, rfl, Pr.le_refl _⟩, trivial⟩ ?_
                          refine Tr.cond rfl (fun h23 => ?_) (fun h23 => ?_)
                          ·
                            have q23 := Nrm.nrm h23
                            exfalso; obtain ⟨e1, e2⟩ := nx_hit hown hn2.1 hc.top hk0 hinv h23; simp_all
                          ·
                            have q23 := Nrm.nrm h23
                            refine Tr.skip ?_
                            refine Fin.block ?_
                            refine Fin.go ?_
                            refine Tr.reg0 ?_
                            refine Ch.op rfl rfl (by decide) (ok_move rfl (vl rfl)) ?_
                            first
                              | (refine Ch.op rfl rfl (by decide) (ok_add rfl (vl rfl) (vl rfl) ?hin) ?_; case hin => unfold InI; omega)
                              | refine Ch.op rfl rfl (by decide) (ok_int rfl (vl rfl) (vl rfl) rfl) ?_
                            refine Ch.op rfl rfl (by decide) (ok_assign rfl (vl rfl)) ?_
                            refine Ch.nil ?_
                            exact Fin.fam_same (k + 1) ⟨⟨by omega, by omega, inv_step hinv (by assumption)⟩, by omega⟩ ⟨⟨_, rfl, Pr.le_refl _⟩, ⟨_, rfl, Pr.le_refl _⟩, ⟨_, rfl, Pr.le_refl _⟩, ⟨_, rfl, Pr.le_refl _⟩, ⟨_, rfl, Pr.le_refl _⟩, trivial⟩
                ·
                  have q8 := Nrm.nrm h8
                  refine Ch.no rfl rfl rfl (ne_true h8) rfl (by decide) ?_
                  refine Ch.no rfl rfl rfl (ne_true h8) rfl (by decide) ?_
                  refine Ch.no rfl rfl rfl (ne_true h8) rfl (by decide) ?_
                  refine Ch.un rfl rfl rfl rfl (by decide) ?_
                  refine Ch.un rfl rfl rfl rfl (by decide) ?_
                  refine Ch.un rfl rfl rfl rfl (by decide) ?_
                  refine Ch.un rfl rfl rfl rfl (by decide) ?_
                  refine Ch.un rfl rfl rfl rfl (by decide) ?_
                  refine Ch.un rfl rfl rfl rfl (by decide) ?_
                  refine Ch.un rfl rfl rfl rfl (by decide) ?_
                  refine Ch.un rfl rfl rfl rfl (by decide) ?_
                  refine Ch.un rfl rfl rfl rfl (by decide) ?_
                  refine Ch.no rfl rfl rfl (ne_true h8) rfl (by decide) ?_
                  refine Ch.yes rfl rfl rfl h7 rfl (by decide) (ok_pick_f rfl (vl rfl) h8 (vl rfl)) ?_
                  refine Ch.op rfl rfl (by decide) (ok_pick_f rfl (vl rfl) h7 (vl rfl)) ?_
                  refine Ch.op rfl rfl (by decide) (ok_move rfl (vl rfl)) ?_
                  refine Ch.yes rfl rfl rfl rfl rfl (by decide) (ok_move rfl (vl rfl)) ?_
                  refine Ch.yes rfl rfl rfl rfl rfl (by decide) (ok_move rfl (vl rfl)) ?_
                  refine Ch.cases 97 rfl (fun h24 => ?_) (fun h24 => ?_)
                  ·
                    have q24 := Nrm.nrm h24
                    obtain ⟨w2, hw2, hin2⟩ := at_win (of_decide_eq_true h24)
                    refine Ch.yes rfl rfl rfl h24 rfl (by decide) (ok_move rfl (vl rfl)) ?_
                    refine Ch.yes rfl rfl rfl h24 rfl (by decide) (ok_fieldAddr rfl fo27_0 (vl rfl) rfl) ?_
                    refine Ch.yes rfl rfl rfl h24 rfl (by decide) (ok_load1 rfl one25 (vl rfl)) ?_
                    refine Ch.yes rfl rfl rfl h24 rfl (by decide) (ok_move rfl (vl rfl)) ?_
                    refine Ch.yes rfl rfl rfl h24 rfl (by decide) (ok_indexAddr rfl Try.underlying25 sz45 (vl rfl) (vl rfl) (by omega) (by first | exact row_at (by assumption) | exact row_atI (by assumption) | assumption)) ?_
                    refine Ch.yes rfl rfl rfl h24 rfl (by decide) (ok_fieldAddr rfl fo45_0 (vl rfl) rfl) ?_
                    refine Ch.yes rfl rfl rfl h24 rfl (by decide) (ok_fieldAddr rfl fo43_0 (vl rfl) rfl) ?_
                    refine Ch.yes rfl rfl rfl h24 rfl (by decide) (ok_load1 rfl one3 (vl rfl)) ?_
                    refine Ch.yes rfl rfl rfl h24 rfl (by decide) (ok_int rfl (vl rfl) (vl rfl) rfl) ?_
                    refine Ch.yes rfl rfl rfl h24 rfl (by decide) (ok_move rfl (vl rfl)) ?_
                    refine Ch.cases 107 rfl (fun h25 => ?_) (fun h25 => ?_)
                    ·
                      have q25 := Nrm.nrm h25
                      exfalso; have := in_lo hin2; omega
                    ·
                      have q25 := Nrm.nrm h25
                      refine Ch.yes rfl rfl rfl h25 rfl (by decide) (ok_move rfl (vl rfl)) ?_
                      refine Ch.yes rfl rfl rfl h25 rfl (by decide) (ok_fieldAddr rfl fo27_0 (vl rfl) rfl) ?_
                      refine Ch.yes rfl rfl rfl h25 rfl (by decide) (ok_load1 rfl one25 (vl rfl)) ?_
                      refine Ch.yes rfl rfl rfl h25 rfl (by decide) (ok_move rfl (vl rfl)) ?_
                      refine Ch.yes rfl rfl rfl h25 rfl (by decide) (ok_indexAddr rfl Try.underlying25 sz45 (vl rfl) (vl rfl) (by omega) (by first | exact row_at (by assumption) | exact row_atI (by assumption) | assumption)) ?_
                      refine Ch.yes rfl rfl rfl h25 rfl (by decide) (ok_fieldAddr rfl fo45_0 (vl rfl) rfl) ?_
                      refine Ch.yes rfl rfl rfl h25 rfl (by decide) (ok_fieldAddr rfl fo43_1 (vl rfl) rfl) ?_
                      refine Ch.yes rfl rfl rfl h25 rfl (by decide) (ok_load1 rfl one3 (vl rfl)) ?_
                      refine Ch.yes rfl rfl rfl h25 rfl (by decide) (ok_int rfl (vl rfl) (vl rfl) rfl) ?_
                      refine Ch.yes rfl rfl rfl h24 rfl (by decide) (ok_pick_f rfl (vl rfl) h25 (vl rfl)) ?_
                      refine Ch.yes rfl rfl rfl rfl rfl (by decide) (ok_pick_t rfl (vl rfl) h24 (vl rfl)) ?_
                      refine Ch.op rfl rfl (by decide) (ok_pick_f rfl (vl rfl) rfl (vl rfl)) ?_
                      refine Ch.nil ?_
                      refine Fin.go ?_
                      refine Tr.weak [(6, _), (7, _), (9, _), (10, _), (12, _), (13, _), (119, _)] ⟨⟨_, rfl, Pr.le_refl _⟩, ⟨_, rfl, Pr.le_refl _⟩, ⟨_, rfl, Pr.le_refl _⟩, ⟨_, rfl, Pr.le_refl _⟩, ⟨_, rfl, Pr.le_refl _⟩, ⟨_, rfl, Pr.le_refl _⟩, ⟨_, rfl, Pr.le_refl _⟩, trivial⟩ ?_
                      refine Tr.cond rfl (fun h26 => ?_) (fun h26 => ?_)
                      ·
                        have q26 := Nrm.nrm h26
                        exfalso; have := in_lo hin2; omega
                      ·
                        have q26 := Nrm.nrm h26
                        refine Tr.skip ?_
                        refine Fin.go ?_
                        refine Tr.seq ?_
                        refine Tr.seq ?_
                        refine Tr.reg0 ?_
                        refine Ch.op rfl rfl (by decide) (ok_move rfl (vl rfl)) ?_
                        refine Ch.op rfl rfl (by decide) (ok_move rfl (vl rfl)) ?_
                        refine Ch.cases 121 rfl (fun h27 => ?_) (fun h27 => ?_)
                        ·
                          have q27 := Nrm.nrm h27
                          refine Ch.yes rfl rfl rfl h27 rfl (by decide) (ok_move rfl (vl rfl)) ?_
                          refine Ch.yes rfl rfl rfl h27 rfl (by decide) (ok_move rfl (vl rfl)) ?_
                          refine Ch.yes rfl rfl rfl h27 rfl (by decide) (ok_int rfl (vl rfl) (vl rfl) rfl) ?_
                          refine Ch.op rfl rfl (by decide) (ok_pick_t rfl (vl rfl) h27 (vl rfl)) ?_
                          refine Ch.nil ?_
                          refine Fin.go ?_
                          refine Tr.cond rfl (fun h28 => ?_) (fun h28 => ?_)
                          ·
                            have q28 := Nrm.nrm h28
                            have hkx : k = (z1.next tm n fun _ => true).getD 0 := q28
                            refine Tr.seq ?_
                            refine Tr.reg0 ?_
                            refine Ch.op rfl rfl (by decide) (ok_move rfl (vl rfl)) ?_
                            refine Ch.op rfl rfl (by decide) (ok_move rfl (vl rfl)) ?_
                            refine Ch.cases 127 rfl (fun h29 => ?_) (fun h29 => ?_)
                            ·
                              have q29 := Nrm.nrm h29
                              refine Ch.yes rfl rfl rfl h29 rfl (by decide) (ok_call rfl (w_awake) trivial) ?_
                              refine Ch.op rfl rfl (by decide) (ok_pick_t rfl (vl rfl) h29 (vl rfl)) ?_
                              refine Ch.op rfl rfl (by decide) (ok_assign rfl (vl rfl)) ?_
                              refine Ch.nil ?_
                              refine Fin.go ?_
                              refine Tr.weak [(4, _)] ⟨⟨_, rfl, Pr.le_refl _⟩, trivial⟩ ?_
                              refine Tr.ret ?_
                              refine Fin.then_ret ?_
                              refine Fin.block_ret ?_
                              refine Fin.then_ret ?_
                              refine Fin.then_ret ?_
                              refine Fin.block_ret ?_
                              refine Fin.then_ret ?_
                              refine Fin.ret1 rfl (OutW.bse _ _) rfl ?_
                              · first | exact Pr.le_refl _ | (refine int_eq ?_; simp_all; done) | (refine bool_eq ?_; simp_all; done) | (refine bool_eq ?_; simp_all; omega) | (refine int_eq ?_; omega)
                            ·
                              have q29 := Nrm.nrm h29
                              exfalso; obtain ⟨a1, a2, a3, a4⟩ := next_yes hown hn2.1 hc.top (by assumption); rw [← hkx] at a2; rw [a2] at h29; cases h29
                          ·
                            have q28 := Nrm.nrm h28
                            refine Tr.skip ?_
                            refine Fin.go ?_
                            refine Tr.seq ?_
                            refine Tr.reg0 ?_
                            refine Ch.op rfl rfl (by decide) (ok_move rfl (vl rfl)) ?_
                            refine Ch.nil ?_
                            refine Fin.go ?_
                            refine Tr.weak [(6, _), (7, _), (9, _), (10, _), (12, _), (130, _)] ⟨⟨_, rfl, Pr.le_refl _⟩, ⟨_, rfl, Pr.le_refl _⟩, ⟨_, rfl, Pr.le_refl _⟩, ⟨_, rfl, Pr.le_refl _⟩, ⟨_, rfl, Pr.le_refl _⟩, ⟨_, rfl, Pr.le_refl _⟩, trivial⟩ ?_
                            refine Tr.cond rfl (fun h30 => ?_) (fun h30 => ?_)
                            ·
                              have q30 := Nrm.nrm h30
                              exfalso; obtain ⟨e1, e2⟩ := nx_hit hown hn2.1 hc.top hk0 hinv h30; simp_all
                            ·
                              have q30 := Nrm.nrm h30
                              refine Tr.skip ?_
                              refine Fin.block ?_
                              refine Fin.go ?_
                              refine Tr.reg0 ?_
                              refine Ch.op rfl rfl (by decide) (ok_move rfl (vl rfl)) ?_
                              first
                                | (refine Ch.op rfl rfl (by decide) (ok_add rfl (vl rfl) (vl rfl) ?hin) ?_; case hin => unfold InI; omega)
                                | refine Ch.op rfl rfl (by decide) (ok_int rfl (vl rfl) (vl rfl) rfl) ?_
                              refine Ch.op rfl rfl (by decide) (ok_assign rfl (vl rfl)) ?_
                              refine Ch.nil ?_
                              exact Fin.fam_same (k + 1) ⟨⟨by omega, by omega, inv_step hinv (by assumption)⟩, by omega⟩ ⟨⟨_, rfl, Pr.le_refl _⟩, ⟨_, rfl, Pr.le_refl _⟩, ⟨_, rfl, Pr.le_refl _⟩, ⟨_, rfl, Pr.le_refl _⟩, ⟨_, rfl, Pr.le_refl _⟩, trivial⟩
                        ·
                          have q27 := Nrm.nrm h27
                          refine Ch.no rfl rfl rfl (ne_true h27) rfl (by decide) ?_
                          refine Ch.no rfl rfl rfl (ne_true h27) rfl (by decide) ?_
                          refine Ch.no rfl rfl rfl (ne_true h27) rfl (by decide) ?_
                          refine Ch.op rfl rfl (by decide) (ok_pick_f rfl (vl rfl) h27 (vl rfl)) ?_
                          refine Ch.nil ?_
                          refine Fin.go ?_
                          refine Tr.cond rfl (fun h => nomatch h) (fun _ => ?_)
                          refine Tr.skip ?_
                          refine Fin.go ?_
                          refine Tr.seq ?_
                          refine Tr.reg0 ?_
                          refine Ch.op rfl rfl (by decide) (ok_move rfl (vl rfl)) ?_
                          refine Ch.nil ?_
                          refine Fin.go ?_
                          refine Tr.weak [(6, _), (7, _), (9, _), (10, _), (12, _), (130, _)] ⟨⟨_, rfl, Pr.le_refl _⟩, ⟨_, rfl, Pr.le_refl _⟩, ⟨_, rfl, Pr.le_refl _⟩, ⟨_, rfl, Pr.le_refl _⟩, ⟨_, rfl, Pr.le_refl _⟩, ⟨_, rfl, Pr.le_refl _⟩, trivial⟩ ?_
                          refine Tr.cond rfl (fun h31 => ?_) (fun h31 => ?_)
                          ·
                            have q31 := Nrm.nrm h31
                            exfalso; obtain ⟨e1, e2⟩ := nx_hit hown hn2.1 hc.top hk0 hinv h31; simp_all
                          ·
                            have q31 := Nrm.nrm h31
                            refine Tr.skip ?_
                            refine Fin.block ?_
                            refine Fin.go ?_
                            refine Tr.reg0 ?_
                            refine Ch.op rfl rfl (by decide) (ok_move rfl (vl rfl)) ?_
                            first
                              | (refine Ch.op rfl rfl (by decide) (ok_add rfl (vl rfl) (vl rfl) ?hin) ?_; case hin => unfold InI; omega)
                              | refine Ch.op rfl rfl (by decide) (ok_int rfl (vl rfl) (vl rfl) rfl) ?_
                            refine Ch.op rfl rfl (by decide) (ok_assign rfl (vl rfl)) ?_
                            refine Ch.nil ?_
                            exact Fin.fam_same (k + 1) ⟨⟨by omega, by omega, inv_step hinv (by assumption)⟩, by omega⟩ ⟨⟨_, rfl, Pr.le_refl _⟩, ⟨_, rfl, Pr.le_refl _⟩, ⟨_, rfl, Pr.le_refl _⟩, ⟨_, rfl, Pr.le_refl _⟩, ⟨_, rfl, Pr.le_refl _⟩, trivial⟩
                  ·
                    have q24 := Nrm.nrm h24
                    refine Ch.no rfl rfl rfl (ne_true h24) rfl (by decide) ?_
                    refine Ch.no rfl rfl rfl (ne_true h24) rfl (by decide) ?_
                    refine Ch.no rfl rfl rfl (ne_true h24) rfl (by decide) ?_
                    refine Ch.no rfl rfl rfl (ne_true h24) rfl (by decide) ?_
                    refine Ch.no rfl rfl rfl (ne_true h24) rfl (by decide) ?_
                    refine Ch.no rfl rfl rfl (ne_true h24) rfl (by decide) ?_
                    refine Ch.no rfl rfl rfl (ne_true h24) rfl (by decide) ?_
                    refine Ch.no rfl rfl rfl (ne_true h24) rfl (by decide) ?_
                    refine Ch.no rfl rfl rfl (ne_true h24) rfl (by decide) ?_
                    refine Ch.no rfl rfl rfl (ne_true h24) rfl (by decide) ?_
                    refine Ch.un rfl rfl rfl rfl (by decide) ?_
                    refine Ch.un rfl rfl rfl rfl (by decide) ?_
                    refine Ch.un rfl rfl rfl rfl (by decide) ?_
                    refine Ch.un rfl rfl rfl rfl (by decide) ?_
                    refine Ch.un rfl rfl rfl rfl (by decide) ?_
                    refine Ch.un rfl rfl rfl rfl (by decide) ?_
                    refine Ch.un rfl rfl rfl rfl (by decide) ?_
                    refine Ch.un rfl rfl rfl rfl (by decide) ?_
                    refine Ch.un rfl rfl rfl rfl (by decide) ?_
                    refine Ch.no rfl rfl rfl (ne_true h24) rfl (by decide) ?_
                    refine Ch.yes rfl rfl rfl rfl rfl (by decide) (ok_pick_f rfl (vl rfl) h24 (vl rfl)) ?_
                    refine Ch.op rfl rfl (by decide) (ok_pick_f rfl (vl rfl) rfl (vl rfl)) ?_
                    refine Ch.nil ?_
                    refine Fin.go ?_
                    refine Tr.weak [(6, _), (7, _), (9, _), (10, _), (12, _), (13, _), (119, _)] ⟨⟨_, rfl, Pr.le_refl _⟩, ⟨_, rfl, Pr.le_refl _⟩, ⟨_, rfl, Pr.le_refl _⟩, ⟨_, rfl, Pr.le_refl _⟩, ⟨_, rfl, Pr.le_refl _⟩, ⟨_, rfl, Pr.le_refl _⟩, ⟨_, rfl, Pr.le_refl _⟩, trivial⟩ ?_
                    refine Tr.cond rfl (fun h => nomatch h) (fun _ => ?_)
                    refine Tr.skip ?_
                    refine Fin.go ?_
                    refine Tr.seq ?_
                    refine Tr.seq ?_
                    refine Tr.reg0 ?_
                    refine Ch.op rfl rfl (by decide) (ok_move rfl (vl rfl)) ?_
                    refine Ch.op rfl rfl (by decide) (ok_move rfl (vl rfl)) ?_
                    refine Ch.cases 121 rfl (fun h32 => ?_) (fun h32 => ?_)
                    ·
                      have q32 := Nrm.nrm h32
                      refine Ch.yes rfl rfl rfl h32 rfl (by decide) (ok_move rfl (vl rfl)) ?_
                      refine Ch.yes rfl rfl rfl h32 rfl (by decide) (ok_move rfl (vl rfl)) ?_
                      refine Ch.yes rfl rfl rfl h32 rfl (by decide) (ok_int rfl (vl rfl) (vl rfl) rfl) ?_
                      refine Ch.op rfl rfl (by decide) (ok_pick_t rfl (vl rfl) h32 (vl rfl)) ?_
                      refine Ch.nil ?_
                      refine Fin.go ?_
                      refine Tr.cond rfl (fun h33 => ?_) (fun h33 => ?_)
                      ·
                        have q33 := Nrm.nrm h33
                        have hkx : k = (z1.next tm n fun _ => true).getD 0 := q33
                        refine Tr.seq ?_
                        refine Tr.reg0 ?_
                        refine Ch.op rfl rfl (by decide) (ok_move rfl (vl rfl)) ?_
                        refine Ch.op rfl rfl (by decide) (ok_move rfl (vl rfl)) ?_
                        refine Ch.cases 127 rfl (fun h34 => ?_) (fun h34 => ?_)
                        ·
                          have q34 := Nrm.nrm h34
                          refine Ch.yes rfl rfl rfl h34 rfl (by decide) (ok_call rfl (w_awake) trivial) ?_
                          refine Ch.op rfl rfl (by decide) (ok_pick_t rfl (vl rfl) h34 (vl rfl)) ?_
                          refine Ch.op rfl rfl (by decide) (ok_assign rfl (vl rfl)) ?_
                          refine Ch.nil ?_
                          refine Fin.go ?_
                          refine Tr.weak [(4, _)] ⟨⟨_, rfl, Pr.le_refl _⟩, trivial⟩ ?_
                          refine Tr.ret ?_
                          refine Fin.then_ret ?_
                          refine Fin.block_ret ?_
                          refine Fin.then_ret ?_
                          refine Fin.then_ret ?_
                          refine Fin.block_ret ?_
                          refine Fin.then_ret ?_
                          refine Fin.ret1 rfl (OutW.bse _ _) rfl ?_
                          · first | exact Pr.le_refl _ | (refine int_eq ?_; simp_all; done) | (refine bool_eq ?_; simp_all; done) | (refine bool_eq ?_; simp_all; omega) | (refine int_eq ?_; omega)
                        ·
                          have q34 := Nrm.nrm h34
                          exfalso; obtain ⟨a1, a2, a3, a4⟩ := next_yes hown hn2.1 hc.top (by assumption); rw [← hkx] at a2; rw [a2] at h34; cases h34
                      ·
                        have q33 := Nrm.nrm h33
                        refine Tr.skip ?_
                        refine Fin.go ?_
                        refine Tr.seq ?_
                        refine Tr.reg0 ?_
                        refine Ch.op rfl rfl (by decide) (ok_move rfl (vl rfl)) ?_
                        refine Ch.nil ?_
                        refine Fin.go ?_
                        refine Tr.weak [(6, _), (7, _), (9, _), (10, _), (12, _), (130, _)] ⟨⟨_, rfl, Pr.le_refl _⟩, ⟨_, rfl, Pr.le_refl _⟩, ⟨_, rfl, Pr.le_refl _⟩, ⟨_, rfl, Pr.le_refl _⟩, ⟨_, rfl, Pr.le_refl _⟩, ⟨_, rfl, Pr.le_refl _⟩, trivial⟩ ?_
                        refine Tr.cond rfl (fun h35 => ?_) (fun h35 => ?_)
                        ·
                          have q35 := Nrm.nrm h35
                          exfalso; obtain ⟨e1, e2⟩ := nx_hit hown hn2.1 hc.top hk0 hinv h35; simp_all
                        ·
                          have q35 := Nrm.nrm h35
                          refine Tr.skip ?_
                          refine Fin.block ?_
                          refine Fin.go ?_
                          refine Tr.reg0 ?_
                          refine Ch.op rfl rfl (by decide) (ok_move rfl (vl rfl)) ?_
                          first
                            | (refine Ch.op rfl rfl (by decide) (ok_add rfl (vl rfl) (vl rfl) ?hin) ?_; case hin => unfold InI; omega)
                            | refine Ch.op rfl rfl (by decide) (ok_int rfl (vl rfl) (vl rfl) rfl) ?_
                          refine Ch.op rfl rfl (by decide) (ok_assign rfl (vl rfl)) ?_
                          refine Ch.nil ?_
                          exact Fin.fam_same (k + 1) ⟨⟨by omega, by omega, inv_step hinv (by assumption)⟩, by omega⟩ ⟨⟨_, rfl, Pr.le_refl _⟩, ⟨_, rfl, Pr.le_refl _⟩, ⟨_, rfl, Pr.le_refl _⟩, ⟨_, rfl, Pr.le_refl _⟩, ⟨_, rfl, Pr.le_refl _⟩, trivial⟩
                    ·
                      have q32 := Nrm.nrm h32
                      refine Ch.no rfl rfl rfl (ne_true h32) rfl (by decide) ?_
                      refine Ch.no rfl rfl rfl (ne_true h32) rfl (by decide) ?_
                      refine Ch.no rfl rfl rfl (ne_true h32) rfl (by decide) ?_
                      refine Ch.op rfl rfl (by decide) (ok_pick_f rfl (vl rfl) h32 (vl rfl)) ?_
                      refine Ch.nil ?_
                      refine Fin.go ?_
                      refine Tr.cond rfl (fun h => nomatch h) (fun _ => ?_)
                      refine Tr.skip ?_
                      refine Fin.go ?_
                      refine Tr.seq ?_
                      refine Tr.reg0 ?_
                      refine Ch.op rfl rfl (by decide) (ok_move rfl (vl rfl)) ?_
                      refine Ch.nil ?_
                      refine Fin.go ?_
                      refine Tr.weak [(6, _), (7, _), (9, _), (10, _), (12, _), (130, _)] ⟨⟨_, rfl, Pr.le_refl _⟩, ⟨_, rfl, Pr.le_refl _⟩, ⟨_, rfl, Pr.le_refl _⟩, ⟨_, rfl, Pr.le_refl _⟩, ⟨_, rfl, Pr.le_refl _⟩, ⟨_, rfl, Pr.le_refl _⟩, trivial⟩ ?_
                      refine Tr.cond rfl (fun h36 => ?_) (fun h36 => ?_)
                      ·
                        have q36 := Nrm.nrm h36
                        exfalso; obtain ⟨e1, e2⟩ := nx_hit hown hn2.1 hc.top hk0 hinv h36; simp_all
                      ·
                        have q36 := Nrm.nrm h36
                        refine Tr.skip ?_
                        refine Fin.block ?_
                        refine Fin.go ?_
                        refine Tr.reg0 ?_
                        refine Ch.op rfl rfl (by decide) (ok_move rfl (vl rfl)) ?_
                        first
                          | (refine Ch.op rfl rfl (by decide) (ok_add rfl (vl rfl) (vl rfl) ?hin) ?_; case hin => unfold InI; omega)
                          | refine Ch.op rfl rfl (by decide) (ok_int rfl (vl rfl) (vl rfl) rfl) ?_
                        refine Ch.op rfl rfl (by decide) (ok_assign rfl (vl rfl)) ?_
                        refine Ch.nil ?_
                        exact Fin.fam_same (k + 1) ⟨⟨by omega, by omega, inv_step hinv (by assumption)⟩, by omega⟩ ⟨⟨_, rfl, Pr.le_refl _⟩, ⟨_, rfl, Pr.le_refl _⟩, ⟨_, rfl, Pr.le_refl _⟩, ⟨_, rfl, Pr.le_refl _⟩, ⟨_, rfl, Pr.le_refl _⟩, trivial⟩
      ·
        have q3 := Nrm.nrm h3
        have hk2 : ¬ k < 260 := of_decide_eq_false h3
        refine Tr.exit ?_
        refine Fin.then_exit ?_
        refine Fin.then_exit ?_
        refine Fin.block_here ?_
        refine Fin.go ?_
        refine Tr.seq ?_
        refine Tr.reg0 ?_
        refine Ch.op rfl rfl (by decide) (ok_move rfl (vl rfl)) ?_
        refine Ch.op rfl rfl (by decide) (ok_not rfl (vl rfl)) ?_
        refine Ch.op rfl rfl (by decide) (ok_move rfl (vl rfl)) ?_
        refine Ch.cases 133 rfl (fun h37 => ?_) (fun h37 => ?_)
        ·
          have q37 := Nrm.nrm h37
          refine Ch.yes rfl rfl rfl h37 rfl (by decide) (ok_call rfl (w_awake) trivial) ?_
          refine Ch.op rfl rfl (by decide) (ok_pick_t rfl (vl rfl) h37 (vl rfl)) ?_
          refine Ch.op rfl rfl (by decide) (ok_assign rfl (vl rfl)) ?_
          refine Ch.nil ?_
          refine Fin.go ?_
          refine Tr.ret ?_
          refine Fin.ret1 rfl (OutW.bse _ _) rfl ?_
          · first | exact Pr.le_refl _ | (refine int_eq ?_; simp_all; done) | (refine bool_eq ?_; simp_all; done) | (refine bool_eq ?_; simp_all; omega) | (refine int_eq ?_; omega)
        ·
          have q37 := Nrm.nrm h37
          exact absurd h37 (by rw [nx_end hown hn2.1 hc.top (fun j h1 h2 => hinv j h1 (by omega))]; decide)
theorem e_WindowNext : Entry Try.prog 6 := ⟨_, Try.func6, rfl, rfl⟩
end Go.Proofs.Ytacifhfelijekaa
