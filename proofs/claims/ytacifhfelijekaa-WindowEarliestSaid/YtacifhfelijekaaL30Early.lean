/-
  What the functions named below compute, proved from their text; printed by a program of our own.
-/
import Derived.Test.YtacifhfelijekaaTypes
import Derived.Test.YtacifhfelijekaaSlices
import Derived.Test.YtacifhfelijekaaWin1
import Derived.Test.YtacifhfelijekaaWin2
import Derived.Test.YtacifhfelijekaaWin3
import Derived.Test.YtacifhfelijekaaWin4
import Derived.Test.YtacifhfelijekaaWin5
import Derived.Test.YtacifhfelijekaaDice
import Derived.Test.YtacifhfelijekaaMove
import Derived.Test.YtacifhfelijekaaL30Full
import Derived.Test.YtacifhfelijekaaL30Next
import Derived.Test.YtacifhfelijekaaRef30
import Derived.Test.YtacifhfelijekaaRef30b
import Derived.Test.YtacifhfelijekaaRef30c
import Derived.Test.YtacifhfelijekaaRef30d
import Derived.Test.YtacifhfelijekaaRef30e
import Derived.Test.YtacifhfelijekaaFill
namespace Go.Proofs.Ytacifhfelijekaa
open Go Go.RowKit Cp

/-! ### The earliest day is the first one on which one more change fits -/
theorem nextR_first {t d x : Int} {room : Nat → Bool} : ∀ {l : List Win} {i : Nat}, nextFrom t d room i l = some x → Apart l → (∀ w ∈ l, 0 ≤ w.lo ∧ w.lo < w.hi) →
    d ≤ x ∧ (∃ (j : Nat) (w : Win), l[j]? = some w ∧ inWin x w = true ∧ w.teams.any (fun y => t == y) = true ∧ room (i + j) = true) ∧ ∀ k, d ≤ k → k < x → ∀ (j : Nat) (w : Win), l[j]? = some w → inWin k w = true → ¬ (w.teams.any (fun y => t == y) = true ∧ room (i + j) = true)
  | [], _, h, _, _ => by cases h
  | a :: l, i, h, hp, hw => by
    have ha := hw a (by simp)
    unfold nextFrom at h
    split at h
    · rename_i hc
      simp only [Option.some.injEq] at h
      subst h
      refine ⟨by omega, ⟨0, a, rfl, in_mk (by omega), hc.2.1, hc.2.2⟩, fun k hk hx j w hj hin => ?_⟩
      have := in_lo hin
      match j with
      | 0 => simp at hj; subst hj; omega
      | j + 1 =>
        have h1 := (List.pairwise_cons.1 hp).1 w (List.mem_of_getElem? (by simpa using hj))
        omega
    · rename_i hc
      obtain ⟨h1, ⟨j, w, hj, h2, h3, h5⟩, h4⟩ := nextR_first h (List.pairwise_cons.1 hp).2 (fun w hm => hw w (List.mem_cons_of_mem _ hm))
      refine ⟨h1, ⟨j + 1, w, by simpa using hj, h2, h3, by rw [show i + (j + 1) = i + 1 + j by omega]; exact h5⟩, fun k hk hx j u hu hin => ?_⟩
      match j with
      | 0 =>
        simp at hu; subst hu
        have := in_lo hin
        exact fun h => hc ⟨by omega, h.1, h.2⟩
      | j + 1 =>
        have := h4 k hk hx j u (by simpa using hu) hin
        rwa [show i + (j + 1) = i + 1 + j by omega]
theorem nextR_none {t d : Int} {room : Nat → Bool} : ∀ {l : List Win} {i : Nat}, nextFrom t d room i l = none → ∀ k, d ≤ k → ∀ (j : Nat) (w : Win), l[j]? = some w → inWin k w = true → ¬ (w.teams.any (fun y => t == y) = true ∧ room (i + j) = true)
  | [], _, _, _, _, j, w, hm, _ => by simp at hm
  | a :: l, i, h, k, hk, j, w, hm, hin => by
    unfold nextFrom at h
    split at h
    · cases h
    · rename_i hc
      match j with
      | 0 =>
        simp at hm; subst hm
        have := in_lo hin
        exact fun h => hc ⟨by omega, h.1, h.2⟩
      | j + 1 =>
        have := nextR_none h k hk j w (by simpa using hm) hin
        rwa [show i + (j + 1) = i + 1 + j by omega]
/-- One more change of a team fits on a day. -/
def Cal.opn (c : Cal) (l : List (Int × Int)) (t k : Int) : Bool := c.may t k && decide ((c.cnt l ((c.at k).toNat * 8 + t.toNat) : Int) < c.roomOf t)
theorem opn_iff {c : Cal} {l : List (Int × Int)} {t k : Int} (h : c.own = 0) : c.opn l t k = true ↔ ∃ (j : Nat) (w : Win), c.wins[j]? = some w ∧ inWin k w = true ∧ w.teams.any (fun y => t == y) = true ∧ c.free l t j = true := by
  unfold Cal.opn
  rw [Bool.and_eq_true, may_iff h, decide_eq_true_eq]
  constructor
  · rintro ⟨⟨w, hw, h1, h2⟩, h3⟩
    obtain ⟨j, hj⟩ := List.mem_iff_getElem?.1 hw
    refine ⟨j, w, hj, h1, h2, ?_⟩
    rw [cal_pw h hj h1, Int.toNat_natCast] at h3
    simpa [Cal.free] using h3
  · rintro ⟨j, w, hj, h1, h2, h3⟩
    refine ⟨⟨w, List.mem_of_getElem? hj, h1, h2⟩, ?_⟩
    rw [cal_pw h hj h1, Int.toNat_natCast]
    simpa [Cal.free] using h3
theorem opn_fits {c : Cal} {a b : List Int} {t k : Int} (hf : c.fitsE a b [] = 0) (h24 : a.length < 24) (ht : c.has t = true) : decide (c.fitsE (a ++ [t]) (b ++ [k]) [] = 0) = c.opn (a.zip b) t k := by
  have hf0 := fitsE_fitE hf
  have ho := fitE_own hf0
  obtain ⟨hl, _⟩ := fitE_len hf0
  have ht8 := has_lt ho ht
  rw [Bool.eq_iff_iff, decide_eq_true_eq, Cal.opn, Bool.and_eq_true, decide_eq_true_eq]
  constructor
  · intro h
    have h0 := fitsE_fitE h
    have hm := fitE_may h0
    rw [zip_snoc hl, List.all_append, Bool.and_eq_true] at hm
    have hm1 : c.may t k = true := by simpa using hm.2
    refine ⟨hm1, ?_⟩
    unfold Cal.fitsE at h
    rw [if_neg (not_not_intro h0)] at h
    have hno : ¬ c.over ((a ++ [t]).zip (b ++ [k])) := by intro hh; rw [if_pos hh] at h; cases h
    have hat := may_at hm1
    have hai : (c.at k).toNat < c.wins.length := by have := (idx_range (inWin k) c.wins).2; unfold Cal.at at *; omega
    have hr := (has_room ht).2
    rcases Int.lt_or_le (c.cnt (a.zip b) ((c.at k).toNat * 8 + t.toNat)) (c.roomOf t) with h5 | h5
    · exact h5
    · refine absurd ⟨(c.at k).toNat, t.toNat, c.roomOf t, hai, hr, ?_⟩ hno
      rw [zip_snoc hl, cnt_snoc, if_pos (by omega)]
      omega
  · rintro ⟨h1, h2⟩
    exact fits_snoc hf h24 ht h1 h2
theorem early_first {c : Cal} {a b : List Int} {t n : Int} (hf : c.fitsE a b [] = 0) (ht : c.has t = true) (hn : 0 ≤ n) (htop : ∀ w ∈ c.wins, w.hi < 200) (hs : (c.early a b t n).isSome = true) :
    n ≤ (c.early a b t n).getD 0 ∧ c.opn (a.zip b) t ((c.early a b t n).getD 0) = true ∧ (c.early a b t n).getD 0 < 200 ∧ ∀ k, n ≤ k → k < (c.early a b t n).getD 0 → c.opn (a.zip b) t k = false := by
  have h := fitE_own (fitsE_fitE hf)
  obtain ⟨x, hx⟩ := Option.isSome_iff_exists.1 hs
  rw [hx]
  show n ≤ x ∧ c.opn (a.zip b) t x = true ∧ x < 200 ∧ ∀ k, n ≤ k → k < x → c.opn (a.zip b) t k = false
  rw [early_ok (by rw [fitsE_with ht]; exact hf)] at hx
  unfold Cal.next at hx
  rw [show max n 0 = n by omega] at hx
  obtain ⟨h1, h2⟩ := own_wins h
  obtain ⟨h3, ⟨j, w, hj, h4, h5, h7⟩, h6⟩ := nextR_first hx (ord_apart h1 h2) h2
  rw [Nat.zero_add] at h7
  refine ⟨h3, (opn_iff h).2 ⟨j, w, hj, h4, h5, h7⟩, by have := in_lo h4; have := htop w (List.mem_of_getElem? hj); omega, fun k hk hkx => ?_⟩
  rw [Bool.eq_false_iff]
  intro hc
  obtain ⟨j, u, hu, h7, h8, h9⟩ := (opn_iff h).1 hc
  exact h6 k hk hkx j u hu h7 ⟨h8, by rw [Nat.zero_add]; exact h9⟩
theorem early_nope {c : Cal} {a b : List Int} {t n : Int} (hf : c.fitsE a b [] = 0) (ht : c.has t = true) (hn : 0 ≤ n) (hs : (c.early a b t n).isSome = false) : ∀ k, n ≤ k → c.opn (a.zip b) t k = false := by
  intro k hk
  have h := fitE_own (fitsE_fitE hf)
  have hx : c.early a b t n = none := by simpa using hs
  rw [early_ok (by rw [fitsE_with ht]; exact hf)] at hx
  unfold Cal.next at hx
  rw [show max n 0 = n by omega] at hx
  rw [Bool.eq_false_iff]
  intro hc
  obtain ⟨j, u, hu, h7, h8, h9⟩ := (opn_iff h).1 hc
  exact nextR_none hx k hk j u hu h7 ⟨h8, by rw [Nat.zero_add]; exact h9⟩
theorem er_hit {c : Cal} {a b : List Int} {t n k : Int} (hf : c.fitsE a b [] = 0) (ht : c.has t = true) (hn : 0 ≤ n) (htop : ∀ w ∈ c.wins, w.hi < 200) (hk : n ≤ k) (hinv : ∀ j, n ≤ j → j < k → c.opn (a.zip b) t j = false) (hm : c.opn (a.zip b) t k = true) : (c.early a b t n).isSome = true ∧ k = (c.early a b t n).getD 0 := by
  cases hs : (c.early a b t n).isSome with
  | false => rw [early_nope hf ht hn hs k hk] at hm; cases hm
  | true =>
    obtain ⟨h1, h2, h3, h4⟩ := early_first hf ht hn htop hs
    refine ⟨rfl, ?_⟩
    rcases Int.lt_trichotomy k ((c.early a b t n).getD 0) with hl | he | hg
    · rw [h4 k hk hl] at hm; cases hm
    · exact he
    · rw [hinv _ h1 hg] at h2; cases h2
theorem er_end {c : Cal} {a b : List Int} {t n : Int} (hf : c.fitsE a b [] = 0) (ht : c.has t = true) (hn : 0 ≤ n) (htop : ∀ w ∈ c.wins, w.hi < 200) (hinv : ∀ j, n ≤ j → j < 260 → c.opn (a.zip b) t j = false) : (c.early a b t n).isSome = false := by
  cases hs : (c.early a b t n).isSome with
  | false => rfl
  | true =>
    obtain ⟨h1, h2, h3, h4⟩ := early_first hf ht hn htop hs
    rw [hinv _ h1 (by omega)] at h2; cases h2

theorem w_WindowEarliest {t : List Int} {f : Int} (hf : 0 ≤ f ∧ f < 256) : Fun Try.prog 4 [ints t, is (.int .u8 f)] (bool true) := by
  refine Fun.of Try.func4 rfl rfl (by exact Nat.le_of_ble_eq_true rfl) fun M0 w0 => ?_
  have hft : 0 ≤ f.tmod 60 ∧ f.tmod 60 < 60 := by rw [Int.tmod_eq_emod_of_nonneg hf.1]; omega
  refine Tr.seq ?_
  refine Tr.reg0 ?_
  refine Ch.op rfl rfl (by decide) (ok_assign rfl (vl rfl)) ?_
  refine Ch.nil ?_
  refine Fin.go ?_
  refine Tr.seq ?_
  refine Tr.seq ?_
  refine Tr.reg0 ?_
  refine Ch.op rfl rfl (by decide) (ok_move rfl (vl rfl)) ?_
  refine Ch.op rfl rfl (by decide) (ok_call rfl (w_Light) ⟨⟨_, rfl, Pr.le_refl _⟩, trivial⟩) ?_
  refine Ch.op rfl rfl (by decide) (ok_not rfl (vl rfl)) ?_
  refine Ch.nil ?_
  refine Fin.go ?_
  refine Tr.cond rfl (fun h1 => ?_) (fun h1 => ?_)
  ·
    have q1 := Nrm.nrm h1
    refine Tr.seq ?_
    refine Tr.reg0 ?_
    refine Ch.op rfl rfl (by decide) (ok_call rfl (w_awake) trivial) ?_
    refine Ch.op rfl rfl (by decide) (ok_assign rfl (vl rfl)) ?_
    refine Ch.nil ?_
    refine Fin.go ?_
    refine Tr.ret ?_
    refine Fin.then_ret ?_
    refine Fin.ret1 rfl (OutW.bse _ _) rfl ?_
    · first | exact Pr.le_refl _ | (refine int_eq ?_; simp_all; done) | (refine bool_eq ?_; simp_all; done) | (refine bool_eq ?_; simp_all; omega) | (refine int_eq ?_; omega)
  ·
    have q1 := Nrm.nrm h1
    have ht4 : t.length ≤ 400 := by simpa using h1
    have ht9 : t.length ≤ 1000000000 := by omega
    refine Tr.skip ?_
    refine Fin.go ?_
    refine Tr.seq ?_
    refine Tr.regT ?_
    refine TO.op rfl rfl (by decide) (ok_move rfl (vl rfl)) ?_
    refine TO.pad ?_
    refine TO.efs 0 rfl rfl (by decide) (ef_call rfl rfl (by decide) rfl (w_Roll (l := t) ht9) ⟨⟨_, rfl, Pr.le_refl _⟩, trivial⟩) (fun v1 => ?_)
    refine TO.opn 21 0 _ rfl rfl (fun _ => rfl) (fun b1 => ?_)
    refine TO.op rfl rfl (by decide) (ok_assign rfl (vl rfl)) ?_
    refine TO.nil ?_
    refine Fin.go ?_
    refine Tr.seq ?_
    refine Tr.regT ?_
    refine TO.op rfl rfl (by decide) (ok_move rfl (vl rfl)) ?_
    refine TO.efc 0 rfl rfl (by decide) (ef_callc rfl rfl (by decide) rfl (w_fill) ⟨⟨_, rfl, Pr.le_refl _⟩, trivial⟩) ?_
    refine TO.ex 24 rfl (fun z1 => TO.fact 24 rfl fun hz1 => ?_)
    refine TO.op rfl rfl (by decide) (ok_move rfl (vl rfl)) ?_
    refine TO.op rfl rfl (by decide) (ok_extract rfl (vl rfl) rfl) ?_
    refine TO.op rfl rfl (by decide) (ok_extract rfl (vl rfl) rfl) ?_
    refine TO.op rfl rfl (by decide) (ok_extract rfl (vl rfl) rfl) ?_
    refine TO.alloc rfl rfl (by decide) rfl z27 zo27 (fun b2 => ?_)
    refine TO.store_all 0 rfl rfl rfl (vl rfl) (VL.le (vl rfl) (agg_cellsP _)) rfl sz27 rfl rfl ?_
    refine TO.freeze 0 6 rfl rfl ?_
    refine TO.op rfl rfl (by decide) (ok_assign rfl (vl rfl)) ?_
    refine TO.op rfl rfl (by decide) (ok_assign rfl (vl rfl)) ?_
    refine TO.nil ?_
    refine Fin.openD 0 rfl (fun s1 => ?_)
    refine Fin.go ?_
    refine Tr.weak [(1, _), (5, _), (6, _), (7, _), (8, _)] ⟨⟨_, rfl, Pr.le_refl _⟩, ⟨_, rfl, Pr.le_refl _⟩, ⟨_, rfl, Pr.le_refl _⟩, ⟨_, rfl, Pr.le_refl _⟩, ⟨_, rfl, Pr.le_refl _⟩, trivial⟩ ?_
    refine Tr.seq ?_
    have hc := hz1
    have h6 := hc.six
    have hlen := hc.len
    refine Tr.regT ?_
    refine TO.op rfl rfl (by decide) (ok_move rfl (vl rfl)) ?_
    refine TO.efc 0 rfl rfl (by decide) (ef_callc rfl rfl (by decide) rfl (w_DNext (by omega) (by omega)) ⟨⟨_, rfl, Pr.le_refl _⟩, ⟨_, rfl, Pr.le_refl _⟩, trivial⟩) ?_
    refine TO.op rfl rfl (by decide) (ok_move rfl (vl rfl)) ?_
    refine TO.op rfl rfl (by decide) (ok_rem rfl (vl rfl) (vl rfl) (by omega)) ?_
    first
      | refine TO.op rfl rfl (by decide) (ok_convI rfl Try.underlying5 Try.underlying3 (vl rfl) (by unfold InI; omega)) ?_
      | refine TO.op rfl rfl (by decide) (ok_conv rfl Try.underlying5 Try.underlying3 (vl rfl)) ?_
    refine TO.op rfl rfl (by decide) (ok_assign rfl (vl rfl)) ?_
    refine TO.op rfl rfl (by decide) (ok_assign rfl (vl rfl)) ?_
    refine TO.nil ?_
    refine Fin.go ?_
    refine Tr.seq ?_
    obtain ⟨tm, htm⟩ : ∃ tm, s1.val 2 = tm := ⟨_, rfl⟩
    have htm2 : 0 ≤ tm ∧ tm < 2 := by have := s1.val_in (n := 2) (by omega); omega
    obtain ⟨n, hn⟩ : ∃ n, f.tmod 60 = n := ⟨_, rfl⟩
    have hn2 : 0 ≤ n ∧ n < 60 := by rw [Int.tmod_eq_emod_of_nonneg hf.1] at hn; omega
    have hown := hc.cal.own
    have hhas := good_has hc.cal htm2
    have hfn : z1.1.fitsE z1.2.1 z1.2.2 [tm] = 0 := by rw [fitsE_with hhas]; exact hc.fits
    refine Tr.re 9 rfl (int_eq htm) ?_
    refine Tr.re 10 rfl (int_eq hn) ?_
    refine Tr.reg0 ?_
    refine Ch.op rfl rfl (by decide) (ok_loadA rfl agg27 sz27 (vl rfl) rfl rfl) ?_
    refine Ch.op rfl rfl (by decide) (ok_move rfl (vl rfl)) ?_
    refine Ch.op rfl rfl (by decide) (ok_move rfl (vl rfl)) ?_
    refine Ch.op rfl rfl (by decide) (ok_move rfl (vl rfl)) ?_
    refine Ch.op rfl rfl (by decide) (ok_move rfl (vl rfl)) ?_
    refine Ch.op rfl rfl (by decide) (ok_call rfl (w_Earliest (c := z1.1) (teams := z1.2.1) (days := z1.2.2) (n := tm) (from_ := n) (by have := hz1.six; omega)) ⟨⟨_, rfl, Pr.le_refl _⟩, ⟨_, rfl, Pr.le_refl _⟩, ⟨_, rfl, Pr.le_refl _⟩, ⟨_, rfl, Pr.le_refl _⟩, ⟨_, rfl, Pr.le_refl _⟩, trivial⟩) ?_
    refine Ch.op rfl rfl (by decide) (ok_move rfl (vl rfl)) ?_
    refine Ch.op rfl rfl (by decide) (ok_extract rfl (vl rfl) rfl) ?_
    refine Ch.op rfl rfl (by decide) (ok_extract rfl (vl rfl) rfl) ?_
    refine Ch.op rfl rfl (by decide) (ok_extract rfl (vl rfl) rfl) ?_
    refine Ch.op rfl rfl (by decide) (ok_assign rfl (vl rfl)) ?_
    refine Ch.op rfl rfl (by decide) (ok_assign rfl (vl rfl)) ?_
    refine Ch.op rfl rfl (by decide) (ok_assign rfl (vl rfl)) ?_
    refine Ch.nil ?_
    refine Fin.go ?_
    refine Tr.weak [(6, _), (7, _), (8, _), (9, _), (10, _), (11, _), (12, _), (13, _)] ⟨⟨_, rfl, Pr.le_refl _⟩, ⟨_, rfl, Pr.le_refl _⟩, ⟨_, rfl, Pr.le_refl _⟩, ⟨_, rfl, Pr.le_refl _⟩, ⟨_, rfl, Pr.le_refl _⟩, ⟨_, rfl, Pr.le_refl _⟩, ⟨_, rfl, Pr.le_refl _⟩, ⟨_, rfl, Pr.le_refl _⟩, trivial⟩ ?_
    refine Tr.seq ?_
    refine Tr.seq ?_
    refine Tr.re 13 rfl (int_eq hfn) ?_
    refine Tr.reg0 ?_
    refine Ch.op rfl rfl (by decide) (ok_move rfl (vl rfl)) ?_
    refine Ch.op rfl rfl (by decide) (ok_int rfl (vl rfl) (vl rfl) rfl) ?_
    refine Ch.nil ?_
    refine Fin.go ?_
    refine Tr.cond rfl (fun h2 => ?_) (fun h2 => ?_)
    ·
      have q2 := Nrm.nrm h2
      exact absurd rfl q2
    ·
      have q2 := Nrm.nrm h2
      refine Tr.skip ?_
      refine Fin.go ?_
      refine Tr.seq ?_
      refine Tr.seq ?_
      refine Tr.reg0 ?_
      refine Ch.op rfl rfl (by decide) (ok_move rfl (vl rfl)) ?_
      refine Ch.op rfl rfl (by decide) (ok_assign rfl (vl rfl)) ?_
      refine Ch.nil ?_
      refine Fin.go ?_
      refine Tr.block ?_
      refine Tr.loopw [(6, _), (7, _), (8, _), (9, _), (11, _), (12, _)] ⟨⟨_, rfl, Pr.le_refl _⟩, ⟨_, rfl, Pr.le_refl _⟩, ⟨_, rfl, Pr.le_refl _⟩, ⟨_, rfl, Pr.le_refl _⟩, ⟨_, rfl, Pr.le_refl _⟩, ⟨_, rfl, Pr.le_refl _⟩, trivial⟩ (fun k : Int => [(14, int k)]) (fun k : Int => n ≤ k ∧ k ≤ 260 ∧ ∀ j, n ≤ j → j < k → z1.1.opn (z1.2.1.zip z1.2.2) tm j = false) (fun k : Int => (260 - k).toNat) n (⟨by omega, by omega, fun j h1 h2 => absurd h2 (by omega)⟩) ⟨⟨_, rfl, Pr.le_refl _⟩, trivial⟩ ?_
      rintro k ⟨hk0, hk1, hinv⟩
      refine Tr.seq ?_
      refine Tr.seq ?_
      refine Tr.reg0 ?_
      refine Ch.op rfl rfl (by decide) (ok_move rfl (vl rfl)) ?_
      refine Ch.op rfl rfl (by decide) (ok_int rfl (vl rfl) (vl rfl) rfl) ?_
      refine Ch.nil ?_
      refine Fin.go ?_
      refine Tr.cond rfl (fun h3 => ?_) (fun h3 => ?_)
      ·
        have q3 := Nrm.nrm h3
        have hk2 : k < 260 := of_decide_eq_true h3
        refine Tr.skip ?_
        refine Fin.go ?_
        refine Tr.seq ?_
        refine Tr.block ?_
        refine Tr.seq ?_
        refine Tr.pad ?_
        refine Tr.pad ?_
        refine Tr.regX mixed [none, none, some (0, 0, true, 52), none, none, some (52, 0, true, 55), none, some (0, 1, true, 57), none, none, some (57, 1, true, 60), none, none, none] (by kernel_rfl) ?_
        refine Cx.op rfl rfl (by decide) (fun _ => ok_loadA rfl agg27 sz27 (vl rfl) rfl rfl) ?_
        refine Cx.op rfl rfl (by decide) (fun _ => ok_move rfl (vl rfl)) ?_
        refine Cx.ef 0 rfl rfl (by decide) (ef_append rfl rfl (by decide) rfl Try.underlying22 sz3 by3 z3 rfl (by decide) ⟨_, rfl, nil_slice _⟩ (vl rfl) (by simp; unfold maxLen; omega) (by simp; omega) (appR_full (by exact List.Mem.head _) ⟨_, rfl, nil_full 1⟩)) ?_
        refine Cx.op rfl rfl (by decide) (fun _ => ok_move rfl (vl rfl)) ?_
        refine Cx.op rfl rfl (by decide) (fun _ => ok_buildSlice (xs := [.tmp 53]) (rows := [[_]]) rfl rfl Try.underlying22 sz3 z3 rfl (by decide) ⟨⟨(by exact rfl), (VL.le (vl rfl) (one_cellsP _))⟩, trivial⟩ (by decide)) ?_
        refine Cx.ef 0 rfl rfl (by decide) (ef_append rfl rfl (by decide) rfl Try.underlying22 sz3 by3 z3 rfl (by decide) (vl rfl) ⟨_, rfl, full_le _ _⟩ (by simp; unfold maxLen; omega) (by simp; omega) appR_slot) ?_
        refine Cx.op rfl rfl (by decide) (fun _ => ok_move rfl (vl rfl)) ?_
        refine Cx.ef 1 rfl rfl (by decide) (ef_append rfl rfl (by decide) rfl Try.underlying22 sz3 by3 z3 rfl (by decide) ⟨_, rfl, nil_slice _⟩ (vl rfl) (by simp; unfold maxLen; omega) (by simp; omega) (appR_full (by exact List.Mem.head _) ⟨_, rfl, nil_full 1⟩)) ?_
        refine Cx.op rfl rfl (by decide) (fun _ => ok_move rfl (vl rfl)) ?_
        refine Cx.op rfl rfl (by decide) (fun _ => ok_buildSlice (xs := [.tmp 58]) (rows := [[_]]) rfl rfl Try.underlying22 sz3 z3 rfl (by decide) ⟨⟨(by exact rfl), (VL.le (vl rfl) (one_cellsP _))⟩, trivial⟩ (by decide)) ?_
        refine Cx.ef 1 rfl rfl (by decide) (ef_append rfl rfl (by decide) rfl Try.underlying22 sz3 by3 z3 rfl (by decide) (vl rfl) ⟨_, rfl, full_le _ _⟩ (by simp; unfold maxLen; omega) (by simp; omega) appR_slot) ?_
        refine Cx.op rfl rfl (by decide) (fun _ => ok_call rfl (w_Fits (c := z1.1) (teams := z1.2.1 ++ [tm]) (days := z1.2.2 ++ [k]) (by simp; omega)) ⟨⟨_, rfl, Pr.le_refl _⟩, ⟨_, rfl, ints_snoc _ _⟩, ⟨_, rfl, ints_snoc _ _⟩, trivial⟩) ?_
        refine Cx.op rfl rfl (by decide) (fun _ => ok_int rfl (vl rfl) (vl rfl) rfl) ?_
        refine Cx.op rfl rfl (by decide) (fun _ => ok_assign rfl (vl rfl)) ?_
        refine Cx.nil ⟨rfl, ?_⟩
        refine FinX.open_ 0 55 rfl rfl (fun v2 => ?_)
        refine FinX.open_ 1 60 rfl rfl (fun v3 => ?_)
        refine FinX.done (AllC.cons (AllC.cons (AllC.cons (AllC.map _)))) ?_
        refine Fin.go ?_
        refine Tr.drop 0 ?_
        refine Tr.drop 0 ?_
        refine Tr.weak [(6, _), (7, _), (8, _), (9, _), (11, _), (12, _), (14, _), (15, _)] ⟨⟨_, rfl, Pr.le_refl _⟩, ⟨_, rfl, Pr.le_refl _⟩, ⟨_, rfl, Pr.le_refl _⟩, ⟨_, rfl, Pr.le_refl _⟩, ⟨_, rfl, Pr.le_refl _⟩, ⟨_, rfl, Pr.le_refl _⟩, ⟨_, rfl, Pr.le_refl _⟩, ⟨_, rfl, Pr.le_refl _⟩, trivial⟩ ?_
        refine Tr.seq ?_
        refine Tr.seq ?_
        refine Tr.re 15 rfl (bool_eq (b := z1.1.opn (z1.2.1.zip z1.2.2) tm k) (opn_fits hc.fits (by omega) hhas)) ?_
        refine Tr.reg0 ?_
        refine Ch.op rfl rfl (by decide) (ok_move rfl (vl rfl)) ?_
        refine Ch.op rfl rfl (by decide) (ok_move rfl (vl rfl)) ?_
        refine Ch.cases 64 rfl (fun h4 => ?_) (fun h4 => ?_)
        ·
          have q4 := Nrm.nrm h4
          refine Ch.yes rfl rfl rfl h4 rfl (by decide) (ok_move rfl (vl rfl)) ?_
          refine Ch.yes rfl rfl rfl h4 rfl (by decide) (ok_move rfl (vl rfl)) ?_
          refine Ch.yes rfl rfl rfl h4 rfl (by decide) (ok_int rfl (vl rfl) (vl rfl) rfl) ?_
          refine Ch.op rfl rfl (by decide) (ok_pick_t rfl (vl rfl) h4 (vl rfl)) ?_
          refine Ch.nil ?_
          refine Fin.go ?_
          refine Tr.weak [(6, _), (7, _), (8, _), (9, _), (11, _), (12, _), (14, _), (15, _), (68, _)] ⟨⟨_, rfl, Pr.le_refl _⟩, ⟨_, rfl, Pr.le_refl _⟩, ⟨_, rfl, Pr.le_refl _⟩, ⟨_, rfl, Pr.le_refl _⟩, ⟨_, rfl, Pr.le_refl _⟩, ⟨_, rfl, Pr.le_refl _⟩, ⟨_, rfl, Pr.le_refl _⟩, ⟨_, rfl, Pr.le_refl _⟩, ⟨_, rfl, Pr.le_refl _⟩, trivial⟩ ?_
          refine Tr.cond rfl (fun h5 => ?_) (fun h5 => ?_)
          ·
            have q5 := Nrm.nrm h5
            have hkx : k = (z1.1.early z1.2.1 z1.2.2 tm n).getD 0 := q5
            refine Tr.seq ?_
            refine Tr.reg0 ?_
            refine Ch.op rfl rfl (by decide) (ok_move rfl (vl rfl)) ?_
            refine Ch.op rfl rfl (by decide) (ok_move rfl (vl rfl)) ?_
            refine Ch.cases 70 rfl (fun h6 => ?_) (fun h6 => ?_)
            ·
              have q6 := Nrm.nrm h6
              refine Ch.yes rfl rfl rfl h6 rfl (by decide) (ok_call rfl (w_awake) trivial) ?_
              refine Ch.op rfl rfl (by decide) (ok_pick_t rfl (vl rfl) h6 (vl rfl)) ?_
              refine Ch.op rfl rfl (by decide) (ok_assign rfl (vl rfl)) ?_
              refine Ch.nil ?_
              refine Fin.go ?_
              refine Tr.weak [(4, _)] ⟨⟨_, rfl, Pr.le_refl _⟩, trivial⟩ ?_
              refine Tr.ret ?_
              refine Fin.then_ret ?_
              refine Fin.block_ret ?_
              refine Fin.then_ret ?_
              refine Fin.then_ret ?_
              refine Fin.block_ret ?_
              refine Fin.then_ret ?_
              refine Fin.ret1 rfl (OutW.bse _ _) rfl ?_
              · first | exact Pr.le_refl _ | (refine int_eq ?_; simp_all; done) | (refine bool_eq ?_; simp_all; done) | (refine bool_eq ?_; simp_all; omega) | (refine int_eq ?_; omega)
            ·
              have q6 := Nrm.nrm h6
              exfalso; obtain ⟨a1, a2, a3, a4⟩ := early_first hc.fits hhas hn2.1 hc.cal.top (by assumption); rw [← hkx] at a2; rw [a2] at h6; cases h6
          ·
            have q5 := Nrm.nrm h5
            refine Tr.skip ?_
            refine Fin.go ?_
            refine Tr.seq ?_
            refine Tr.reg0 ?_
            refine Ch.op rfl rfl (by decide) (ok_move rfl (vl rfl)) ?_
            refine Ch.nil ?_
            refine Fin.go ?_
            refine Tr.cond rfl (fun h7 => ?_) (fun h7 => ?_)
            ·
              have q7 := Nrm.nrm h7
              exfalso; obtain ⟨e1, e2⟩ := er_hit hc.fits hhas hn2.1 hc.cal.top hk0 hinv h7; simp_all
            ·
              have q7 := Nrm.nrm h7
              refine Tr.skip ?_
              refine Fin.block ?_
              refine Fin.go ?_
              refine Tr.reg0 ?_
              refine Ch.op rfl rfl (by decide) (ok_move rfl (vl rfl)) ?_
              first
                | (refine Ch.op rfl rfl (by decide) (ok_add rfl (vl rfl) (vl rfl) ?hin) ?_; case hin => unfold InI; omega)
                | refine Ch.op rfl rfl (by decide) (ok_int rfl (vl rfl) (vl rfl) rfl) ?_
              refine Ch.op rfl rfl (by decide) (ok_assign rfl (vl rfl)) ?_
              refine Ch.nil ?_
              exact Fin.fam_same (k + 1) ⟨⟨by omega, by omega, inv_step hinv (by assumption)⟩, by omega⟩ ⟨⟨_, rfl, Pr.le_refl _⟩, ⟨_, rfl, Pr.le_refl _⟩, ⟨_, rfl, Pr.le_refl _⟩, ⟨_, rfl, Pr.le_refl _⟩, ⟨_, rfl, Pr.le_refl _⟩, ⟨_, rfl, Pr.le_refl _⟩, ⟨_, rfl, Pr.le_refl _⟩, trivial⟩
        ·
          have q4 := Nrm.nrm h4
          refine Ch.no rfl rfl rfl (ne_true h4) rfl (by decide) ?_
          refine Ch.no rfl rfl rfl (ne_true h4) rfl (by decide) ?_
          refine Ch.no rfl rfl rfl (ne_true h4) rfl (by decide) ?_
          refine Ch.op rfl rfl (by decide) (ok_pick_f rfl (vl rfl) h4 (vl rfl)) ?_
          refine Ch.nil ?_
          refine Fin.go ?_
          refine Tr.weak [(6, _), (7, _), (8, _), (9, _), (11, _), (12, _), (14, _), (15, _), (68, _)] ⟨⟨_, rfl, Pr.le_refl _⟩, ⟨_, rfl, Pr.le_refl _⟩, ⟨_, rfl, Pr.le_refl _⟩, ⟨_, rfl, Pr.le_refl _⟩, ⟨_, rfl, Pr.le_refl _⟩, ⟨_, rfl, Pr.le_refl _⟩, ⟨_, rfl, Pr.le_refl _⟩, ⟨_, rfl, Pr.le_refl _⟩, ⟨_, rfl, Pr.le_refl _⟩, trivial⟩ ?_
          refine Tr.cond rfl (fun h => nomatch h) (fun _ => ?_)
          refine Tr.skip ?_
          refine Fin.go ?_
          refine Tr.seq ?_
          refine Tr.reg0 ?_
          refine Ch.op rfl rfl (by decide) (ok_move rfl (vl rfl)) ?_
          refine Ch.nil ?_
          refine Fin.go ?_
          refine Tr.cond rfl (fun h8 => ?_) (fun h8 => ?_)
          ·
            have q8 := Nrm.nrm h8
            exfalso; obtain ⟨e1, e2⟩ := er_hit hc.fits hhas hn2.1 hc.cal.top hk0 hinv h8; simp_all
          ·
            have q8 := Nrm.nrm h8
            refine Tr.skip ?_
            refine Fin.block ?_
            refine Fin.go ?_
            refine Tr.reg0 ?_
            refine Ch.op rfl rfl (by decide) (ok_move rfl (vl rfl)) ?_
            first
              | (refine Ch.op rfl rfl (by decide) (ok_add rfl (vl rfl) (vl rfl) ?hin) ?_; case hin => unfold InI; omega)
              | refine Ch.op rfl rfl (by decide) (ok_int rfl (vl rfl) (vl rfl) rfl) ?_
            refine Ch.op rfl rfl (by decide) (ok_assign rfl (vl rfl)) ?_
            refine Ch.nil ?_
            exact Fin.fam_same (k + 1) ⟨⟨by omega, by omega, inv_step hinv (by assumption)⟩, by omega⟩ ⟨⟨_, rfl, Pr.le_refl _⟩, ⟨_, rfl, Pr.le_refl _⟩, ⟨_, rfl, Pr.le_refl _⟩, ⟨_, rfl, Pr.le_refl _⟩, ⟨_, rfl, Pr.le_refl _⟩, ⟨_, rfl, Pr.le_refl _⟩, ⟨_, rfl, Pr.le_refl _⟩, trivial⟩
      ·
        have q3 := Nrm.nrm h3
        have hk2 : ¬ k < 260 := of_decide_eq_false h3
        refine Tr.exit ?_
        refine Fin.then_exit ?_
        refine Fin.then_exit ?_
        refine Fin.block_here ?_
        refine Fin.go ?_
        refine Tr.seq ?_
        refine Tr.reg0 ?_
        refine Ch.op rfl rfl (by decide) (ok_move rfl (vl rfl)) ?_
        refine Ch.op rfl rfl (by decide) (ok_not rfl (vl rfl)) ?_
        refine Ch.op rfl rfl (by decide) (ok_move rfl (vl rfl)) ?_
        refine Ch.cases 76 rfl (fun h9 => ?_) (fun h9 => ?_)
        ·
          have q9 := Nrm.nrm h9
          refine Ch.yes rfl rfl rfl h9 rfl (by decide) (ok_call rfl (w_awake) trivial) ?_
          refine Ch.op rfl rfl (by decide) (ok_pick_t rfl (vl rfl) h9 (vl rfl)) ?_
          refine Ch.op rfl rfl (by decide) (ok_assign rfl (vl rfl)) ?_
          refine Ch.nil ?_
          refine Fin.go ?_
          refine Tr.weak [(4, _)] ⟨⟨_, rfl, Pr.le_refl _⟩, trivial⟩ ?_
          refine Tr.ret ?_
          refine Fin.ret1 rfl (OutW.bse _ _) rfl ?_
          · first | exact Pr.le_refl _ | (refine int_eq ?_; simp_all; done) | (refine bool_eq ?_; simp_all; done) | (refine bool_eq ?_; simp_all; omega) | (refine int_eq ?_; omega)
        ·
          have q9 := Nrm.nrm h9
          exact absurd h9 (by rw [er_end hc.fits hhas hn2.1 hc.cal.top (fun j h1 h2 => hinv j h1 (by omega))]; decide)
theorem e_WindowEarliest : Entry Try.prog 4 := ⟨_, Try.func4, rfl, rfl⟩
end Go.Proofs.Ytacifhfelijekaa
