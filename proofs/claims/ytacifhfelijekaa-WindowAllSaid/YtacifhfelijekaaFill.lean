/-
  What the functions named below compute, proved from their text; printed by a program of our own.
-/
import Derived.Test.YtacifhfelijekaaTypes
import Derived.Test.YtacifhfelijekaaSlices
import Derived.Test.YtacifhfelijekaaWin1
import Derived.Test.YtacifhfelijekaaWin2
import Derived.Test.YtacifhfelijekaaWin3
import Derived.Test.YtacifhfelijekaaWin4
import Derived.Test.YtacifhfelijekaaWin5
import Derived.Test.YtacifhfelijekaaDice
import Derived.Test.YtacifhfelijekaaMove
import Derived.Test.YtacifhfelijekaaL30Full
import Derived.Test.YtacifhfelijekaaL30Next
import Derived.Test.YtacifhfelijekaaRef30
import Derived.Test.YtacifhfelijekaaRef30b
import Derived.Test.YtacifhfelijekaaRef30c
import Derived.Test.YtacifhfelijekaaRef30d
import Derived.Test.YtacifhfelijekaaRef30e
namespace Go.Proofs.Ytacifhfelijekaa
open Go Go.RowKit Cp

/-- Where the next day lies, with room. -/
theorem nextR_some {t d x : Int} {room : Nat → Bool} : ∀ {l : List Win} {i : Nat}, nextFrom t d room i l = some x → (∀ w ∈ l, 0 ≤ w.lo ∧ w.lo < w.hi) →
    ∃ (j : Nat) (w : Win), l[j]? = some w ∧ inWin x w = true ∧ w.teams.any (fun y => t == y) = true ∧ room (i + j) = true
  | [], _, h, _ => by cases h
  | a :: l, i, h, hw => by
    have ha := hw a (by simp)
    unfold nextFrom at h
    split at h
    · rename_i hc
      simp only [Option.some.injEq] at h
      subst h
      exact ⟨0, a, rfl, in_mk (by omega), hc.2.1, hc.2.2⟩
    · obtain ⟨j, w, h1, h2, h3, h4⟩ := nextR_some h (fun w hm => hw w (List.mem_cons_of_mem _ hm))
      exact ⟨j + 1, w, by simpa using h1, h2, h3, by rw [show i + (j + 1) = i + 1 + j by omega]; exact h4⟩
theorem idx_pw {k : Int} : ∀ {l : List Win} {j : Nat} {w : Win}, Apart l → l[j]? = some w → inWin k w = true → idx (inWin k) l = j := by
  intro l j w hp hj hin
  refine (idx_found hj hin fun i y hi hy => ?_).symm
  rw [Bool.eq_false_iff]
  intro hc
  have h1 := in_lo hc
  have h2 := in_lo hin
  have hij : i < l.length := by rcases Nat.lt_or_ge i l.length with h | h; exact h; rw [List.getElem?_eq_none h] at hy; cases hy
  have hjl : j < l.length := by rcases Nat.lt_or_ge j l.length with h | h; exact h; rw [List.getElem?_eq_none h] at hj; cases hj
  have := List.pairwise_iff_getElem.1 hp i j hij hjl hi
  rw [List.getElem?_eq_getElem hij] at hy
  rw [List.getElem?_eq_getElem hjl] at hj
  simp at hy hj
  rw [hy, hj] at this
  omega
theorem cal_pw {c : Cal} {k : Int} {j : Nat} {w : Win} (h : c.own = 0) (hj : c.wins[j]? = some w) (hin : inWin k w = true) : c.at k = j := by
  obtain ⟨h1, h2⟩ := own_wins h
  exact idx_pw (ord_apart h1 h2) hj hin
theorem zip_snoc {a b : List Int} (h : a.length = b.length) (x y : Int) : (a ++ [x]).zip (b ++ [y]) = a.zip b ++ [(x, y)] := by
  rw [List.zip_append h]; rfl
theorem fitE_snoc {c : Cal} {a b : List Int} {t d : Int} (hf : c.fitE a b [] = 0) (h24 : a.length < 24) (ht : c.has t = true) (hm : c.may t d = true) : c.fitE (a ++ [t]) (b ++ [d]) [] = 0 := by
  have ho := fitE_own hf
  have hl := (fitE_len hf).1
  have h1 := fitE_has hf
  have h2 := fitE_may hf
  unfold Cal.fitE
  rw [if_neg (not_not_intro ho), if_neg (by simp [hl]), if_neg (by simp; omega), if_neg, zip_snoc hl, List.all_append, h2, if_pos (by simp [hm])]
  rw [Bool.not_eq_true, List.any_eq_false]
  intro n hn
  have : c.has n = true := by
    rw [List.append_nil] at hn
    rcases List.mem_append.1 hn with hn | hn
    · exact h1 n (List.mem_append_left _ hn)
    · rw [List.mem_singleton.1 hn]; exact ht
  simp [this]
theorem fits_snoc {c : Cal} {a b : List Int} {t d : Int} (hf : c.fitsE a b [] = 0) (h24 : a.length < 24) (ht : c.has t = true) (hm : c.may t d = true) (hr : c.cnt (a.zip b) ((c.at d).toNat * 8 + t.toNat) < c.roomOf t) : c.fitsE (a ++ [t]) (b ++ [d]) [] = 0 := by
  have hf0 := fitsE_fitE hf
  have h1 := fitE_snoc hf0 h24 ht hm
  have ho := fitE_own hf0
  obtain ⟨h32, h8⟩ := own_zero ho
  have hl := (fitE_len hf0).1
  unfold Cal.fitsE
  rw [if_neg (not_not_intro h1), if_neg]
  rintro ⟨i, n, r, hi, hn, hc⟩
  rw [zip_snoc hl, cnt_snoc] at hc
  have hn8 : n < 8 := by
    rcases Nat.lt_or_ge n c.room.length with h | h
    · omega
    · rw [List.getElem?_eq_none h] at hn; cases hn
  have ht8 := has_lt ho ht
  have hno : ¬ c.over (a.zip b) := by
    unfold Cal.fitsE at hf
    rw [if_neg (not_not_intro hf0)] at hf
    intro hh; rw [if_pos hh] at hf; cases hf
  have hle : (c.cnt (a.zip b) (i * 8 + n) : Int) ≤ r := by
    rcases Int.lt_or_le r (c.cnt (a.zip b) (i * 8 + n) : Int) with h | h
    · exact absurd ⟨i, n, r, hi, hn, h⟩ hno
    · exact h
  split at hc
  · rename_i he
    have e1 : (c.at d).toNat = i := by omega
    have e2 : t.toNat = n := by omega
    have := (has_room ht).2
    rw [e2, hn] at this
    simp at this
    rw [e1, e2] at hr
    omega
  · omega


theorem early_yes {c : Cal} {a b : List Int} {t f : Int} (hs : (c.early a b t f).isSome = true) : c.may t ((c.early a b t f).getD 0) = true ∧ c.cnt (a.zip b) ((c.at ((c.early a b t f).getD 0)).toNat * 8 + t.toNat) < c.roomOf t ∧ c.fitsE a b [t] = 0 := by
  obtain ⟨x, hx⟩ := Option.isSome_iff_exists.1 hs
  rw [hx]
  show c.may t x = true ∧ c.cnt (a.zip b) ((c.at x).toNat * 8 + t.toNat) < c.roomOf t ∧ _
  unfold Cal.early at hx
  split at hx
  · rename_i hf
    have ho := fitE_own (fitsE_fitE hf)
    unfold Cal.next at hx
    obtain ⟨j, w, h1, h2, h3, h4⟩ := nextR_some hx (own_wins ho).2
    rw [Nat.zero_add] at h4
    refine ⟨(may_iff ho).2 ⟨w, List.mem_of_getElem? h1, h2, h3⟩, ?_, hf⟩
    rw [cal_pw ho h1 h2, Int.toNat_natCast]
    simpa [Cal.free] using h4
  · cases hx
theorem fits_nil {c : Cal} (h : c.own = 0) : c.fitsE [] [] [] = 0 := by
  have hf : c.fitE [] [] [] = 0 := by
    unfold Cal.fitE
    rw [if_neg (not_not_intro h), if_neg (by simp), if_neg (by simp), if_neg (by simp), if_pos (by rfl)]
  unfold Cal.fitsE
  rw [if_neg (not_not_intro hf), if_neg]
  rintro ⟨i, n, r, _, hn, hc⟩
  have h2 := (check_zero (show c.check c.team.length = 0 from h)).2.1
  rw [List.any_eq_false] at h2
  have := h2 r (List.mem_of_getElem? hn)
  simp [badRoom] at this
  simp [Cal.cnt] at hc
  omega
structure GoodFill (c : Cal) (a b : List Int) : Prop where
  cal : GoodCal c 3
  len : a.length = b.length
  six : a.length ≤ 6
  teams : ∀ t ∈ a, 0 ≤ t ∧ t < 2
  fits : c.fitsE a b [] = 0

theorem w_fill {b : Nat} {s : DS}  : FunM Try.prog 10 [ptr b 0] (ex fun x : Cal × List Int × List Int => fact (GoodFill x.1 x.2.1 x.2.2) (tup [calP x.1, ints x.2.1, ints x.2.2])) (diceS b s) (fun _ => diceEx 61 b) := by
  refine FunM.of Try.func10 rfl rfl (by exact Nat.le_of_ble_eq_true rfl) fun M0 w0 S rs M1 w1 => ?_
  refine Tr.seq ?_
  refine Tr.regT ?_
  refine TO.alloc rfl rfl (by decide) rfl z27 zo27 (fun b1 => ?_)
  refine TO.op rfl rfl (by decide) (ok_assign rfl (vl rfl)) ?_
  refine TO.op rfl rfl (by decide) (ok_assign rfl (vl rfl)) ?_
  refine TO.nil ?_
  refine Fin.go ?_
  refine Tr.seq ?_
  refine Tr.regT ?_
  refine TO.op rfl rfl (by decide) (ok_move rfl (vl rfl)) ?_
  refine TO.efc 1 rfl rfl (by decide) (ef_callc rfl rfl (by decide) rfl (w_Calendar (n := 3) (by omega)) ⟨⟨_, rfl, Pr.le_refl _⟩, ⟨_, rfl, Pr.le_refl _⟩, trivial⟩) ?_
  refine TO.ex 14 rfl (fun z1 => TO.fact 14 rfl fun hz1 => ?_)
  refine TO.alloc rfl rfl (by decide) rfl z27 zo27 (fun b2 => ?_)
  refine TO.store_all 0 rfl rfl rfl (vl rfl) (VL.le (vl rfl) (agg_cellsP _)) rfl sz27 rfl rfl ?_
  refine TO.freeze 0 5 rfl rfl ?_
  refine TO.nil ?_
  refine Fin.openD 1 rfl (fun s1 => ?_)
  refine Fin.go ?_
  refine Tr.seq ?_
  refine Tr.reg0 ?_
  refine Ch.op rfl rfl (by decide) (ok_assign rfl (vl rfl)) ?_
  refine Ch.op rfl rfl (by decide) (ok_assign rfl (vl rfl)) ?_
  refine Ch.nil ?_
  refine Fin.go ?_
  refine Tr.seq ?_
  refine Tr.seq ?_
  have hv := s1.val_in (n := 7) (by omega)
  refine Tr.regT ?_
  refine TO.op rfl rfl (by decide) (ok_move rfl (vl rfl)) ?_
  refine TO.efc 1 rfl rfl (by decide) (ef_callc rfl rfl (by decide) rfl (w_DNext (by omega) (by omega)) ⟨⟨_, rfl, Pr.le_refl _⟩, ⟨_, rfl, Pr.le_refl _⟩, trivial⟩) ?_
  refine TO.op rfl rfl (by decide) (ok_assign rfl (vl rfl)) ?_
  refine TO.nil ?_
  refine Fin.go ?_
  refine Tr.weak [(0, _), (2, _), (5, _), (6, _), (7, _), (8, _)] ⟨⟨_, rfl, Pr.le_refl _⟩, ⟨_, rfl, Pr.le_refl _⟩, ⟨_, rfl, Pr.le_refl _⟩, ⟨_, rfl, Pr.le_refl _⟩, ⟨_, rfl, Pr.le_refl _⟩, ⟨_, rfl, Pr.le_refl _⟩, trivial⟩ ?_
  refine Tr.block ?_
  refine Tr.addnil 3 1 ?_
  refine Tr.addnil 3 1 ?_
  refine Tr.loopD4V2 [(0, _), (2, _), (5, _)] ⟨⟨_, rfl, Pr.le_refl _⟩, ⟨_, rfl, Pr.le_refl _⟩, ⟨_, rfl, Pr.le_refl _⟩, trivial⟩ (fun (ta : List Int) (da : List Int) (k : Int) (s2 : DS) u u2 => [(8, int k), (6, andIs u (ints ta)), (7, andIs u2 (ints da))]) (fun (ta : List Int) (da : List Int) (k : Int) (s2 : DS) u u2 => Hp M0 w0 S (appRes 3 1 u2 :: appRes 3 1 u :: cellsRes true b1 27 [is (.slice none 0 0), is (.slice none 0 0), is (.slice none 0 0)] :: diceS b s2 :: extRes M1 w1 :: rs)) (fun (ta : List Int) (da : List Int) (k : Int) (s2 : DS) => 0 ≤ k ∧ ta.length + k ≤ 6 ∧ ta.length = da.length ∧ (∀ t ∈ ta, 0 ≤ t ∧ t < 2) ∧ z1.fitsE ta da [] = 0) (fun (ta : List Int) (da : List Int) (k : Int) (s2 : DS) => k.toNat) ([]) ([]) (_) (_) (.slice none 0 0) (.slice none 0 0) (⟨by omega, by simp; omega, rfl, by simp, fits_nil hz1.own⟩) ⟨⟨_, rfl, Pr.le_refl _⟩, ⟨_, rfl, own_nil (by simp)⟩, ⟨_, rfl, own_nil (by simp)⟩, trivial⟩ (fun _ _ h => h) ?_
  rintro ta da k s2 u u2 ⟨hk, hk6, hlen, hta, hfit⟩
  refine Tr.seq ?_
  refine Tr.seq ?_
  refine Tr.reg0 ?_
  refine Ch.op rfl rfl (by decide) (ok_move rfl (vl rfl)) ?_
  refine Ch.op rfl rfl (by decide) (ok_int rfl (vl rfl) (vl rfl) rfl) ?_
  refine Ch.nil ?_
  refine Fin.go ?_
  refine Tr.cond rfl (fun h1 => ?_) (fun h1 => ?_)
  ·
    have q1 := Nrm.nrm h1
    have hk0 : k > 0 := of_decide_eq_true h1
    refine Tr.skip ?_
    refine Fin.go ?_
    refine Tr.seq ?_
    refine Tr.block ?_
    refine Tr.seq ?_
    have hv2 := s2.val_in (n := 2) (by omega)
    have hhas := good_has hz1 hv2
    refine Tr.regT ?_
    refine TO.op rfl rfl (by decide) (ok_move rfl (vl rfl)) ?_
    refine TO.efc 3 rfl rfl (by decide) (ef_callc rfl rfl (by decide) rfl (w_DNext (by omega) (by omega)) ⟨⟨_, rfl, Pr.le_refl _⟩, ⟨_, rfl, Pr.le_refl _⟩, trivial⟩) ?_
    refine TO.op rfl rfl (by decide) (ok_assign rfl (vl rfl)) ?_
    refine TO.nil ?_
    refine Fin.go ?_
    refine Tr.seq ?_
    refine Tr.regX mixed [none, none, none, none, none, some (0, 3, true, 0), none, none, none, none, none, none, none, none] (by kernel_rfl) ?_
    refine Cx.op rfl rfl (by decide) (fun _ => ok_loadA rfl agg27 sz27 (vl rfl) rfl rfl) ?_
    refine Cx.op rfl rfl (by decide) (fun _ => ok_move rfl (vl rfl)) ?_
    refine Cx.op rfl rfl (by decide) (fun _ => ok_move rfl (vl rfl)) ?_
    refine Cx.op rfl rfl (by decide) (fun _ => ok_move rfl (vl rfl)) ?_
    refine Cx.op rfl rfl (by decide) (fun _ => ok_move rfl (vl rfl)) ?_
    refine Cx.ef 3 rfl rfl (by decide) (ef_callc rfl rfl (by decide) rfl (w_DNext (by omega) (by omega)) ⟨⟨_, rfl, Pr.le_refl _⟩, ⟨_, rfl, Pr.le_refl _⟩, trivial⟩) ?_
    refine Cx.op rfl rfl (by decide) (fun _ => ok_call rfl (w_REarliest (c := z1) (teams := ta) (days := da)) ⟨⟨_, rfl, Pr.le_refl _⟩, ⟨_, rfl, andIs_le _ _⟩, ⟨_, rfl, andIs_le _ _⟩, ⟨_, rfl, Pr.le_refl _⟩, ⟨_, rfl, Pr.le_refl _⟩, trivial⟩) ?_
    refine Cx.op rfl rfl (by decide) (fun _ => ok_move rfl (vl rfl)) ?_
    refine Cx.op rfl rfl (by decide) (fun _ => ok_extract rfl (vl rfl) rfl) ?_
    refine Cx.op rfl rfl (by decide) (fun _ => ok_extract rfl (vl rfl) rfl) ?_
    refine Cx.op rfl rfl (by decide) (fun _ => ok_extract rfl (vl rfl) rfl) ?_
    refine Cx.op rfl rfl (by decide) (fun _ => ok_assign rfl (vl rfl)) ?_
    refine Cx.op rfl rfl (by decide) (fun _ => ok_assign rfl (vl rfl)) ?_
    refine Cx.op rfl rfl (by decide) (fun _ => ok_assign rfl (vl rfl)) ?_
    refine Cx.nil ⟨rfl, ?_⟩
    refine FinX.done (AllC.cons (AllC.cons (AllC.cons (AllC.cons (AllC.cons (AllC.map _)))))) ?_
    refine Fin.go ?_
    refine Tr.weak [(0, _), (2, _), (5, _), (6, _), (7, _), (8, _), (9, _), (10, _), (11, _)] ⟨⟨_, rfl, Pr.le_refl _⟩, ⟨_, rfl, Pr.le_refl _⟩, ⟨_, rfl, Pr.le_refl _⟩, ⟨_, rfl, Pr.le_refl _⟩, ⟨_, rfl, Pr.le_refl _⟩, ⟨_, rfl, Pr.le_refl _⟩, ⟨_, rfl, Pr.le_refl _⟩, ⟨_, rfl, Pr.le_refl _⟩, ⟨_, rfl, Pr.le_refl _⟩, trivial⟩ ?_
    refine Tr.seq ?_
    refine Tr.reg0 ?_
    refine Ch.op rfl rfl (by decide) (ok_move rfl (vl rfl)) ?_
    refine Ch.nil ?_
    refine Fin.go ?_
    refine Tr.cond rfl (fun h2 => ?_) (fun h2 => ?_)
    ·
      have q2 := Nrm.nrm h2
      refine Tr.regT ?_
      refine TO.op rfl rfl (by decide) (ok_move rfl (vl rfl)) ?_
      refine TO.op rfl rfl (by decide) (ok_move rfl (vl rfl)) ?_
      refine TO.op rfl rfl (by decide) (ok_buildSlice (xs := [.tmp 36]) (rows := [[_]]) rfl rfl Try.underlying22 sz3 z3 rfl (by decide) ⟨⟨(by exact rfl), (VL.le (vl rfl) (one_cellsP _))⟩, trivial⟩ (by decide)) ?_
      refine TO.efs 1 rfl rfl (by decide) (ef_append rfl rfl (by decide) rfl Try.underlying22 sz3 by3 z3 rfl (by decide) ⟨_, rfl, andIs_le _ _⟩ ⟨_, rfl, full_le _ _⟩ (by simp only [List.length_map, List.length_append, List.length_cons, List.length_nil]; unfold maxLen; omega) (by simp only [List.length_map, List.length_append, List.length_cons, List.length_nil]; omega) (appR_is (by exact List.Mem.head _) ⟨_, rfl, andIs_is _ _⟩)) (fun v1 => ?_)
      refine TO.op rfl rfl (by decide) (ok_move rfl (vl rfl)) ?_
      refine TO.op rfl rfl (by decide) (ok_move rfl (vl rfl)) ?_
      refine TO.op rfl rfl (by decide) (ok_buildSlice (xs := [.tmp 40]) (rows := [[_]]) rfl rfl Try.underlying22 sz3 z3 rfl (by decide) ⟨⟨(by exact rfl), (VL.le (vl rfl) (one_cellsP _))⟩, trivial⟩ (by decide)) ?_
      refine TO.efs 0 rfl rfl (by decide) (ef_append rfl rfl (by decide) rfl Try.underlying22 sz3 by3 z3 rfl (by decide) ⟨_, rfl, andIs_le _ _⟩ ⟨_, rfl, full_le _ _⟩ (by simp only [List.length_map, List.length_append, List.length_cons, List.length_nil]; unfold maxLen; omega) (by simp only [List.length_map, List.length_append, List.length_cons, List.length_nil]; omega) (appR_is (by exact List.Mem.head _) ⟨_, rfl, andIs_is _ _⟩)) (fun v2 => ?_)
      refine TO.op rfl rfl (by decide) (ok_assign rfl (vl rfl)) ?_
      refine TO.op rfl rfl (by decide) (ok_assign rfl (vl rfl)) ?_
      refine TO.nil ?_
      refine Fin.block ?_
      refine Fin.go ?_
      refine Tr.weak [(0, _), (2, _), (5, _), (6, _), (7, _), (8, _)] ⟨⟨_, rfl, Pr.le_refl _⟩, ⟨_, rfl, Pr.le_refl _⟩, ⟨_, rfl, Pr.le_refl _⟩, ⟨_, rfl, Pr.le_refl _⟩, ⟨_, rfl, Pr.le_refl _⟩, ⟨_, rfl, Pr.le_refl _⟩, trivial⟩ ?_
      refine Tr.reg0 ?_
      refine Ch.op rfl rfl (by decide) (ok_move rfl (vl rfl)) ?_
      first
        | (refine Ch.op rfl rfl (by decide) (ok_sub rfl (vl rfl) (vl rfl) ?hin) ?_; case hin => unfold InI; omega)
        | refine Ch.op rfl rfl (by decide) (ok_int rfl (vl rfl) (vl rfl) rfl) ?_
      refine Ch.op rfl rfl (by decide) (ok_assign rfl (vl rfl)) ?_
      refine Ch.nil ?_
      exact Fin.famD4V2 (ta ++ [s2.val 2]) (da ++ [(z1.early ta da (s2.val 2) (s2.adv.val 30)).getD 0]) (k - 1) (_) v1 v2 (⟨⟨by omega, by simp; omega, by simp [hlen], all_snoc hta hv2, fits_snoc hfit (by omega) hhas (early_yes q2).1 (early_yes q2).2.1⟩, by omega⟩) ⟨⟨_, rfl, Pr.le_refl _⟩, ⟨_, rfl, own_le (ints_succ' _ _)⟩, ⟨_, rfl, own_le (ints_succ' _ _)⟩, ⟨_, rfl, Pr.le_refl _⟩, ⟨_, rfl, Pr.le_refl _⟩, ⟨_, rfl, Pr.le_refl _⟩, trivial⟩ (fun _ _ h => h)
    ·
      have q2 := Nrm.nrm h2
      refine Tr.skip ?_
      refine Fin.block ?_
      refine Fin.go ?_
      refine Tr.reg0 ?_
      refine Ch.op rfl rfl (by decide) (ok_move rfl (vl rfl)) ?_
      first
        | (refine Ch.op rfl rfl (by decide) (ok_sub rfl (vl rfl) (vl rfl) ?hin) ?_; case hin => unfold InI; omega)
        | refine Ch.op rfl rfl (by decide) (ok_int rfl (vl rfl) (vl rfl) rfl) ?_
      refine Ch.op rfl rfl (by decide) (ok_assign rfl (vl rfl)) ?_
      refine Ch.nil ?_
      exact Fin.famD4V2 (ta) (da) (k - 1) (_) u u2 (⟨⟨by omega, by omega, hlen, hta, hfit⟩, by omega⟩) ⟨⟨_, rfl, Pr.le_refl _⟩, ⟨_, rfl, own_le (by simp)⟩, ⟨_, rfl, own_le (by simp)⟩, ⟨_, rfl, Pr.le_refl _⟩, ⟨_, rfl, Pr.le_refl _⟩, ⟨_, rfl, Pr.le_refl _⟩, trivial⟩ (fun _ _ h => h)
  ·
    have q1 := Nrm.nrm h1
    have hk0 : ¬ k > 0 := of_decide_eq_false h1
    refine Tr.exit ?_
    refine Fin.then_exit ?_
    refine Fin.then_exit ?_
    refine Fin.block_here ?_
    refine Fin.go ?_
    refine Tr.seq ?_
    refine Tr.regT ?_
    refine TO.op rfl rfl (by decide) (ok_loadA rfl agg27 sz27 (vl rfl) rfl rfl) ?_
    refine TO.op rfl rfl (by decide) (ok_move rfl (vl rfl)) ?_
    refine TO.op rfl rfl (by decide) (ok_move rfl (vl rfl)) ?_
    refine TO.store_all 2 rfl rfl rfl (vl rfl) (VL.le (vl rfl) (agg_cellsP _)) rfl sz27 rfl rfl ?_
    refine TO.op rfl rfl (by decide) (ok_assign rfl (vl rfl)) ?_
    refine TO.op rfl rfl (by decide) (ok_assign rfl (vl rfl)) ?_
    refine TO.nil ?_
    refine Fin.go ?_
    refine Tr.ret ?_
    refine Fin.closeD 3 _ rfl rfl ?_
    refine Fin.retY3 [_, _, _] rfl (RVal.cell 2 rfl rfl agg27 sz27 rfl (Pr.le_refl _)) (RVal.tmp rfl (Pr.le_refl _)) (RVal.tmp rfl (Pr.le_refl _)) ?_
    · exact ex_in (z1, ta, da) (fact_in ⟨hz1, hlen, (by show ta.length ≤ 6; omega), hta, hfit⟩ (tup_le ⟨Pr.le_refl _, andIs_le _ _, andIs_le _ _, trivial⟩))
theorem e_fill : Entry Try.prog 10 := ⟨_, Try.func10, rfl, rfl⟩
end Go.Proofs.Ytacifhfelijekaa
