/-
  What the functions named below compute, proved from their text; printed by a program of our own.
-/
import Derived.Test.YtacifhfelijekaaTypes
import Derived.Test.YtacifhfelijekaaSlices
import Derived.Test.YtacifhfelijekaaWin1
import Derived.Test.YtacifhfelijekaaWin2
import Derived.Test.YtacifhfelijekaaWin3
import Derived.Test.YtacifhfelijekaaWin4
import Derived.Test.YtacifhfelijekaaWin5
namespace Go.Proofs.Ytacifhfelijekaa
open Go Go.RowKit Cp

/-- The calendar of chapter 30's example. -/
def awC : Cal := ⟨[⟨10, 12, [0]⟩], [], [1]⟩
theorem ord_nil {l : List Win} (h : l.length ≤ 1) : OrdW l := by
  intro j a b h1 h2
  rw [List.getElem?_eq_none (by omega)] at h2; cases h2
theorem ordT_nil {l : List Int} (h : l.length ≤ 1) : OrdT l := by
  intro j a b h1 h2
  rw [List.getElem?_eq_none (by omega)] at h2; cases h2
theorem awC_own : awC.own = 0 := by
  unfold Cal.own Cal.check awC
  rw [if_neg (by simp), if_neg (by simp [badRoom]), if_neg (by simp [badWin]), if_neg (by
    refine not_not_intro ⟨ord_nil (by simp), fun w hw => ?_⟩
    simp at hw; subst hw; exact ordT_nil (by simp)), if_neg (by simp [Cal.has]), if_neg (by simp [Cal.has])]
theorem awC_at : awC.at 11 = 0 := by rfl
theorem awC_fit : awC.fitE [0, 0] [10, 11] [] = 0 := by
  unfold Cal.fitE
  rw [if_neg (not_not_intro awC_own), if_neg (by simp), if_neg (by simp), if_neg (by simp [awC, Cal.has]), if_pos (by decide)]
theorem awC_fits : awC.fitsE [0, 0] [10, 11] [] = 48 := by
  unfold Cal.fitsE
  rw [if_neg (not_not_intro awC_fit), if_pos ⟨0, 0, 1, by decide, rfl, by decide⟩]

theorem w_awake   : Fun Try.prog 9 [] (bool true) := by
  refine Fun.of Try.func9 rfl rfl (by exact Nat.le_of_ble_eq_true rfl) fun M0 w0 => ?_
  refine Tr.seq ?_
  refine Tr.reg0 ?_
  refine Ch.op rfl rfl (by decide) (ok_assign rfl (vl rfl)) ?_
  refine Ch.nil ?_
  refine Fin.go ?_
  refine Tr.seq ?_
  refine Tr.regT ?_
  refine TO.op rfl rfl (by decide) (ok_build (rows := [(0, [_]), (1, [_])]) rfl bl43 zo43 ⟨⟨rfl, (VL.le (vl rfl) (one_cellsP _))⟩, ⟨⟨rfl, (VL.le (vl rfl) (one_cellsP _))⟩, trivial⟩⟩ rfl) ?_
  refine TO.op rfl rfl (by decide) (ok_buildSlice (xs := [.const (.int .i64 (0))]) (rows := [[_]]) rfl rfl Try.underlying22 sz3 z3 rfl (by decide) ⟨⟨(by exact rfl), (VL.le (vl rfl) (one_cellsP _))⟩, trivial⟩ (by decide)) ?_
  refine TO.op rfl rfl (by decide) (ok_build (rows := [(0, _), (1, [_])]) rfl bl45 zo45 ⟨⟨rfl, (VL.le (vl rfl) (agg_cellsP _))⟩, ⟨⟨rfl, ⟨_, rfl, Pr.le_trans (full_le _ _) (one_cellsP _)⟩⟩, trivial⟩⟩ rfl) ?_
  refine TO.op rfl rfl (by decide) (ok_buildSlice (xs := [.tmp 7]) (rows := [_]) rfl rfl Try.underlying25 sz45 z45 rfl (by decide) ⟨⟨(by exact rfl), (VL.le (vl rfl) (agg_cellsP _))⟩, trivial⟩ (by decide)) ?_
  refine TO.op rfl rfl (by decide) (ok_buildSlice (xs := [.const (.int .i64 (1))]) (rows := [[_]]) rfl rfl Try.underlying22 sz3 z3 rfl (by decide) ⟨⟨(by exact rfl), (VL.le (vl rfl) (one_cellsP _))⟩, trivial⟩ (by decide)) ?_
  refine TO.op rfl rfl (by decide) (ok_build (rows := [(0, [_]), (2, [_])]) rfl bl27 zo27 ⟨⟨rfl, ⟨_, rfl, Pr.le_trans (full_le _ _) (one_cellsP _)⟩⟩, ⟨⟨rfl, ⟨_, rfl, Pr.le_trans (full_le _ _) (one_cellsP _)⟩⟩, trivial⟩⟩ rfl) ?_
  refine TO.alloc rfl rfl (by decide) rfl z27 zo27 (fun b1 => ?_)
  refine TO.store_all 0 rfl rfl rfl (vl rfl) (VL.le (vl rfl) (agg_cellsP _)) rfl sz27 rfl rfl ?_
  refine TO.freeze 0 1 rfl rfl ?_
  refine TO.nil ?_
  refine Fin.go ?_
  refine Tr.seq ?_
  refine Tr.reg0 ?_
  refine Ch.op rfl rfl (by decide) (ok_loadA rfl agg27 sz27 (vl rfl) rfl rfl) ?_
  refine Ch.op rfl rfl (by decide) (ok_call rfl (w_At (c := awC) (day := 11)) ⟨⟨_, rfl, (agg_le ⟨Pr.le_refl _, nil_slice 1, Pr.le_refl _, trivial⟩)⟩, ⟨_, rfl, Pr.le_refl _⟩, trivial⟩) ?_
  refine Ch.op rfl rfl (by decide) (ok_move rfl (vl rfl)) ?_
  refine Ch.op rfl rfl (by decide) (ok_extract rfl (vl rfl) rfl) ?_
  refine Ch.op rfl rfl (by decide) (ok_extract rfl (vl rfl) rfl) ?_
  refine Ch.op rfl rfl (by decide) (ok_extract rfl (vl rfl) rfl) ?_
  refine Ch.op rfl rfl (by decide) (ok_assign rfl (vl rfl)) ?_
  refine Ch.op rfl rfl (by decide) (ok_assign rfl (vl rfl)) ?_
  refine Ch.op rfl rfl (by decide) (ok_assign rfl (vl rfl)) ?_
  refine Ch.nil ?_
  refine Fin.go ?_
  refine Tr.weak [(1, _), (2, _), (3, _), (4, _)] ⟨⟨_, rfl, Pr.le_refl _⟩, ⟨_, rfl, Pr.le_refl _⟩, ⟨_, rfl, Pr.le_refl _⟩, ⟨_, rfl, Pr.le_refl _⟩, trivial⟩ ?_
  refine Tr.seq ?_
  refine Tr.reg0 ?_
  refine Ch.op rfl rfl (by decide) (ok_move rfl (vl rfl)) ?_
  refine Ch.op rfl rfl (by decide) (ok_int rfl (vl rfl) (vl rfl) rfl) ?_
  refine Ch.op rfl rfl (by decide) (ok_move rfl (vl rfl)) ?_
  refine Ch.cases 19 rfl (fun h1 => ?_) (fun h1 => ?_)
  ·
    have q1 := Nrm.nrm h1
    refine Ch.yes rfl rfl rfl h1 rfl (by decide) (ok_move rfl (vl rfl)) ?_
    refine Ch.op rfl rfl (by decide) (ok_pick_t rfl (vl rfl) h1 (vl rfl)) ?_
    refine Ch.op rfl rfl (by decide) (ok_move rfl (vl rfl)) ?_
    refine Ch.cases 22 rfl (fun h2 => ?_) (fun h2 => ?_)
    ·
      have q2 := Nrm.nrm h2
      refine Ch.yes rfl rfl rfl h2 rfl (by decide) (ok_move rfl (vl rfl)) ?_
      refine Ch.yes rfl rfl rfl h2 rfl (by decide) (ok_int rfl (vl rfl) (vl rfl) rfl) ?_
      refine Ch.op rfl rfl (by decide) (ok_pick_t rfl (vl rfl) h2 (vl rfl)) ?_
      refine Ch.op rfl rfl (by decide) (ok_move rfl (vl rfl)) ?_
      refine Ch.cases 26 rfl (fun h3 => ?_) (fun h3 => ?_)
      ·
        have q3 := Nrm.nrm h3
        refine Ch.yes rfl rfl rfl h3 rfl (by decide) (ok_loadA rfl agg27 sz27 (vl rfl) rfl rfl) ?_
        refine Ch.yes rfl rfl rfl h3 rfl (by decide) (ok_buildSlice (xs := [.const (.int .i64 (0)), .const (.int .i64 (0))]) (rows := [[_], [_]]) rfl rfl Try.underlying22 sz3 z3 rfl (by decide) ⟨⟨(by exact rfl), (VL.le (vl rfl) (one_cellsP _))⟩, ⟨⟨(by exact rfl), (VL.le (vl rfl) (one_cellsP _))⟩, trivial⟩⟩ (by decide)) ?_
        refine Ch.yes rfl rfl rfl h3 rfl (by decide) (ok_buildSlice (xs := [.const (.int .i64 (10)), .const (.int .i64 (11))]) (rows := [[_], [_]]) rfl rfl Try.underlying22 sz3 z3 rfl (by decide) ⟨⟨(by exact rfl), (VL.le (vl rfl) (one_cellsP _))⟩, ⟨⟨(by exact rfl), (VL.le (vl rfl) (one_cellsP _))⟩, trivial⟩⟩ (by decide)) ?_
        refine Ch.yes rfl rfl rfl h3 rfl (by decide) (ok_call rfl (w_Fits (c := awC) (teams := [0, 0]) (days := [10, 11])) ⟨⟨_, rfl, (agg_le ⟨Pr.le_refl _, nil_slice 1, Pr.le_refl _, trivial⟩)⟩, ⟨_, rfl, full_le _ _⟩, ⟨_, rfl, full_le _ _⟩, trivial⟩) ?_
        refine Ch.yes rfl rfl rfl h3 rfl (by decide) (ok_int rfl (vl rfl) (vl rfl) rfl) ?_
        refine Ch.op rfl rfl (by decide) (ok_pick_t rfl (vl rfl) h3 (vl rfl)) ?_
        refine Ch.op rfl rfl (by decide) (ok_assign rfl (vl rfl)) ?_
        refine Ch.nil ?_
        refine Fin.go ?_
        refine Tr.weak [(0, _)] ⟨⟨_, rfl, Pr.le_refl _⟩, trivial⟩ ?_
        refine Tr.ret ?_
        refine Fin.ret1 rfl (OutW.bse _ _) rfl ?_
        · refine bool_eq ?_; rw [awC_fits]; rfl
      ·
        have q3 := Nrm.nrm h3
        exact absurd h3 (by rw [awC_own, awC_at]; decide)
    ·
      have q2 := Nrm.nrm h2
      exact absurd h2 (by rw [awC_own, awC_at]; decide)
  ·
    have q1 := Nrm.nrm h1
    exact absurd h1 (by rw [awC_own]; decide)
theorem e_awake : Entry Try.prog 9 := ⟨_, Try.func9, rfl, rfl⟩

def fullC (N : Int) : Cal := ⟨[⟨10, 30, [0, 1]⟩, ⟨40, 50, [0]⟩], [0, 1], [N, 5]⟩
theorem fullC_own {N : Int} (h0 : 0 ≤ N) (h1 : N ≤ 24) : (fullC N).own = 0 := by
  unfold Cal.own Cal.check fullC
  rw [if_neg (by simp), if_neg (by simp [badRoom]; omega), if_neg (by simp [badWin]), if_neg (by
    refine not_not_intro ⟨?_, fun w hw => ?_⟩
    · intro j a b h1 h2
      match j with
      | 0 => simp at h1 h2; subst h1 h2; decide
      | j + 1 => simp at h2
    · simp at hw
      rcases hw with rfl | rfl
      · intro j a b h1 h2
        match j with
        | 0 => simp at h1 h2; subst h1 h2; decide
        | j + 1 => simp at h2
      · exact ordT_nil (by simp)), if_neg (by simp [Cal.has]), if_neg (by simp [Cal.has])]
theorem fullC_in {d : Int} (h0 : 10 ≤ d) (h1 : d < 30) : inWin d ⟨10, 30, [0, 1]⟩ = true := by
  unfold inWin; simp; omega
theorem fullC_at {N d : Int} (h0 : 10 ≤ d) (h1 : d < 30) : (fullC N).at d = 0 := by
  unfold Cal.at fullC
  exact (idx_found (k := 0) (x := ⟨10, 30, [0, 1]⟩) rfl (fullC_in h0 h1) (fun j y hj => absurd hj (by omega))).symm
theorem fullC_may {N d t : Int} (h0 : 10 ≤ d ∧ d < 30) (h1 : t = 0 ∨ t = 1) : (fullC N).may t d = true := by
  unfold Cal.may Cal.winAt fullC
  rw [List.find?_cons_of_pos (fullC_in h0.1 h0.2)]
  rcases h1 with rfl | rfl <;> rfl
theorem fullC_has {N t : Int} (h1 : t = 0 ∨ t = 1) : (fullC N).has t = true := by
  unfold Cal.has fullC; rcases h1 with rfl | rfl <;> rfl
theorem fullC_fit {N : Int} {ts ds os : List Int} (h0 : 0 ≤ N) (h1 : N ≤ 24) (hl : ts.length = ds.length) (hm : ts.length ≤ 24) (ht : ∀ t ∈ ts, t = 0 ∨ t = 1) (hd : ∀ d ∈ ds, 10 ≤ d ∧ d < 30) (ho : ∀ t ∈ os, t = 0 ∨ t = 1) : (fullC N).fitE ts ds os = 0 := by
  unfold Cal.fitE
  rw [if_neg (not_not_intro (fullC_own h0 h1)), if_neg (not_not_intro hl), if_neg (by omega), if_neg, if_pos]
  · rw [List.all_eq_true]
    rintro ⟨t, d⟩ hp
    exact fullC_may (hd d (List.of_mem_zip hp).2) (ht t (List.of_mem_zip hp).1)
  · rw [Bool.not_eq_true, List.any_eq_false]
    intro t h
    have : t = 0 ∨ t = 1 := by
      rcases List.mem_append.1 h with h | h
      · exact ht t h
      · exact ho t h
    simp [fullC_has this]
theorem fullC_cnt {N : Int} {ts ds : List Int} (hl : ts.length = ds.length) (hd : ∀ d ∈ ds, 10 ≤ d ∧ d < 30) (k : Nat) : (fullC N).cnt (ts.zip ds) k = ts.countP fun t => t.toNat == k := by
  have h1 : (ts.zip ds).map Prod.fst = ts := List.map_fst_zip (by omega)
  unfold Cal.cnt
  rw [← h1]
  rw [List.countP_map]
  rw [h1]
  refine List.countP_congr fun p hp => ?_
  have := hd p.2 (List.of_mem_zip (a := p.1) (b := p.2) hp).2
  unfold Cal.cell
  rw [fullC_at this.1 this.2]
  simp
def fullT (n m : Nat) : List Int := List.replicate n 0 ++ List.replicate m 1
def fullD (d : Int) (n : Nat) : List Int := (List.range n).map fun (i : Nat) => 10 + ((i : Int) + d).tmod 20
def fullD2 (d : Int) (n m : Nat) : List Int := fullD d n ++ List.replicate m 29
theorem tm20 {z : Int} (h : 0 ≤ z) : 0 ≤ z.tmod 20 ∧ z.tmod 20 < 20 := by
  rw [Int.tmod_eq_emod_of_nonneg h]; omega
theorem fullD_in {d : Int} (hd : 0 ≤ d) {n : Nat} : ∀ x ∈ fullD d n, 10 ≤ x ∧ x < 30 := by
  intro x hx
  simp only [fullD, List.mem_map] at hx
  obtain ⟨i, _, rfl⟩ := hx
  have := tm20 (z := (i : Int) + d) (by omega)
  omega
theorem fullD2_in {d : Int} (hd : 0 ≤ d) {n m : Nat} : ∀ x ∈ fullD2 d n m, 10 ≤ x ∧ x < 30 := by
  intro x hx
  rcases List.mem_append.1 hx with hx | hx
  · exact fullD_in hd x hx
  · have := List.eq_of_mem_replicate hx; omega
theorem fullT_in {n m : Nat} : ∀ x ∈ fullT n m, x = 0 ∨ x = 1 := by
  intro x hx
  rcases List.mem_append.1 hx with hx | hx
  · exact .inl (List.eq_of_mem_replicate hx)
  · exact .inr (List.eq_of_mem_replicate hx)
theorem fullT_length (n m : Nat) : (fullT n m).length = n + m := by simp [fullT]
theorem fullD2_length (d : Int) (n m : Nat) : (fullD2 d n m).length = n + m := by simp [fullD2, fullD]
theorem fullT_cnt (n m k : Nat) : (fullT n m).countP (fun t => t.toNat == k) = (if k = 0 then n else 0) + (if k = 1 then m else 0) := by
  unfold fullT
  rw [List.countP_append, List.countP_replicate, List.countP_replicate]
  by_cases h0 : k = 0
  · subst h0; simp
  · by_cases h1 : k = 1
    · subst h1; simp
    · rw [if_neg (by simp; omega), if_neg (by simp; omega), if_neg h0, if_neg h1]
theorem full_full {d : Int} {n : Nat} (hd : 0 ≤ d) (hn : n < 24) : (fullC n).fitsE (List.replicate n 0 ++ [0]) (fullD d n ++ [12]) [] = 48 := by
  have ha : List.replicate n (0 : Int) ++ [0] = fullT (n + 1) 0 := by simp [fullT, List.replicate_succ']
  have hi : ∀ x ∈ fullD d n ++ [12], 10 ≤ x ∧ x < 30 := by
    intro x hx
    rcases List.mem_append.1 hx with hx | hx
    · exact fullD_in hd x hx
    · simp at hx; omega
  have hl : (List.replicate n (0 : Int) ++ [0]).length = (fullD d n ++ [12]).length := by simp [fullD]
  have hf := fullC_fit (N := n) (os := []) (by omega) (by omega) hl (by simp; omega) (by rw [ha]; exact fullT_in) hi (by simp)
  unfold Cal.fitsE
  rw [if_neg (not_not_intro hf), if_pos ⟨0, 0, n, by simp [fullC], rfl, by rw [fullC_cnt hl hi, ha, fullT_cnt]; simp; omega⟩]
theorem full_fits {d : Int} {n m : Nat} {os : List Int} (hd : 0 ≤ d) (hn : n < 24) (hm : m ≤ 5) (hnm : n + m ≤ 24) (ho : ∀ t ∈ os, t = 0 ∨ t = 1) : (fullC n).fitsE (fullT n m) (fullD2 d n m) os = 0 := by
  have hl : (fullT n m).length = (fullD2 d n m).length := by rw [fullT_length, fullD2_length]
  have hf := fullC_fit (N := n) (by omega) (by omega) hl (by rw [fullT_length]; exact hnm) fullT_in (fullD2_in hd) ho
  unfold Cal.fitsE
  rw [if_neg (not_not_intro hf), if_neg]
  rintro ⟨i, j, r, h1, h2, h3⟩
  rw [fullC_cnt hl (fullD2_in hd), fullT_cnt] at h3
  match j with
  | 0 => simp [fullC] at h2; subst h2; split at h3 <;> split at h3 <;> omega
  | 1 => simp [fullC] at h2; subst h2; split at h3 <;> split at h3 <;> omega
  | j + 2 => simp [fullC] at h2
theorem full_early {d : Int} {n m : Nat} (hd : 0 ≤ d) (hn : n < 24) (hm : m ≤ 5) (hnm : n + m ≤ 24) : (fullC n).early (fullT n m) (fullD2 d n m) 0 11 = if 0 < n then some 40 else none := by
  have hl : (fullT n m).length = (fullD2 d n m).length := by rw [fullT_length, fullD2_length]
  unfold Cal.early
  rw [if_pos (full_fits hd hn hm hnm (by simp))]
  have h0 : (fullC n).free ((fullT n m).zip (fullD2 d n m)) 0 0 = false := by
    unfold Cal.free; rw [fullC_cnt hl (fullD2_in hd), fullT_cnt]; simp [Cal.roomOf, fullC]
  have h1 : (fullC n).free ((fullT n m).zip (fullD2 d n m)) 0 1 = decide (0 < n) := by
    unfold Cal.free; rw [fullC_cnt hl (fullD2_in hd), fullT_cnt]; simp [Cal.roomOf, fullC]
  unfold Cal.next
  show nextFrom 0 _ _ 0 [⟨10, 30, [0, 1]⟩, ⟨40, 50, [0]⟩] = _
  rw [nextFrom, if_neg (by rw [h0]; simp), nextFrom, h1]
  by_cases hp : 0 < n
  · rw [if_pos ⟨by decide, by decide, by simpa using hp⟩, if_pos hp]; rfl
  · rw [if_neg (by rintro ⟨_, _, h⟩; exact hp (by simpa using h)), if_neg hp]; rfl


theorem full_get {d : Int} {n m : Nat} (hd : 0 ≤ d) (hn : n < 24) (hm : m ≤ 5) (hnm : n + m ≤ 24) : ((fullC n).early (fullT n m) (fullD2 d n m) 0 11).getD 0 = if 0 < n then 40 else 0 := by
  rw [full_early hd hn hm hnm]; split <;> rfl
theorem full_some {d : Int} {n m : Nat} (hd : 0 ≤ d) (hn : n < 24) (hm : m ≤ 5) (hnm : n + m ≤ 24) : ((fullC n).early (fullT n m) (fullD2 d n m) 0 11).isSome = decide (((n : Nat) : Int) > 0) := by
  rw [full_early hd hn hm hnm]
  by_cases h : 0 < n
  · rw [if_pos h]; simp; omega
  · rw [if_neg h]; simp; omega
theorem fullT_succ (n m : Nat) : (fullT n m).map (fun n => [int n]) ++ [[int 1]] = (fullT n (m + 1)).map fun n => [int n] := by
  unfold fullT; rw [List.replicate_succ' (n := m), ← List.append_assoc, List.map_append (l₂ := [1])]; rfl
theorem fullD2_succ (d : Int) (n m : Nat) : (fullD2 d n m).map (fun n => [int n]) ++ [[int 29]] = (fullD2 d n (m + 1)).map fun n => [int n] := by
  unfold fullD2; rw [List.replicate_succ' (n := m), ← List.append_assoc, List.map_append (l₂ := [29])]; rfl
theorem fullD_succ (d : Int) (n : Nat) : (fullD d n).map (fun n => [int n]) ++ [[int (10 + ((n : Int) + d).tmod 20)]] = (fullD d (n + 1)).map fun n => [int n] := by
  unfold fullD; rw [List.range_succ, List.map_append, List.map_append]; rfl
theorem zeros_succ (n : Nat) : (List.replicate n (0 : Int)).map (fun n => [int n]) ++ [[int 0]] = (List.replicate (n + 1) (0 : Int)).map fun n => [int n] := by
  rw [List.replicate_succ', List.map_append]; rfl
theorem ints_snoc (l : List Int) (x : Int) : Pr.le (slice 1 (l.map (fun n => [int n]) ++ [[int x]])) (ints (l ++ [x])) := Pr.le_of_eq (by show _ = slice 1 (List.map _ _); rw [List.map_append]; rfl)
theorem fullT_zero (n : Nat) : (List.replicate n (0 : Int)).map (fun n => [int n]) = (fullT n 0).map fun n => [int n] := by simp [fullT]
theorem fullD_zero (d : Int) (n : Nat) : (fullD d n).map (fun n => [int n]) = (fullD2 d n 0).map fun n => [int n] := by simp [fullD2]

theorem w_WindowFull {r o d : Int} (hr : 0 ≤ r ∧ r < 256) (ho : 0 ≤ o ∧ o < 256) (hd : 0 ≤ d ∧ d < 256) : Fun Try.prog 5 [is (.int .u8 r), is (.int .u8 o), is (.int .u8 d)] (bool true) := by
  refine Fun.of Try.func5 rfl rfl (by exact Nat.le_of_ble_eq_true rfl) fun M0 w0 => ?_
  obtain ⟨N, hN, hN24⟩ : ∃ N : Nat, r.tmod 24 = ((N : Nat) : Int) ∧ N < 24 := ⟨(r.tmod 24).toNat, by rw [Int.tmod_eq_emod_of_nonneg hr.1]; omega, by rw [Int.tmod_eq_emod_of_nonneg hr.1]; omega⟩
  obtain ⟨M, hM, hM5⟩ : ∃ M : Nat, o.tmod 5 = ((M : Nat) : Int) ∧ M < 5 := ⟨(o.tmod 5).toNat, by rw [Int.tmod_eq_emod_of_nonneg ho.1]; omega, by rw [Int.tmod_eq_emod_of_nonneg ho.1]; omega⟩
  refine Tr.seq ?_
  refine Tr.reg0 ?_
  refine Ch.op rfl rfl (by decide) (ok_assign rfl (vl rfl)) ?_
  refine Ch.nil ?_
  refine Fin.go ?_
  refine Tr.seq ?_
  refine Tr.reg0 ?_
  refine Ch.op rfl rfl (by decide) (ok_move rfl (vl rfl)) ?_
  first
    | refine Ch.op rfl rfl (by decide) (ok_convI rfl Try.underlying5 Try.underlying3 (vl rfl) (by unfold InI; omega)) ?_
    | refine Ch.op rfl rfl (by decide) (ok_conv rfl Try.underlying5 Try.underlying3 (vl rfl)) ?_
  refine Ch.op rfl rfl (by decide) (ok_rem rfl (vl rfl) (vl rfl) (by omega)) ?_
  refine Ch.op rfl rfl (by decide) (ok_move rfl (vl rfl)) ?_
  first
    | refine Ch.op rfl rfl (by decide) (ok_convI rfl Try.underlying5 Try.underlying3 (vl rfl) (by unfold InI; omega)) ?_
    | refine Ch.op rfl rfl (by decide) (ok_conv rfl Try.underlying5 Try.underlying3 (vl rfl)) ?_
  refine Ch.op rfl rfl (by decide) (ok_rem rfl (vl rfl) (vl rfl) (by omega)) ?_
  refine Ch.op rfl rfl (by decide) (ok_assign rfl (vl rfl)) ?_
  refine Ch.op rfl rfl (by decide) (ok_assign rfl (vl rfl)) ?_
  refine Ch.nil ?_
  refine Fin.go ?_
  refine Tr.seq ?_
  refine Tr.re 7 rfl (int_eq hN) ?_
  refine Tr.re 8 rfl (int_eq hM) ?_
  refine Tr.regT ?_
  refine TO.op rfl rfl (by decide) (ok_build (rows := [(0, [_]), (1, [_])]) rfl bl43 zo43 ⟨⟨rfl, (VL.le (vl rfl) (one_cellsP _))⟩, ⟨⟨rfl, (VL.le (vl rfl) (one_cellsP _))⟩, trivial⟩⟩ rfl) ?_
  refine TO.op rfl rfl (by decide) (ok_buildSlice (xs := [.const (.int .i64 (0)), .const (.int .i64 (1))]) (rows := [[_], [_]]) rfl rfl Try.underlying22 sz3 z3 rfl (by decide) ⟨⟨(by exact rfl), (VL.le (vl rfl) (one_cellsP _))⟩, ⟨⟨(by exact rfl), (VL.le (vl rfl) (one_cellsP _))⟩, trivial⟩⟩ (by decide)) ?_
  refine TO.op rfl rfl (by decide) (ok_build (rows := [(0, _), (1, [_])]) rfl bl45 zo45 ⟨⟨rfl, (VL.le (vl rfl) (agg_cellsP _))⟩, ⟨⟨rfl, ⟨_, rfl, Pr.le_trans (full_le _ _) (one_cellsP _)⟩⟩, trivial⟩⟩ rfl) ?_
  refine TO.op rfl rfl (by decide) (ok_build (rows := [(0, [_]), (1, [_])]) rfl bl43 zo43 ⟨⟨rfl, (VL.le (vl rfl) (one_cellsP _))⟩, ⟨⟨rfl, (VL.le (vl rfl) (one_cellsP _))⟩, trivial⟩⟩ rfl) ?_
  refine TO.op rfl rfl (by decide) (ok_buildSlice (xs := [.const (.int .i64 (0))]) (rows := [[_]]) rfl rfl Try.underlying22 sz3 z3 rfl (by decide) ⟨⟨(by exact rfl), (VL.le (vl rfl) (one_cellsP _))⟩, trivial⟩ (by decide)) ?_
  refine TO.op rfl rfl (by decide) (ok_build (rows := [(0, _), (1, [_])]) rfl bl45 zo45 ⟨⟨rfl, (VL.le (vl rfl) (agg_cellsP _))⟩, ⟨⟨rfl, ⟨_, rfl, Pr.le_trans (full_le _ _) (one_cellsP _)⟩⟩, trivial⟩⟩ rfl) ?_
  refine TO.op rfl rfl (by decide) (ok_buildSlice (xs := [.tmp 28, .tmp 31]) (rows := [_, _]) rfl rfl Try.underlying25 sz45 z45 rfl (by decide) ⟨⟨(by exact rfl), (VL.le (vl rfl) (agg_cellsP _))⟩, ⟨⟨(by exact rfl), (VL.le (vl rfl) (agg_cellsP _))⟩, trivial⟩⟩ (by decide)) ?_
  refine TO.op rfl rfl (by decide) (ok_buildSlice (xs := [.const (.int .i64 (0)), .const (.int .i64 (1))]) (rows := [[_], [_]]) rfl rfl Try.underlying22 sz3 z3 rfl (by decide) ⟨⟨(by exact rfl), (VL.le (vl rfl) (one_cellsP _))⟩, ⟨⟨(by exact rfl), (VL.le (vl rfl) (one_cellsP _))⟩, trivial⟩⟩ (by decide)) ?_
  refine TO.op rfl rfl (by decide) (ok_move rfl (vl rfl)) ?_
  refine TO.op rfl rfl (by decide) (ok_buildSlice (xs := [.tmp 34, .const (.int .i64 (5))]) (rows := [[_], [_]]) rfl rfl Try.underlying22 sz3 z3 rfl (by decide) ⟨⟨(by exact rfl), (VL.le (vl rfl) (one_cellsP _))⟩, ⟨⟨(by exact rfl), (VL.le (vl rfl) (one_cellsP _))⟩, trivial⟩⟩ (by decide)) ?_
  refine TO.op rfl rfl (by decide) (ok_build (rows := [(0, [_]), (1, [_]), (2, [_])]) rfl bl27 zo27 ⟨⟨rfl, ⟨_, rfl, Pr.le_trans (full_le _ _) (one_cellsP _)⟩⟩, ⟨⟨rfl, ⟨_, rfl, Pr.le_trans (full_le _ _) (one_cellsP _)⟩⟩, ⟨⟨rfl, ⟨_, rfl, Pr.le_trans (full_le _ _) (one_cellsP _)⟩⟩, trivial⟩⟩⟩ rfl) ?_
  refine TO.alloc rfl rfl (by decide) rfl z27 zo27 (fun b1 => ?_)
  refine TO.store_all 0 rfl rfl rfl (vl rfl) (VL.le (vl rfl) (agg_cellsP _)) rfl sz27 rfl rfl ?_
  refine TO.freeze 0 9 rfl rfl ?_
  refine TO.nil ?_
  refine Fin.go ?_
  refine Tr.weak [(2, _), (7, _), (8, _), (9, _)] ⟨⟨_, rfl, Pr.le_refl _⟩, ⟨_, rfl, Pr.le_refl _⟩, ⟨_, rfl, Pr.le_refl _⟩, ⟨_, rfl, Pr.le_refl _⟩, trivial⟩ ?_
  refine Tr.seq ?_
  refine Tr.reg0 ?_
  refine Ch.op rfl rfl (by decide) (ok_assign rfl (vl rfl)) ?_
  refine Ch.op rfl rfl (by decide) (ok_assign rfl (vl rfl)) ?_
  refine Ch.nil ?_
  refine Fin.go ?_
  refine Tr.seq ?_
  refine Tr.seq ?_
  refine Tr.reg0 ?_
  refine Ch.op rfl rfl (by decide) (ok_assign rfl (vl rfl)) ?_
  refine Ch.nil ?_
  refine Fin.go ?_
  refine Tr.block ?_
  refine Tr.addnil 3 1 ?_
  refine Tr.addnil 3 1 ?_
  refine Tr.loopV2 [(2, _), (7, _), (8, _), (9, _)] ⟨⟨_, rfl, Pr.le_refl _⟩, ⟨_, rfl, Pr.le_refl _⟩, ⟨_, rfl, Pr.le_refl _⟩, ⟨_, rfl, Pr.le_refl _⟩, trivial⟩ (fun k u u2 => [(12, int ((k : Nat) : Int)), (10, andIs u (ints (List.replicate k 0))), (11, andIs u2 (ints (fullD d k)))]) (fun k u u2 => Hp M0 w0 noS ([appRes 3 1 u2, appRes 3 1 u])) (fun k : Nat => k ≤ (N)) (fun k : Nat => (N) - k) 0 (.slice none 0 0) (.slice none 0 0) (Nat.zero_le _) ⟨⟨_, rfl, Pr.le_refl _⟩, ⟨_, rfl, own_nil (by simp)⟩, ⟨_, rfl, own_nil (by simp [fullD])⟩, trivial⟩ (fun _ _ h => h) ?_
  rintro k u u2 hle_k
  have htm := tm20 (z := ((k : Nat) : Int) + d) (by omega)
  refine Tr.seq ?_
  refine Tr.seq ?_
  refine Tr.reg0 ?_
  refine Ch.op rfl rfl (by decide) (ok_move rfl (vl rfl)) ?_
  refine Ch.op rfl rfl (by decide) (ok_move rfl (vl rfl)) ?_
  refine Ch.op rfl rfl (by decide) (ok_int rfl (vl rfl) (vl rfl) rfl) ?_
  refine Ch.nil ?_
  refine Fin.go ?_
  refine Tr.cond rfl (fun h1 => ?_) (fun h1 => ?_)
  ·
    have q1 := Nrm.nrm h1
    have hk_k : k < (N) := lt_of_dec h1
    refine Tr.skip ?_
    refine Fin.go ?_
    refine Tr.seq ?_
    refine Tr.block ?_
    refine Tr.regT ?_
    refine TO.op rfl rfl (by decide) (ok_move rfl (vl rfl)) ?_
    refine TO.op rfl rfl (by decide) (ok_buildSlice (xs := [.const (.int .i64 (0))]) (rows := [[_]]) rfl rfl Try.underlying22 sz3 z3 rfl (by decide) ⟨⟨(by exact rfl), (VL.le (vl rfl) (one_cellsP _))⟩, trivial⟩ (by decide)) ?_
    refine TO.efs 1 rfl rfl (by decide) (ef_append rfl rfl (by decide) rfl Try.underlying22 sz3 by3 z3 rfl (by decide) ⟨_, rfl, andIs_le _ _⟩ ⟨_, rfl, full_le _ _⟩ (by simp [fullD, fullT, fullD2]; unfold maxLen; omega) (by simp [fullD, fullT, fullD2]; omega) (appR_is (by exact List.Mem.head _) ⟨_, rfl, andIs_is _ _⟩)) (fun v1 => ?_)
    refine TO.op rfl rfl (by decide) (ok_move rfl (vl rfl)) ?_
    refine TO.op rfl rfl (by decide) (ok_move rfl (vl rfl)) ?_
    refine TO.op rfl rfl (by decide) (ok_move rfl (vl rfl)) ?_
    first
      | refine TO.op rfl rfl (by decide) (ok_convI rfl Try.underlying5 Try.underlying3 (vl rfl) (by unfold InI; omega)) ?_
      | refine TO.op rfl rfl (by decide) (ok_conv rfl Try.underlying5 Try.underlying3 (vl rfl)) ?_
    first
      | (refine TO.op rfl rfl (by decide) (ok_add rfl (vl rfl) (vl rfl) ?hin) ?_; case hin => unfold InI; omega)
      | refine TO.op rfl rfl (by decide) (ok_int rfl (vl rfl) (vl rfl) rfl) ?_
    refine TO.op rfl rfl (by decide) (ok_rem rfl (vl rfl) (vl rfl) (by omega)) ?_
    first
      | (refine TO.op rfl rfl (by decide) (ok_add rfl (vl rfl) (vl rfl) ?hin) ?_; case hin => unfold InI; omega)
      | refine TO.op rfl rfl (by decide) (ok_int rfl (vl rfl) (vl rfl) rfl) ?_
    refine TO.op rfl rfl (by decide) (ok_buildSlice (xs := [.tmp 51]) (rows := [[_]]) rfl rfl Try.underlying22 sz3 z3 rfl (by decide) ⟨⟨(by exact rfl), (VL.le (vl rfl) (one_cellsP _))⟩, trivial⟩ (by decide)) ?_
    refine TO.efs 0 rfl rfl (by decide) (ef_append rfl rfl (by decide) rfl Try.underlying22 sz3 by3 z3 rfl (by decide) ⟨_, rfl, andIs_le _ _⟩ ⟨_, rfl, full_le _ _⟩ (by simp [fullD, fullT, fullD2]; unfold maxLen; omega) (by simp [fullD, fullT, fullD2]; omega) (appR_is (by exact List.Mem.head _) ⟨_, rfl, andIs_is _ _⟩)) (fun v2 => ?_)
    refine TO.op rfl rfl (by decide) (ok_assign rfl (vl rfl)) ?_
    refine TO.op rfl rfl (by decide) (ok_assign rfl (vl rfl)) ?_
    refine TO.nil ?_
    refine Fin.block ?_
    refine Fin.go ?_
    refine Tr.weak [(2, _), (7, _), (8, _), (9, _), (10, _), (11, _), (12, _)] ⟨⟨_, rfl, Pr.le_refl _⟩, ⟨_, rfl, Pr.le_refl _⟩, ⟨_, rfl, Pr.le_refl _⟩, ⟨_, rfl, Pr.le_refl _⟩, ⟨_, rfl, Pr.le_refl _⟩, ⟨_, rfl, Pr.le_refl _⟩, ⟨_, rfl, Pr.le_refl _⟩, trivial⟩ ?_
    refine Tr.reg0 ?_
    refine Ch.op rfl rfl (by decide) (ok_move rfl (vl rfl)) ?_
    first
      | (refine Ch.op rfl rfl (by decide) (ok_add rfl (vl rfl) (vl rfl) ?hin) ?_; case hin => unfold InI; omega)
      | refine Ch.op rfl rfl (by decide) (ok_int rfl (vl rfl) (vl rfl) rfl) ?_
    refine Ch.op rfl rfl (by decide) (ok_assign rfl (vl rfl)) ?_
    refine Ch.nil ?_
    exact Fin.famV2 (k + 1) v1 v2 (⟨hk_k, by omega⟩) ⟨⟨_, rfl, int_succ k⟩, ⟨_, rfl, own_le (zeros_succ k)⟩, ⟨_, rfl, own_le (fullD_succ d k)⟩, ⟨_, rfl, Pr.le_refl _⟩, ⟨_, rfl, Pr.le_refl _⟩, ⟨_, rfl, Pr.le_refl _⟩, ⟨_, rfl, Pr.le_refl _⟩, trivial⟩ (fun _ _ h => h)
  ·
    have q1 := Nrm.nrm h1
    have he_k : k = (N) := by have := ge_of_dec h1; omega
    subst he_k
    refine Tr.exit ?_
    refine Fin.then_exit ?_
    refine Fin.then_exit ?_
    refine Fin.block_here ?_
    refine Fin.go ?_
    refine Tr.seq ?_
    refine Tr.pad ?_
    refine Tr.pad ?_
    refine Tr.regX mixed [none, none, some (0, 0, true, 56), none, some (56, 0, true, 58), none, some (0, 1, true, 60), none, some (60, 1, true, 62), none, none] (by kernel_rfl) ?_
    refine Cx.op rfl rfl (by decide) (fun _ => ok_loadA rfl agg27 sz27 (vl rfl) rfl rfl) ?_
    refine Cx.op rfl rfl (by decide) (fun _ => ok_move rfl (vl rfl)) ?_
    refine Cx.ef 0 rfl rfl (by decide) (ef_append rfl rfl (by decide) rfl Try.underlying22 sz3 by3 z3 rfl (by decide) ⟨_, rfl, nil_slice _⟩ ⟨_, rfl, andIs_le _ _⟩ (by simp [fullD, fullT, fullD2]; unfold maxLen; omega) (by simp [fullD, fullT, fullD2]; omega) (appR_full (by exact List.Mem.head _) ⟨_, rfl, nil_full 1⟩)) ?_
    refine Cx.op rfl rfl (by decide) (fun _ => ok_buildSlice (xs := [.const (.int .i64 (0))]) (rows := [[_]]) rfl rfl Try.underlying22 sz3 z3 rfl (by decide) ⟨⟨(by exact rfl), (VL.le (vl rfl) (one_cellsP _))⟩, trivial⟩ (by decide)) ?_
    refine Cx.ef 0 rfl rfl (by decide) (ef_append rfl rfl (by decide) rfl Try.underlying22 sz3 by3 z3 rfl (by decide) (vl rfl) ⟨_, rfl, full_le _ _⟩ (by simp [fullD, fullT, fullD2]; unfold maxLen; omega) (by simp [fullD, fullT, fullD2]; omega) appR_slot) ?_
    refine Cx.op rfl rfl (by decide) (fun _ => ok_move rfl (vl rfl)) ?_
    refine Cx.ef 1 rfl rfl (by decide) (ef_append rfl rfl (by decide) rfl Try.underlying22 sz3 by3 z3 rfl (by decide) ⟨_, rfl, nil_slice _⟩ ⟨_, rfl, andIs_le _ _⟩ (by simp [fullD, fullT, fullD2]; unfold maxLen; omega) (by simp [fullD, fullT, fullD2]; omega) (appR_full (by exact List.Mem.head _) ⟨_, rfl, nil_full 1⟩)) ?_
    refine Cx.op rfl rfl (by decide) (fun _ => ok_buildSlice (xs := [.const (.int .i64 (12))]) (rows := [[_]]) rfl rfl Try.underlying22 sz3 z3 rfl (by decide) ⟨⟨(by exact rfl), (VL.le (vl rfl) (one_cellsP _))⟩, trivial⟩ (by decide)) ?_
    refine Cx.ef 1 rfl rfl (by decide) (ef_append rfl rfl (by decide) rfl Try.underlying22 sz3 by3 z3 rfl (by decide) (vl rfl) ⟨_, rfl, full_le _ _⟩ (by simp [fullD, fullT, fullD2]; unfold maxLen; omega) (by simp [fullD, fullT, fullD2]; omega) appR_slot) ?_
    refine Cx.op rfl rfl (by decide) (fun _ => ok_call rfl (w_Fits (c := fullC k) (teams := List.replicate k 0 ++ [0]) (days := fullD d k ++ [12]) ) ⟨⟨_, rfl, Pr.le_refl _⟩, ⟨_, rfl, ints_snoc _ _⟩, ⟨_, rfl, ints_snoc _ _⟩, trivial⟩) ?_
    refine Cx.op rfl rfl (by decide) (fun _ => ok_assign rfl (vl rfl)) ?_
    refine Cx.nil ⟨rfl, ?_⟩
    refine FinX.open_ 0 58 rfl rfl (fun v3 => ?_)
    refine FinX.open_ 1 62 rfl rfl (fun v4 => ?_)
    refine FinX.done (AllC.cons (AllC.cons (AllC.cons (AllC.cons (AllC.map _))))) ?_
    refine Fin.go ?_
    refine Tr.drop 0 ?_
    refine Tr.drop 0 ?_
    refine Tr.weak [(7, _), (8, _), (9, _), (10, _), (11, _), (13, _)] ⟨⟨_, rfl, Pr.le_refl _⟩, ⟨_, rfl, Pr.le_refl _⟩, ⟨_, rfl, Pr.le_refl _⟩, ⟨_, rfl, Pr.le_refl _⟩, ⟨_, rfl, Pr.le_refl _⟩, ⟨_, rfl, Pr.le_refl _⟩, trivial⟩ ?_
    refine Tr.seq ?_
    refine Tr.seq ?_
    have hlen : (List.replicate k (0 : Int)).length = k := by simp
    refine Tr.re 13 rfl (int_eq (full_full hd.1 hN24)) ?_
    refine Tr.reg0 ?_
    refine Ch.op rfl rfl (by decide) (ok_move rfl (vl rfl)) ?_
    first
      | refine Ch.op rfl rfl (by decide) (ok_lenm rfl Try.underlying22 ⟨_, rfl, andIs_le _ _⟩) ?_
      | refine Ch.op rfl rfl (by decide) (ok_len rfl Try.underlying22 ⟨_, rfl, andIs_le _ _⟩) ?_
    refine Ch.op rfl rfl (by decide) (ok_move rfl (vl rfl)) ?_
    first
      | (refine Ch.op rfl rfl (by decide) (ok_add rfl (vl rfl) (vl rfl) ?hin) ?_; case hin => unfold InI; omega)
      | refine Ch.op rfl rfl (by decide) (ok_int rfl (vl rfl) (vl rfl) rfl) ?_
    refine Ch.op rfl rfl (by decide) (ok_int rfl (vl rfl) (vl rfl) rfl) ?_
    refine Ch.nil ?_
    refine Fin.go ?_
    refine Tr.cond rfl (fun h2 => ?_) (fun h2 => ?_)
    ·
      have q2 := Nrm.nrm h2
      refine Tr.seq ?_
      refine Tr.reg0 ?_
      refine Ch.op rfl rfl (by decide) (ok_assign rfl (vl rfl)) ?_
      refine Ch.nil ?_
      refine Fin.go ?_
      refine Tr.block ?_
      refine Tr.loopV2 [(7, _), (8, _), (9, _), (13, _)] ⟨⟨_, rfl, Pr.le_refl _⟩, ⟨_, rfl, Pr.le_refl _⟩, ⟨_, rfl, Pr.le_refl _⟩, ⟨_, rfl, Pr.le_refl _⟩, trivial⟩ (fun m u3 u4 => [(14, int ((m : Nat) : Int)), (10, andIs u3 (ints (fullT k m))), (11, andIs u4 (ints (fullD2 d k m)))]) (fun m u3 u4 => Hp M0 w0 noS ([appRes 3 1 u4, appRes 3 1 u3])) (fun m : Nat => m ≤ (M)) (fun m : Nat => (M) - m) 0 u u2 (Nat.zero_le _) ⟨⟨_, rfl, Pr.le_refl _⟩, ⟨_, rfl, own_le (fullT_zero k)⟩, ⟨_, rfl, own_le (fullD_zero d k)⟩, trivial⟩ (fun _ _ h => h) ?_
      rintro m u3 u4 hle_m
      refine Tr.seq ?_
      refine Tr.seq ?_
      refine Tr.reg0 ?_
      refine Ch.op rfl rfl (by decide) (ok_move rfl (vl rfl)) ?_
      refine Ch.op rfl rfl (by decide) (ok_move rfl (vl rfl)) ?_
      refine Ch.op rfl rfl (by decide) (ok_int rfl (vl rfl) (vl rfl) rfl) ?_
      refine Ch.nil ?_
      refine Fin.go ?_
      refine Tr.cond rfl (fun h3 => ?_) (fun h3 => ?_)
      ·
        have q3 := Nrm.nrm h3
        have hk_m : m < (M) := lt_of_dec h3
        refine Tr.skip ?_
        refine Fin.go ?_
        refine Tr.seq ?_
        refine Tr.block ?_
        refine Tr.regT ?_
        refine TO.op rfl rfl (by decide) (ok_move rfl (vl rfl)) ?_
        refine TO.op rfl rfl (by decide) (ok_buildSlice (xs := [.const (.int .i64 (1))]) (rows := [[_]]) rfl rfl Try.underlying22 sz3 z3 rfl (by decide) ⟨⟨(by exact rfl), (VL.le (vl rfl) (one_cellsP _))⟩, trivial⟩ (by decide)) ?_
        refine TO.efs 1 rfl rfl (by decide) (ef_append rfl rfl (by decide) rfl Try.underlying22 sz3 by3 z3 rfl (by decide) ⟨_, rfl, andIs_le _ _⟩ ⟨_, rfl, full_le _ _⟩ (by simp [fullD, fullT, fullD2]; unfold maxLen; omega) (by simp [fullD, fullT, fullD2]; omega) (appR_is (by exact List.Mem.head _) ⟨_, rfl, andIs_is _ _⟩)) (fun v5 => ?_)
        refine TO.op rfl rfl (by decide) (ok_move rfl (vl rfl)) ?_
        refine TO.op rfl rfl (by decide) (ok_buildSlice (xs := [.const (.int .i64 (29))]) (rows := [[_]]) rfl rfl Try.underlying22 sz3 z3 rfl (by decide) ⟨⟨(by exact rfl), (VL.le (vl rfl) (one_cellsP _))⟩, trivial⟩ (by decide)) ?_
        refine TO.efs 0 rfl rfl (by decide) (ef_append rfl rfl (by decide) rfl Try.underlying22 sz3 by3 z3 rfl (by decide) ⟨_, rfl, andIs_le _ _⟩ ⟨_, rfl, full_le _ _⟩ (by simp [fullD, fullT, fullD2]; unfold maxLen; omega) (by simp [fullD, fullT, fullD2]; omega) (appR_is (by exact List.Mem.head _) ⟨_, rfl, andIs_is _ _⟩)) (fun v6 => ?_)
        refine TO.op rfl rfl (by decide) (ok_assign rfl (vl rfl)) ?_
        refine TO.op rfl rfl (by decide) (ok_assign rfl (vl rfl)) ?_
        refine TO.nil ?_
        refine Fin.block ?_
        refine Fin.go ?_
        refine Tr.weak [(7, _), (8, _), (9, _), (10, _), (11, _), (13, _), (14, _)] ⟨⟨_, rfl, Pr.le_refl _⟩, ⟨_, rfl, Pr.le_refl _⟩, ⟨_, rfl, Pr.le_refl _⟩, ⟨_, rfl, Pr.le_refl _⟩, ⟨_, rfl, Pr.le_refl _⟩, ⟨_, rfl, Pr.le_refl _⟩, ⟨_, rfl, Pr.le_refl _⟩, trivial⟩ ?_
        refine Tr.reg0 ?_
        refine Ch.op rfl rfl (by decide) (ok_move rfl (vl rfl)) ?_
        first
          | (refine Ch.op rfl rfl (by decide) (ok_add rfl (vl rfl) (vl rfl) ?hin) ?_; case hin => unfold InI; omega)
          | refine Ch.op rfl rfl (by decide) (ok_int rfl (vl rfl) (vl rfl) rfl) ?_
        refine Ch.op rfl rfl (by decide) (ok_assign rfl (vl rfl)) ?_
        refine Ch.nil ?_
        exact Fin.famV2 (m + 1) v5 v6 (⟨hk_m, by omega⟩) ⟨⟨_, rfl, int_succ m⟩, ⟨_, rfl, own_le (fullT_succ k m)⟩, ⟨_, rfl, own_le (fullD2_succ d k m)⟩, ⟨_, rfl, Pr.le_refl _⟩, ⟨_, rfl, Pr.le_refl _⟩, ⟨_, rfl, Pr.le_refl _⟩, ⟨_, rfl, Pr.le_refl _⟩, trivial⟩ (fun _ _ h => h)
      ·
        have q3 := Nrm.nrm h3
        have he_m : m = (M) := by have := ge_of_dec h3; omega
        have hm5 : m ≤ 5 := by omega
        have hnm : k + m ≤ 24 := by omega
        refine Tr.exit ?_
        refine Fin.then_exit ?_
        refine Fin.then_exit ?_
        refine Fin.block_here ?_
        refine Fin.go ?_
        refine Tr.seq ?_
        refine Tr.reg0 ?_
        refine Ch.op rfl rfl (by decide) (ok_loadA rfl agg27 sz27 (vl rfl) rfl rfl) ?_
        refine Ch.op rfl rfl (by decide) (ok_move rfl (vl rfl)) ?_
        refine Ch.op rfl rfl (by decide) (ok_move rfl (vl rfl)) ?_
        refine Ch.op rfl rfl (by decide) (ok_call rfl (w_Earliest (c := fullC k) (teams := fullT k m) (days := fullD2 d k m) (n := 0) (from_ := 11)) ⟨⟨_, rfl, Pr.le_refl _⟩, ⟨_, rfl, andIs_le _ _⟩, ⟨_, rfl, andIs_le _ _⟩, ⟨_, rfl, Pr.le_refl _⟩, ⟨_, rfl, Pr.le_refl _⟩, trivial⟩) ?_
        refine Ch.op rfl rfl (by decide) (ok_move rfl (vl rfl)) ?_
        refine Ch.op rfl rfl (by decide) (ok_extract rfl (vl rfl) rfl) ?_
        refine Ch.op rfl rfl (by decide) (ok_extract rfl (vl rfl) rfl) ?_
        refine Ch.op rfl rfl (by decide) (ok_extract rfl (vl rfl) rfl) ?_
        refine Ch.op rfl rfl (by decide) (ok_assign rfl (vl rfl)) ?_
        refine Ch.op rfl rfl (by decide) (ok_assign rfl (vl rfl)) ?_
        refine Ch.op rfl rfl (by decide) (ok_assign rfl (vl rfl)) ?_
        refine Ch.nil ?_
        refine Fin.go ?_
        refine Tr.weak [(7, _), (9, _), (10, _), (11, _), (13, _), (15, _), (16, _), (17, _)] ⟨⟨_, rfl, Pr.le_refl _⟩, ⟨_, rfl, Pr.le_refl _⟩, ⟨_, rfl, Pr.le_refl _⟩, ⟨_, rfl, Pr.le_refl _⟩, ⟨_, rfl, Pr.le_refl _⟩, ⟨_, rfl, Pr.le_refl _⟩, ⟨_, rfl, Pr.le_refl _⟩, ⟨_, rfl, Pr.le_refl _⟩, trivial⟩ ?_
        refine Tr.seq ?_
        refine Tr.reg0 ?_
        refine Ch.op rfl rfl (by decide) (ok_move rfl (vl rfl)) ?_
        refine Ch.op rfl rfl (by decide) (ok_int rfl (vl rfl) (vl rfl) rfl) ?_
        refine Ch.op rfl rfl (by decide) (ok_assign rfl (vl rfl)) ?_
        refine Ch.op rfl rfl (by decide) (ok_assign rfl (vl rfl)) ?_
        refine Ch.nil ?_
        refine Fin.go ?_
        refine Tr.seq ?_
        refine Tr.reg0 ?_
        refine Ch.op rfl rfl (by decide) (ok_loadA rfl agg27 sz27 (vl rfl) rfl rfl) ?_
        refine Ch.op rfl rfl (by decide) (ok_move rfl (vl rfl)) ?_
        refine Ch.op rfl rfl (by decide) (ok_move rfl (vl rfl)) ?_
        refine Ch.op rfl rfl (by decide) (ok_call rfl (w_Fits (c := fullC k) (teams := fullT k m) (days := fullD2 d k m)) ⟨⟨_, rfl, Pr.le_refl _⟩, ⟨_, rfl, andIs_le _ _⟩, ⟨_, rfl, andIs_le _ _⟩, trivial⟩) ?_
        refine Ch.op rfl rfl (by decide) (ok_int rfl (vl rfl) (vl rfl) rfl) ?_
        refine Ch.op rfl rfl (by decide) (ok_move rfl (vl rfl)) ?_
        refine Ch.cases 95 rfl (fun h4 => ?_) (fun h4 => ?_)
        ·
          have q4 := Nrm.nrm h4
          refine Ch.yes rfl rfl rfl h4 rfl (by decide) (ok_move rfl (vl rfl)) ?_
          refine Ch.yes rfl rfl rfl h4 rfl (by decide) (ok_int rfl (vl rfl) (vl rfl) rfl) ?_
          refine Ch.op rfl rfl (by decide) (ok_pick_t rfl (vl rfl) h4 (vl rfl)) ?_
          refine Ch.op rfl rfl (by decide) (ok_move rfl (vl rfl)) ?_
          refine Ch.cases 99 rfl (fun h5 => ?_) (fun h5 => ?_)
          ·
            have q5 := Nrm.nrm h5
            refine Ch.yes rfl rfl rfl h5 rfl (by decide) (ok_move rfl (vl rfl)) ?_
            refine Ch.yes rfl rfl rfl h5 rfl (by decide) (ok_int rfl (vl rfl) (vl rfl) rfl) ?_
            refine Ch.op rfl rfl (by decide) (ok_pick_t rfl (vl rfl) h5 (vl rfl)) ?_
            refine Ch.op rfl rfl (by decide) (ok_move rfl (vl rfl)) ?_
            refine Ch.cases 103 rfl (fun h6 => ?_) (fun h6 => ?_)
            ·
              have q6 := Nrm.nrm h6
              refine Ch.yes rfl rfl rfl h6 rfl (by decide) (ok_move rfl (vl rfl)) ?_
              refine Ch.yes rfl rfl rfl h6 rfl (by decide) (ok_move rfl (vl rfl)) ?_
              refine Ch.yes rfl rfl rfl h6 rfl (by decide) (ok_eqb rfl Try.underlying4 (vl rfl) (vl rfl)) ?_
              refine Ch.op rfl rfl (by decide) (ok_pick_t rfl (vl rfl) h6 (vl rfl)) ?_
              refine Ch.op rfl rfl (by decide) (ok_move rfl (vl rfl)) ?_
              refine Ch.cases 108 rfl (fun h7 => ?_) (fun h7 => ?_)
              ·
                have q7 := Nrm.nrm h7
                refine Ch.yes rfl rfl rfl h7 rfl (by decide) (ok_move rfl (vl rfl)) ?_
                refine Ch.yes rfl rfl rfl h7 rfl (by decide) (ok_not rfl (vl rfl)) ?_
                refine Ch.yes rfl rfl rfl h7 rfl (by decide) (ok_move rfl (vl rfl)) ?_
                refine Ch.cases 111 rfl (fun h8 => ?_) (fun h8 => ?_)
                ·
                  have q8 := Nrm.nrm h8
                  refine Ch.no rfl rfl rfl (ne_false h8) rfl (by decide) ?_
                  refine Ch.no rfl rfl rfl (ne_false h8) rfl (by decide) ?_
                  refine Ch.no rfl rfl rfl (ne_false h8) rfl (by decide) ?_
                  refine Ch.yes rfl rfl rfl h7 rfl (by decide) (ok_pick_t rfl (vl rfl) h8 (vl rfl)) ?_
                  refine Ch.op rfl rfl (by decide) (ok_pick_t rfl (vl rfl) h7 (vl rfl)) ?_
                  refine Ch.op rfl rfl (by decide) (ok_move rfl (vl rfl)) ?_
                  refine Ch.yes rfl rfl rfl rfl rfl (by decide) (ok_call rfl (w_awake) trivial) ?_
                  refine Ch.op rfl rfl (by decide) (ok_pick_t rfl (vl rfl) rfl (vl rfl)) ?_
                  refine Ch.op rfl rfl (by decide) (ok_assign rfl (vl rfl)) ?_
                  refine Ch.nil ?_
                  refine Fin.go ?_
                  refine Tr.weak [(6, _)] ⟨⟨_, rfl, Pr.le_refl _⟩, trivial⟩ ?_
                  refine Tr.ret ?_
                  refine Fin.ret1 rfl (OutW.bse _ _) rfl ?_
                  · first | exact Pr.le_refl _ | (refine int_eq ?_; simp_all; done) | (refine bool_eq ?_; simp_all; done) | (refine bool_eq ?_; simp_all; omega) | (refine int_eq ?_; omega)
                ·
                  have q8 := Nrm.nrm h8
                  have hpos : 0 < k := by rw [full_some hd.1 hN24 hm5 hnm] at q8; simpa using q8
                  refine Ch.yes rfl rfl rfl h8 rfl (by decide) (ok_move rfl (vl rfl)) ?_
                  refine Ch.yes rfl rfl rfl h8 rfl (by decide) (ok_move rfl (vl rfl)) ?_
                  refine Ch.yes rfl rfl rfl h8 rfl (by decide) (ok_int rfl (vl rfl) (vl rfl) rfl) ?_
                  refine Ch.yes rfl rfl rfl h7 rfl (by decide) (ok_pick_f rfl (vl rfl) h8 (vl rfl)) ?_
                  refine Ch.op rfl rfl (by decide) (ok_pick_t rfl (vl rfl) h7 (vl rfl)) ?_
                  refine Ch.op rfl rfl (by decide) (ok_move rfl (vl rfl)) ?_
                  refine Ch.cases 117 rfl (fun h9 => ?_) (fun h9 => ?_)
                  ·
                    have q9 := Nrm.nrm h9
                    refine Ch.yes rfl rfl rfl h9 rfl (by decide) (ok_call rfl (w_awake) trivial) ?_
                    refine Ch.op rfl rfl (by decide) (ok_pick_t rfl (vl rfl) h9 (vl rfl)) ?_
                    refine Ch.op rfl rfl (by decide) (ok_assign rfl (vl rfl)) ?_
                    refine Ch.nil ?_
                    refine Fin.go ?_
                    refine Tr.weak [(6, _)] ⟨⟨_, rfl, Pr.le_refl _⟩, trivial⟩ ?_
                    refine Tr.ret ?_
                    refine Fin.ret1 rfl (OutW.bse _ _) rfl ?_
                    · first | exact Pr.le_refl _ | (refine int_eq ?_; simp_all; done) | (refine bool_eq ?_; simp_all; done) | (refine bool_eq ?_; simp_all; omega) | (refine int_eq ?_; omega)
                  ·
                    have q9 := Nrm.nrm h9
                    exact absurd h9 (by rw [full_get hd.1 hN24 hm5 hnm, if_pos hpos]; decide)
              ·
                have q7 := Nrm.nrm h7
                exact absurd h7 (by rw [full_some hd.1 hN24 hm5 hnm]; simp)
            ·
              have q6 := Nrm.nrm h6
              exact absurd h6 (by rw [full_fits hd.1 hN24 hm5 hnm (by simp)]; decide)
          ·
            have q5 := Nrm.nrm h5
            exact absurd h5 (by decide)
        ·
          have q4 := Nrm.nrm h4
          exact absurd h4 (by rw [full_fits hd.1 hN24 hm5 hnm (by simp)]; decide)
    ·
      have q2 := Nrm.nrm h2
      obtain ⟨m, hm0⟩ : ∃ m : Nat, m = 0 := ⟨0, rfl⟩
      have hm5 : m ≤ 5 := by omega
      have hnm : k + m ≤ 24 := by omega
      refine Tr.re 10 rfl (own_le (rows' := (fullT k m).map fun n => [int n]) (by rw [hm0]; exact fullT_zero k)) ?_
      refine Tr.re 11 rfl (own_le (rows' := (fullD2 d k m).map fun n => [int n]) (by rw [hm0]; exact fullD_zero d k)) ?_
      refine Tr.skip ?_
      refine Fin.go ?_
      refine Tr.seq ?_
      refine Tr.reg0 ?_
      refine Ch.op rfl rfl (by decide) (ok_loadA rfl agg27 sz27 (vl rfl) rfl rfl) ?_
      refine Ch.op rfl rfl (by decide) (ok_move rfl (vl rfl)) ?_
      refine Ch.op rfl rfl (by decide) (ok_move rfl (vl rfl)) ?_
      refine Ch.op rfl rfl (by decide) (ok_call rfl (w_Earliest (c := fullC k) (teams := fullT k m) (days := fullD2 d k m) (n := 0) (from_ := 11)) ⟨⟨_, rfl, Pr.le_refl _⟩, ⟨_, rfl, andIs_le _ _⟩, ⟨_, rfl, andIs_le _ _⟩, ⟨_, rfl, Pr.le_refl _⟩, ⟨_, rfl, Pr.le_refl _⟩, trivial⟩) ?_
      refine Ch.op rfl rfl (by decide) (ok_move rfl (vl rfl)) ?_
      refine Ch.op rfl rfl (by decide) (ok_extract rfl (vl rfl) rfl) ?_
      refine Ch.op rfl rfl (by decide) (ok_extract rfl (vl rfl) rfl) ?_
      refine Ch.op rfl rfl (by decide) (ok_extract rfl (vl rfl) rfl) ?_
      refine Ch.op rfl rfl (by decide) (ok_assign rfl (vl rfl)) ?_
      refine Ch.op rfl rfl (by decide) (ok_assign rfl (vl rfl)) ?_
      refine Ch.op rfl rfl (by decide) (ok_assign rfl (vl rfl)) ?_
      refine Ch.nil ?_
      refine Fin.go ?_
      refine Tr.weak [(7, _), (9, _), (10, _), (11, _), (13, _), (15, _), (16, _), (17, _)] ⟨⟨_, rfl, Pr.le_refl _⟩, ⟨_, rfl, Pr.le_refl _⟩, ⟨_, rfl, Pr.le_refl _⟩, ⟨_, rfl, Pr.le_refl _⟩, ⟨_, rfl, Pr.le_refl _⟩, ⟨_, rfl, Pr.le_refl _⟩, ⟨_, rfl, Pr.le_refl _⟩, ⟨_, rfl, Pr.le_refl _⟩, trivial⟩ ?_
      refine Tr.seq ?_
      refine Tr.reg0 ?_
      refine Ch.op rfl rfl (by decide) (ok_move rfl (vl rfl)) ?_
      refine Ch.op rfl rfl (by decide) (ok_int rfl (vl rfl) (vl rfl) rfl) ?_
      refine Ch.op rfl rfl (by decide) (ok_assign rfl (vl rfl)) ?_
      refine Ch.op rfl rfl (by decide) (ok_assign rfl (vl rfl)) ?_
      refine Ch.nil ?_
      refine Fin.go ?_
      refine Tr.seq ?_
      refine Tr.reg0 ?_
      refine Ch.op rfl rfl (by decide) (ok_loadA rfl agg27 sz27 (vl rfl) rfl rfl) ?_
      refine Ch.op rfl rfl (by decide) (ok_move rfl (vl rfl)) ?_
      refine Ch.op rfl rfl (by decide) (ok_move rfl (vl rfl)) ?_
      refine Ch.op rfl rfl (by decide) (ok_call rfl (w_Fits (c := fullC k) (teams := fullT k m) (days := fullD2 d k m)) ⟨⟨_, rfl, Pr.le_refl _⟩, ⟨_, rfl, andIs_le _ _⟩, ⟨_, rfl, andIs_le _ _⟩, trivial⟩) ?_
      refine Ch.op rfl rfl (by decide) (ok_int rfl (vl rfl) (vl rfl) rfl) ?_
      refine Ch.op rfl rfl (by decide) (ok_move rfl (vl rfl)) ?_
      refine Ch.cases 95 rfl (fun h10 => ?_) (fun h10 => ?_)
      ·
        have q10 := Nrm.nrm h10
        refine Ch.yes rfl rfl rfl h10 rfl (by decide) (ok_move rfl (vl rfl)) ?_
        refine Ch.yes rfl rfl rfl h10 rfl (by decide) (ok_int rfl (vl rfl) (vl rfl) rfl) ?_
        refine Ch.op rfl rfl (by decide) (ok_pick_t rfl (vl rfl) h10 (vl rfl)) ?_
        refine Ch.op rfl rfl (by decide) (ok_move rfl (vl rfl)) ?_
        refine Ch.cases 99 rfl (fun h11 => ?_) (fun h11 => ?_)
        ·
          have q11 := Nrm.nrm h11
          refine Ch.yes rfl rfl rfl h11 rfl (by decide) (ok_move rfl (vl rfl)) ?_
          refine Ch.yes rfl rfl rfl h11 rfl (by decide) (ok_int rfl (vl rfl) (vl rfl) rfl) ?_
          refine Ch.op rfl rfl (by decide) (ok_pick_t rfl (vl rfl) h11 (vl rfl)) ?_
          refine Ch.op rfl rfl (by decide) (ok_move rfl (vl rfl)) ?_
          refine Ch.cases 103 rfl (fun h12 => ?_) (fun h12 => ?_)
          ·
            have q12 := Nrm.nrm h12
            refine Ch.yes rfl rfl rfl h12 rfl (by decide) (ok_move rfl (vl rfl)) ?_
            refine Ch.yes rfl rfl rfl h12 rfl (by decide) (ok_move rfl (vl rfl)) ?_
            refine Ch.yes rfl rfl rfl h12 rfl (by decide) (ok_eqb rfl Try.underlying4 (vl rfl) (vl rfl)) ?_
            refine Ch.op rfl rfl (by decide) (ok_pick_t rfl (vl rfl) h12 (vl rfl)) ?_
            refine Ch.op rfl rfl (by decide) (ok_move rfl (vl rfl)) ?_
            refine Ch.cases 108 rfl (fun h13 => ?_) (fun h13 => ?_)
            ·
              have q13 := Nrm.nrm h13
              refine Ch.yes rfl rfl rfl h13 rfl (by decide) (ok_move rfl (vl rfl)) ?_
              refine Ch.yes rfl rfl rfl h13 rfl (by decide) (ok_not rfl (vl rfl)) ?_
              refine Ch.yes rfl rfl rfl h13 rfl (by decide) (ok_move rfl (vl rfl)) ?_
              refine Ch.cases 111 rfl (fun h14 => ?_) (fun h14 => ?_)
              ·
                have q14 := Nrm.nrm h14
                refine Ch.no rfl rfl rfl (ne_false h14) rfl (by decide) ?_
                refine Ch.no rfl rfl rfl (ne_false h14) rfl (by decide) ?_
                refine Ch.no rfl rfl rfl (ne_false h14) rfl (by decide) ?_
                refine Ch.yes rfl rfl rfl h13 rfl (by decide) (ok_pick_t rfl (vl rfl) h14 (vl rfl)) ?_
                refine Ch.op rfl rfl (by decide) (ok_pick_t rfl (vl rfl) h13 (vl rfl)) ?_
                refine Ch.op rfl rfl (by decide) (ok_move rfl (vl rfl)) ?_
                refine Ch.yes rfl rfl rfl rfl rfl (by decide) (ok_call rfl (w_awake) trivial) ?_
                refine Ch.op rfl rfl (by decide) (ok_pick_t rfl (vl rfl) rfl (vl rfl)) ?_
                refine Ch.op rfl rfl (by decide) (ok_assign rfl (vl rfl)) ?_
                refine Ch.nil ?_
                refine Fin.go ?_
                refine Tr.weak [(6, _)] ⟨⟨_, rfl, Pr.le_refl _⟩, trivial⟩ ?_
                refine Tr.ret ?_
                refine Fin.ret1 rfl (OutW.bse _ _) rfl ?_
                · first | exact Pr.le_refl _ | (refine int_eq ?_; simp_all; done) | (refine bool_eq ?_; simp_all; done) | (refine bool_eq ?_; simp_all; omega) | (refine int_eq ?_; omega)
              ·
                have q14 := Nrm.nrm h14
                have hpos : 0 < k := by rw [full_some hd.1 hN24 hm5 hnm] at q14; simpa using q14
                refine Ch.yes rfl rfl rfl h14 rfl (by decide) (ok_move rfl (vl rfl)) ?_
                refine Ch.yes rfl rfl rfl h14 rfl (by decide) (ok_move rfl (vl rfl)) ?_
                refine Ch.yes rfl rfl rfl h14 rfl (by decide) (ok_int rfl (vl rfl) (vl rfl) rfl) ?_
                refine Ch.yes rfl rfl rfl h13 rfl (by decide) (ok_pick_f rfl (vl rfl) h14 (vl rfl)) ?_
                refine Ch.op rfl rfl (by decide) (ok_pick_t rfl (vl rfl) h13 (vl rfl)) ?_
                refine Ch.op rfl rfl (by decide) (ok_move rfl (vl rfl)) ?_
                refine Ch.cases 117 rfl (fun h15 => ?_) (fun h15 => ?_)
                ·
                  have q15 := Nrm.nrm h15
                  refine Ch.yes rfl rfl rfl h15 rfl (by decide) (ok_call rfl (w_awake) trivial) ?_
                  refine Ch.op rfl rfl (by decide) (ok_pick_t rfl (vl rfl) h15 (vl rfl)) ?_
                  refine Ch.op rfl rfl (by decide) (ok_assign rfl (vl rfl)) ?_
                  refine Ch.nil ?_
                  refine Fin.go ?_
                  refine Tr.weak [(6, _)] ⟨⟨_, rfl, Pr.le_refl _⟩, trivial⟩ ?_
                  refine Tr.ret ?_
                  refine Fin.ret1 rfl (OutW.bse _ _) rfl ?_
                  · first | exact Pr.le_refl _ | (refine int_eq ?_; simp_all; done) | (refine bool_eq ?_; simp_all; done) | (refine bool_eq ?_; simp_all; omega) | (refine int_eq ?_; omega)
                ·
                  have q15 := Nrm.nrm h15
                  exact absurd h15 (by rw [full_get hd.1 hN24 hm5 hnm, if_pos hpos]; decide)
            ·
              have q13 := Nrm.nrm h13
              exact absurd h13 (by rw [full_some hd.1 hN24 hm5 hnm]; simp)
          ·
            have q12 := Nrm.nrm h12
            exact absurd h12 (by rw [full_fits hd.1 hN24 hm5 hnm (by simp)]; decide)
        ·
          have q11 := Nrm.nrm h11
          exact absurd h11 (by decide)
      ·
        have q10 := Nrm.nrm h10
        exact absurd h10 (by rw [full_fits hd.1 hN24 hm5 hnm (by simp)]; decide)
theorem e_WindowFull : Entry Try.prog 5 := ⟨_, Try.func5, rfl, rfl⟩
end Go.Proofs.Ytacifhfelijekaa
