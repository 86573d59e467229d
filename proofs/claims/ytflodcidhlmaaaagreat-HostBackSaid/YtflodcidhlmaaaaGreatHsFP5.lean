/-
  The law of going back.
-/
import Derived.Test.YtflodcidhlmaaaaGreatRows
import Derived.Test.YtflodcidhlmaaaaGreatHsFP4
set_option linter.all false
set_option maxRecDepth 40000
set_option maxHeartbeats 16000000
namespace Go.Proofs.YtflodcidhlmaaaaGreat
open Go Go.RowKit Cp

def letN (n : Nat) : Bool := decide ((97 ≤ n ∧ n ≤ 122) ∨ (65 ≤ n ∧ n ≤ 90) ∨ (48 ≤ n ∧ n ≤ 57) ∨ n = 45 ∨ n = 95 ∨ n = 46)
theorem letter_all : ∀ n ∈ List.range 256, letterB [45, 95, 46] (UInt8.ofNat n) = letN n := by decide +kernel
theorem letter_eq (c : UInt8) : letterB [45, 95, 46] c = letN c.toNat := by
  have h := letter_all c.toNat (List.mem_range.2 c.toNat_lt)
  rw [UInt8.ofNat_toNat] at h; exact h

theorem w_R6Word {s : List UInt8}  : Fun Tryz.prog 65 [str s] (bool (wordB s)) := by
 refine fo Tryz.func65 rfl ⟨rfl, rfl⟩ fun M0 w0 => ?_
 refine ac ?_
 refine ac ?_
 refine Ch.cs 8 rfl ?_ ?_ <;> intro h1 q1
 refine ac ?_
 refine ac ?_
 refine ac ?_
 · refine bool_eq ?_; unfold wordB; rw [Bool.and_eq_false_iff.2 (.inr (by simp; omega))]
 refine ac ?_
 refine Tr.cn rfl ?_ ?_ <;> intro h2 q2
 refine ac ?_
 refine ac ?_
 · refine bool_eq ?_; unfold wordB; rw [Bool.and_eq_false_iff.2 (.inr (by simp; omega))]
 refine ac ?_
 refine ac ?_
 refine Tr.block (Tr.loopw [(0, _)] ⟨ke rfl, trivial⟩ (fun k : Nat => [(3, int ((k : Nat) : Int))]) (fun k : Nat => k ≤ (s).length ∧ (∀ j y, j < k → s[j]? = some y → (!letterB [45, 95, 46] y) = false)) (fun k : Nat => (s).length - k) 0 (⟨Nat.zero_le _, fun j y hj => absurd hj (by omega)⟩) ⟨ke rfl, trivial⟩ ?_)
 rintro k ⟨hle_k, hinv_k⟩
 refine ac ?_
 refine Tr.cn rfl ?_ ?_ <;> intro h3 q3
 have hk_k : k < (s).length := lt_of_dec h3
 obtain ⟨c, hx_k⟩ := at_ hk_k
 refine ac ?_
 refine ac ?_
 refine co rfl (ok_sidx rfl Tryz.underlying9 (vl rfl) (vl rfl) (by omega) (sidx_at (by assumption))) ?_
 refine ac ?_
 refine ac ?_
 refine Ch.cs 24 rfl ?_ ?_ <;> intro h4 q4
 refine ac ?_
 refine Ch.cs 31 rfl ?_ ?_ <;> intro h5 q5
 refine ac ?_
 refine Ch.cs 39 rfl ?_ ?_ <;> intro h6 q6
 refine ac ?_
 refine Ch.cs 48 rfl ?_ ?_ <;> intro h7 q7
 refine ac ?_
 refine Ch.cs 52 rfl ?_ ?_ <;> intro h8 q8
 refine ac ?_
 refine wk3 0 3 55 rfl ?_
 refine Tr.cn rfl ?_ ?_ <;> intro h9 q9
 refine ac ?_
 refine ac ?_
 · refine bool_eq ?_; unfold wordB; rw [all_hit (p := letterB [45, 95, 46]) hx_k (by rw [letter_eq]; unfold letN; simp; omega)]; rfl
 refine ac ?_
 refine ac ?_
 exact Fin.fam_same (k + 1) ⟨⟨hk_k, step_no (p := fun c => !letterB [45, 95, 46] c) hx_k (by rw [letter_eq]; unfold letN; simp; omega) hinv_k⟩, by omega⟩ ⟨⟨_, rfl, int_succ k⟩, ke rfl, trivial⟩
 refine ac ?_
 refine wk3 0 3 55 rfl ?_
 refine ac ?_
 refine ac ?_
 exact Fin.fam_same (k + 1) ⟨⟨hk_k, step_no (p := fun c => !letterB [45, 95, 46] c) hx_k (by rw [letter_eq]; unfold letN; simp; omega) hinv_k⟩, by omega⟩ ⟨⟨_, rfl, int_succ k⟩, ke rfl, trivial⟩
 refine ac ?_
 refine wk3 0 3 55 rfl ?_
 refine ac ?_
 refine ac ?_
 exact Fin.fam_same (k + 1) ⟨⟨hk_k, step_no (p := fun c => !letterB [45, 95, 46] c) hx_k (by rw [letter_eq]; unfold letN; simp; omega) hinv_k⟩, by omega⟩ ⟨⟨_, rfl, int_succ k⟩, ke rfl, trivial⟩
 refine ac ?_
 refine Ch.cs 44 rfl ?_ ?_ <;> intro h10 q10
 refine ac ?_
 refine Ch.cs 48 rfl ?_ ?_ <;> intro h11 q11
 refine ac ?_
 refine Ch.cs 52 rfl ?_ ?_ <;> intro h12 q12
 refine ac ?_
 refine wk3 0 3 55 rfl ?_
 refine Tr.cn rfl ?_ ?_ <;> intro h13 q13
 refine ac ?_
 refine ac ?_
 · refine bool_eq ?_; unfold wordB; rw [all_hit (p := letterB [45, 95, 46]) hx_k (by rw [letter_eq]; unfold letN; simp; omega)]; rfl
 refine ac ?_
 refine ac ?_
 exact Fin.fam_same (k + 1) ⟨⟨hk_k, step_no (p := fun c => !letterB [45, 95, 46] c) hx_k (by rw [letter_eq]; unfold letN; simp; omega) hinv_k⟩, by omega⟩ ⟨⟨_, rfl, int_succ k⟩, ke rfl, trivial⟩
 refine ac ?_
 refine wk3 0 3 55 rfl ?_
 refine ac ?_
 refine ac ?_
 exact Fin.fam_same (k + 1) ⟨⟨hk_k, step_no (p := fun c => !letterB [45, 95, 46] c) hx_k (by rw [letter_eq]; unfold letN; simp; omega) hinv_k⟩, by omega⟩ ⟨⟨_, rfl, int_succ k⟩, ke rfl, trivial⟩
 refine ac ?_
 refine wk3 0 3 55 rfl ?_
 refine ac ?_
 refine ac ?_
 exact Fin.fam_same (k + 1) ⟨⟨hk_k, step_no (p := fun c => !letterB [45, 95, 46] c) hx_k (by rw [letter_eq]; unfold letN; simp; omega) hinv_k⟩, by omega⟩ ⟨⟨_, rfl, int_succ k⟩, ke rfl, trivial⟩
 refine ac ?_
 refine wk3 0 3 55 rfl ?_
 refine ac ?_
 refine ac ?_
 exact Fin.fam_same (k + 1) ⟨⟨hk_k, step_no (p := fun c => !letterB [45, 95, 46] c) hx_k (by rw [letter_eq]; unfold letN; simp; omega) hinv_k⟩, by omega⟩ ⟨⟨_, rfl, int_succ k⟩, ke rfl, trivial⟩
 refine ac ?_
 refine Ch.cs 36 rfl ?_ ?_ <;> intro h14 q14
 refine ac ?_
 refine Ch.cs 39 rfl ?_ ?_ <;> intro h15 q15
 refine ac ?_
 refine Ch.cs 48 rfl ?_ ?_ <;> intro h16 q16
 refine ac ?_
 refine Ch.cs 52 rfl ?_ ?_ <;> intro h17 q17
 refine ac ?_
 refine wk3 0 3 55 rfl ?_
 refine Tr.cn rfl ?_ ?_ <;> intro h18 q18
 refine ac ?_
 refine ac ?_
 · refine bool_eq ?_; unfold wordB; rw [all_hit (p := letterB [45, 95, 46]) hx_k (by rw [letter_eq]; unfold letN; simp; omega)]; rfl
 refine ac ?_
 refine ac ?_
 exact Fin.fam_same (k + 1) ⟨⟨hk_k, step_no (p := fun c => !letterB [45, 95, 46] c) hx_k (by rw [letter_eq]; unfold letN; simp; omega) hinv_k⟩, by omega⟩ ⟨⟨_, rfl, int_succ k⟩, ke rfl, trivial⟩
 refine ac ?_
 refine wk3 0 3 55 rfl ?_
 refine ac ?_
 refine ac ?_
 exact Fin.fam_same (k + 1) ⟨⟨hk_k, step_no (p := fun c => !letterB [45, 95, 46] c) hx_k (by rw [letter_eq]; unfold letN; simp; omega) hinv_k⟩, by omega⟩ ⟨⟨_, rfl, int_succ k⟩, ke rfl, trivial⟩
 refine ac ?_
 refine wk3 0 3 55 rfl ?_
 refine ac ?_
 refine ac ?_
 exact Fin.fam_same (k + 1) ⟨⟨hk_k, step_no (p := fun c => !letterB [45, 95, 46] c) hx_k (by rw [letter_eq]; unfold letN; simp; omega) hinv_k⟩, by omega⟩ ⟨⟨_, rfl, int_succ k⟩, ke rfl, trivial⟩
 refine ac ?_
 refine Ch.cs 44 rfl ?_ ?_ <;> intro h19 q19
 refine ac ?_
 refine Ch.cs 48 rfl ?_ ?_ <;> intro h20 q20
 refine ac ?_
 refine Ch.cs 52 rfl ?_ ?_ <;> intro h21 q21
 refine ac ?_
 refine wk3 0 3 55 rfl ?_
 refine Tr.cn rfl ?_ ?_ <;> intro h22 q22
 refine ac ?_
 refine ac ?_
 · refine bool_eq ?_; unfold wordB; rw [all_hit (p := letterB [45, 95, 46]) hx_k (by rw [letter_eq]; unfold letN; simp; omega)]; rfl
 refine ac ?_
 refine ac ?_
 exact Fin.fam_same (k + 1) ⟨⟨hk_k, step_no (p := fun c => !letterB [45, 95, 46] c) hx_k (by rw [letter_eq]; unfold letN; simp; omega) hinv_k⟩, by omega⟩ ⟨⟨_, rfl, int_succ k⟩, ke rfl, trivial⟩
 refine ac ?_
 refine wk3 0 3 55 rfl ?_
 refine ac ?_
 refine ac ?_
 exact Fin.fam_same (k + 1) ⟨⟨hk_k, step_no (p := fun c => !letterB [45, 95, 46] c) hx_k (by rw [letter_eq]; unfold letN; simp; omega) hinv_k⟩, by omega⟩ ⟨⟨_, rfl, int_succ k⟩, ke rfl, trivial⟩
 refine ac ?_
 refine wk3 0 3 55 rfl ?_
 refine ac ?_
 refine ac ?_
 exact Fin.fam_same (k + 1) ⟨⟨hk_k, step_no (p := fun c => !letterB [45, 95, 46] c) hx_k (by rw [letter_eq]; unfold letN; simp; omega) hinv_k⟩, by omega⟩ ⟨⟨_, rfl, int_succ k⟩, ke rfl, trivial⟩
 refine ac ?_
 refine wk3 0 3 55 rfl ?_
 refine ac ?_
 refine ac ?_
 exact Fin.fam_same (k + 1) ⟨⟨hk_k, step_no (p := fun c => !letterB [45, 95, 46] c) hx_k (by rw [letter_eq]; unfold letN; simp; omega) hinv_k⟩, by omega⟩ ⟨⟨_, rfl, int_succ k⟩, ke rfl, trivial⟩
 refine ac ?_
 refine wk3 0 3 55 rfl ?_
 refine ac ?_
 refine ac ?_
 exact Fin.fam_same (k + 1) ⟨⟨hk_k, step_no (p := fun c => !letterB [45, 95, 46] c) hx_k (by rw [letter_eq]; unfold letN; simp; omega) hinv_k⟩, by omega⟩ ⟨⟨_, rfl, int_succ k⟩, ke rfl, trivial⟩
 refine ac ?_
 refine Ch.cs 28 rfl ?_ ?_ <;> intro h23 q23
 refine ac ?_
 refine Ch.cs 31 rfl ?_ ?_ <;> intro h24 q24
 refine ac ?_
 refine Ch.cs 39 rfl ?_ ?_ <;> intro h25 q25
 refine ac ?_
 refine Ch.cs 48 rfl ?_ ?_ <;> intro h26 q26
 refine ac ?_
 refine Ch.cs 52 rfl ?_ ?_ <;> intro h27 q27
 refine ac ?_
 refine wk3 0 3 55 rfl ?_
 refine Tr.cn rfl ?_ ?_ <;> intro h28 q28
 refine ac ?_
 refine ac ?_
 · refine bool_eq ?_; unfold wordB; rw [all_hit (p := letterB [45, 95, 46]) hx_k (by rw [letter_eq]; unfold letN; simp; omega)]; rfl
 refine ac ?_
 refine ac ?_
 exact Fin.fam_same (k + 1) ⟨⟨hk_k, step_no (p := fun c => !letterB [45, 95, 46] c) hx_k (by rw [letter_eq]; unfold letN; simp; omega) hinv_k⟩, by omega⟩ ⟨⟨_, rfl, int_succ k⟩, ke rfl, trivial⟩
 refine ac ?_
 refine wk3 0 3 55 rfl ?_
 refine ac ?_
 refine ac ?_
 exact Fin.fam_same (k + 1) ⟨⟨hk_k, step_no (p := fun c => !letterB [45, 95, 46] c) hx_k (by rw [letter_eq]; unfold letN; simp; omega) hinv_k⟩, by omega⟩ ⟨⟨_, rfl, int_succ k⟩, ke rfl, trivial⟩
 refine ac ?_
 refine wk3 0 3 55 rfl ?_
 refine ac ?_
 refine ac ?_
 exact Fin.fam_same (k + 1) ⟨⟨hk_k, step_no (p := fun c => !letterB [45, 95, 46] c) hx_k (by rw [letter_eq]; unfold letN; simp; omega) hinv_k⟩, by omega⟩ ⟨⟨_, rfl, int_succ k⟩, ke rfl, trivial⟩
 refine ac ?_
 refine Ch.cs 44 rfl ?_ ?_ <;> intro h29 q29
 refine ac ?_
 refine Ch.cs 48 rfl ?_ ?_ <;> intro h30 q30
 refine ac ?_
 refine Ch.cs 52 rfl ?_ ?_ <;> intro h31 q31
 refine ac ?_
 refine wk3 0 3 55 rfl ?_
 refine Tr.cn rfl ?_ ?_ <;> intro h32 q32
 refine ac ?_
 refine ac ?_
 · refine bool_eq ?_; unfold wordB; rw [all_hit (p := letterB [45, 95, 46]) hx_k (by rw [letter_eq]; unfold letN; simp; omega)]; rfl
 refine ac ?_
 refine ac ?_
 exact Fin.fam_same (k + 1) ⟨⟨hk_k, step_no (p := fun c => !letterB [45, 95, 46] c) hx_k (by rw [letter_eq]; unfold letN; simp; omega) hinv_k⟩, by omega⟩ ⟨⟨_, rfl, int_succ k⟩, ke rfl, trivial⟩
 refine ac ?_
 refine wk3 0 3 55 rfl ?_
 refine ac ?_
 refine ac ?_
 exact Fin.fam_same (k + 1) ⟨⟨hk_k, step_no (p := fun c => !letterB [45, 95, 46] c) hx_k (by rw [letter_eq]; unfold letN; simp; omega) hinv_k⟩, by omega⟩ ⟨⟨_, rfl, int_succ k⟩, ke rfl, trivial⟩
 refine ac ?_
 refine wk3 0 3 55 rfl ?_
 refine ac ?_
 refine ac ?_
 exact Fin.fam_same (k + 1) ⟨⟨hk_k, step_no (p := fun c => !letterB [45, 95, 46] c) hx_k (by rw [letter_eq]; unfold letN; simp; omega) hinv_k⟩, by omega⟩ ⟨⟨_, rfl, int_succ k⟩, ke rfl, trivial⟩
 refine ac ?_
 refine wk3 0 3 55 rfl ?_
 refine ac ?_
 refine ac ?_
 exact Fin.fam_same (k + 1) ⟨⟨hk_k, step_no (p := fun c => !letterB [45, 95, 46] c) hx_k (by rw [letter_eq]; unfold letN; simp; omega) hinv_k⟩, by omega⟩ ⟨⟨_, rfl, int_succ k⟩, ke rfl, trivial⟩
 refine ac ?_
 refine Ch.cs 36 rfl ?_ ?_ <;> intro h33 q33
 refine ac ?_
 refine Ch.cs 39 rfl ?_ ?_ <;> intro h34 q34
 refine ac ?_
 refine Ch.cs 48 rfl ?_ ?_ <;> intro h35 q35
 refine ac ?_
 refine Ch.cs 52 rfl ?_ ?_ <;> intro h36 q36
 refine ac ?_
 refine wk3 0 3 55 rfl ?_
 refine Tr.cn rfl ?_ ?_ <;> intro h37 q37
 refine ac ?_
 refine ac ?_
 · refine bool_eq ?_; unfold wordB; rw [all_hit (p := letterB [45, 95, 46]) hx_k (by rw [letter_eq]; unfold letN; simp; omega)]; rfl
 refine ac ?_
 refine ac ?_
 exact Fin.fam_same (k + 1) ⟨⟨hk_k, step_no (p := fun c => !letterB [45, 95, 46] c) hx_k (by rw [letter_eq]; unfold letN; simp; omega) hinv_k⟩, by omega⟩ ⟨⟨_, rfl, int_succ k⟩, ke rfl, trivial⟩
 refine ac ?_
 refine wk3 0 3 55 rfl ?_
 refine ac ?_
 refine ac ?_
 exact Fin.fam_same (k + 1) ⟨⟨hk_k, step_no (p := fun c => !letterB [45, 95, 46] c) hx_k (by rw [letter_eq]; unfold letN; simp; omega) hinv_k⟩, by omega⟩ ⟨⟨_, rfl, int_succ k⟩, ke rfl, trivial⟩
 refine ac ?_
 refine wk3 0 3 55 rfl ?_
 refine ac ?_
 refine ac ?_
 exact Fin.fam_same (k + 1) ⟨⟨hk_k, step_no (p := fun c => !letterB [45, 95, 46] c) hx_k (by rw [letter_eq]; unfold letN; simp; omega) hinv_k⟩, by omega⟩ ⟨⟨_, rfl, int_succ k⟩, ke rfl, trivial⟩
 refine ac ?_
 refine Ch.cs 44 rfl ?_ ?_ <;> intro h38 q38
 refine ac ?_
 refine Ch.cs 48 rfl ?_ ?_ <;> intro h39 q39
 refine ac ?_
 refine Ch.cs 52 rfl ?_ ?_ <;> intro h40 q40
 refine ac ?_
 refine wk3 0 3 55 rfl ?_
 refine Tr.cn rfl ?_ ?_ <;> intro h41 q41
 refine ac ?_
 refine ac ?_
 · refine bool_eq ?_; unfold wordB; rw [all_hit (p := letterB [45, 95, 46]) hx_k (by rw [letter_eq]; unfold letN; simp; omega)]; rfl
 refine ac ?_
 refine ac ?_
 exact Fin.fam_same (k + 1) ⟨⟨hk_k, step_no (p := fun c => !letterB [45, 95, 46] c) hx_k (by rw [letter_eq]; unfold letN; simp; omega) hinv_k⟩, by omega⟩ ⟨⟨_, rfl, int_succ k⟩, ke rfl, trivial⟩
 refine ac ?_
 refine wk3 0 3 55 rfl ?_
 refine ac ?_
 refine ac ?_
 exact Fin.fam_same (k + 1) ⟨⟨hk_k, step_no (p := fun c => !letterB [45, 95, 46] c) hx_k (by rw [letter_eq]; unfold letN; simp; omega) hinv_k⟩, by omega⟩ ⟨⟨_, rfl, int_succ k⟩, ke rfl, trivial⟩
 refine ac ?_
 refine wk3 0 3 55 rfl ?_
 refine ac ?_
 refine ac ?_
 exact Fin.fam_same (k + 1) ⟨⟨hk_k, step_no (p := fun c => !letterB [45, 95, 46] c) hx_k (by rw [letter_eq]; unfold letN; simp; omega) hinv_k⟩, by omega⟩ ⟨⟨_, rfl, int_succ k⟩, ke rfl, trivial⟩
 refine ac ?_
 refine wk3 0 3 55 rfl ?_
 refine ac ?_
 refine ac ?_
 exact Fin.fam_same (k + 1) ⟨⟨hk_k, step_no (p := fun c => !letterB [45, 95, 46] c) hx_k (by rw [letter_eq]; unfold letN; simp; omega) hinv_k⟩, by omega⟩ ⟨⟨_, rfl, int_succ k⟩, ke rfl, trivial⟩
 refine ac ?_
 refine wk3 0 3 55 rfl ?_
 refine ac ?_
 refine ac ?_
 exact Fin.fam_same (k + 1) ⟨⟨hk_k, step_no (p := fun c => !letterB [45, 95, 46] c) hx_k (by rw [letter_eq]; unfold letN; simp; omega) hinv_k⟩, by omega⟩ ⟨⟨_, rfl, int_succ k⟩, ke rfl, trivial⟩
 refine ac ?_
 refine wk3 0 3 55 rfl ?_
 refine ac ?_
 refine ac ?_
 exact Fin.fam_same (k + 1) ⟨⟨hk_k, step_no (p := fun c => !letterB [45, 95, 46] c) hx_k (by rw [letter_eq]; unfold letN; simp; omega) hinv_k⟩, by omega⟩ ⟨⟨_, rfl, int_succ k⟩, ke rfl, trivial⟩
 have he_k : k = (s).length := by have := ge_of_dec h3; omega
 subst he_k
 refine ac ?_
 refine ac ?_
 refine ac ?_
 · refine bool_eq ?_; unfold wordB; rw [all_end hinv_k, Bool.true_and]; symm; rw [decide_eq_true_eq]; omega
theorem w_R2use {a b : Int}  : Fun Tryz.prog 153 [int a, int b] (agg [int a, int b]) := by
 refine fo Tryz.func153 rfl ⟨rfl, rfl⟩ fun M0 w0 => (Tr.seq (Tr.regT ?_))
 refine TO.alloc rfl rfl (by decide) rfl z44 zo44 (fun b1 => ?_)
 refine ap ?_
 refine ap ?_
 refine Tr.ret (Fin.retX1 rfl (RVal.cell 0 rfl rfl agg44 sz44 rfl (Pr.le_refl _)) ?_)
 · exact Pr.le_refl _
theorem w_R2suite {a l m x1 y1 x2 y2 x3 y3 x4 y4 : Int} {s : List UInt8}  : Fun Tryz.prog 154 [int a, str s, agg [int x1, int y1], agg [int x2, int y2], agg [int x3, int y3], agg [int x4, int y4], int l, int m] (agg anyRow) := by
 refine Fun.of Tryz.func154 rfl rfl (by exact Nat.le_of_ble_eq_true rfl) fun M0 w0 => ?_
 refine Tr.seq (Tr.regT ?_)
 iterate 4 refine tp rfl (ok_box rfl (VL.le (vl rfl) (agg_cellsP _))) ?_
 refine TO.alloc rfl rfl (by decide) rfl z106 zo106 (fun b1 => ?_)
 refine TO.nil (Fin.go (Tr.seq (Tr.regT (tm rfl (tm rfl ?_)))))
 iterate 4 refine tp rfl (ok_loadA rfl agg44 sz44 (vl rfl) rfl rfl) ?_
 refine tm rfl (tm rfl (tp rfl (ok_build (rows := [(0, [_]), (1, [_]), (2, _), (3, _), (4, _), (5, _), (6, [_]), (7, [_])]) rfl bl106 zo106 ⟨⟨rfl, (VL.le (vl rfl) (one_cellsP _))⟩, ⟨⟨rfl, (VL.le (vl rfl) (one_cellsP _))⟩, ⟨⟨rfl, (VL.le (vl rfl) (agg_cellsP _))⟩, ⟨⟨rfl, (VL.le (vl rfl) (agg_cellsP _))⟩, ⟨⟨rfl, (VL.le (vl rfl) (agg_cellsP _))⟩, ⟨⟨rfl, (VL.le (vl rfl) (agg_cellsP _))⟩, ⟨⟨rfl, (VL.le (vl rfl) (one_cellsP _))⟩, ⟨⟨rfl, (VL.le (vl rfl) (one_cellsP _))⟩, trivial⟩⟩⟩⟩⟩⟩⟩⟩ rfl) (TO.re 25 (agg anyRow) rfl (agg_any rfl) (TO.store_all 0 rfl rfl rfl (vl rfl) (VL.le (vl rfl) (agg_cellsP _)) rfl sz106 rfl rfl (TO.nil (Fin.go (wk1 16 rfl (Tr.ret (Fin.retX1 rfl (RVal.cell 0 rfl rfl agg106 sz106 rfl (Pr.le_refl _)) ?_)))))))))
 · exact Pr.le_refl _
theorem w_R2Suites   : Fun Tryz.prog 110 [] (slice 12 anyRows) := by
 refine fo Tryz.func110 rfl ⟨rfl, rfl⟩ fun M0 w0 => ?_
 refine ac ?_
 refine Tr.seq (Tr.regT (tp rfl (kc2 (w_R2use) rfl rfl rfl) (tp rfl (kc2 (w_R2use) rfl rfl rfl) (tp rfl (ok_build (rows := []) rfl bl44 zo44 trivial rfl) ?_))))
 refine TO.alloc rfl rfl (by decide) rfl z44 zo44 (fun b1 => ?_)
 refine TO.alloc rfl rfl (by decide) rfl z44 zo44 (fun b2 => ?_)
 refine TO.alloc rfl rfl (by decide) rfl z44 zo44 (fun b3 => ?_)
 refine sf 2 1 ⟨rfl, rfl, rfl⟩ rfl rfl rfl rfl ?_
 refine sf 1 2 ⟨rfl, rfl, rfl⟩ rfl rfl rfl rfl ?_
 refine sf 0 3 ⟨rfl, rfl, rfl⟩ rfl rfl rfl rfl ?_
 refine ao ?_
 refine Tr.seq (Tr.regT (tp rfl (kc2 (w_R2use) rfl rfl rfl) (tp rfl (kc2 (w_R2use) rfl rfl rfl) ?_)))
 refine TO.alloc rfl rfl (by decide) rfl z44 zo44 (fun b4 => ?_)
 refine TO.alloc rfl rfl (by decide) rfl z44 zo44 (fun b5 => ?_)
 refine sf 1 4 ⟨rfl, rfl, rfl⟩ rfl rfl rfl rfl ?_
 refine sf 0 5 ⟨rfl, rfl, rfl⟩ rfl rfl rfl rfl ?_
 refine ao ?_
 refine wk5 1 2 3 4 5 rfl (Tr.seq (Tr.regT (tp rfl (kc2 (w_R2use) rfl rfl rfl) (tp rfl (kc2 (w_R2use) rfl rfl rfl) (tp rfl (kc2 (w_R2use) rfl rfl rfl) ?_)))))
 refine TO.alloc rfl rfl (by decide) rfl z44 zo44 (fun b6 => ?_)
 refine TO.alloc rfl rfl (by decide) rfl z44 zo44 (fun b7 => ?_)
 refine TO.alloc rfl rfl (by decide) rfl z44 zo44 (fun b8 => ?_)
 refine sf 2 6 ⟨rfl, rfl, rfl⟩ rfl rfl rfl rfl ?_
 refine sf 1 7 ⟨rfl, rfl, rfl⟩ rfl rfl rfl rfl ?_
 refine sf 0 8 ⟨rfl, rfl, rfl⟩ rfl rfl rfl rfl ?_
 refine ao ?_
 refine wk8 1 2 3 4 5 6 7 8 rfl (Tr.seq (Tr.regT ?_))
 iterate 4 refine tp rfl (kc2 (w_R2use) rfl rfl rfl) ?_
 refine TO.alloc rfl rfl (by decide) rfl z44 zo44 (fun b9 => ?_)
 refine TO.alloc rfl rfl (by decide) rfl z44 zo44 (fun b10 => ?_)
 refine TO.alloc rfl rfl (by decide) rfl z44 zo44 (fun b11 => ?_)
 refine TO.alloc rfl rfl (by decide) rfl z44 zo44 (fun b12 => ?_)
 refine sf 3 9 ⟨rfl, rfl, rfl⟩ rfl rfl rfl rfl ?_
 refine sf 2 10 ⟨rfl, rfl, rfl⟩ rfl rfl rfl rfl ?_
 refine sf 1 11 ⟨rfl, rfl, rfl⟩ rfl rfl rfl rfl ?_
 refine sf 0 12 ⟨rfl, rfl, rfl⟩ rfl rfl rfl rfl ?_
 refine ao ?_
 refine wk12 1 2 3 4 5 6 7 8 9 10 11 12 rfl (Tr.seq (Tr.regT (tp rfl (kc2 (w_R2use) rfl rfl rfl) (tp rfl (kc2 (w_R2use) rfl rfl rfl) ?_))))
 refine TO.alloc rfl rfl (by decide) rfl z44 zo44 (fun b13 => ?_)
 refine TO.alloc rfl rfl (by decide) rfl z44 zo44 (fun b14 => ?_)
 refine sf 1 13 ⟨rfl, rfl, rfl⟩ rfl rfl rfl rfl ?_
 refine sf 0 14 ⟨rfl, rfl, rfl⟩ rfl rfl rfl rfl ?_
 refine ao ?_
 refine wk14 1 2 3 4 5 6 7 8 9 10 11 12 13 14 rfl ?_
 refine ac ?_
 refine co rfl (ok_call rfl (w_R2suite) ⟨ke rfl, ke rfl, ke rfl, ke rfl, ke rfl, ke rfl, ke rfl, ke rfl, trivial⟩) ?_
 refine ac ?_
 refine co rfl (ok_call rfl (w_R2suite) ⟨ke rfl, ke rfl, ke rfl, ke rfl, ke rfl, ke rfl, ke rfl, ke rfl, trivial⟩) ?_
 refine ac ?_
 refine co rfl (ok_call rfl (w_R2suite) ⟨ke rfl, ke rfl, ke rfl, ke rfl, ke rfl, ke rfl, ke rfl, ke rfl, trivial⟩) (co rfl (kc2 (w_R2use) rfl rfl rfl) (co rfl (kc2 (w_R2use) rfl rfl rfl) ?_))
 refine ac ?_
 refine co rfl (ok_call rfl (w_R2suite) ⟨ke rfl, ke rfl, ke rfl, ke rfl, ke rfl, ke rfl, ke rfl, ke rfl, trivial⟩) (co rfl (kc2 (w_R2use) rfl rfl rfl) ?_)
 refine ac ?_
 refine co rfl (ok_call rfl (w_R2suite) ⟨ke rfl, ke rfl, ke rfl, ke rfl, ke rfl, ke rfl, ke rfl, ke rfl, trivial⟩) ?_
 refine ac ?_
 refine co rfl (ok_call rfl (w_R2suite) ⟨ke rfl, ke rfl, ke rfl, ke rfl, ke rfl, ke rfl, ke rfl, ke rfl, trivial⟩) (co rfl (kc2 (w_R2use) rfl rfl rfl) ?_)
 refine ac ?_
 refine co rfl (ok_call rfl (w_R2suite) ⟨ke rfl, ke rfl, ke rfl, ke rfl, ke rfl, ke rfl, ke rfl, ke rfl, trivial⟩) ?_
 refine ac ?_
 refine co rfl (ok_call rfl (w_R2suite) ⟨ke rfl, ke rfl, ke rfl, ke rfl, ke rfl, ke rfl, ke rfl, ke rfl, trivial⟩) (co rfl (ok_loadA rfl agg44 sz44 (vl rfl) rfl rfl) (co rfl (kc2 (w_R2use) rfl rfl rfl) (co rfl (kc2 (w_R2use) rfl rfl rfl) (co rfl (ok_loadA rfl agg44 sz44 (vl rfl) rfl rfl) (co rfl (ok_call rfl (w_R2suite) ⟨ke rfl, ke rfl, ke rfl, ke rfl, ke rfl, ke rfl, ke rfl, ke rfl, trivial⟩) ?_)))))
 refine ac ?_
 refine co rfl (ok_call rfl (w_R2suite) ⟨ke rfl, ke rfl, ke rfl, ke rfl, ke rfl, ke rfl, ke rfl, ke rfl, trivial⟩) (co rfl (kc2 (w_R2use) rfl rfl rfl) (co rfl (kc2 (w_R2use) rfl rfl rfl) ?_))
 refine ac ?_
 refine co rfl (ok_call rfl (w_R2suite) ⟨ke rfl, ke rfl, ke rfl, ke rfl, ke rfl, ke rfl, ke rfl, ke rfl, trivial⟩) ?_
 refine ac ?_
 refine co rfl (ok_call rfl (w_R2suite) ⟨ke rfl, ke rfl, ke rfl, ke rfl, ke rfl, ke rfl, ke rfl, ke rfl, trivial⟩) ?_
 refine ac ?_
 refine co rfl (ok_call rfl (w_R2suite) ⟨ke rfl, ke rfl, ke rfl, ke rfl, ke rfl, ke rfl, ke rfl, ke rfl, trivial⟩) ?_
 refine ac ?_
 refine co rfl (ok_call rfl (w_R2suite) ⟨ke rfl, ke rfl, ke rfl, ke rfl, ke rfl, ke rfl, ke rfl, ke rfl, trivial⟩) ?_
 refine ac ?_
 refine co rfl (ok_call rfl (w_R2suite) ⟨ke rfl, ke rfl, ke rfl, ke rfl, ke rfl, ke rfl, ke rfl, ke rfl, trivial⟩) (co rfl (kc2 (w_R2use) rfl rfl rfl) ?_)
 refine ac ?_
 refine co rfl (ok_call rfl (w_R2suite) ⟨ke rfl, ke rfl, ke rfl, ke rfl, ke rfl, ke rfl, ke rfl, ke rfl, trivial⟩) (co rfl (ok_buildSlice (xs := [.tmp 33, .tmp 38, .tmp 43, .tmp 48, .tmp 53, .tmp 58, .tmp 63, .tmp 68, .tmp 73, .tmp 78, .tmp 83, .tmp 88, .tmp 93, .tmp 98, .tmp 103, .tmp 108]) (rows := anyRows) rfl rfl Tryz.underlying152 sz106 z106 rfl (by decide) ⟨⟨(by exact rfl), VL.le (vl rfl) (agg_cellsP _)⟩, ⟨⟨(by exact rfl), VL.le (vl rfl) (agg_cellsP _)⟩, ⟨⟨(by exact rfl), VL.le (vl rfl) (agg_cellsP _)⟩, ⟨⟨(by exact rfl), VL.le (vl rfl) (agg_cellsP _)⟩, ⟨⟨(by exact rfl), VL.le (vl rfl) (agg_cellsP _)⟩, ⟨⟨(by exact rfl), VL.le (vl rfl) (agg_cellsP _)⟩, ⟨⟨(by exact rfl), VL.le (vl rfl) (agg_cellsP _)⟩, ⟨⟨(by exact rfl), VL.le (vl rfl) (agg_cellsP _)⟩, ⟨⟨(by exact rfl), VL.le (vl rfl) (agg_cellsP _)⟩, ⟨⟨(by exact rfl), VL.le (vl rfl) (agg_cellsP _)⟩, ⟨⟨(by exact rfl), VL.le (vl rfl) (agg_cellsP _)⟩, ⟨⟨(by exact rfl), VL.le (vl rfl) (agg_cellsP _)⟩, ⟨⟨(by exact rfl), VL.le (vl rfl) (agg_cellsP _)⟩, ⟨⟨(by exact rfl), VL.le (vl rfl) (agg_cellsP _)⟩, ⟨⟨(by exact rfl), VL.le (vl rfl) (agg_cellsP _)⟩, ⟨⟨(by exact rfl), VL.le (vl rfl) (agg_cellsP _)⟩, trivial⟩⟩⟩⟩⟩⟩⟩⟩⟩⟩⟩⟩⟩⟩⟩⟩ (by decide)) ?_)
 refine ac ?_
 refine wk1 0 rfl ?_
 refine ac ?_
 · exact full_le _ _
theorem w_R2Suite {code : Int}  : Fun Tryz.prog 66 [int code] (tup [agg anyRow, int (if 1 ≤ code ∧ code ≤ 16 then 0 else 8)]) := by
 refine fo Tryz.func66 rfl ⟨rfl, rfl⟩ fun M0 w0 => (Tr.seq (Tr.regT ?_))
 refine TO.alloc rfl rfl (by decide) rfl z106 zo106 (fun b1 => ?_)
 refine ap ?_
 refine ac ?_
 refine Ch.cs 6 rfl ?_ ?_ <;> intro h1 q1
 refine ac ?_
 refine Tr.cond rfl (fun _ => ?_) (fun h => nomatch h)
 refine Tr.seq (Tr.regT (tp rfl (ok_build (rows := []) rfl bl106 zo106 trivial rfl) (TO.store_all 0 rfl rfl rfl (vl rfl) (VL.le (vl rfl) (agg_cellsP _)) rfl sz106 rfl rfl (tm rfl (TO.nil (Fin.go (Tr.ret (Fin.then_ret (Fin.retX2 rfl (RVal.cell 0 rfl rfl agg106 sz106 rfl (Pr.le_refl _)) (RVal.tmp rfl (Pr.le_refl _)) ?_)))))))))
 · exact tup_le ⟨agg_any rfl, int_eq (by rw [if_neg]; simp_all; omega), trivial⟩
 refine ac ?_
 refine Tr.cn rfl ?_ ?_ <;> intro h2 q2
 refine ap ?_
 refine Tr.ret (Fin.then_ret (Fin.retX2 rfl (RVal.cell 0 rfl rfl agg106 sz106 rfl (Pr.le_refl _)) (RVal.tmp rfl (Pr.le_refl _)) ?_))
 · exact tup_le ⟨agg_any rfl, int_eq (by rw [if_neg]; simp_all), trivial⟩
 have hin : 1 ≤ code ∧ code ≤ 16 := by omega
 refine ac ?_
 refine Tr.seq (Tr.regT (tp rfl (kc0 (w_R2Suites) rfl) ?_))
 refine ap ?_
 refine tp rfl (ok_indexAddr rfl Tryz.underlying152 sz106 (vl rfl) (vl rfl) (by omega) (any_rows (by omega))) ?_
 refine ap ?_
 refine wk2 2 3 rfl (Tr.ret (Fin.retX2 rfl (RVal.cell 0 rfl rfl agg106 sz106 rfl (Pr.le_refl _)) (RVal.tmp rfl (Pr.le_refl _)) ?_))
 · exact tup_le ⟨Pr.le_refl _, int_eq (by rw [if_pos hin]), trivial⟩
theorem w_R02Has {l : List Int} {v : Int}  : Fun Tryz.prog 67 [ints l, int v] (bool (l.any fun x => v == x)) := by
 refine fo Tryz.func67 rfl ⟨rfl, rfl⟩ fun M0 w0 => (Tr.lenm 0 rfl fun hlm_0 => ?_)
 refine ac ?_
 refine ac ?_
 refine Tr.block (Tr.loopw [(0, _), (1, _)] (kk2 rfl) (fun k : Nat => [(5, int ((k : Nat) : Int))]) (fun k : Nat => k ≤ (l).length ∧ ((l.take k).any (fun x => v == x) = false)) (fun k : Nat => (l).length - k) 0 (⟨Nat.zero_le _, rfl⟩) ⟨ke rfl, trivial⟩ ?_)
 rintro k ⟨hle_k, hinv_k⟩
 refine ac ?_
 refine Tr.cn rfl ?_ ?_ <;> intro h1 q1
 have hk_k : k < (l).length := lt_of_dec h1
 obtain ⟨x, hx_k⟩ := at_ hk_k
 refine ac ?_
 refine ac ?_
 refine co rfl (ok_indexAddr rfl Tryz.underlying22 sz3 (vl rfl) (vl rfl) (by omega) (by exact row_at (by assumption))) ?_
 refine ac ?_
 refine Tr.cn rfl ?_ ?_ <;> intro h2 q2
 refine ac ?_
 refine wk1 4 rfl ?_
 refine ac ?_
 · refine bool_eq ?_; symm; rw [List.any_eq_true]; exact ⟨_, List.mem_of_getElem? hx_k, by simp_all⟩
 refine ac ?_
 refine ac ?_
 exact Fin.fam_same (k + 1) ⟨⟨hk_k, (by rw [List.take_add_one, hx_k, List.any_append, hinv_k]; simp; omega)⟩, by omega⟩ ⟨⟨_, rfl, int_succ k⟩, ke rfl, ke rfl, trivial⟩
 have he_k : k = (l).length := by have := ge_of_dec h1; omega
 subst he_k
 refine ac ?_
 refine ac ?_
 refine ac ?_
 · refine bool_eq ?_; rw [List.take_length] at hinv_k; exact hinv_k.symm
theorem names_iff {l : List (List UInt8)} : namesB l = true ↔ (∀ j, j < l.length → nameAt l j = true) ∧ l.length ≤ 8 := by unfold namesB; rw [Bool.and_eq_true, allI_iff, decide_eq_true_eq]
theorem nameAt_of {l : List (List UInt8)} {k : Nat} {s : List UInt8} (hs : l[k]? = some s) (h1 : named s = true) (h2 : 0 < k → ∃ y, l[k - 1]? = some y ∧ Lib.compareBytes y s = -1) : nameAt l k = true := by
  unfold nameAt; rw [hs]; simp only [Option.getD_some, h1, Bool.true_and, Bool.or_eq_true, decide_eq_true_eq]
  rcases Nat.eq_zero_or_pos k with h0 | h0
  · exact .inl h0
  · obtain ⟨y, hy, hc⟩ := h2 h0; rw [hy]; exact .inr hc
theorem w_R3CheckG {c : Crt}  : Fun Tryz.prog 112 [agg (rowCr c)] (int (if validB c then 0 else 9)) := by
 refine fo Tryz.func112 rfl ⟨rfl, rfl⟩ fun M0 w0 => ?_
 refine ac ?_
 refine ac ?_
 refine Ch.cs 7 rfl ?_ ?_ <;> intro h1 q1
 refine ac ?_
 refine wk2 1 39 rfl ?_
 refine ac ?_
 refine ac ?_
 · refine int_eq (if_neg (fun hv => ?_)).symm; have vf := vf_of hv; obtain ⟨v_s0, v_s1, v_iss, v_sub, v_nm, v_key, v_k0, v_k1, v_hash, v_sk0, v_sk1, v_su0, v_su1, v_f0, v_ft, v_t1, v_p0, v_p1, v_ap⟩ := vf; have v_l8 := (names_iff.1 v_nm).2; unfold ofB at v_key v_hash; omega
 refine ac ?_
 refine Ch.cs 12 rfl ?_ ?_ <;> intro h2 q2
 refine ac ?_
 refine wk2 1 39 rfl ?_
 refine ac ?_
 refine ac ?_
 · refine int_eq (if_neg (fun hv => ?_)).symm; have vf := vf_of hv; obtain ⟨v_s0, v_s1, v_iss, v_sub, v_nm, v_key, v_k0, v_k1, v_hash, v_sk0, v_sk1, v_su0, v_su1, v_f0, v_ft, v_t1, v_p0, v_p1, v_ap⟩ := vf; have v_l8 := (names_iff.1 v_nm).2; unfold ofB at v_key v_hash; omega
 refine ac ?_
 refine cy h2 rfl (kc1 (w_RName) rfl rfl) ?_
 refine ac ?_
 refine Ch.cs 18 rfl ?_ ?_ <;> intro h3 q3
 refine ac ?_
 refine wk2 1 39 rfl ?_
 refine ac ?_
 refine ac ?_
 · refine int_eq (if_neg (fun hv => ?_)).symm; have vf := vf_of hv; obtain ⟨v_s0, v_s1, v_iss, v_sub, v_nm, v_key, v_k0, v_k1, v_hash, v_sk0, v_sk1, v_su0, v_su1, v_f0, v_ft, v_t1, v_p0, v_p1, v_ap⟩ := vf; have v_l8 := (names_iff.1 v_nm).2; unfold ofB at v_key v_hash; simp_all
 refine ac ?_
 refine cy h3 rfl (kc1 (w_RName) rfl rfl) ?_
 refine ac ?_
 refine Ch.cs 24 rfl ?_ ?_ <;> intro h4 q4
 refine ac ?_
 refine wk2 1 39 rfl ?_
 refine ac ?_
 refine ac ?_
 · refine int_eq (if_neg (fun hv => ?_)).symm; have vf := vf_of hv; obtain ⟨v_s0, v_s1, v_iss, v_sub, v_nm, v_key, v_k0, v_k1, v_hash, v_sk0, v_sk1, v_su0, v_su1, v_f0, v_ft, v_t1, v_p0, v_p1, v_ap⟩ := vf; have v_l8 := (names_iff.1 v_nm).2; unfold ofB at v_key v_hash; simp_all
 refine ac ?_
 refine cy h4 rfl (kc1 (w_Signature) rfl rfl) ?_
 refine ac ?_
 refine Ch.cs 30 rfl ?_ ?_ <;> intro h5 q5
 refine ac ?_
 refine wk2 1 39 rfl ?_
 refine ac ?_
 refine ac ?_
 · refine int_eq (if_neg (fun hv => ?_)).symm; have vf := vf_of hv; obtain ⟨v_s0, v_s1, v_iss, v_sub, v_nm, v_key, v_k0, v_k1, v_hash, v_sk0, v_sk1, v_su0, v_su1, v_f0, v_ft, v_t1, v_p0, v_p1, v_ap⟩ := vf; have v_l8 := (names_iff.1 v_nm).2; unfold ofB at v_key v_hash; simp_all
 refine ac ?_
 refine Ch.cs 35 rfl ?_ ?_ <;> intro h6 q6
 refine ac ?_
 refine wk2 1 39 rfl ?_
 refine ac ?_
 refine ac ?_
 · refine int_eq (if_neg (fun hv => ?_)).symm; have vf := vf_of hv; obtain ⟨v_s0, v_s1, v_iss, v_sub, v_nm, v_key, v_k0, v_k1, v_hash, v_sk0, v_sk1, v_su0, v_su1, v_f0, v_ft, v_t1, v_p0, v_p1, v_ap⟩ := vf; have v_l8 := (names_iff.1 v_nm).2; unfold ofB at v_key v_hash; omega
 refine ac ?_
 refine wk2 1 39 rfl ?_
 refine Tr.cn rfl ?_ ?_ <;> intro h7 q7
 refine ac ?_
 refine ac ?_
 · refine int_eq (if_neg (fun hv => ?_)).symm; have vf := vf_of hv; obtain ⟨v_s0, v_s1, v_iss, v_sub, v_nm, v_key, v_k0, v_k1, v_hash, v_sk0, v_sk1, v_su0, v_su1, v_f0, v_ft, v_t1, v_p0, v_p1, v_ap⟩ := vf; have v_l8 := (names_iff.1 v_nm).2; unfold ofB at v_key v_hash; omega
 refine ac ?_
 refine ac ?_
 refine co rfl (kc1 (w_RValid) rfl rfl) ?_
 refine ac ?_
 refine Ch.cs 44 rfl ?_ ?_ <;> intro h8 q8
 refine ac ?_
 refine wk2 1 67 rfl ?_
 refine ac ?_
 refine ac ?_
 · refine int_eq (if_neg (fun hv => ?_)).symm; have vf := vf_of hv; obtain ⟨v_s0, v_s1, v_iss, v_sub, v_nm, v_key, v_k0, v_k1, v_hash, v_sk0, v_sk1, v_su0, v_su1, v_f0, v_ft, v_t1, v_p0, v_p1, v_ap⟩ := vf; have v_l8 := (names_iff.1 v_nm).2; unfold ofB at v_key v_hash; simp_all; omega
 refine ac ?_
 refine cy h8 rfl (kc1 (w_RKind) rfl rfl) ?_
 refine ac ?_
 refine Ch.cs 51 rfl ?_ ?_ <;> intro h9 q9
 refine ac ?_
 refine wk2 1 67 rfl ?_
 refine ac ?_
 refine ac ?_
 · refine int_eq (if_neg (fun hv => ?_)).symm; have vf := vf_of hv; obtain ⟨v_s0, v_s1, v_iss, v_sub, v_nm, v_key, v_k0, v_k1, v_hash, v_sk0, v_sk1, v_su0, v_su1, v_f0, v_ft, v_t1, v_p0, v_p1, v_ap⟩ := vf; have v_l8 := (names_iff.1 v_nm).2; unfold ofB at v_key v_hash; simp_all
 refine ac ?_
 refine Ch.cs 56 rfl ?_ ?_ <;> intro h10 q10
 refine ac ?_
 refine wk2 1 67 rfl ?_
 refine ac ?_
 refine ac ?_
 · refine int_eq (if_neg (fun hv => ?_)).symm; have vf := vf_of hv; obtain ⟨v_s0, v_s1, v_iss, v_sub, v_nm, v_key, v_k0, v_k1, v_hash, v_sk0, v_sk1, v_su0, v_su1, v_f0, v_ft, v_t1, v_p0, v_p1, v_ap⟩ := vf; have v_l8 := (names_iff.1 v_nm).2; unfold ofB at v_key v_hash; omega
 refine ac ?_
 refine Ch.cs 63 rfl ?_ ?_ <;> intro h11 q11
 refine ac ?_
 refine wk2 1 67 rfl ?_
 refine ac ?_
 refine ac ?_
 · refine int_eq (if_neg (fun hv => ?_)).symm; have vf := vf_of hv; obtain ⟨v_s0, v_s1, v_iss, v_sub, v_nm, v_key, v_k0, v_k1, v_hash, v_sk0, v_sk1, v_su0, v_su1, v_f0, v_ft, v_t1, v_p0, v_p1, v_ap⟩ := vf; have v_l8 := (names_iff.1 v_nm).2; unfold ofB at v_key v_hash; omega
 refine ac ?_
 refine wk2 1 67 rfl ?_
 refine Tr.cn rfl ?_ ?_ <;> intro h12 q12
 refine ac ?_
 refine ac ?_
 · refine int_eq (if_neg (fun hv => ?_)).symm; have vf := vf_of hv; obtain ⟨v_s0, v_s1, v_iss, v_sub, v_nm, v_key, v_k0, v_k1, v_hash, v_sk0, v_sk1, v_su0, v_su1, v_f0, v_ft, v_t1, v_p0, v_p1, v_ap⟩ := vf; have v_l8 := (names_iff.1 v_nm).2; unfold ofB at v_key v_hash; omega
 refine ac ?_
 refine ac ?_
 refine Ch.cs 71 rfl ?_ ?_ <;> intro h13 q13
 refine ac ?_
 refine wk2 1 91 rfl ?_
 refine ac ?_
 refine ac ?_
 · refine int_eq (if_neg (fun hv => ?_)).symm; have vf := vf_of hv; obtain ⟨v_s0, v_s1, v_iss, v_sub, v_nm, v_key, v_k0, v_k1, v_hash, v_sk0, v_sk1, v_su0, v_su1, v_f0, v_ft, v_t1, v_p0, v_p1, v_ap⟩ := vf; have v_l8 := (names_iff.1 v_nm).2; unfold ofB at v_key v_hash; omega
 refine ac ?_
 refine Ch.cs 76 rfl ?_ ?_ <;> intro h14 q14
 refine ac ?_
 refine wk2 1 91 rfl ?_
 refine ac ?_
 refine ac ?_
 · refine int_eq (if_neg (fun hv => ?_)).symm; have vf := vf_of hv; obtain ⟨v_s0, v_s1, v_iss, v_sub, v_nm, v_key, v_k0, v_k1, v_hash, v_sk0, v_sk1, v_su0, v_su1, v_f0, v_ft, v_t1, v_p0, v_p1, v_ap⟩ := vf; have v_l8 := (names_iff.1 v_nm).2; unfold ofB at v_key v_hash; omega
 refine ac ?_
 refine Ch.cs 80 rfl ?_ ?_ <;> intro h15 q15
 refine ac ?_
 refine Ch.cs 86 rfl ?_ ?_ <;> intro h16 q16
 refine ac ?_
 refine wk2 1 91 rfl ?_
 refine ac ?_
 refine ac ?_
 · refine int_eq (if_neg (fun hv => ?_)).symm; have vf := vf_of hv; obtain ⟨v_s0, v_s1, v_iss, v_sub, v_nm, v_key, v_k0, v_k1, v_hash, v_sk0, v_sk1, v_su0, v_su1, v_f0, v_ft, v_t1, v_p0, v_p1, v_ap⟩ := vf; have v_l8 := (names_iff.1 v_nm).2; unfold ofB at v_key v_hash; simp_all
 refine ac ?_
 refine wk2 1 91 rfl ?_
 refine Tr.cn rfl ?_ ?_ <;> intro h17 q17
 refine ac ?_
 refine ac ?_
 · refine int_eq (if_neg (fun hv => ?_)).symm; have vf := vf_of hv; obtain ⟨v_s0, v_s1, v_iss, v_sub, v_nm, v_key, v_k0, v_k1, v_hash, v_sk0, v_sk1, v_su0, v_su1, v_f0, v_ft, v_t1, v_p0, v_p1, v_ap⟩ := vf; have v_l8 := (names_iff.1 v_nm).2; unfold ofB at v_key v_hash; omega
 refine ac ?_
 refine ac ?_
 refine Tr.block (Tr.loopw [(1, _)] ⟨ke rfl, trivial⟩ (fun k : Nat => [(3, int ((k : Nat) : Int))]) (fun k : Nat => k ≤ (c.names).length ∧ (∀ j, j < k → nameAt c.names j = true)) (fun k : Nat => (c.names).length - k) 0 (⟨Nat.zero_le _, fun j hj => absurd hj (by omega)⟩) ⟨ke rfl, trivial⟩ ?_)
 rintro k ⟨hle_k, hinv_k⟩
 refine ac ?_
 refine Tr.cn rfl ?_ ?_ <;> intro h18 q18
 have hk_k : k < (c.names).length := lt_of_dec h18
 obtain ⟨s, hx_k⟩ := at_ hk_k
 refine ac ?_
 refine ac ?_
 refine co rfl (ok_indexAddr rfl Tryz.underlying83 sz9 (vl rfl) (vl rfl) (by omega) (row_at hx_k)) (co rfl (kl1 rfl one9 rfl) (co rfl (kc1 (w_RName) rfl rfl) ?_))
 refine ac ?_
 refine Ch.cs 106 rfl ?_ ?_ <;> intro h19 q19
 refine ac ?_
 refine wk3 1 3 123 rfl ?_
 refine ac ?_
 refine ac ?_
 · refine int_eq (if_neg (fun hv => ?_)).symm; have vf := vf_of hv; obtain ⟨v_s0, v_s1, v_iss, v_sub, v_nm, v_key, v_k0, v_k1, v_hash, v_sk0, v_sk1, v_su0, v_su1, v_f0, v_ft, v_t1, v_p0, v_p1, v_ap⟩ := vf; have v_l8 := (names_iff.1 v_nm).2; unfold ofB at v_key v_hash; have hn_ := (names_iff.1 v_nm).1 k (by omega); unfold nameAt at hn_; simp_all
 refine ac ?_
 refine Ch.cs 109 rfl ?_ ?_ <;> intro h20 q20
 have hk00 : 0 < k := by simpa using h20
 obtain ⟨y, hy⟩ := at_ (l := c.names) (k := k - 1) (by omega)
 refine ac ?_
 refine cy h20 rfl (ok_indexAddr rfl Tryz.underlying83 sz9 (vl rfl) (vl rfl) (by omega) (by rw [show ((k : Nat) : Int) - 1 = ((k - 1 : Nat) : Int) by omega]; exact row_at hy)) ?_
 refine ac ?_
 refine cy h20 rfl (ok_indexAddr rfl Tryz.underlying83 sz9 (vl rfl) (vl rfl) (by omega) (row_at hx_k)) (cy h20 rfl (kl1 rfl one9 rfl) (cy h20 rfl (ok_ges rfl (vl rfl) (vl rfl)) ?_))
 refine ac ?_
 refine wk3 1 3 123 rfl ?_
 refine Tr.cn rfl ?_ ?_ <;> intro h21 q21
 refine ac ?_
 refine ac ?_
 · refine int_eq (if_neg (fun hv => ?_)).symm; have vf := vf_of hv; obtain ⟨v_s0, v_s1, v_iss, v_sub, v_nm, v_key, v_k0, v_k1, v_hash, v_sk0, v_sk1, v_su0, v_su1, v_f0, v_ft, v_t1, v_p0, v_p1, v_ap⟩ := vf; have v_l8 := (names_iff.1 v_nm).2; unfold ofB at v_key v_hash; have hn_ := (names_iff.1 v_nm).1 k (by omega); unfold nameAt at hn_; simp_all
 refine ac ?_
 refine ac ?_
 exact Fin.fam_same (k + 1) ⟨⟨hk_k, (fun j hj => by rcases Nat.lt_or_eq_of_le (Nat.le_of_lt_succ hj) with h_ | h_; exact hinv_k j h_; (subst h_; refine nameAt_of hx_k (by simp_all) (fun h0 => ?_); exact ⟨y, hy, by simp_all⟩))⟩, by omega⟩ ⟨⟨_, rfl, int_succ k⟩, ke rfl, trivial⟩
 have hk00 : ¬ 0 < k := by simpa using h20
 refine ac ?_
 refine wk3 1 3 123 rfl ?_
 refine ac ?_
 refine ac ?_
 exact Fin.fam_same (k + 1) ⟨⟨hk_k, (fun j hj => by rcases Nat.lt_or_eq_of_le (Nat.le_of_lt_succ hj) with h_ | h_; exact hinv_k j h_; (subst h_; refine nameAt_of hx_k (by simp_all) (fun h0 => ?_); exact absurd h0 hk00))⟩, by omega⟩ ⟨⟨_, rfl, int_succ k⟩, ke rfl, trivial⟩
 have he_k : k = (c.names).length := by have := ge_of_dec h18; omega
 subst he_k
 refine ac ?_
 refine ac ?_
 refine Ch.cs 128 rfl ?_ ?_ <;> intro h22 q22
 refine ac ?_
 refine wk1 145 rfl ?_
 refine ac ?_
 refine ac ?_
 · refine int_eq (if_neg (fun hv => ?_)).symm; have vf := vf_of hv; obtain ⟨v_s0, v_s1, v_iss, v_sub, v_nm, v_key, v_k0, v_k1, v_hash, v_sk0, v_sk1, v_su0, v_su1, v_f0, v_ft, v_t1, v_p0, v_p1, v_ap⟩ := vf; have v_l8 := (names_iff.1 v_nm).2; unfold ofB at v_key v_hash; omega
 refine ac ?_
 refine Ch.cs 134 rfl ?_ ?_ <;> intro h23 q23
 refine ac ?_
 refine wk1 145 rfl ?_
 refine ac ?_
 refine ac ?_
 · refine int_eq (if_neg (fun hv => ?_)).symm; have vf := vf_of hv; obtain ⟨v_s0, v_s1, v_iss, v_sub, v_nm, v_key, v_k0, v_k1, v_hash, v_sk0, v_sk1, v_su0, v_su1, v_f0, v_ft, v_t1, v_p0, v_p1, v_ap⟩ := vf; have v_l8 := (names_iff.1 v_nm).2; unfold ofB at v_key v_hash; omega
 refine ac ?_
 refine Ch.cs 140 rfl ?_ ?_ <;> intro h24 q24
 refine ac ?_
 refine wk1 145 rfl ?_
 refine ac ?_
 refine ac ?_
 · refine int_eq (if_neg (fun hv => ?_)).symm; have vf := vf_of hv; obtain ⟨v_s0, v_s1, v_iss, v_sub, v_nm, v_key, v_k0, v_k1, v_hash, v_sk0, v_sk1, v_su0, v_su1, v_f0, v_ft, v_t1, v_p0, v_p1, v_ap⟩ := vf; have v_l8 := (names_iff.1 v_nm).2; unfold ofB at v_key v_hash; omega
 refine ac ?_
 refine wk1 145 rfl ?_
 refine Tr.cn rfl ?_ ?_ <;> intro h25 q25
 refine ac ?_
 refine ac ?_
 · refine int_eq (if_neg (fun hv => ?_)).symm; have vf := vf_of hv; obtain ⟨v_s0, v_s1, v_iss, v_sub, v_nm, v_key, v_k0, v_k1, v_hash, v_sk0, v_sk1, v_su0, v_su1, v_f0, v_ft, v_t1, v_p0, v_p1, v_ap⟩ := vf; have v_l8 := (names_iff.1 v_nm).2; unfold ofB at v_key v_hash; omega
 refine ac ?_
 refine ac ?_
 refine ac ?_
 · refine int_eq (if_pos (of_vf ⟨by omega, by omega, by simp_all, by simp_all, names_iff.2 ⟨hinv_k, by omega⟩, by unfold ofB; simp_all, by omega, by omega, by unfold ofB; simp_all, by omega, by omega, by omega, by omega, by omega, by omega, by omega, by omega, by omega, by right; omega⟩)).symm
 refine ac ?_
 refine wk2 1 91 rfl ?_
 refine Tr.cn rfl ?_ ?_ <;> intro h26 q26
 refine ac ?_
 refine ac ?_
 · refine int_eq (if_neg (fun hv => ?_)).symm; have vf := vf_of hv; obtain ⟨v_s0, v_s1, v_iss, v_sub, v_nm, v_key, v_k0, v_k1, v_hash, v_sk0, v_sk1, v_su0, v_su1, v_f0, v_ft, v_t1, v_p0, v_p1, v_ap⟩ := vf; have v_l8 := (names_iff.1 v_nm).2; unfold ofB at v_key v_hash; omega
 refine ac ?_
 refine ac ?_
 refine Tr.block (Tr.loopw [(1, _)] ⟨ke rfl, trivial⟩ (fun k : Nat => [(3, int ((k : Nat) : Int))]) (fun k : Nat => k ≤ (c.names).length ∧ (∀ j, j < k → nameAt c.names j = true)) (fun k : Nat => (c.names).length - k) 0 (⟨Nat.zero_le _, fun j hj => absurd hj (by omega)⟩) ⟨ke rfl, trivial⟩ ?_)
 rintro k ⟨hle_k, hinv_k⟩
 refine ac ?_
 refine Tr.cn rfl ?_ ?_ <;> intro h27 q27
 have hk_k : k < (c.names).length := lt_of_dec h27
 obtain ⟨s, hx_k⟩ := at_ hk_k
 refine ac ?_
 refine ac ?_
 refine co rfl (ok_indexAddr rfl Tryz.underlying83 sz9 (vl rfl) (vl rfl) (by omega) (row_at hx_k)) (co rfl (kl1 rfl one9 rfl) (co rfl (kc1 (w_RName) rfl rfl) ?_))
 refine ac ?_
 refine Ch.cs 106 rfl ?_ ?_ <;> intro h28 q28
 refine ac ?_
 refine wk3 1 3 123 rfl ?_
 refine ac ?_
 refine ac ?_
 · refine int_eq (if_neg (fun hv => ?_)).symm; have vf := vf_of hv; obtain ⟨v_s0, v_s1, v_iss, v_sub, v_nm, v_key, v_k0, v_k1, v_hash, v_sk0, v_sk1, v_su0, v_su1, v_f0, v_ft, v_t1, v_p0, v_p1, v_ap⟩ := vf; have v_l8 := (names_iff.1 v_nm).2; unfold ofB at v_key v_hash; have hn_ := (names_iff.1 v_nm).1 k (by omega); unfold nameAt at hn_; simp_all
 refine ac ?_
 refine Ch.cs 109 rfl ?_ ?_ <;> intro h29 q29
 have hk00 : 0 < k := by simpa using h29
 obtain ⟨y, hy⟩ := at_ (l := c.names) (k := k - 1) (by omega)
 refine ac ?_
 refine cy h29 rfl (ok_indexAddr rfl Tryz.underlying83 sz9 (vl rfl) (vl rfl) (by omega) (by rw [show ((k : Nat) : Int) - 1 = ((k - 1 : Nat) : Int) by omega]; exact row_at hy)) ?_
 refine ac ?_
 refine cy h29 rfl (ok_indexAddr rfl Tryz.underlying83 sz9 (vl rfl) (vl rfl) (by omega) (row_at hx_k)) (cy h29 rfl (kl1 rfl one9 rfl) (cy h29 rfl (ok_ges rfl (vl rfl) (vl rfl)) ?_))
 refine ac ?_
 refine wk3 1 3 123 rfl ?_
 refine Tr.cn rfl ?_ ?_ <;> intro h30 q30
 refine ac ?_
 refine ac ?_
 · refine int_eq (if_neg (fun hv => ?_)).symm; have vf := vf_of hv; obtain ⟨v_s0, v_s1, v_iss, v_sub, v_nm, v_key, v_k0, v_k1, v_hash, v_sk0, v_sk1, v_su0, v_su1, v_f0, v_ft, v_t1, v_p0, v_p1, v_ap⟩ := vf; have v_l8 := (names_iff.1 v_nm).2; unfold ofB at v_key v_hash; have hn_ := (names_iff.1 v_nm).1 k (by omega); unfold nameAt at hn_; simp_all
 refine ac ?_
 refine ac ?_
 exact Fin.fam_same (k + 1) ⟨⟨hk_k, (fun j hj => by rcases Nat.lt_or_eq_of_le (Nat.le_of_lt_succ hj) with h_ | h_; exact hinv_k j h_; (subst h_; refine nameAt_of hx_k (by simp_all) (fun h0 => ?_); exact ⟨y, hy, by simp_all⟩))⟩, by omega⟩ ⟨⟨_, rfl, int_succ k⟩, ke rfl, trivial⟩
 have hk00 : ¬ 0 < k := by simpa using h29
 refine ac ?_
 refine wk3 1 3 123 rfl ?_
 refine ac ?_
 refine ac ?_
 exact Fin.fam_same (k + 1) ⟨⟨hk_k, (fun j hj => by rcases Nat.lt_or_eq_of_le (Nat.le_of_lt_succ hj) with h_ | h_; exact hinv_k j h_; (subst h_; refine nameAt_of hx_k (by simp_all) (fun h0 => ?_); exact absurd h0 hk00))⟩, by omega⟩ ⟨⟨_, rfl, int_succ k⟩, ke rfl, trivial⟩
 have he_k : k = (c.names).length := by have := ge_of_dec h27; omega
 subst he_k
 refine ac ?_
 refine ac ?_
 refine Ch.cs 128 rfl ?_ ?_ <;> intro h31 q31
 refine ac ?_
 refine wk1 145 rfl ?_
 refine ac ?_
 refine ac ?_
 · refine int_eq (if_neg (fun hv => ?_)).symm; have vf := vf_of hv; obtain ⟨v_s0, v_s1, v_iss, v_sub, v_nm, v_key, v_k0, v_k1, v_hash, v_sk0, v_sk1, v_su0, v_su1, v_f0, v_ft, v_t1, v_p0, v_p1, v_ap⟩ := vf; have v_l8 := (names_iff.1 v_nm).2; unfold ofB at v_key v_hash; omega
 refine ac ?_
 refine Ch.cs 134 rfl ?_ ?_ <;> intro h32 q32
 refine ac ?_
 refine wk1 145 rfl ?_
 refine ac ?_
 refine ac ?_
 · refine int_eq (if_neg (fun hv => ?_)).symm; have vf := vf_of hv; obtain ⟨v_s0, v_s1, v_iss, v_sub, v_nm, v_key, v_k0, v_k1, v_hash, v_sk0, v_sk1, v_su0, v_su1, v_f0, v_ft, v_t1, v_p0, v_p1, v_ap⟩ := vf; have v_l8 := (names_iff.1 v_nm).2; unfold ofB at v_key v_hash; omega
 refine ac ?_
 refine Ch.cs 140 rfl ?_ ?_ <;> intro h33 q33
 refine ac ?_
 refine wk1 145 rfl ?_
 refine ac ?_
 refine ac ?_
 · refine int_eq (if_neg (fun hv => ?_)).symm; have vf := vf_of hv; obtain ⟨v_s0, v_s1, v_iss, v_sub, v_nm, v_key, v_k0, v_k1, v_hash, v_sk0, v_sk1, v_su0, v_su1, v_f0, v_ft, v_t1, v_p0, v_p1, v_ap⟩ := vf; have v_l8 := (names_iff.1 v_nm).2; unfold ofB at v_key v_hash; omega
 refine ac ?_
 refine wk1 145 rfl ?_
 refine Tr.cn rfl ?_ ?_ <;> intro h34 q34
 refine ac ?_
 refine ac ?_
 · refine int_eq (if_neg (fun hv => ?_)).symm; have vf := vf_of hv; obtain ⟨v_s0, v_s1, v_iss, v_sub, v_nm, v_key, v_k0, v_k1, v_hash, v_sk0, v_sk1, v_su0, v_su1, v_f0, v_ft, v_t1, v_p0, v_p1, v_ap⟩ := vf; have v_l8 := (names_iff.1 v_nm).2; unfold ofB at v_key v_hash; omega
 refine ac ?_
 refine ac ?_
 refine ac ?_
 · refine int_eq (if_pos (of_vf ⟨by omega, by omega, by simp_all, by simp_all, names_iff.2 ⟨hinv_k, by omega⟩, by unfold ofB; simp_all, by omega, by omega, by unfold ofB; simp_all, by omega, by omega, by omega, by omega, by omega, by omega, by omega, by omega, by omega, by left; simp_all⟩)).symm
end Go.Proofs.YtflodcidhlmaaaaGreat
namespace Go.Proofs.YtflodcidhlmaaaaGreat
open Go Go.RowKit Cp

theorem and1 {a b : Bool} (h : (a && b) = true) : a = true := by simp at h; exact h.1
theorem and2 {a b : Bool} (h : (a && b) = true) : b = true := by simp at h; exact h.2
theorem pigeon : ∀ (n : Nat) (l : List Int), (∀ x ∈ l, 1 ≤ x ∧ x ≤ (n : Int)) → l.Nodup → l.length ≤ n
  | 0, l, h, _ => by
    cases l with
    | nil => exact Nat.le_refl _
    | cons a l => have := h a (List.mem_cons_self ..); omega
  | n + 1, l, h, hn => by
    have ih := pigeon n (l.erase ((n : Int) + 1)) (fun x hx => by
      have h1 := h x (List.mem_of_mem_erase hx)
      have h2 := (hn.mem_erase_iff.1 hx).1
      omega) (hn.erase _)
    rw [List.length_erase] at ih
    split at ih <;> omega
theorem suites_16 {l : List Int} (h : suitesB l = true) : l.length ≤ 16 := by
  refine pigeon 16 l (fun x hx => ?_) ?_
  · obtain ⟨j, hj⟩ := List.getElem?_of_mem hx
    have h1 := allI_iff.1 (show allI (suiteAt l) l.length = true from h) j (lt_of_at hj)
    unfold suiteAt at h1; rw [getD_at hj] at h1
    have := and1 h1
    simpa using this
  · refine List.pairwise_iff_getElem.2 fun i j hi hj hij he => ?_
    have := suites_one h (List.getElem?_eq_getElem hi) (by rw [he]; exact List.getElem?_eq_getElem hj)
    omega
theorem all_at {p : Int → Bool} {l : List Int} (h : ∀ j, j < l.length → p (l[j]?.getD 0) = true) : l.all p = true := List.all_eq_true.2 fun x hx => by
  obtain ⟨j, hj⟩ := List.getElem?_of_mem hx
  have := h j (lt_of_at hj)
  rw [getD_at hj] at this; exact this

theorem w_R5Right {alg bits id : Int} {l : List Crt}  : Fun Tryz.prog 68 [agg [int alg, int bits], int id, certs l] (bool (showsB alg bits id l)) := by
 refine fo Tryz.func68 rfl ⟨rfl, rfl⟩ fun M0 w0 => (Tr.lenm 2 rfl fun hlm_2 => ?_)
 refine ac ?_
 refine ac ?_
 refine co rfl (kc1 (w_Signature) rfl rfl) ?_
 refine ac ?_
 refine Ch.cs 11 rfl ?_ ?_ <;> intro h1 q1
 refine ac ?_
 refine wk4 1 2 3 23 rfl ?_
 refine ac ?_
 refine ac ?_
 · refine bool_eq ?_; rw [showsB_eq]; unfold ofB keyB; simp_all
 refine ac ?_
 refine Ch.cs 15 rfl ?_ ?_ <;> intro h2 q2
 refine ac ?_
 refine wk4 1 2 3 23 rfl ?_
 refine ac ?_
 refine ac ?_
 · refine bool_eq ?_; rw [showsB_eq]; unfold ofB keyB; simp_all; omega
 refine ac ?_
 refine Ch.cs 19 rfl ?_ ?_ <;> intro h3 q3
 refine ac ?_
 refine wk4 1 2 3 23 rfl ?_
 refine ac ?_
 refine ac ?_
 · refine bool_eq ?_; rw [showsB_eq]; unfold ofB keyB; simp_all; omega
 refine ac ?_
 refine wk4 1 2 3 23 rfl ?_
 refine Tr.cn rfl ?_ ?_ <;> intro h4 q4
 refine ac ?_
 refine ac ?_
 · refine bool_eq ?_; rw [showsB_eq]; unfold ofB keyB; simp_all; omega
 refine ac ?_
 refine ac ?_
 refine Tr.block (Tr.loopw [(1, _), (2, _), (3, _)] (kk3 rfl) (fun k : Nat => [(7, int ((k : Nat) : Int))]) (fun k : Nat => k ≤ (l).length ∧ (∀ j y, j < k → l[j]? = some y → (!validB y) = false)) (fun k : Nat => (l).length - k) 0 (⟨Nat.zero_le _, fun j y hj => absurd hj (by omega)⟩) ⟨ke rfl, trivial⟩ ?_)
 rintro k ⟨hle_k, hinv_k⟩
 refine ac ?_
 refine Tr.cn rfl ?_ ?_ <;> intro h5 q5
 have hk_k : k < (l).length := lt_of_dec h5
 obtain ⟨c, hx_k⟩ := at_ hk_k
 refine ac ?_
 refine ac ?_
 refine co rfl (ok_indexAddr rfl Tryz.underlying45 sz126 (vl rfl) (vl rfl) (by omega) (row_at hx_k)) (co rfl (ok_loadA rfl agg126 sz126 (vl rfl) rfl rfl) (co rfl (kc1 (w_R3CheckG) rfl rfl) ?_))
 refine ac ?_
 refine wk5 1 2 3 7 35 rfl ?_
 refine Tr.cn rfl ?_ ?_ <;> intro h6 q6
 refine ac ?_
 refine ac ?_
 · refine bool_eq ?_; rw [showsB_eq]; unfold ofB keyB; rw [all_hit (p := validB) hx_k (by simp_all)]; simp
 refine ac ?_
 refine ac ?_
 exact Fin.fam_same (k + 1) ⟨⟨hk_k, step_no (p := fun c => !validB c) hx_k (by simp_all) hinv_k⟩, by omega⟩ ⟨⟨_, rfl, int_succ k⟩, ke rfl, ke rfl, ke rfl, trivial⟩
 have he_k : k = (l).length := by have := ge_of_dec h5; omega
 subst he_k
 have hall := all_end hinv_k
 refine ac ?_
 refine ac ?_
 refine Ch.cs 39 rfl ?_ ?_ <;> intro h7 q7
 refine ac ?_
 refine wk1 6 rfl ?_
 refine ac ?_
 · refine bool_eq ?_; rw [showsB_eq]; unfold ofB keyB; rw [hall, headB_nil (by simp_all)]; simp_all
 obtain ⟨c0, hc0⟩ := at_ (l := l) (k := 0) (by have := h7; simp at this; exact List.length_pos_iff.2 this)
 refine cym h7 rfl ?_
 refine cy h7 rfl (ok_indexAddr rfl Tryz.underlying45 sz126 (vl rfl) (vl rfl) (by omega) (row_at (k := 0) hc0)) ?_
 refine ac ?_
 refine cy h7 rfl (ok_eq44 rfl (vl rfl) (vl rfl)) (cym h7 rfl ?_)
 refine Ch.cs 46 rfl ?_ ?_ <;> intro h8 q8
 refine cym h8 rfl ?_
 refine cy h8 rfl (ok_indexAddr rfl Tryz.underlying45 sz126 (vl rfl) (vl rfl) (by omega) (row_at (k := 0) hc0)) ?_
 refine ac ?_
 refine wk1 6 rfl ?_
 refine ac ?_
 · refine bool_eq ?_; rw [showsB_eq]; unfold ofB keyB; rw [hall, headB_at hc0]; clear hall hinv_k hc0; simp_all; omega
 refine ac ?_
 refine wk1 6 rfl ?_
 refine ac ?_
 · refine bool_eq ?_; rw [showsB_eq]; unfold ofB keyB; rw [hall, headB_at hc0]; clear hall hinv_k hc0; simp_all
theorem w_R9Check {e : Ept} (hsm : e.small) : Fun Tryz.prog 24 [agg (rowEp e)] (int (if eptB e then 0 else 19)) := by
 refine fo Tryz.func24 rfl ⟨rfl, rfl⟩ fun M0 w0 => ?_
 have hs3 := hsm.hashes
 clear hsm
 refine ac ?_
 refine ac ?_
 refine co rfl (kc1 (w_R6Word) rfl rfl) ?_
 refine ac ?_
 refine Ch.cs 13 rfl ?_ ?_ <;> intro h1 q1
 refine ac ?_
 refine wk2 1 47 rfl ?_
 refine ac ?_
 refine ac ?_
 · refine int_eq (if_neg (fun hv => ?_)).symm; have ok := eptB_iff.1 hv; have v1 := ok.name; have v2 := ok.least; have v3 := ok.lm; have v4 := ok.most; have v5 := suites_16 ok.suites; have v6 := ok.idl; have v7 := ok.ancl; simp_all
 refine ac ?_
 refine Ch.cs 18 rfl ?_ ?_ <;> intro h2 q2
 refine ac ?_
 refine wk2 1 47 rfl ?_
 refine ac ?_
 refine ac ?_
 · refine int_eq (if_neg (fun hv => ?_)).symm; have ok := eptB_iff.1 hv; have v1 := ok.name; have v2 := ok.least; have v3 := ok.lm; have v4 := ok.most; have v5 := suites_16 ok.suites; have v6 := ok.idl; have v7 := ok.ancl; omega
 refine ac ?_
 refine Ch.cs 25 rfl ?_ ?_ <;> intro h3 q3
 refine ac ?_
 refine wk2 1 47 rfl ?_
 refine ac ?_
 refine ac ?_
 · refine int_eq (if_neg (fun hv => ?_)).symm; have ok := eptB_iff.1 hv; have v1 := ok.name; have v2 := ok.least; have v3 := ok.lm; have v4 := ok.most; have v5 := suites_16 ok.suites; have v6 := ok.idl; have v7 := ok.ancl; omega
 refine ac ?_
 refine Ch.cs 30 rfl ?_ ?_ <;> intro h4 q4
 refine ac ?_
 refine wk2 1 47 rfl ?_
 refine ac ?_
 refine ac ?_
 · refine int_eq (if_neg (fun hv => ?_)).symm; have ok := eptB_iff.1 hv; have v1 := ok.name; have v2 := ok.least; have v3 := ok.lm; have v4 := ok.most; have v5 := suites_16 ok.suites; have v6 := ok.idl; have v7 := ok.ancl; omega
 refine ac ?_
 refine Ch.cs 36 rfl ?_ ?_ <;> intro h5 q5
 refine ac ?_
 refine wk2 1 47 rfl ?_
 refine ac ?_
 refine ac ?_
 · refine int_eq (if_neg (fun hv => ?_)).symm; have ok := eptB_iff.1 hv; have v1 := ok.name; have v2 := ok.least; have v3 := ok.lm; have v4 := ok.most; have v5 := suites_16 ok.suites; have v6 := ok.idl; have v7 := ok.ancl; omega
 refine ac ?_
 refine Ch.cs 42 rfl ?_ ?_ <;> intro h6 q6
 refine ac ?_
 refine wk2 1 47 rfl ?_
 refine ac ?_
 refine ac ?_
 · refine int_eq (if_neg (fun hv => ?_)).symm; have ok := eptB_iff.1 hv; have v1 := ok.name; have v2 := ok.least; have v3 := ok.lm; have v4 := ok.most; have v5 := suites_16 ok.suites; have v6 := ok.idl; have v7 := ok.ancl; omega
 refine ac ?_
 refine wk2 1 47 rfl ?_
 refine Tr.cn rfl ?_ ?_ <;> intro h7 q7
 refine ac ?_
 refine ac ?_
 · refine int_eq (if_neg (fun hv => ?_)).symm; have ok := eptB_iff.1 hv; have v1 := ok.name; have v2 := ok.least; have v3 := ok.lm; have v4 := ok.most; have v5 := suites_16 ok.suites; have v6 := ok.idl; have v7 := ok.ancl; omega
 refine ac ?_
 refine ac ?_
 refine Tr.block (Tr.loopw [(1, _)] ⟨ke rfl, trivial⟩ (fun i : Nat => [(3, int ((i : Nat) : Int))]) (fun i : Nat => i ≤ (e.suites).length ∧ (∀ j, j < i → suiteAt e.suites j = true)) (fun i : Nat => (e.suites).length - i) 0 (⟨Nat.zero_le _, fun j hj => absurd hj (by omega)⟩) ⟨ke rfl, trivial⟩ ?_)
 rintro i ⟨hle_i, hinv_i⟩
 refine ac ?_
 refine Tr.cn rfl ?_ ?_ <;> intro h8 q8
 have hk_i : i < (e.suites).length := lt_of_dec h8
 obtain ⟨x, hx_i⟩ := at_ hk_i
 have hg := getD_at (d := (0 : Int)) hx_i
 refine ac ?_
 refine ao ?_
 refine tp rfl (ok_indexAddr rfl Tryz.underlying22 sz3 (vl rfl) (vl rfl) (by omega) (row_at hx_i)) (tp rfl (kl1 rfl one3 rfl) (tp rfl (kc1 (w_R2Suite) rfl rfl) ?_))
 refine ao ?_
 refine TO.alloc rfl rfl (by decide) rfl z106 zo106 (fun b1 => ?_)
 refine sf 0 4 ⟨rfl, rfl, rfl⟩ rfl rfl rfl rfl ?_
 refine ao ?_
 refine wk3 1 3 5 rfl ?_
 refine ac ?_
 refine Ch.cs 66 rfl ?_ ?_ <;> intro h9 q9
 have hnin : ¬ (1 ≤ x ∧ x ≤ 16) := by intro hh; rw [if_pos hh] at h9; exact absurd h9 (by decide)
 refine ac ?_
 refine wk3 1 3 77 rfl ?_
 refine ac ?_
 refine ac ?_
 · refine int_eq (if_neg (fun hv => ?_)).symm; have ok := eptB_iff.1 hv; have h_ := allI_iff.1 (show allI (suiteAt e.suites) e.suites.length = true from ok.suites) i (by omega); unfold suiteAt at h_; rw [hg] at h_; exact hnin (by simpa using and1 h_)
 have hin : 1 ≤ x ∧ x ≤ 16 := by refine Decidable.byContradiction fun hh => ?_; rw [if_neg hh] at h9; exact absurd h9 (by decide)
 refine ac ?_
 refine cy h9 rfl (ok_sliceTo rfl Tryz.underlying22 sz3 (vl rfl) (vl rfl) (by omega) (by simp; omega)) ?_
 refine ac ?_
 refine cy h9 rfl (ok_indexAddr rfl Tryz.underlying22 sz3 (vl rfl) (vl rfl) (by omega) (row_at hx_i)) (cy h9 rfl (kl1 rfl one3 rfl) ?_)
 refine cy h9 rfl (ok_call rfl (w_R02Has (l := e.suites.take i) (v := x)) ⟨⟨_, rfl, Pr.le_of_eq (by rw [← List.map_take, Int.toNat_natCast])⟩, ke rfl, trivial⟩) ?_
 refine ac ?_
 refine wk3 1 3 77 rfl ?_
 refine Tr.cn rfl ?_ ?_ <;> intro h10 q10
 refine ac ?_
 refine ac ?_
 · refine int_eq (if_neg (fun hv => ?_)).symm; have ok := eptB_iff.1 hv; have h_ := allI_iff.1 (show allI (suiteAt e.suites) e.suites.length = true from ok.suites) i (by omega); unfold suiteAt at h_; rw [hg] at h_; exact absurd (by assumption : ((e.suites.take i).any fun y => x == y) = true) (by have h2 := and2 h_; rw [Bool.not_eq_true'] at h2; rw [h2]; decide)
 refine ac ?_
 refine ac ?_
 exact Fin.fam_same (i + 1) ⟨⟨hk_i, allI_step hinv_i (by unfold suiteAt; rw [hg]; rw [decide_eq_true hin]; simp_all)⟩, by omega⟩ ⟨⟨_, rfl, int_succ i⟩, ke rfl, trivial⟩
 have he_i : i = (e.suites).length := by have := ge_of_dec h8; omega
 subst he_i
 refine ac ?_
 refine ac ?_
 refine Tr.block (Tr.loopw [(1, _)] ⟨ke rfl, trivial⟩ (fun m : Nat => [(6, int ((m : Nat) : Int))]) (fun m : Nat => m ≤ (e.ids).length ∧ (∀ j y, j < m → e.ids[j]? = some y → (!idB y) = false)) (fun m : Nat => (e.ids).length - m) 0 (⟨Nat.zero_le _, fun j y hj => absurd hj (by omega)⟩) ⟨ke rfl, trivial⟩ ?_)
 rintro m ⟨hle_m, hinv_m⟩
 refine ac ?_
 refine Tr.cn rfl ?_ ?_ <;> intro h11 q11
 have hk_m : m < (e.ids).length := lt_of_dec h11
 obtain ⟨x, hx_m⟩ := at_ hk_m
 refine ac ?_
 refine ac ?_
 refine co rfl (ok_indexAddr rfl Tryz.underlying33 sz47 (vl rfl) (vl rfl) (by omega) (row_at hx_m)) ?_
 refine ac ?_
 refine co rfl (ok_indexAddr rfl Tryz.underlying33 sz47 (vl rfl) (vl rfl) (by omega) (row_at hx_m)) ?_
 refine ac ?_
 refine co rfl (ok_indexAddr rfl Tryz.underlying33 sz47 (vl rfl) (vl rfl) (by omega) (row_at hx_m)) ?_
 refine ac ?_
 refine co rfl (kc3 (w_R5Right) rfl rfl rfl rfl) ?_
 refine ac ?_
 refine wk3 1 6 104 rfl ?_
 refine Tr.cn rfl ?_ ?_ <;> intro h12 q12
 refine ac ?_
 refine ac ?_
 · refine int_eq (if_neg (fun hv => ?_)).symm; have ok := eptB_iff.1 hv; have h_ := List.all_eq_true.1 ok.ids x (List.mem_of_getElem? hx_m); unfold idB at h_; simp_all
 refine ac ?_
 refine ac ?_
 exact Fin.fam_same (m + 1) ⟨⟨hk_m, step_no (p := fun c => !idB c) hx_m (by unfold idB; simp_all) hinv_m⟩, by omega⟩ ⟨⟨_, rfl, int_succ m⟩, ke rfl, trivial⟩
 have he_m : m = (e.ids).length := by have := ge_of_dec h11; omega
 subst he_m
 have hall := all_end hinv_m
 refine ac ?_
 refine ac ?_
 refine Tr.block (Tr.loopw [(1, _)] ⟨ke rfl, trivial⟩ (fun o : Nat => [(7, int ((o : Nat) : Int))]) (fun o : Nat => o ≤ (e.anchors).length ∧ (∀ j, j < o → (ascAt e.anchors j && keyB (e.anchors[j]?.getD 0)) = true)) (fun o : Nat => (e.anchors).length - o) 0 (⟨Nat.zero_le _, fun j hj => absurd hj (by omega)⟩) ⟨ke rfl, trivial⟩ ?_)
 rintro o ⟨hle_o, hinv_o⟩
 refine ac ?_
 refine Tr.cn rfl ?_ ?_ <;> intro h13 q13
 have hk_o : o < (e.anchors).length := lt_of_dec h13
 obtain ⟨a, hx_o⟩ := at_ hk_o
 have hg := getD_at (d := (0 : Int)) hx_o
 refine ac ?_
 refine ac ?_
 refine co rfl (ok_indexAddr rfl Tryz.underlying22 sz3 (vl rfl) (vl rfl) (by omega) (row_at hx_o)) ?_
 refine ac ?_
 refine Ch.cs 118 rfl ?_ ?_ <;> intro h14 q14
 refine ac ?_
 refine wk3 1 7 143 rfl ?_
 refine ac ?_
 refine ac ?_
 · refine int_eq (if_neg (fun hv => ?_)).symm; have ok := eptB_iff.1 hv; have h_ := List.all_eq_true.1 ok.keys a (List.mem_of_getElem? hx_o); unfold keyB at h_; simp at h_; omega
 refine ac ?_
 refine cy h14 rfl (ok_indexAddr rfl Tryz.underlying22 sz3 (vl rfl) (vl rfl) (by omega) (row_at hx_o)) ?_
 refine ac ?_
 refine Ch.cs 126 rfl ?_ ?_ <;> intro h15 q15
 refine ac ?_
 refine wk3 1 7 143 rfl ?_
 refine ac ?_
 refine ac ?_
 · refine int_eq (if_neg (fun hv => ?_)).symm; have ok := eptB_iff.1 hv; have h_ := List.all_eq_true.1 ok.keys a (List.mem_of_getElem? hx_o); unfold keyB at h_; simp at h_; omega
 refine ac ?_
 refine Ch.cs 129 rfl ?_ ?_ <;> intro h16 q16
 have hk0 : 0 < o := by simpa using h16
 obtain ⟨y, hy⟩ := at_ (l := e.anchors) (k := o - 1) (by omega)
 have hgy := getD_at (d := (0 : Int)) hy
 refine ac ?_
 refine cy h16 rfl (ok_indexAddr rfl Tryz.underlying22 sz3 (vl rfl) (vl rfl) (by omega) (by rw [show ((o : Nat) : Int) - 1 = ((o - 1 : Nat) : Int) by omega]; exact row_at hy)) ?_
 refine ac ?_
 refine cy h16 rfl (ok_indexAddr rfl Tryz.underlying22 sz3 (vl rfl) (vl rfl) (by omega) (row_at hx_o)) ?_
 refine ac ?_
 refine wk3 1 7 143 rfl ?_
 refine Tr.cn rfl ?_ ?_ <;> intro h17 q17
 refine ac ?_
 refine ac ?_
 · refine int_eq (if_neg (fun hv => ?_)).symm; have ok := eptB_iff.1 hv; have h_ := allI_iff.1 (show allI (ascAt e.anchors) e.anchors.length = true from ok.anc) o (by omega); unfold ascAt at h_; rw [hg, hgy] at h_; simp at h_; omega
 refine ac ?_
 refine ac ?_
 exact Fin.fam_same (o + 1) ⟨⟨hk_o, (fun j hj => by rcases Nat.lt_or_eq_of_le (Nat.le_of_lt_succ hj) with h_ | h_; exact hinv_o j h_; (subst h_; unfold ascAt keyB; rw [hg]; rw [hgy]; simp_all))⟩, by omega⟩ ⟨⟨_, rfl, int_succ o⟩, ke rfl, trivial⟩
 have hk00 : ¬ 0 < o := by simpa using h16
 refine ac ?_
 refine wk3 1 7 143 rfl ?_
 refine ac ?_
 refine ac ?_
 exact Fin.fam_same (o + 1) ⟨⟨hk_o, (fun j hj => by rcases Nat.lt_or_eq_of_le (Nat.le_of_lt_succ hj) with h_ | h_; exact hinv_o j h_; (subst h_; unfold ascAt keyB; rw [hg]; simp_all))⟩, by omega⟩ ⟨⟨_, rfl, int_succ o⟩, ke rfl, trivial⟩
 have he_o : o = (e.anchors).length := by have := ge_of_dec h13; omega
 subst he_o
 refine ac ?_
 refine ac ?_
 refine Tr.block (Tr.loopw [(1, _)] ⟨ke rfl, trivial⟩ (fun q : Nat => [(8, int ((q : Nat) : Int))]) (fun q : Nat => q ≤ (e.hashes).length ∧ (∀ j, j < q → (ascAt e.hashes j && hashB (e.hashes[j]?.getD 0)) = true)) (fun q : Nat => (e.hashes).length - q) 0 (⟨Nat.zero_le _, fun j hj => absurd hj (by omega)⟩) ⟨ke rfl, trivial⟩ ?_)
 rintro q ⟨hle_q, hinv_q⟩
 refine ac ?_
 refine Tr.cn rfl ?_ ?_ <;> intro h18 q18
 have hk_q : q < (e.hashes).length := lt_of_dec h18
 obtain ⟨a, hx_q⟩ := at_ hk_q
 have hg := getD_at (d := (0 : Int)) hx_q
 refine ac ?_
 refine ac ?_
 refine co rfl (ok_indexAddr rfl Tryz.underlying22 sz3 (vl rfl) (vl rfl) (by omega) (row_at hx_q)) (co rfl (kl1 rfl one3 rfl) (co rfl (kc1 (w_RKind) rfl rfl) ?_))
 refine ac ?_
 refine Ch.cs 158 rfl ?_ ?_ <;> intro h19 q19
 refine ac ?_
 refine wk3 1 8 175 rfl ?_
 refine ac ?_
 refine ac ?_
 · refine int_eq (if_neg (fun hv => ?_)).symm; have ok := eptB_iff.1 hv; have h_ := List.all_eq_true.1 ok.hsh a (List.mem_of_getElem? hx_q); unfold hashB at h_; simp_all
 refine ac ?_
 refine Ch.cs 161 rfl ?_ ?_ <;> intro h20 q20
 have hk0 : 0 < q := by simpa using h20
 obtain ⟨y, hy⟩ := at_ (l := e.hashes) (k := q - 1) (by omega)
 have hgy := getD_at (d := (0 : Int)) hy
 refine ac ?_
 refine cy h20 rfl (ok_indexAddr rfl Tryz.underlying22 sz3 (vl rfl) (vl rfl) (by omega) (by rw [show ((q : Nat) : Int) - 1 = ((q - 1 : Nat) : Int) by omega]; exact row_at hy)) ?_
 refine ac ?_
 refine cy h20 rfl (ok_indexAddr rfl Tryz.underlying22 sz3 (vl rfl) (vl rfl) (by omega) (row_at hx_q)) ?_
 refine ac ?_
 refine wk3 1 8 175 rfl ?_
 refine Tr.cn rfl ?_ ?_ <;> intro h21 q21
 refine ac ?_
 refine ac ?_
 · refine int_eq (if_neg (fun hv => ?_)).symm; have ok := eptB_iff.1 hv; have h_ := allI_iff.1 (show allI (ascAt e.hashes) e.hashes.length = true from ok.hash) q (by omega); unfold ascAt at h_; rw [hg, hgy] at h_; simp at h_; omega
 refine ac ?_
 refine ac ?_
 exact Fin.fam_same (q + 1) ⟨⟨hk_q, (fun j hj => by rcases Nat.lt_or_eq_of_le (Nat.le_of_lt_succ hj) with h_ | h_; exact hinv_q j h_; (subst h_; unfold ascAt hashB; rw [hg]; rw [hgy]; simp_all))⟩, by omega⟩ ⟨⟨_, rfl, int_succ q⟩, ke rfl, trivial⟩
 have hk00 : ¬ 0 < q := by simpa using h20
 refine ac ?_
 refine wk3 1 8 175 rfl ?_
 refine ac ?_
 refine ac ?_
 exact Fin.fam_same (q + 1) ⟨⟨hk_q, (fun j hj => by rcases Nat.lt_or_eq_of_le (Nat.le_of_lt_succ hj) with h_ | h_; exact hinv_q j h_; (subst h_; unfold ascAt hashB; rw [hg]; simp_all))⟩, by omega⟩ ⟨⟨_, rfl, int_succ q⟩, ke rfl, trivial⟩
 have he_q : q = (e.hashes).length := by have := ge_of_dec h18; omega
 subst he_q
 refine ac ?_
 refine ac ?_
 refine ac ?_
 · refine int_eq (if_pos (eptB_iff.2 ⟨by simp_all, by omega, by omega, by omega, allI_iff.2 hinv_i, by omega, by omega, allI_iff.2 (fun j hj => and1 (hinv_o j hj)), allI_iff.2 (fun j hj => and1 (hinv_q j hj)), hall, all_at (fun j hj => and2 (hinv_o j hj)), all_at (fun j hj => and2 (hinv_q j hj))⟩)).symm
end Go.Proofs.YtflodcidhlmaaaaGreat
namespace Go.Proofs.YtflodcidhlmaaaaGreat
open Go Go.RowKit Cp

theorem take_snocM {β γ : Type} {f : β → γ} {l : List β} {k : Nat} {x : β} (h : l[k]? = some x) : (l.take k).map f ++ [f x] = (l.take (k + 1)).map f := by rw [List.take_add_one, h, List.map_append]; rfl

theorem w_R24CopyI {x : Idn} (hx : x.small) : Fun Tryz.prog 77 [agg (rowId x)] (agg (rowId x)) := by
 refine fo Tryz.func77 rfl ⟨rfl, rfl⟩ fun M0 w0 => ?_
 have hch := hx.chain
 refine Tr.seq (Tr.regT (tp rfl (ok_box rfl (VL.le (vl rfl) (agg_cellsP _))) ?_))
 refine TO.alloc rfl rfl (by decide) rfl z47 zo47 (fun b1 => ?_)
 refine ap ?_
 refine ap ?_
 refine TO.alloc rfl rfl (by decide) rfl z47 zo47 (fun b2 => ?_)
 refine ap ?_
 refine ac ?_
 refine wk5 2 3 12 13 14 rfl (Tr.block (Tr.reC 0 [int x.alg, int x.bits, int x.keyId, andIs (.slice none 0 0) (slice 15 ((x.chain.take 0).map rowCr))] rfl ⟨Pr.le_refl _, Pr.le_refl _, Pr.le_refl _, own_nil rfl, trivial⟩ (Tr.addnil 126 15 (Tr.loopV1 [(2, _), (3, _), (12, _), (13, _)] ⟨ke rfl, ke rfl, ke rfl, ke rfl, trivial⟩ (fun k v => [(14, int ((k : Nat) : Int))]) (fun k v => Hp M0 w0 noS ([appRes 126 15 v, cellsRes true b2 47 [int x.alg, int x.bits, int x.keyId, andIs v (slice 15 ((x.chain.take k).map rowCr))], cellsRes true b1 47 (([.int .i64 0, .int .i64 0, .int .i64 0, .slice none 0 0] : List Value).map is)])) (fun k : Nat => k ≤ (x.chain).length) (fun k : Nat => (x.chain).length - k) 0 (.slice none 0 0) (Nat.zero_le _) ⟨ke rfl, trivial⟩ (fun _ _ h => h) ?_))))
 rintro k v hle_k
 refine ac ?_
 refine Tr.seq ?_
 refine Tr.cn rfl ?_ ?_ <;> intro h1 q1
 have hk_k : k < (x.chain).length := lt_of_dec h1
 obtain ⟨c, hx_k⟩ := at_ hk_k
 have hcn := hx.names c (List.mem_of_getElem? hx_k)
 refine ac ?_
 refine Tr.seq (Tr.block (Tr.seq (Tr.regT (tp rfl (ok_indexAddr rfl Tryz.underlying45 sz126 (vl rfl) (vl rfl) (by omega) (by exact row_at (by assumption))) ?_))))
 refine tp rfl (ok_loadA rfl agg126 sz126 (vl rfl) rfl rfl) ?_
 refine TO.alloc rfl rfl (by decide) rfl z126 zo126 (fun b3 => ?_)
 refine ap ?_
 refine ap ?_
 refine tp rfl (ok_appN rfl Tryz.underlying83 sz9 by9 z9 rfl (by decide) (vl rfl) (by simp only [List.length_map]; unfold maxLen; omega) (by simp only [List.length_map]; omega)) ?_
 refine ap ?_
 refine wk6 2 3 5 12 13 14 rfl ?_
 refine ap ?_
 refine TO.efs 1 rfl rfl (by decide) (ef_append rfl rfl (by decide) rfl Tryz.underlying45 sz126 by126 z126 rfl (by decide) ⟨_, rfl, andIs_le _ _⟩ ⟨_, rfl, full_le _ _⟩ (by simp only [List.length_map, List.length_append, List.length_cons, List.length_nil, List.length_take]; unfold maxLen; omega) (by simp only [List.length_map, List.length_append, List.length_cons, List.length_nil, List.length_take]; omega) (appR_is (by exact List.Mem.head _) ⟨_, rfl, andIs_is _ _⟩)) (fun v1 => ?_)
 refine ap ?_
 refine Tr.drop 0 ?_
 refine ac ?_
 refine Fin.reC 1 [int x.alg, int x.bits, int x.keyId, andIs v1 (slice 15 ((x.chain.take (k + 1)).map rowCr))] rfl ⟨Pr.le_refl _, Pr.le_refl _, Pr.le_refl _, own_le (take_snocM (f := rowCr) hx_k), trivial⟩ (Fin.famV1 (k + 1) v1 (⟨hk_k, by omega⟩) ⟨⟨_, rfl, int_succ k⟩, ke rfl, ke rfl, ke rfl, ke rfl, trivial⟩ (fun _ _ h => h))
 have he_k : k = (x.chain).length := by have := ge_of_dec h1; omega
 subst he_k
 refine ac ?_
 refine ap ?_
 refine Tr.ret (Fin.retX1 rfl (RVal.cell 2 rfl rfl agg47 sz47 rfl (Pr.le_refl _)) ?_)
 · exact agg_le ⟨Pr.le_refl _, Pr.le_refl _, Pr.le_refl _, Pr.le_trans (andIs_le _ _) (Pr.le_of_eq (by rw [List.take_length])), trivial⟩
theorem w_R24Copy {e : Ept} (hsm : e.small) : Fun Tryz.prog 81 [agg (rowEp e)] (agg (rowEp e)) := by
 refine fo Tryz.func81 rfl ⟨rfl, rfl⟩ fun M0 w0 => ?_
 have hs1 := hsm.suites
 have hs2 := hsm.anchors
 have hs3 := hsm.hashes
 have hs4 := hsm.idl
 refine Tr.seq (Tr.regT (tp rfl (ok_box rfl (VL.le (vl rfl) (agg_cellsP _))) ?_))
 refine TO.alloc rfl rfl (by decide) rfl z35 zo35 (fun b1 => ?_)
 refine ao ?_
 refine ao ?_
 refine TO.alloc rfl rfl (by decide) rfl z35 zo35 (fun b2 => ?_)
 refine TO.store_all 0 rfl rfl rfl (vl rfl) (VL.le (vl rfl) (agg_cellsP _)) rfl sz35 rfl rfl ?_
 refine ao ?_
 refine Tr.seq (Tr.rx ?_)
 refine ax ?_
 refine xo rfl (fun _ => ok_appN rfl Tryz.underlying22 sz3 by3 z3 rfl (by decide) (vl rfl) (by simp only [List.length_map]; unfold maxLen; omega) (by simp only [List.length_map]; omega)) ?_
 refine ax ?_
 refine xo rfl (fun _ => ok_appN rfl Tryz.underlying22 sz3 by3 z3 rfl (by decide) (vl rfl) (by simp only [List.length_map]; unfold maxLen; omega) (by simp only [List.length_map]; omega)) ?_
 refine ax ?_
 refine xo rfl (fun _ => ok_appN rfl Tryz.underlying22 sz3 by3 z3 rfl (by decide) (vl rfl) (by simp only [List.length_map]; unfold maxLen; omega) (by simp only [List.length_map]; omega)) ?_
 refine xo rfl (fun _ => okp_fieldAddr rfl fo35_3 (vl rfl)) (Cx.ef0 0 rfl rfl (ef_store rfl rfl (vl rfl) (VL.le (vl rfl) (one_cellsP _)) sz22 rfl (by exact Nat.le_of_ble_eq_true rfl) rfl) (xo rfl (fun _ => okp_fieldAddr rfl fo35_6 (vl rfl)) (Cx.ef0 0 rfl rfl (ef_store rfl rfl (vl rfl) (VL.le (vl rfl) (one_cellsP _)) sz22 rfl (by exact Nat.le_of_ble_eq_true rfl) rfl) (xo rfl (fun _ => okp_fieldAddr rfl fo35_7 (vl rfl)) (Cx.ef0 0 rfl rfl (ef_store rfl rfl (vl rfl) (VL.le (vl rfl) (one_cellsP _)) sz22 rfl (by exact Nat.le_of_ble_eq_true rfl) rfl) ?_)))))
 refine Cx.nil ⟨by kernel_rfl, ?_⟩
 refine FinX.done al2 (Fin.go (wk3 1 2 3 rfl ?_))
 refine ao ?_
 refine TO.ef0 0 rfl rfl (ef_store rfl rfl (vl rfl) (VL.le (vl rfl) (one_cellsP _)) sz33 rfl (by exact Nat.le_of_ble_eq_true rfl) rfl) ?_
 refine ao ?_
 refine ac ?_
 refine Tr.block (Tr.reC 0 [str e.name, int e.least, int e.most, ints e.suites, bool e.own, andIs (.slice none 0 0) (slice 4 ((e.ids.take 0).map rowId)), ints e.anchors, ints e.hashes, bool e.fall] rfl ⟨Pr.le_refl _, Pr.le_refl _, Pr.le_refl _, Pr.le_refl _, Pr.le_refl _, own_nil rfl, Pr.le_refl _, Pr.le_refl _, Pr.le_refl _, trivial⟩ (Tr.addnil 47 4 (Tr.loopV1 [(2, _), (3, _), (21, _), (22, _)] ⟨ke rfl, ke rfl, ke rfl, ke rfl, trivial⟩ (fun k v => [(23, int ((k : Nat) : Int))]) (fun k v => Hp M0 w0 noS ([appRes 47 4 v, cellsRes true b2 35 [str e.name, int e.least, int e.most, ints e.suites, bool e.own, andIs v (slice 4 ((e.ids.take k).map rowId)), ints e.anchors, ints e.hashes, bool e.fall], cellsRes true b1 35 (([.string (ByteArray.mk #[]), .int .i64 0, .int .i64 0, .slice none 0 0, .bool false, .slice none 0 0, .slice none 0 0, .slice none 0 0, .bool false] : List Value).map is)])) (fun k : Nat => k ≤ (e.ids).length) (fun k : Nat => (e.ids).length - k) 0 (.slice none 0 0) (Nat.zero_le _) ⟨ke rfl, trivial⟩ (fun _ _ h => h) ?_)))
 rintro k v hle_k
 refine ac ?_
 refine Tr.seq ?_
 refine Tr.cn rfl ?_ ?_ <;> intro h1 q1
 have hk_k : k < (e.ids).length := lt_of_dec h1
 obtain ⟨x, hx_k⟩ := at_ hk_k
 have hxs := hsm.ids x (List.mem_of_getElem? hx_k)
 refine ac ?_
 refine Tr.seq (Tr.block (Tr.seq (Tr.regT (tp rfl (ok_indexAddr rfl Tryz.underlying33 sz47 (vl rfl) (vl rfl) (by omega) (by exact row_at (by assumption))) ?_))))
 refine tp rfl (ok_loadA rfl agg47 sz47 (vl rfl) rfl rfl) ?_
 refine TO.alloc rfl rfl (by decide) rfl z47 zo47 (fun b3 => ?_)
 refine sf 0 5 ⟨rfl, rfl, rfl⟩ rfl rfl rfl rfl ?_
 refine ao ?_
 refine Tr.pad (Tr.rx ?_)
 refine ax ?_
 refine xo rfl (fun _ => kc1 (w_R24CopyI hxs) rfl rfl) (xo rfl (fun _ => ok_buildSlice (xs := [.tmp 30]) (rows := [_]) rfl rfl Tryz.underlying33 sz47 z47 rfl (by decide) ⟨⟨(by exact rfl), (VL.le (vl rfl) (agg_cellsP _))⟩, trivial⟩ (by decide)) ?_)
 refine Cx.ef 1 rfl rfl (by decide) (ef_append rfl rfl (by decide) rfl Tryz.underlying33 sz47 by47 z47 rfl (by decide) ⟨_, rfl, andIs_le _ _⟩ ⟨_, rfl, full_le _ _⟩ (by simp only [List.length_map, List.length_append, List.length_cons, List.length_nil, List.length_take]; unfold maxLen; omega) (by simp only [List.length_map, List.length_append, List.length_cons, List.length_nil, List.length_take]; omega) (appR_is (by exact List.Mem.head _) ⟨_, rfl, andIs_is _ _⟩)) ?_
 refine xo rfl (fun _ => okp_fieldAddr rfl fo35_5 (vl rfl)) (Cx.ef0 2 rfl rfl (ef_storeS rfl rfl rfl (vl rfl) rfl sz33 (by exact Nat.le_of_ble_eq_true rfl)) ?_)
 refine Cx.nil ⟨by kernel_rfl, ?_⟩
 refine FinX.open2 1 2 32 rfl rfl (by decide) rfl (fun v1 => ?_)
 refine FinX.done al4 ?_
 refine ac ?_
 refine Tr.drop 0 (wk5 2 3 21 22 23 rfl ?_)
 refine ac ?_
 refine Fin.reC 1 [str e.name, int e.least, int e.most, ints e.suites, bool e.own, andIs v1 (slice 4 ((e.ids.take (k + 1)).map rowId)), ints e.anchors, ints e.hashes, bool e.fall] rfl ⟨Pr.le_refl _, Pr.le_refl _, Pr.le_refl _, Pr.le_refl _, Pr.le_refl _, own_le (take_snocM (f := rowId) hx_k), Pr.le_refl _, Pr.le_refl _, Pr.le_refl _, trivial⟩ (Fin.famV1 (k + 1) v1 (⟨hk_k, by omega⟩) ⟨⟨_, rfl, int_succ k⟩, ke rfl, ke rfl, ke rfl, ke rfl, trivial⟩ (fun _ _ h => h))
 have he_k : k = (e.ids).length := by have := ge_of_dec h1; omega
 subst he_k
 refine ac ?_
 refine ao ?_
 refine TO.store_all 2 rfl rfl rfl (vl rfl) (VL.le (vl rfl) (agg_cellsP _)) rfl sz35 rfl rfl ?_
 refine ao ?_
 refine Tr.ret (Fin.retX1 rfl (RVal.cell 2 rfl rfl agg35 sz35 rfl (Pr.le_refl _)) ?_)
 · exact agg_le ⟨Pr.le_refl _, Pr.le_refl _, Pr.le_refl _, Pr.le_refl _, Pr.le_refl _, Pr.le_trans (andIs_le _ _) (Pr.le_of_eq (by rw [List.take_length])), Pr.le_refl _, Pr.le_refl _, Pr.le_refl _, trivial⟩
theorem w_R24allowed {e : Ept} {c : Chg} (hsm : e.small) (hcs : c.idn.small) : Fun Tryz.prog 54 [agg (rowEp e), agg (rowChg c)] (int (alw e c)) := by
 refine fo Tryz.func54 rfl ⟨rfl, rfl⟩ fun M0 w0 => ?_
 refine ac ?_
 refine ac ?_
 refine co rfl (kc1 (w_R9Check hsm) rfl rfl) ?_
 refine ac ?_
 refine Tr.cn rfl ?_ ?_ <;> intro h1 q1
 refine ac ?_
 refine ac ?_
 · refine int_eq ?_; unfold alw; repeat (refine (if_pos ?_).symm; simp_all)
 refine ac ?_
 refine ac ?_
 refine co rfl (kc1 (w_R24form (c := c) hcs) rfl rfl) ?_
 refine ac ?_
 refine Tr.cn rfl ?_ ?_ <;> intro h2 q2
 refine ac ?_
 refine ac ?_
 · refine int_eq ?_; unfold alw; repeat (first | (refine (if_pos ?_).symm; omega) | (refine Eq.trans ?_ (if_neg ?_).symm; rotate_left; focus (simp_all; done)))
 refine ac ?_
 refine wk2 2 3 rfl (Tr.cutk [2, 3] [] (¬ (c.kind = 1 ∧ (c.at_ < 0 ∨ (e.suites.length : Int) < c.at_)) ∧ ¬ (c.kind = 5 ∧ (c.at_ < 0 ∨ (e.ids.length : Int) < c.at_)) ∧ ¬ ((c.kind = 11 ∨ c.kind = 12) ∧ (c.number ≠ 0 ∧ c.number ≠ 1))) ?_ (fun hrng => ?_))
 refine ac ?_
 refine ac ?_
 refine Tr.cn rfl ?_ ?_ <;> intro h4 q4
 refine ac ?_
 refine Ch.cs 27 rfl ?_ ?_ <;> intro h5 q5
 refine ac ?_
 refine wk3 2 3 34 rfl ?_
 refine ac ?_
 refine ac ?_
 · refine int_eq ?_; unfold alw; repeat (first | (refine (if_pos ?_).symm; omega) | (refine Eq.trans ?_ (if_neg ?_).symm; rotate_left; focus (simp_all; done)))
 refine ac ?_
 refine wk3 2 3 34 rfl ?_
 refine Tr.cn rfl ?_ ?_ <;> intro h6 q6
 refine ac ?_
 refine ac ?_
 · refine int_eq ?_; unfold alw; repeat (first | (refine (if_pos ?_).symm; omega) | (refine Eq.trans ?_ (if_neg ?_).symm; rotate_left; focus (simp_all; done)))
 refine Tr.skip (Fin.block (Fin.fam_same () (by omega) (kk2 rfl)))
 refine ac ?_
 refine Tr.cn rfl ?_ ?_ <;> intro h7 q7
 refine ac ?_
 refine Ch.cs 40 rfl ?_ ?_ <;> intro h8 q8
 refine ac ?_
 refine wk3 2 3 47 rfl ?_
 refine ac ?_
 refine ac ?_
 · refine int_eq ?_; unfold alw; repeat (first | (refine Eq.trans ?_ (if_neg ?_).symm; rotate_left; focus (omega)) | (refine (if_pos ?_).symm; omega) | (refine Eq.trans ?_ (if_neg ?_).symm; rotate_left; focus (simp_all; done)))
 refine ac ?_
 refine wk3 2 3 47 rfl ?_
 refine Tr.cn rfl ?_ ?_ <;> intro h9 q9
 refine ac ?_
 refine ac ?_
 · refine int_eq ?_; unfold alw; repeat (first | (refine Eq.trans ?_ (if_neg ?_).symm; rotate_left; focus (omega)) | (refine (if_pos ?_).symm; omega) | (refine Eq.trans ?_ (if_neg ?_).symm; rotate_left; focus (simp_all; done)))
 refine Tr.skip (Fin.block (Fin.fam_same () (by omega) (kk2 rfl)))
 refine ac ?_
 refine Tr.cn rfl ?_ ?_ <;> intro h10 q10
 refine ac ?_
 refine Tr.cond rfl (fun _ => ?_) (fun h => nomatch h10.symm.trans h)
 refine ac ?_
 refine Ch.cs 54 rfl ?_ ?_ <;> intro h11 q11
 refine ac ?_
 refine wk3 2 3 58 rfl ?_
 refine Tr.cn rfl ?_ ?_ <;> intro h12 q12
 refine ac ?_
 refine ac ?_
 · refine int_eq ?_; unfold alw; repeat (first | (refine Eq.trans ?_ (if_neg ?_).symm; rotate_left; focus (omega)) | (refine (if_pos ?_).symm; omega) | (refine Eq.trans ?_ (if_neg ?_).symm; rotate_left; focus (simp_all; done)))
 refine Tr.skip (Fin.block (Fin.fam_same () (by omega) (kk2 rfl)))
 refine ac ?_
 refine wk3 2 3 58 rfl (Tr.cond rfl (fun h => nomatch h) (fun _ => ?_))
 refine Tr.skip (Fin.block (Fin.fam_same () (by omega) (kk2 rfl)))
 refine ac ?_
 refine Tr.cn rfl ?_ ?_ <;> intro h13 q13
 refine ac ?_
 refine Ch.cs 54 rfl ?_ ?_ <;> intro h14 q14
 refine ac ?_
 refine wk3 2 3 58 rfl ?_
 refine Tr.cn rfl ?_ ?_ <;> intro h15 q15
 refine ac ?_
 refine ac ?_
 · refine int_eq ?_; unfold alw; repeat (first | (refine Eq.trans ?_ (if_neg ?_).symm; rotate_left; focus (omega)) | (refine (if_pos ?_).symm; omega) | (refine Eq.trans ?_ (if_neg ?_).symm; rotate_left; focus (simp_all; done)))
 refine Tr.skip (Fin.block (Fin.fam_same () (by omega) (kk2 rfl)))
 refine ac ?_
 refine wk3 2 3 58 rfl (Tr.cond rfl (fun h => nomatch h) (fun _ => ?_))
 refine Tr.skip (Fin.block (Fin.fam_same () (by omega) (kk2 rfl)))
 refine Tr.skip (Fin.block (Fin.fam_same () (by omega) (kk2 rfl)))
 refine wk2 2 3 rfl (Tr.cutk [2, 3] [] (¬ ((lstR e c.kind).2.2 = true ∧ decide (0 ≤ idx (fun y => c.number == y) (lstR e c.kind).1) = (lstR e c.kind).2.1)) ?_ (fun hlst => ?_))
 refine ac ?_
 refine co rfl (kc2 (w_R24listed) rfl rfl rfl) ?_
 refine ac ?_
 refine ac ?_
 refine Ch.cs 68 rfl ?_ ?_ <;> intro h17 q17
 refine ac ?_
 refine cy h17 rfl (kc2 (w_R24place) rfl rfl rfl) ?_
 refine ac ?_
 refine wk3 2 3 76 rfl ?_
 refine Tr.cn rfl ?_ ?_ <;> intro h18 q18
 refine ac ?_
 refine ac ?_
 · refine int_eq ?_; unfold alw; repeat (first | (refine Eq.trans ?_ (if_neg ?_).symm; rotate_left; focus (omega)) | (refine Eq.trans ?_ (if_neg ?_).symm; rotate_left; focus (simp_all; done)) | (refine (if_pos ?_).symm; simp_all; done))
 refine Tr.skip (Fin.fam_same () (by simp_all) (kk2 rfl))
 refine ac ?_
 refine wk3 2 3 76 rfl (Tr.cond rfl (fun h => nomatch h) (fun _ => ?_))
 refine Tr.skip (Fin.fam_same () (by simp_all) (kk2 rfl))
 refine wk2 2 3 rfl (Tr.cutk [2, 3] [] (¬ ((valR e c.kind).2 = true ∧ (valR e c.kind).1 = c.number)) ?_ (fun hval => ?_))
 refine ac ?_
 refine co rfl (kc2 (w_R24value) rfl rfl rfl) ?_
 refine ac ?_
 refine ac ?_
 refine Ch.cs 85 rfl ?_ ?_ <;> intro h20 q20
 refine ac ?_
 refine wk3 2 3 90 rfl ?_
 refine Tr.cn rfl ?_ ?_ <;> intro h21 q21
 refine ac ?_
 refine ac ?_
 · refine int_eq ?_; unfold alw; repeat (first | (refine Eq.trans ?_ (if_neg ?_).symm; rotate_left; focus (omega)) | (refine Eq.trans ?_ (if_neg ?_).symm; rotate_left; focus (simp_all; done)) | (refine (if_pos ?_).symm; simp_all; done))
 refine Tr.skip (Fin.fam_same () (by simp_all) (kk2 rfl))
 refine ac ?_
 refine wk3 2 3 90 rfl (Tr.cond rfl (fun h => nomatch h) (fun _ => ?_))
 refine Tr.skip (Fin.fam_same () (by simp_all) (kk2 rfl))
 refine wk2 2 3 rfl (Tr.cutk [2, 3] [] (¬ (c.kind = 5 ∧ 0 < cntK c.idn.keyId e.ids)) ?_ (fun hadd => ?_))
 refine ac ?_
 refine Tr.cn rfl ?_ ?_ <;> intro h23 q23
 refine ac ?_
 refine co rfl (kc2 (w_R24keys hsm.idl) rfl rfl rfl) ?_
 refine ac ?_
 refine wk3 2 3 10 rfl ?_
 refine ac ?_
 refine Tr.cn rfl ?_ ?_ <;> intro h24 q24
 refine ac ?_
 refine ac ?_
 · refine int_eq ?_; unfold alw; repeat (first | (refine Eq.trans ?_ (if_neg ?_).symm; rotate_left; focus (omega)) | (refine (if_pos ?_).symm; omega) | (refine Eq.trans ?_ (if_neg ?_).symm; rotate_left; focus (simp_all; done)))
 refine Tr.skip (Fin.fam_same () (by omega) (kk2 rfl))
 refine Tr.skip (Fin.fam_same () (by omega) (kk2 rfl))
 refine ac ?_
 refine Tr.cn rfl ?_ ?_ <;> intro h25 q25
 refine ac ?_
 refine co rfl (kc2 (w_R24keys hsm.idl) rfl rfl rfl) ?_
 refine ac ?_
 refine wk1 12 rfl ?_
 refine ac ?_
 refine Tr.cn rfl ?_ ?_ <;> intro h26 q26
 refine ac ?_
 refine ac ?_
 · refine int_eq ?_; unfold alw; repeat (first | (refine Eq.trans ?_ (if_neg ?_).symm; rotate_left; focus (omega)) | (refine (if_pos ?_).symm; omega) | (refine Eq.trans ?_ (if_neg ?_).symm; rotate_left; focus (simp_all; done)))
 refine ac ?_
 refine ac ?_
 refine Tr.cn rfl ?_ ?_ <;> intro h27 q27
 refine ac ?_
 refine ac ?_
 · refine int_eq ?_; unfold alw; repeat (first | (refine Eq.trans ?_ (if_neg ?_).symm; rotate_left; focus (omega)) | (refine (if_pos ?_).symm; omega) | (refine Eq.trans ?_ (if_neg ?_).symm; rotate_left; focus (simp_all; done)))
 refine ac ?_
 refine ac ?_
 refine ac ?_
 · refine int_eq ?_; unfold alw; repeat (first | rfl | (refine Eq.trans ?_ (if_neg ?_).symm; rotate_left; focus (omega)) | (refine Eq.trans ?_ (if_neg ?_).symm; rotate_left; focus (simp_all; done)))
 refine ac ?_
 refine ac ?_
 refine ac ?_
 · refine int_eq ?_; unfold alw; repeat (first | rfl | (refine Eq.trans ?_ (if_neg ?_).symm; rotate_left; focus (omega)) | (refine Eq.trans ?_ (if_neg ?_).symm; rotate_left; focus (simp_all; done)))
end Go.Proofs.YtflodcidhlmaaaaGreat
namespace Go.Proofs.YtflodcidhlmaaaaGreat
open Go Go.RowKit Cp
theorem ok_1 {e e2 : Ept} {c b : Chg} (h : c.kind = 1) (hs : stepR e c = .ok (e2, b)) : (0 ≤ c.at_ ∧ c.at_ ≤ (e.suites.length : Nat)) ∧ e2 = { e with suites := e.suites.take c.at_.toNat ++ [c.number] ++ e.suites.drop c.at_.toNat } ∧ b = ⟨c.endpoint, 2, c.number, 0, zeroId⟩ := by
  rw [stepR_1 h] at hs
  (repeat' (split at hs)) <;> first | (cases hs; done) | (injection hs with hs; injection hs with h1 h2; exact ⟨by omega, h1.symm, h2.symm⟩)
theorem ok_2 {e e2 : Ept} {c b : Chg} (h : c.kind = 2) (hs : stepR e c = .ok (e2, b)) : (0 ≤ sIdx e c) ∧ e2 = { e with suites := e.suites.eraseIdx (sIdx e c).toNat } ∧ b = ⟨c.endpoint, 1, c.number, sIdx e c, zeroId⟩ := by
  rw [stepR_2 h] at hs
  (repeat' (split at hs)) <;> first | (cases hs; done) | (injection hs with hs; injection hs with h1 h2; exact ⟨by omega, h1.symm, h2.symm⟩)
theorem ok_3 {e e2 : Ept} {c b : Chg} (h : c.kind = 3) (hs : stepR e c = .ok (e2, b)) : e2 = { e with most := c.number } ∧ b = ⟨c.endpoint, c.kind, e.most, 0, zeroId⟩ := by
  rw [stepR_3 h] at hs
  (repeat' (split at hs)) <;> first | (cases hs; done) | (injection hs with hs; injection hs with h1 h2; exact ⟨h1.symm, h2.symm⟩)
theorem ok_4 {e e2 : Ept} {c b : Chg} (h : c.kind = 4) (hs : stepR e c = .ok (e2, b)) : e2 = { e with least := c.number } ∧ b = ⟨c.endpoint, c.kind, e.least, 0, zeroId⟩ := by
  rw [stepR_4 h] at hs
  (repeat' (split at hs)) <;> first | (cases hs; done) | (injection hs with hs; injection hs with h1 h2; exact ⟨h1.symm, h2.symm⟩)
theorem ok_5 {e e2 : Ept} {c b : Chg} (h : c.kind = 5) (hs : stepR e c = .ok (e2, b)) : (0 ≤ c.at_ ∧ c.at_ ≤ (e.ids.length : Nat)) ∧ e2 = { e with ids := e.ids.take c.at_.toNat ++ [c.idn] ++ e.ids.drop c.at_.toNat } ∧ b = ⟨c.endpoint, 6, c.idn.keyId, 0, zeroId⟩ := by
  rw [stepR_5 h] at hs
  (repeat' (split at hs)) <;> first | (cases hs; done) | (injection hs with hs; injection hs with h1 h2; exact ⟨by omega, h1.symm, h2.symm⟩)
theorem ok_6 {e e2 : Ept} {c b : Chg} (h : c.kind = 6) (hs : stepR e c = .ok (e2, b)) : ∃ x, e.ids[(keyIdx c.number e.ids).toNat]? = some x ∧ 0 ≤ keyIdx c.number e.ids ∧ e2 = { e with ids := e.ids.eraseIdx (keyIdx c.number e.ids).toNat } ∧ b = ⟨c.endpoint, 5, 0, keyIdx c.number e.ids, x⟩ := by
  rw [stepR_6 h] at hs
  (repeat' (split at hs)) <;> first | (cases hs; done) | (injection hs with hs; injection hs with h1 h2; exact ⟨_, by assumption, by omega, h1.symm, h2.symm⟩)
theorem ok_7 {e e2 : Ept} {c b : Chg} (h : c.kind = 7) (hs : stepR e c = .ok (e2, b)) : hasX e.anchors c.number = false ∧ e2 = { e with anchors := insX e.anchors c.number } ∧ b = ⟨c.endpoint, 8, c.number, 0, zeroId⟩ := by
  rw [stepR_7 h] at hs
  (repeat' (split at hs)) <;> first | (cases hs; done) | (injection hs with hs; injection hs with h1 h2; exact ⟨by simp_all, h1.symm, h2.symm⟩)
theorem ok_8 {e e2 : Ept} {c b : Chg} (h : c.kind = 8) (hs : stepR e c = .ok (e2, b)) : hasX e.anchors c.number = true ∧ e2 = { e with anchors := e.anchors.eraseIdx (posI e.anchors c.number) } ∧ b = ⟨c.endpoint, 7, c.number, 0, zeroId⟩ := by
  rw [stepR_8 h] at hs
  (repeat' (split at hs)) <;> first | (cases hs; done) | (injection hs with hs; injection hs with h1 h2; exact ⟨by simp_all, h1.symm, h2.symm⟩)
theorem ok_9 {e e2 : Ept} {c b : Chg} (h : c.kind = 9) (hs : stepR e c = .ok (e2, b)) : hasX e.hashes c.number = false ∧ e2 = { e with hashes := insX e.hashes c.number } ∧ b = ⟨c.endpoint, 10, c.number, 0, zeroId⟩ := by
  rw [stepR_9 h] at hs
  (repeat' (split at hs)) <;> first | (cases hs; done) | (injection hs with hs; injection hs with h1 h2; exact ⟨by simp_all, h1.symm, h2.symm⟩)
theorem ok_10 {e e2 : Ept} {c b : Chg} (h : c.kind = 10) (hs : stepR e c = .ok (e2, b)) : hasX e.hashes c.number = true ∧ e2 = { e with hashes := e.hashes.eraseIdx (posI e.hashes c.number) } ∧ b = ⟨c.endpoint, 9, c.number, 0, zeroId⟩ := by
  rw [stepR_10 h] at hs
  (repeat' (split at hs)) <;> first | (cases hs; done) | (injection hs with hs; injection hs with h1 h2; exact ⟨by simp_all, h1.symm, h2.symm⟩)
theorem ok_11 {e e2 : Ept} {c b : Chg} (h : c.kind = 11) (hs : stepR e c = .ok (e2, b)) : e2 = { e with fall := (c.number == 1) } ∧ b = ⟨c.endpoint, c.kind, bitI e.fall, 0, zeroId⟩ := by
  rw [stepR_11 h] at hs
  (repeat' (split at hs)) <;> first | (cases hs; done) | (injection hs with hs; injection hs with h1 h2; exact ⟨h1.symm, h2.symm⟩)
theorem ok_12 {e e2 : Ept} {c b : Chg} (h : c.kind = 12) (hs : stepR e c = .ok (e2, b)) : e2 = { e with own := (c.number == 1) } ∧ b = ⟨c.endpoint, c.kind, bitI e.own, 0, zeroId⟩ := by
  rw [stepR_12 h] at hs
  (repeat' (split at hs)) <;> first | (cases hs; done) | (injection hs with hs; injection hs with h1 h2; exact ⟨h1.symm, h2.symm⟩)

theorem sIdx_lt {e : Ept} {c : Chg} (h : 0 ≤ sIdx e c) : (sIdx e c).toNat < e.suites.length := by obtain ⟨_, _, _, h3⟩ := idx_hit (p := fun y => c.number == y) (l := e.suites) h; exact h3
theorem w_R24made {e e2 : Ept} {c b : Chg} (hsm : e.small) (hcs : c.idn.small) (hce : eptB e = true) (hc : okCh c) (hs : stepR e c = .ok (e2, b)) : Fun Tryz.prog 55 [agg (rowEp e), agg (rowChg c)] (agg (rowEp e2)) := by
 refine fo Tryz.func55 rfl ⟨rfl, rfl⟩ fun M0 w0 => ?_
 have hk := hc.1
 have ok := eptB_iff.1 hce
 have hs1 := hsm.suites
 have hs2 := hsm.anchors
 have hs3 := hsm.hashes
 have hs4 := hsm.idl
 refine Tr.seq (Tr.regT (tp rfl (ok_box rfl (VL.le (vl rfl) (agg_cellsP _))) (tp rfl (ok_box rfl (VL.le (vl rfl) (agg_cellsP _))) ?_)))
 refine TO.alloc rfl rfl (by decide) rfl z35 zo35 (fun b1 => ?_)
 refine ap ?_
 refine ap ?_
 refine tp rfl (kc1 (w_R24Copy hsm) rfl rfl) ?_
 refine TO.alloc rfl rfl (by decide) rfl z35 zo35 (fun b2 => ?_)
 refine ap ?_
 refine ac ?_
 refine ac ?_
 refine Tr.cn rfl ?_ ?_ <;> intro h1 q1
 obtain ⟨hr, rfl, rfl⟩ := ok_1 q1 hs
 refine ap ?_
 refine tp rfl (ok_call rfl (w_R24with (l := e.suites) (i := c.at_.toNat) (by omega) hs1) ⟨ke rfl, ⟨_, rfl, int_eq (by omega)⟩, ke rfl, trivial⟩) ?_
 refine ap ?_
 refine wk2 4 5 rfl ?_
 refine ap ?_
 refine Tr.drop 0 (Tr.ret (Fin.retX1 rfl (RVal.cell 0 rfl rfl agg35 sz35 rfl (Pr.le_refl _)) ?_))
 · exact Pr.le_refl _
 refine ac ?_
 refine wk6 2 3 4 5 13 24 rfl ?_
 refine Tr.cn rfl ?_ ?_ <;> intro h2 q2
 obtain ⟨hr, rfl, rfl⟩ := ok_2 q2 hs
 refine Tr.rx ?_
 refine ay ?_
 refine xo rfl (fun _ => kc2 (w_R24place) rfl rfl rfl) ?_
 refine xo rfl (fun _ => ok_call rfl (w_R24without (l := e.suites) (i := (sIdx e c).toNat) (sIdx_lt hr) hs1) ⟨ke rfl, ⟨_, rfl, int_eq (show sIdx e c = _ by omega)⟩, trivial⟩) ?_
 refine ay ?_
 refine Cx.nil ⟨by kernel_rfl, ?_⟩
 refine FinX.done al2 ?_
 refine ac ?_
 refine wk2 4 5 rfl ?_
 refine ap ?_
 refine Tr.drop 0 (Tr.ret (Fin.retX1 rfl (RVal.cell 0 rfl rfl agg35 sz35 rfl (Pr.le_refl _)) ?_))
 · exact Pr.le_refl _
 refine ac ?_
 refine Tr.cn rfl ?_ ?_ <;> intro h3 q3
 obtain ⟨rfl, rfl⟩ := ok_3 q3 hs
 refine ap ?_
 refine ap ?_
 refine Tr.drop 0 (Tr.ret (Fin.retX1 rfl (RVal.cell 0 rfl rfl agg35 sz35 rfl (Pr.le_refl _)) ?_))
 · exact Pr.le_refl _
 refine ac ?_
 refine Tr.cn rfl ?_ ?_ <;> intro h4 q4
 obtain ⟨rfl, rfl⟩ := ok_4 q4 hs
 refine ap ?_
 refine ap ?_
 refine Tr.drop 0 (wk1 4 rfl (Tr.ret (Fin.retX1 rfl (RVal.cell 0 rfl rfl agg35 sz35 rfl (Pr.le_refl _)) ?_)))
 · exact Pr.le_refl _
 refine ac ?_
 refine Tr.cn rfl ?_ ?_ <;> intro h5 q5
 obtain ⟨hr, rfl, rfl⟩ := ok_5 q5 hs
 refine ap ?_
 refine tp rfl (ok_sliceTo rfl Tryz.underlying33 sz47 (vl rfl) (vl rfl) (by omega) (by simp; omega)) ?_
 refine TO.pad ?_
 refine TO.efs 0 rfl rfl (by decide) (ef_append rfl rfl (by decide) rfl Tryz.underlying33 sz47 by47 z47 rfl (by decide) ⟨_, rfl, nil_slice _⟩ (vl rfl) (by simp only [List.length_map, List.length_append, List.length_cons, List.length_nil, List.length_take, List.length_drop]; unfold maxLen; omega) (by simp only [List.length_map, List.length_append, List.length_cons, List.length_nil, List.length_take, List.length_drop]; omega) (appR_full (by exact List.Mem.head _) ⟨_, rfl, nil_full 1⟩)) (fun v1 => ?_)
 refine ap ?_
 refine wk4 3 4 5 6 rfl ?_
 refine ap ?_
 refine tp rfl (kc1 (w_R24CopyI hcs) rfl rfl) (tp rfl (ok_buildSlice (xs := [.tmp 56]) (rows := [_]) rfl rfl Tryz.underlying33 sz47 z47 rfl (by decide) ⟨⟨(by exact rfl), (VL.le (vl rfl) (agg_cellsP _))⟩, trivial⟩ (by decide)) ?_)
 refine TO.efs 0 rfl rfl (by decide) (ef_append rfl rfl (by decide) rfl Tryz.underlying33 sz47 by47 z47 rfl (by decide) ⟨_, rfl, andIs_le _ _⟩ ⟨_, rfl, full_le _ _⟩ (by simp only [List.length_map, List.length_append, List.length_cons, List.length_nil, List.length_take, List.length_drop]; unfold maxLen; omega) (by simp only [List.length_map, List.length_append, List.length_cons, List.length_nil, List.length_take, List.length_drop]; omega) (appR_is (by exact List.Mem.head _) ⟨_, rfl, andIs_is _ _⟩)) (fun v2 => ?_)
 refine ap ?_
 refine ap ?_
 refine tp rfl (ok_sliceFrom rfl Tryz.underlying33 sz47 (vl rfl) (vl rfl) (by omega) (by simp; omega)) ?_
 refine TO.efs 0 rfl rfl (by decide) (ef_append rfl rfl (by decide) rfl Tryz.underlying33 sz47 by47 z47 rfl (by decide) ⟨_, rfl, andIs_le _ _⟩ (vl rfl) (by simp only [List.length_map, List.length_append, List.length_cons, List.length_nil, List.length_take, List.length_drop]; unfold maxLen; omega) (by simp only [List.length_map, List.length_append, List.length_cons, List.length_nil, List.length_take, List.length_drop]; omega) (appR_is (by exact List.Mem.head _) ⟨_, rfl, andIs_is _ _⟩)) (fun v3 => ?_)
 refine ap ?_
 refine wk2 4 5 rfl ?_
 refine ap ?_
 refine Tr.drop 1 (Tr.ret (Fin.retX1 rfl (RVal.cell 1 rfl rfl agg35 sz35 rfl (Pr.le_refl _)) ?_))
 · exact agg_le ⟨Pr.le_refl _, Pr.le_refl _, Pr.le_refl _, Pr.le_refl _, Pr.le_refl _, Pr.le_trans (andIs_le _ _) (Pr.le_of_eq (by show _ = slice 4 ((e.ids.take c.at_.toNat ++ [c.idn] ++ e.ids.drop c.at_.toNat).map rowId); simp [List.map_take, List.map_drop])), Pr.le_refl _, Pr.le_refl _, Pr.le_refl _, trivial⟩
 refine ac ?_
 refine wk6 2 3 4 5 13 67 rfl ?_
 refine Tr.cn rfl ?_ ?_ <;> intro h6 q6
 obtain ⟨x_, hx_, hr, rfl, rfl⟩ := ok_6 q6 hs
 have hlt := lt_of_at hx_
 refine ac ?_
 refine co rfl (kc2 (w_R24keys hs4) rfl rfl rfl) ?_
 refine ac ?_
 refine wk3 4 5 8 rfl ?_
 refine ap ?_
 refine tp rfl (ok_sliceTo rfl Tryz.underlying33 sz47 (vl rfl) (vl rfl) (by omega) (by simp; omega)) ?_
 refine TO.pad ?_
 refine TO.efs 0 rfl rfl (by decide) (ef_append rfl rfl (by decide) rfl Tryz.underlying33 sz47 by47 z47 rfl (by decide) ⟨_, rfl, nil_slice _⟩ (vl rfl) (by simp only [List.length_map, List.length_append, List.length_cons, List.length_nil, List.length_take, List.length_drop]; unfold maxLen; omega) (by simp only [List.length_map, List.length_append, List.length_cons, List.length_nil, List.length_take, List.length_drop]; omega) (appR_full (by exact List.Mem.head _) ⟨_, rfl, nil_full 1⟩)) (fun v4 => ?_)
 refine ap ?_
 refine ap ?_
 refine tp rfl (ok_sliceFrom rfl Tryz.underlying33 sz47 (vl rfl) (vl rfl) (by omega) (by simp; omega)) ?_
 refine TO.efs 0 rfl rfl (by decide) (ef_append rfl rfl (by decide) rfl Tryz.underlying33 sz47 by47 z47 rfl (by decide) ⟨_, rfl, andIs_le _ _⟩ (vl rfl) (by simp only [List.length_map, List.length_append, List.length_cons, List.length_nil, List.length_take, List.length_drop]; unfold maxLen; omega) (by simp only [List.length_map, List.length_append, List.length_cons, List.length_nil, List.length_take, List.length_drop]; omega) (appR_is (by exact List.Mem.head _) ⟨_, rfl, andIs_is _ _⟩)) (fun v5 => ?_)
 refine ap ?_
 refine wk2 4 5 rfl ?_
 refine ap ?_
 refine Tr.drop 1 (Tr.ret (Fin.retX1 rfl (RVal.cell 1 rfl rfl agg35 sz35 rfl (Pr.le_refl _)) ?_))
 · exact agg_le ⟨Pr.le_refl _, Pr.le_refl _, Pr.le_refl _, Pr.le_refl _, Pr.le_refl _, Pr.le_trans (andIs_le _ _) (Pr.le_of_eq (by show _ = slice 4 ((e.ids.eraseIdx (keyIdx c.number e.ids).toNat).map rowId); rw [List.eraseIdx_eq_take_drop_succ, show (keyIdx c.number e.ids + 1).toNat = (keyIdx c.number e.ids).toNat + 1 by omega]; simp [List.map_take, List.map_drop])), Pr.le_refl _, Pr.le_refl _, Pr.le_refl _, trivial⟩
 refine ac ?_
 refine Tr.cn rfl ?_ ?_ <;> intro h7 q7
 obtain ⟨hr, rfl, rfl⟩ := ok_7 q7 hs
 refine ap ?_
 refine tp rfl (kc2 (w_R24sorted hs2) rfl rfl rfl) ?_
 refine ap ?_
 refine wk2 4 5 rfl ?_
 refine ap ?_
 refine Tr.drop 0 (Tr.ret (Fin.retX1 rfl (RVal.cell 0 rfl rfl agg35 sz35 rfl (Pr.le_refl _)) ?_))
 · exact Pr.le_refl _
 refine ac ?_
 refine Tr.cn rfl ?_ ?_ <;> intro h8 q8
 obtain ⟨hr, rfl, rfl⟩ := ok_8 q8 hs
 refine Tr.rx ?_
 refine ay ?_
 refine xo rfl (fun _ => kc2 (w_R24place) rfl rfl rfl) ?_
 refine xo rfl (fun _ => ok_call rfl (w_R24without (l := e.anchors) (i := posI e.anchors c.number) (hasX_lt hr) hs2) ⟨ke rfl, ⟨_, rfl, int_eq (by rw [idx_has (ascI_of ok.anc), if_pos hr])⟩, trivial⟩) ?_
 refine ay ?_
 refine Cx.nil ⟨by kernel_rfl, ?_⟩
 refine FinX.done al2 ?_
 refine ac ?_
 refine wk2 4 5 rfl ?_
 refine ap ?_
 refine Tr.drop 0 (Tr.ret (Fin.retX1 rfl (RVal.cell 0 rfl rfl agg35 sz35 rfl (Pr.le_refl _)) ?_))
 · exact Pr.le_refl _
 refine ac ?_
 refine Tr.cn rfl ?_ ?_ <;> intro h9 q9
 obtain ⟨hr, rfl, rfl⟩ := ok_9 q9 hs
 refine ap ?_
 refine tp rfl (kc2 (w_R24sorted hs3) rfl rfl rfl) ?_
 refine ap ?_
 refine wk2 4 5 rfl ?_
 refine ap ?_
 refine Tr.drop 0 (Tr.ret (Fin.retX1 rfl (RVal.cell 0 rfl rfl agg35 sz35 rfl (Pr.le_refl _)) ?_))
 · exact Pr.le_refl _
 refine ac ?_
 refine wk6 2 3 4 5 13 116 rfl ?_
 refine Tr.cn rfl ?_ ?_ <;> intro h10 q10
 obtain ⟨hr, rfl, rfl⟩ := ok_10 q10 hs
 refine Tr.rx ?_
 refine ay ?_
 refine xo rfl (fun _ => kc2 (w_R24place) rfl rfl rfl) ?_
 refine xo rfl (fun _ => ok_call rfl (w_R24without (l := e.hashes) (i := posI e.hashes c.number) (hasX_lt hr) hs3) ⟨ke rfl, ⟨_, rfl, int_eq (by rw [idx_has (ascI_of ok.hash), if_pos hr])⟩, trivial⟩) ?_
 refine ay ?_
 refine Cx.nil ⟨by kernel_rfl, ?_⟩
 refine FinX.done al2 ?_
 refine ac ?_
 refine wk2 4 5 rfl ?_
 refine ap ?_
 refine Tr.drop 0 (Tr.ret (Fin.retX1 rfl (RVal.cell 0 rfl rfl agg35 sz35 rfl (Pr.le_refl _)) ?_))
 · exact Pr.le_refl _
 refine ac ?_
 refine Tr.cn rfl ?_ ?_ <;> intro h11 q11
 obtain ⟨rfl, rfl⟩ := ok_11 q11 hs
 refine ap ?_
 refine ap ?_
 refine Tr.drop 0 (Tr.ret (Fin.retX1 rfl (RVal.cell 0 rfl rfl agg35 sz35 rfl (Pr.le_refl _)) ?_))
 · exact Pr.le_refl _
 refine ac ?_
 refine Tr.cn rfl ?_ ?_ <;> intro h12 q12
 obtain ⟨rfl, rfl⟩ := ok_12 q12 hs
 refine ap ?_
 refine wk2 4 5 rfl ?_
 refine ap ?_
 refine Tr.drop 0 (Tr.ret (Fin.retX1 rfl (RVal.cell 0 rfl rfl agg35 sz35 rfl (Pr.le_refl _)) ?_))
 · exact Pr.le_refl _
 exfalso; omega
theorem w_R24Apply {e : Ept} {c : Chg} {n : Nat} (hz : e.sz n) (hn : n ≤ 900000) (hi : c.idn.fits ∧ c.idn.small) : Fun Tryz.prog 15 [agg (rowEp e), agg (rowChg c)] (tup [agg (rowEp (doneR e c).1), int (doneR e c).2.2]) := by
 refine fo Tryz.func15 rfl ⟨rfl, rfl⟩ fun M0 w0 => ?_
 have hsm := hz.small (by omega)
 have hcs := hi.2
 refine Tr.seq (Tr.regT (tp rfl (ok_box rfl (VL.le (vl rfl) (agg_cellsP _))) (tp rfl (ok_box rfl (VL.le (vl rfl) (agg_cellsP _))) ?_)))
 refine TO.alloc rfl rfl (by decide) rfl z35 zo35 (fun b1 => ?_)
 refine ao ?_
 refine ac ?_
 refine co rfl (kc2 (w_R24allowed hsm hcs) rfl rfl rfl) ?_
 refine ac ?_
 refine ac ?_
 refine Tr.cn rfl ?_ ?_ <;> intro h1 q1
 have hb := alw_bad q1
 refine ao ?_
 refine TO.store_all 0 rfl rfl rfl (vl rfl) (VL.le (vl rfl) (agg_cellsP _)) rfl sz35 rfl rfl ?_
 refine ao ?_
 refine wk2 4 5 rfl (Tr.ret (Fin.then_ret (Fin.retX2 rfl (RVal.cell 0 rfl rfl agg35 sz35 rfl (Pr.le_refl _)) (RVal.tmp rfl (Pr.le_refl _)) ?_)))
 refine tup_le ⟨?_, ?_, trivial⟩
 · rw [hb]; exact agg_le ⟨Pr.le_refl _, Pr.le_refl _, Pr.le_refl _, nil_slice 1, Pr.le_refl _, nil_slice 4, nil_slice 1, nil_slice 1, Pr.le_refl _, trivial⟩
 · exact int_eq (by rw [hb])
 obtain ⟨hce, hc, e2, b, hs⟩ := alw_ok (e := e) (c := c) (by have := q1; omega)
 have hsm2 := (sz_step hc hs hz hi).1.small (by omega)
 refine ac ?_
 refine ao ?_
 refine tp rfl (kc2 (w_R24made hsm hcs hce hc hs) rfl rfl rfl) ?_
 refine TO.alloc rfl rfl (by decide) rfl z35 zo35 (fun b2 => ?_)
 refine sf 0 7 ⟨rfl, rfl, rfl⟩ rfl rfl rfl rfl ?_
 refine ao ?_
 refine wk2 4 7 rfl ?_
 refine ac ?_
 refine co rfl (kc1 (w_R9Check hsm2) rfl rfl) ?_
 refine ac ?_
 refine Tr.cn rfl ?_ ?_ <;> intro h2 q2
 have hb := doneR_v hce hc hs (by have := q2; cases h_ : eptB e2 <;> simp_all)
 refine ao ?_
 refine TO.store_all 0 rfl rfl rfl (vl rfl) (VL.le (vl rfl) (agg_cellsP _)) rfl sz35 rfl rfl ?_
 refine ao ?_
 refine Tr.ret (Fin.then_ret (Fin.retX2 rfl (RVal.cell 0 rfl rfl agg35 sz35 rfl (Pr.le_refl _)) (RVal.tmp rfl (Pr.le_refl _)) ?_))
 refine tup_le ⟨?_, ?_, trivial⟩
 · rw [hb]; exact agg_le ⟨Pr.le_refl _, Pr.le_refl _, Pr.le_refl _, nil_slice 1, Pr.le_refl _, nil_slice 4, nil_slice 1, nil_slice 1, Pr.le_refl _, trivial⟩
 · exact int_eq (by rw [hb])
 have hb := doneR_ok hce hc hs (by have := q2; cases h_ : eptB e2 <;> simp_all)
 refine ac ?_
 refine ao ?_
 refine TO.store_all 0 rfl rfl rfl (vl rfl) (VL.le (vl rfl) (agg_cellsP _)) rfl sz35 rfl rfl ?_
 refine ao ?_
 refine Tr.ret (Fin.retX2 rfl (RVal.cell 0 rfl rfl agg35 sz35 rfl (Pr.le_refl _)) (RVal.tmp rfl (Pr.le_refl _)) ?_)
 refine tup_le ⟨?_, ?_, trivial⟩
 · rw [hb]; exact Pr.le_refl _
 · exact int_eq (by rw [hb])
end Go.Proofs.YtflodcidhlmaaaaGreat
namespace Go.Proofs.YtflodcidhlmaaaaGreat
open Go Go.RowKit Cp

/-- The number of a change that is drawn. -/
def anyN (t : DS) (k : Int) (e : Ept) : Int :=
  if k = 1 then 1 + t.val 16
  else if k = 2 then (if 0 < e.suites.length ∧ ¬ t.adv.val 4 = 3 then e.suites[(t.adv.adv.val e.suites.length).toNat]?.getD 0 else 1 + t.val 16)
  else if k = 3 ∨ k = 4 then 1 + t.val 4
  else if k = 5 then 0
  else if k = 6 then (if 0 < e.ids.length ∧ ¬ t.adv.val 4 = 3 then (e.ids[(t.adv.adv.val e.ids.length).toNat]?.getD zeroId).keyId else 100 + t.val 4)
  else if k = 7 ∨ k = 8 then 1 + t.val 3
  else if k = 9 ∨ k = 10 then 1 + t.val 4
  else t.val 2
def anyA (t : DS) (k : Int) (e : Ept) : Int := if k = 1 then t.adv.val ((e.suites.length : Nat) + 1) else if k = 5 then t.val ((e.ids.length : Nat) + 1) else 0
def anyI (t : DS) (k : Int) (e : Ept) (q : Int) : Idn := if k = 5 then leafI e.name (if t.adv.val 2 = 0 then 7 else 5) (if t.adv.val 2 = 0 then 256 else 2048) (200 + t.adv.adv.val 3) 901 (1 + t.adv.adv.adv.val 2) q else zeroId
def anyC (s : DS) (n : Int) (e : Ept) (q : Int) : Chg := ⟨s.val n, 1 + s.adv.val 12, anyN s.adv.adv (1 + s.adv.val 12) e, anyA s.adv.adv (1 + s.adv.val 12) e, anyI s.adv.adv (1 + s.adv.val 12) e q⟩
abbrev sumOk (q : Int) : Prop := 0 ≤ q ∧ q < 4294967296
theorem anyI_ne {t : DS} {k : Int} {e : Ept} {q : Int} (h : k ≠ 5) : anyI t k e q = zeroId := if_neg h
theorem anyI_fs {t : DS} {k : Int} {e : Ept} {q : Int} (h : e.name ∈ nameL) : (anyI t k e q).fits ∧ (anyI t k e q).small := by
  unfold anyI; split
  · exact leafF h
  · exact id0_fs
theorem anyC_kind {s : DS} {n : Int} {e : Ept} {q : Int} : 1 ≤ (anyC s n e q).kind ∧ (anyC s n e q).kind ≤ 12 := by
  have := s.adv.val_in (n := 12) (by omega)
  exact ⟨by show 1 ≤ 1 + _; omega, by show 1 + _ ≤ 12; omega⟩
theorem any_leafF {s : DS} {n p2 p3 : Int} {e : Ept} {a c id key : Int} (hn_ : anyN s.adv.adv (1 + s.adv.val 12) e = p2) (ha_ : anyA s.adv.adv (1 + s.adv.val 12) e = p3) (hi_ : ∀ q, anyI s.adv.adv (1 + s.adv.val 12) e q = leafI e.name a c id 901 key q) : (agg [int (s.val n), int (1 + s.adv.val 12), int p2, int p3, int a, int c, int id, sumP e.name a c id 901 key]).le (Cp.ex fun q : Int => fact (sumOk q) (agg (rowChg (anyC s n e q)))) := by
  have h : ∀ q, (⟨s.val n, 1 + s.adv.val 12, p2, p3, leafI e.name a c id 901 key q⟩ : Chg) = anyC s n e q := fun q => by unfold anyC; rw [hn_, ha_, hi_]
  intro M w v ⟨cs, h1, h2, h3⟩
  obtain ⟨q, h4⟩ := hl_exL (ps := [int (s.val n), int (1 + s.adv.val 12), int p2, int p3, int a, int c, int id]) h3
  have hq : sumOk q := by
    have h5 : ∀ (ps : List Pr) (cs : List Value), HL M w (ps ++ [fact (sumOk q) (certs [leafC e.name a c id 901 key q])]) cs → sumOk q := by
      intro ps
      induction ps with
      | nil => intro cs h; cases cs with
        | nil => exact h.elim
        | cons c cs => exact h.1.1
      | cons p ps ih => intro cs h; cases cs with
        | nil => exact h.elim
        | cons c cs => exact ih cs h.2
    exact h5 [int (s.val n), int (1 + s.adv.val 12), int p2, int p3, int a, int c, int id] cs h4
  refine ⟨q, hq, ?_⟩
  rw [← h q]
  exact ⟨cs, h1, h2, hl_factL (ps := [int (s.val n), int (1 + s.adv.val 12), int p2, int p3, int a, int c, int id]) h4⟩

theorem w_AnyF {b : Nat} {s : DS} {es : List Ept} {p1 p2 : Pr} {e : Ept} (hl : 1 ≤ es.length ∧ es.length ≤ 3) (he : es[(s.val (es.length : Nat)).toNat]? = some e) (hse : ∃ i, SndE i e) : FunM Tryz.prog 16 [ptr b 0, agg [slice 9 (es.map rowEp), p1, p2]] (Cp.ex fun q : Int => fact (sumOk q) (agg (rowChg (anyC s (es.length : Nat) e q)))) (diceS b s) (fun _ => diceEx 82 b) := by
 refine FunM.of Tryz.func16 rfl rfl (by exact Nat.le_of_ble_eq_true rfl) fun M0 w0 S rs M1 w1 => ?_
 have hv := s.val_in (n := es.length) (by omega)
 obtain ⟨i0, hse⟩ := hse
 have hnm := List.mem_of_getElem? hse.name
 have hsl := (sndS_ok _ (sndE_suites hse)).2
 obtain ⟨y0, hy0⟩ : ∃ y0, e.ids = [y0] := by obtain ⟨s_, _, h_⟩ := hse.ids; exact ⟨_, h_⟩
 have hil : e.ids.length = 1 := by rw [hy0]; rfl
 have hv2 := s.adv.val_in (n := 12) (by omega)
 have hv3 := s.adv.adv.val_in (n := 16) (by omega)
 have hv4 := s.adv.adv.val_in (n := 4) (by omega)
 have hv5 := s.adv.adv.val_in (n := 3) (by omega)
 have hv6 := s.adv.adv.adv.val_in (n := 2) (by omega)
 have hv7 := s.adv.adv.adv.adv.val_in (n := 3) (by omega)
 have hv8 := s.adv.adv.adv.adv.adv.val_in (n := 2) (by omega)
 refine Tr.seq (Tr.regT (tp rfl (ok_box rfl (VL.le (vl rfl) (agg_cellsP _))) ?_))
 refine TO.alloc rfl rfl (by decide) rfl z49 zo49 (fun b1 => ?_)
 refine ao ?_
 refine ao ?_
 refine TO.efc 1 rfl rfl (by decide) (ef_callc rfl rfl (by decide) rfl (w_DNext (by omega) (by omega)) ⟨ke rfl, ke rfl, trivial⟩) ?_
 refine ao ?_
 refine ao ?_
 refine tp rfl (ok_indexAddr rfl Tryz.underlying27 sz35 (vl rfl) (vl rfl) (by omega) (row_atI he)) (tp rfl (ok_loadA rfl agg35 sz35 (vl rfl) rfl rfl) ?_)
 refine TO.alloc rfl rfl (by decide) rfl z35 zo35 (fun b2 => ?_)
 refine sf 0 6 ⟨rfl, rfl, rfl⟩ rfl rfl rfl rfl ?_
 refine ao ?_
 refine wk4 0 4 5 6 rfl ?_
 refine ao ?_
 refine TO.efc 1 rfl rfl (by decide) (ef_callc rfl rfl (by decide) rfl (w_DNext (by omega) (by omega)) ⟨ke rfl, ke rfl, trivial⟩) ?_
 refine ao ?_
 refine TO.alloc rfl rfl (by decide) rfl z49 zo49 (fun b3 => ?_)
 refine TO.store_all 0 rfl rfl rfl (vl rfl) (VL.le (vl rfl) (agg_cellsP _)) rfl sz49 rfl rfl ?_
 refine ao ?_
 refine ac ?_
 refine ac ?_
 refine wk6 0 4 6 7 24 25 rfl ?_
 refine Tr.cn rfl ?_ ?_ <;> intro h1 q1
 refine Tr.rx (xm rfl (Cx.ef 2 rfl rfl (by decide) (ef_callc rfl rfl (by decide) rfl (w_DNext (by omega) (by omega)) ⟨ke rfl, ke rfl, trivial⟩) ?_))
 refine ay ?_
 refine Cx.ef 2 rfl rfl (by decide) (ef_callc rfl rfl (by decide) rfl (w_DNext (by omega) (by omega)) ⟨ke rfl, ke rfl, trivial⟩) ?_
 refine ay ?_
 refine Cx.nil ⟨by kernel_rfl, ?_⟩
 refine FinX.done al4 ?_
 refine ac ?_
 refine wk2 4 7 rfl ?_
 refine ao ?_
 refine TO.store_all 1 rfl rfl rfl (vl rfl) (VL.le (vl rfl) (agg_cellsP _)) rfl sz49 rfl rfl ?_
 refine ao ?_
 refine Tr.drop 0 (Tr.ret (Fin.closeD 1 _ rfl rfl (Fin.retY1 [_] rfl (RVal.cell 0 rfl rfl agg49 sz49 rfl (Pr.le_refl _)) ?_ (fun _ _ _ _ => rfl))))
 · exact ex_in 0 (fact_in (by constructor <;> omega) (agg_le ⟨Pr.le_refl _, Pr.le_refl _, int_eq (by show _ = anyN _ _ _; unfold anyN; (repeat (rw [if_pos (by omega)])) <;> first | rfl | (rw [hsu]; rfl) | (rw [hiy]; rfl)), int_eq (by show _ = anyA _ _ _; unfold anyA; (repeat (rw [if_pos (by omega)])) <;> rfl), int_eq (by show _ = (anyI _ _ _ _).alg; rw [anyI_ne (by omega)] <;> rfl), int_eq (by show _ = (anyI _ _ _ _).bits; rw [anyI_ne (by omega)] <;> rfl), int_eq (by show _ = (anyI _ _ _ _).keyId; rw [anyI_ne (by omega)] <;> rfl), (by show Pr.le _ (certs (anyI _ _ _ _).chain); rw [anyI_ne (by omega)]; exact nil_slice 15), trivial⟩))
 refine ac ?_
 refine Tr.cn rfl ?_ ?_ <;> intro h2 q2
 refine ao ?_
 refine TO.efc 2 rfl rfl (by decide) (ef_callc rfl rfl (by decide) rfl (w_DNext (by omega) (by omega)) ⟨ke rfl, ke rfl, trivial⟩) ?_
 refine ao ?_
 refine TO.ef0 0 rfl rfl (ef_store rfl rfl (vl rfl) (VL.le (vl rfl) (one_cellsP _)) sz3 rfl (by exact Nat.le_of_ble_eq_true rfl) rfl) ?_
 refine ao ?_
 refine ao ?_
 refine TO.cases 48 rfl (fun h3 => ?_) (fun h3 => ?_)
 have q3 := Nrm.nrm h3
 refine TO.opG rfl rfl rfl h3 rfl (by decide) (ok_move rfl (vl rfl)) (TO.efcG 2 rfl rfl rfl h3 rfl rfl (by decide) (ef_callc rfl rfl (by decide) rfl (w_DOne (by omega) (by omega)) ⟨ke rfl, ke rfl, trivial⟩) (TO.opG rfl rfl rfl h3 rfl (by decide) (ok_not rfl (vl rfl)) ?_))
 refine ao ?_
 refine wk5 0 4 6 7 52 rfl ?_
 refine Tr.cn rfl ?_ ?_ <;> intro h4 q4
 have hv9 := s.adv.adv.adv.adv.val_in (n := e.suites.length) (by omega)
 obtain ⟨su, hsu⟩ := at_ (l := e.suites) (k := (s.adv.adv.adv.adv.val e.suites.length).toNat) (by omega)
 refine Tr.rx ?_
 refine ay ?_
 refine Cx.ef 2 rfl rfl (by decide) (ef_callc rfl rfl (by decide) rfl (w_DNext (by omega) (by omega)) ⟨ke rfl, ke rfl, trivial⟩) (xo rfl (fun _ => ok_indexAddr rfl Tryz.underlying22 sz3 (vl rfl) (vl rfl) (by omega) (row_atI (f := fun n : Int => [int n]) hsu)) ?_)
 refine ay ?_
 refine Cx.nil ⟨by kernel_rfl, ?_⟩
 refine FinX.done al4 ?_
 refine ac ?_
 refine wk2 4 7 rfl ?_
 refine ao ?_
 refine TO.store_all 1 rfl rfl rfl (vl rfl) (VL.le (vl rfl) (agg_cellsP _)) rfl sz49 rfl rfl ?_
 refine ao ?_
 refine Tr.drop 0 (Tr.ret (Fin.closeD 1 _ rfl rfl (Fin.retY1 [_] rfl (RVal.cell 0 rfl rfl agg49 sz49 rfl (Pr.le_refl _)) ?_ (fun _ _ _ _ => rfl))))
 · exact ex_in 0 (fact_in (by constructor <;> omega) (agg_le ⟨Pr.le_refl _, Pr.le_refl _, int_eq (by show _ = anyN _ _ _; unfold anyN; (repeat (first | rw [if_pos (by omega)] | rw [if_neg (by omega)])) <;> rw [hsu]; rfl), int_eq (by show _ = anyA _ _ _; unfold anyA; (repeat (rw [if_neg (by omega)])) <;> rfl), int_eq (by show _ = (anyI _ _ _ _).alg; rw [anyI_ne (by omega)] <;> rfl), int_eq (by show _ = (anyI _ _ _ _).bits; rw [anyI_ne (by omega)] <;> rfl), int_eq (by show _ = (anyI _ _ _ _).keyId; rw [anyI_ne (by omega)] <;> rfl), (by show Pr.le _ (certs (anyI _ _ _ _).chain); rw [anyI_ne (by omega)]; exact nil_slice 15), trivial⟩))
 refine ac ?_
 refine ao ?_
 refine TO.store_all 1 rfl rfl rfl (vl rfl) (VL.le (vl rfl) (agg_cellsP _)) rfl sz49 rfl rfl ?_
 refine ao ?_
 refine Tr.drop 0 (Tr.ret (Fin.closeD 1 _ rfl rfl (Fin.retY1 [_] rfl (RVal.cell 0 rfl rfl agg49 sz49 rfl (Pr.le_refl _)) ?_ (fun _ _ _ _ => rfl))))
 · exact ex_in 0 (fact_in (by constructor <;> omega) (agg_le ⟨Pr.le_refl _, Pr.le_refl _, int_eq (by show _ = anyN _ _ _; unfold anyN; (repeat (first | rw [if_pos (by omega)] | rw [if_neg (by omega)])) <;> first | rfl | (rw [hsu]; rfl) | (rw [hiy]; rfl)), int_eq (by show _ = anyA _ _ _; unfold anyA; (repeat (rw [if_neg (by omega)])) <;> rfl), int_eq (by show _ = (anyI _ _ _ _).alg; rw [anyI_ne (by omega)] <;> rfl), int_eq (by show _ = (anyI _ _ _ _).bits; rw [anyI_ne (by omega)] <;> rfl), int_eq (by show _ = (anyI _ _ _ _).keyId; rw [anyI_ne (by omega)] <;> rfl), (by show Pr.le _ (certs (anyI _ _ _ _).chain); rw [anyI_ne (by omega)]; exact nil_slice 15), trivial⟩))
 have q3 := Nrm.nrm h3
 refine TO.noG rfl rfl rfl (ne_true h3) rfl (by decide) (TO.noG rfl rfl rfl (ne_true h3) rfl (by decide) (TO.noG rfl rfl rfl (ne_true h3) rfl (by decide) ?_))
 refine ao ?_
 refine wk5 0 4 6 7 52 rfl ?_
 refine ac ?_
 refine ao ?_
 refine TO.store_all 1 rfl rfl rfl (vl rfl) (VL.le (vl rfl) (agg_cellsP _)) rfl sz49 rfl rfl ?_
 refine ao ?_
 refine Tr.drop 0 (Tr.ret (Fin.closeD 1 _ rfl rfl (Fin.retY1 [_] rfl (RVal.cell 0 rfl rfl agg49 sz49 rfl (Pr.le_refl _)) ?_ (fun _ _ _ _ => rfl))))
 · exact ex_in 0 (fact_in (by constructor <;> omega) (agg_le ⟨Pr.le_refl _, Pr.le_refl _, int_eq (by show _ = anyN _ _ _; unfold anyN; (repeat (first | rw [if_pos (by omega)] | rw [if_neg (by omega)])) <;> first | rfl | (rw [hsu]; rfl) | (rw [hiy]; rfl)), int_eq (by show _ = anyA _ _ _; unfold anyA; (repeat (rw [if_neg (by omega)])) <;> rfl), int_eq (by show _ = (anyI _ _ _ _).alg; rw [anyI_ne (by omega)] <;> rfl), int_eq (by show _ = (anyI _ _ _ _).bits; rw [anyI_ne (by omega)] <;> rfl), int_eq (by show _ = (anyI _ _ _ _).keyId; rw [anyI_ne (by omega)] <;> rfl), (by show Pr.le _ (certs (anyI _ _ _ _).chain); rw [anyI_ne (by omega)]; exact nil_slice 15), trivial⟩))
 refine ac ?_
 refine Tr.cn rfl ?_ ?_ <;> intro h5 q5
 refine ac ?_
 refine Tr.cond rfl (fun _ => ?_) (fun h => nomatch h5.symm.trans h)
 refine ao ?_
 refine TO.efc 2 rfl rfl (by decide) (ef_callc rfl rfl (by decide) rfl (w_DNext (by omega) (by omega)) ⟨ke rfl, ke rfl, trivial⟩) ?_
 refine ao ?_
 refine TO.ef0 0 rfl rfl (ef_store rfl rfl (vl rfl) (VL.le (vl rfl) (one_cellsP _)) sz3 rfl (by exact Nat.le_of_ble_eq_true rfl) rfl) ?_
 refine ao ?_
 refine wk2 4 7 rfl ?_
 refine ao ?_
 refine TO.store_all 1 rfl rfl rfl (vl rfl) (VL.le (vl rfl) (agg_cellsP _)) rfl sz49 rfl rfl ?_
 refine ao ?_
 refine Tr.drop 0 (Tr.ret (Fin.closeD 1 _ rfl rfl (Fin.retY1 [_] rfl (RVal.cell 0 rfl rfl agg49 sz49 rfl (Pr.le_refl _)) ?_ (fun _ _ _ _ => rfl))))
 · exact ex_in 0 (fact_in (by constructor <;> omega) (agg_le ⟨Pr.le_refl _, Pr.le_refl _, int_eq (by show _ = anyN _ _ _; unfold anyN; (repeat (first | rw [if_pos (by omega)] | rw [if_neg (by omega)])) <;> first | rfl | (rw [hsu]; rfl) | (rw [hiy]; rfl)), int_eq (by show _ = anyA _ _ _; unfold anyA; (repeat (rw [if_neg (by omega)])) <;> rfl), int_eq (by show _ = (anyI _ _ _ _).alg; rw [anyI_ne (by omega)] <;> rfl), int_eq (by show _ = (anyI _ _ _ _).bits; rw [anyI_ne (by omega)] <;> rfl), int_eq (by show _ = (anyI _ _ _ _).keyId; rw [anyI_ne (by omega)] <;> rfl), (by show Pr.le _ (certs (anyI _ _ _ _).chain); rw [anyI_ne (by omega)]; exact nil_slice 15), trivial⟩))
 refine ac ?_
 refine Tr.cn rfl ?_ ?_ <;> intro h6 q6
 refine ao ?_
 refine TO.efc 2 rfl rfl (by decide) (ef_callc rfl rfl (by decide) rfl (w_DNext (by omega) (by omega)) ⟨ke rfl, ke rfl, trivial⟩) ?_
 refine ao ?_
 refine TO.ef0 0 rfl rfl (ef_store rfl rfl (vl rfl) (VL.le (vl rfl) (one_cellsP _)) sz3 rfl (by exact Nat.le_of_ble_eq_true rfl) rfl) ?_
 refine ao ?_
 refine wk2 4 7 rfl ?_
 refine ao ?_
 refine TO.store_all 1 rfl rfl rfl (vl rfl) (VL.le (vl rfl) (agg_cellsP _)) rfl sz49 rfl rfl ?_
 refine ao ?_
 refine Tr.drop 0 (Tr.ret (Fin.closeD 1 _ rfl rfl (Fin.retY1 [_] rfl (RVal.cell 0 rfl rfl agg49 sz49 rfl (Pr.le_refl _)) ?_ (fun _ _ _ _ => rfl))))
 · exact ex_in 0 (fact_in (by constructor <;> omega) (agg_le ⟨Pr.le_refl _, Pr.le_refl _, int_eq (by show _ = anyN _ _ _; unfold anyN; (repeat (first | rw [if_pos (by omega)] | rw [if_neg (by omega)])) <;> first | rfl | (rw [hsu]; rfl) | (rw [hiy]; rfl)), int_eq (by show _ = anyA _ _ _; unfold anyA; (repeat (rw [if_neg (by omega)])) <;> rfl), int_eq (by show _ = (anyI _ _ _ _).alg; rw [anyI_ne (by omega)] <;> rfl), int_eq (by show _ = (anyI _ _ _ _).bits; rw [anyI_ne (by omega)] <;> rfl), int_eq (by show _ = (anyI _ _ _ _).keyId; rw [anyI_ne (by omega)] <;> rfl), (by show Pr.le _ (certs (anyI _ _ _ _).chain); rw [anyI_ne (by omega)]; exact nil_slice 15), trivial⟩))
 refine ac ?_
 refine wk6 0 4 6 7 24 70 rfl ?_
 refine Tr.cn rfl ?_ ?_ <;> intro h7 q7
 refine Tr.rx ?_
 refine ay ?_
 refine Cx.ef 2 rfl rfl (by decide) (ef_callc rfl rfl (by decide) rfl (w_DNext (by omega) (by omega)) ⟨ke rfl, ke rfl, trivial⟩) ?_
 refine ay ?_
 refine xo rfl (fun _ => kc0 (w_EC) rfl) (xo rfl (fun _ => kc0 (w_RSA) rfl) (xo rfl (fun _ => ok_buildSlice (xs := [.tmp 80, .tmp 81]) (rows := [_, _]) rfl rfl Tryz.underlying96 sz44 z44 rfl (by decide) ⟨⟨(by exact rfl), (VL.le (vl rfl) (agg_cellsP _))⟩, ⟨⟨(by exact rfl), (VL.le (vl rfl) (agg_cellsP _))⟩, trivial⟩⟩ (by decide)) ?_))
 refine xm rfl (Cx.ef 2 rfl rfl (by decide) (ef_callc rfl rfl (by decide) rfl (w_DNext (by omega) (by omega)) ⟨ke rfl, ke rfl, trivial⟩) (xo rfl (fun _ => ok_indexAddr rfl Tryz.underlying96 sz44 ⟨_, rfl, full_le _ _⟩ (vl rfl) (by omega) (abrow hv6)) ?_))
 refine ay ?_
 refine Cx.ef 2 rfl rfl (by decide) (ef_callc rfl rfl (by decide) rfl (w_DNext (by omega) (by omega)) ⟨ke rfl, ke rfl, trivial⟩) ?_
 refine ay ?_
 refine Cx.ef 2 rfl rfl (by decide) (ef_callc rfl rfl (by decide) rfl (w_DNext (by omega) (by omega)) ⟨ke rfl, ke rfl, trivial⟩) ?_
 refine xo rfl (fun _ => ok_add rfl (vl rfl) (vl rfl) ?hin) ?_; case hin => unfold InI; omega
 refine xo rfl (fun _ => kc5 (w_Leaf (name := e.name) (a := if s.adv.adv.adv.val 2 = 0 then 7 else 5) (b := if s.adv.adv.adv.val 2 = 0 then 256 else 2048) (id := 200 + s.adv.adv.adv.adv.val 3) (to := 901) (key := 1 + s.adv.adv.adv.adv.adv.val 2) (leafV hnm (abok _) (by omega) (by omega) (by omega)) (leafT (abok _) (by omega)) (by omega)) rfl rfl rfl rfl rfl rfl) ?_
 refine ay ?_
 refine Cx.ef0 0 rfl rfl (ef_store rfl rfl (vl rfl) (VL.le (vl rfl) (leaf_cells)) sz47 rfl (by exact Nat.le_of_ble_eq_true rfl) rfl) ?_
 refine Cx.nil ⟨by kernel_rfl, ?_⟩
 refine FinX.done al4 ?_
 refine ac ?_
 refine wk2 4 7 rfl ?_
 refine ao ?_
 refine TO.store_all 1 rfl rfl rfl (vl rfl) (VL.le (vl rfl) (agg_cellsP _)) rfl sz49 rfl rfl ?_
 refine ao ?_
 refine Tr.drop 0 (Tr.ret (Fin.closeD 1 _ rfl rfl (Fin.retY1 [_] rfl (RVal.cell 0 rfl rfl agg49 sz49 rfl (Pr.le_refl _)) ?_ (fun _ _ _ _ => rfl))))
 · exact any_leafF (by unfold anyN; (repeat (first | rw [if_pos (by omega)] | rw [if_neg (by omega)])) <;> rfl) (by unfold anyA; (repeat (first | rw [if_pos (by omega)] | rw [if_neg (by omega)])) <;> rfl) (fun q => by unfold anyI; rw [if_pos (by omega)])
 refine ac ?_
 refine Tr.cn rfl ?_ ?_ <;> intro h8 q8
 refine ao ?_
 refine TO.efc 2 rfl rfl (by decide) (ef_callc rfl rfl (by decide) rfl (w_DNext (by omega) (by omega)) ⟨ke rfl, ke rfl, trivial⟩) ?_
 refine ao ?_
 refine TO.ef0 0 rfl rfl (ef_store rfl rfl (vl rfl) (VL.le (vl rfl) (one_cellsP _)) sz3 rfl (by exact Nat.le_of_ble_eq_true rfl) rfl) ?_
 refine ao ?_
 refine ao ?_
 refine TO.cases 106 rfl (fun h9 => ?_) (fun h9 => ?_)
 have q9 := Nrm.nrm h9
 refine TO.opG rfl rfl rfl h9 rfl (by decide) (ok_move rfl (vl rfl)) (TO.efcG 2 rfl rfl rfl h9 rfl rfl (by decide) (ef_callc rfl rfl (by decide) rfl (w_DOne (by omega) (by omega)) ⟨ke rfl, ke rfl, trivial⟩) (TO.opG rfl rfl rfl h9 rfl (by decide) (ok_not rfl (vl rfl)) ?_))
 refine ao ?_
 refine wk5 0 4 6 7 110 rfl ?_
 refine Tr.cn rfl ?_ ?_ <;> intro h10 q10
 have hv9 := s.adv.adv.adv.adv.val_in (n := e.ids.length) (by omega)
 obtain ⟨iy, hiy⟩ := at_ (l := e.ids) (k := (s.adv.adv.adv.adv.val e.ids.length).toNat) (by omega)
 refine Tr.rx ?_
 refine ay ?_
 refine Cx.ef 2 rfl rfl (by decide) (ef_callc rfl rfl (by decide) rfl (w_DNext (by omega) (by omega)) ⟨ke rfl, ke rfl, trivial⟩) (xo rfl (fun _ => ok_indexAddr rfl Tryz.underlying33 sz47 (vl rfl) (vl rfl) (by omega) (row_atI hiy)) ?_)
 refine ay ?_
 refine Cx.nil ⟨by kernel_rfl, ?_⟩
 refine FinX.done al4 ?_
 refine ac ?_
 refine wk2 4 7 rfl ?_
 refine ao ?_
 refine TO.store_all 1 rfl rfl rfl (vl rfl) (VL.le (vl rfl) (agg_cellsP _)) rfl sz49 rfl rfl ?_
 refine ao ?_
 refine Tr.drop 0 (Tr.ret (Fin.closeD 1 _ rfl rfl (Fin.retY1 [_] rfl (RVal.cell 0 rfl rfl agg49 sz49 rfl (Pr.le_refl _)) ?_ (fun _ _ _ _ => rfl))))
 · exact ex_in 0 (fact_in (by constructor <;> omega) (agg_le ⟨Pr.le_refl _, Pr.le_refl _, int_eq (by show _ = anyN _ _ _; unfold anyN; (repeat (first | rw [if_pos (by omega)] | rw [if_neg (by omega)])) <;> rw [hiy]; rfl), int_eq (by show _ = anyA _ _ _; unfold anyA; (repeat (rw [if_neg (by omega)])) <;> rfl), int_eq (by show _ = (anyI _ _ _ _).alg; rw [anyI_ne (by omega)] <;> rfl), int_eq (by show _ = (anyI _ _ _ _).bits; rw [anyI_ne (by omega)] <;> rfl), int_eq (by show _ = (anyI _ _ _ _).keyId; rw [anyI_ne (by omega)] <;> rfl), (by show Pr.le _ (certs (anyI _ _ _ _).chain); rw [anyI_ne (by omega)]; exact nil_slice 15), trivial⟩))
 refine ac ?_
 refine ao ?_
 refine TO.store_all 1 rfl rfl rfl (vl rfl) (VL.le (vl rfl) (agg_cellsP _)) rfl sz49 rfl rfl ?_
 refine ao ?_
 refine Tr.drop 0 (Tr.ret (Fin.closeD 1 _ rfl rfl (Fin.retY1 [_] rfl (RVal.cell 0 rfl rfl agg49 sz49 rfl (Pr.le_refl _)) ?_ (fun _ _ _ _ => rfl))))
 · exact ex_in 0 (fact_in (by constructor <;> omega) (agg_le ⟨Pr.le_refl _, Pr.le_refl _, int_eq (by show _ = anyN _ _ _; unfold anyN; (repeat (first | rw [if_pos (by omega)] | rw [if_neg (by omega)])) <;> first | rfl | (rw [hsu]; rfl) | (rw [hiy]; rfl)), int_eq (by show _ = anyA _ _ _; unfold anyA; (repeat (rw [if_neg (by omega)])) <;> rfl), int_eq (by show _ = (anyI _ _ _ _).alg; rw [anyI_ne (by omega)] <;> rfl), int_eq (by show _ = (anyI _ _ _ _).bits; rw [anyI_ne (by omega)] <;> rfl), int_eq (by show _ = (anyI _ _ _ _).keyId; rw [anyI_ne (by omega)] <;> rfl), (by show Pr.le _ (certs (anyI _ _ _ _).chain); rw [anyI_ne (by omega)]; exact nil_slice 15), trivial⟩))
 have q9 := Nrm.nrm h9
 refine TO.noG rfl rfl rfl (ne_true h9) rfl (by decide) (TO.noG rfl rfl rfl (ne_true h9) rfl (by decide) (TO.noG rfl rfl rfl (ne_true h9) rfl (by decide) ?_))
 refine ao ?_
 refine wk5 0 4 6 7 110 rfl ?_
 refine ac ?_
 refine ao ?_
 refine TO.store_all 1 rfl rfl rfl (vl rfl) (VL.le (vl rfl) (agg_cellsP _)) rfl sz49 rfl rfl ?_
 refine ao ?_
 refine Tr.drop 0 (Tr.ret (Fin.closeD 1 _ rfl rfl (Fin.retY1 [_] rfl (RVal.cell 0 rfl rfl agg49 sz49 rfl (Pr.le_refl _)) ?_ (fun _ _ _ _ => rfl))))
 · exfalso; omega
 refine ac ?_
 refine Tr.cn rfl ?_ ?_ <;> intro h11 q11
 refine ac ?_
 refine Tr.cond rfl (fun _ => ?_) (fun h => nomatch h11.symm.trans h)
 refine ao ?_
 refine TO.efc 2 rfl rfl (by decide) (ef_callc rfl rfl (by decide) rfl (w_DNext (by omega) (by omega)) ⟨ke rfl, ke rfl, trivial⟩) ?_
 refine ao ?_
 refine TO.ef0 0 rfl rfl (ef_store rfl rfl (vl rfl) (VL.le (vl rfl) (one_cellsP _)) sz3 rfl (by exact Nat.le_of_ble_eq_true rfl) rfl) ?_
 refine ao ?_
 refine wk2 4 7 rfl ?_
 refine ao ?_
 refine TO.store_all 1 rfl rfl rfl (vl rfl) (VL.le (vl rfl) (agg_cellsP _)) rfl sz49 rfl rfl ?_
 refine ao ?_
 refine Tr.drop 0 (Tr.ret (Fin.closeD 1 _ rfl rfl (Fin.retY1 [_] rfl (RVal.cell 0 rfl rfl agg49 sz49 rfl (Pr.le_refl _)) ?_ (fun _ _ _ _ => rfl))))
 · exact ex_in 0 (fact_in (by constructor <;> omega) (agg_le ⟨Pr.le_refl _, Pr.le_refl _, int_eq (by show _ = anyN _ _ _; unfold anyN; (repeat (first | rw [if_pos (by omega)] | rw [if_neg (by omega)])) <;> first | rfl | (rw [hsu]; rfl) | (rw [hiy]; rfl)), int_eq (by show _ = anyA _ _ _; unfold anyA; (repeat (rw [if_neg (by omega)])) <;> rfl), int_eq (by show _ = (anyI _ _ _ _).alg; rw [anyI_ne (by omega)] <;> rfl), int_eq (by show _ = (anyI _ _ _ _).bits; rw [anyI_ne (by omega)] <;> rfl), int_eq (by show _ = (anyI _ _ _ _).keyId; rw [anyI_ne (by omega)] <;> rfl), (by show Pr.le _ (certs (anyI _ _ _ _).chain); rw [anyI_ne (by omega)]; exact nil_slice 15), trivial⟩))
 refine ac ?_
 refine Tr.cn rfl ?_ ?_ <;> intro h12 q12
 refine ao ?_
 refine TO.efc 2 rfl rfl (by decide) (ef_callc rfl rfl (by decide) rfl (w_DNext (by omega) (by omega)) ⟨ke rfl, ke rfl, trivial⟩) ?_
 refine ao ?_
 refine TO.ef0 0 rfl rfl (ef_store rfl rfl (vl rfl) (VL.le (vl rfl) (one_cellsP _)) sz3 rfl (by exact Nat.le_of_ble_eq_true rfl) rfl) ?_
 refine ao ?_
 refine wk2 4 7 rfl ?_
 refine ao ?_
 refine TO.store_all 1 rfl rfl rfl (vl rfl) (VL.le (vl rfl) (agg_cellsP _)) rfl sz49 rfl rfl ?_
 refine ao ?_
 refine Tr.drop 0 (Tr.ret (Fin.closeD 1 _ rfl rfl (Fin.retY1 [_] rfl (RVal.cell 0 rfl rfl agg49 sz49 rfl (Pr.le_refl _)) ?_ (fun _ _ _ _ => rfl))))
 · exact ex_in 0 (fact_in (by constructor <;> omega) (agg_le ⟨Pr.le_refl _, Pr.le_refl _, int_eq (by show _ = anyN _ _ _; unfold anyN; (repeat (first | rw [if_pos (by omega)] | rw [if_neg (by omega)])) <;> first | rfl | (rw [hsu]; rfl) | (rw [hiy]; rfl)), int_eq (by show _ = anyA _ _ _; unfold anyA; (repeat (rw [if_neg (by omega)])) <;> rfl), int_eq (by show _ = (anyI _ _ _ _).alg; rw [anyI_ne (by omega)] <;> rfl), int_eq (by show _ = (anyI _ _ _ _).bits; rw [anyI_ne (by omega)] <;> rfl), int_eq (by show _ = (anyI _ _ _ _).keyId; rw [anyI_ne (by omega)] <;> rfl), (by show Pr.le _ (certs (anyI _ _ _ _).chain); rw [anyI_ne (by omega)]; exact nil_slice 15), trivial⟩))
 refine ac ?_
 refine wk5 0 4 7 24 129 rfl ?_
 refine Tr.cn rfl ?_ ?_ <;> intro h13 q13
 refine ac ?_
 refine Tr.cond rfl (fun _ => ?_) (fun h => nomatch h13.symm.trans h)
 refine ao ?_
 refine TO.efc 2 rfl rfl (by decide) (ef_callc rfl rfl (by decide) rfl (w_DNext (by omega) (by omega)) ⟨ke rfl, ke rfl, trivial⟩) ?_
 refine ao ?_
 refine TO.ef0 0 rfl rfl (ef_store rfl rfl (vl rfl) (VL.le (vl rfl) (one_cellsP _)) sz3 rfl (by exact Nat.le_of_ble_eq_true rfl) rfl) ?_
 refine ao ?_
 refine ao ?_
 refine TO.store_all 1 rfl rfl rfl (vl rfl) (VL.le (vl rfl) (agg_cellsP _)) rfl sz49 rfl rfl ?_
 refine ao ?_
 refine Tr.drop 0 (Tr.ret (Fin.closeD 1 _ rfl rfl (Fin.retY1 [_] rfl (RVal.cell 0 rfl rfl agg49 sz49 rfl (Pr.le_refl _)) ?_ (fun _ _ _ _ => rfl))))
 · exact ex_in 0 (fact_in (by constructor <;> omega) (agg_le ⟨Pr.le_refl _, Pr.le_refl _, int_eq (by show _ = anyN _ _ _; unfold anyN; (repeat (first | rw [if_pos (by omega)] | rw [if_neg (by omega)])) <;> first | rfl | (rw [hsu]; rfl) | (rw [hiy]; rfl)), int_eq (by show _ = anyA _ _ _; unfold anyA; (repeat (rw [if_neg (by omega)])) <;> rfl), int_eq (by show _ = (anyI _ _ _ _).alg; rw [anyI_ne (by omega)] <;> rfl), int_eq (by show _ = (anyI _ _ _ _).bits; rw [anyI_ne (by omega)] <;> rfl), int_eq (by show _ = (anyI _ _ _ _).keyId; rw [anyI_ne (by omega)] <;> rfl), (by show Pr.le _ (certs (anyI _ _ _ _).chain); rw [anyI_ne (by omega)]; exact nil_slice 15), trivial⟩))
 refine ac ?_
 refine Tr.cn rfl ?_ ?_ <;> intro h14 q14
 refine ao ?_
 refine TO.efc 2 rfl rfl (by decide) (ef_callc rfl rfl (by decide) rfl (w_DNext (by omega) (by omega)) ⟨ke rfl, ke rfl, trivial⟩) ?_
 refine ao ?_
 refine TO.ef0 0 rfl rfl (ef_store rfl rfl (vl rfl) (VL.le (vl rfl) (one_cellsP _)) sz3 rfl (by exact Nat.le_of_ble_eq_true rfl) rfl) ?_
 refine ao ?_
 refine ao ?_
 refine TO.store_all 1 rfl rfl rfl (vl rfl) (VL.le (vl rfl) (agg_cellsP _)) rfl sz49 rfl rfl ?_
 refine ao ?_
 refine Tr.drop 0 (Tr.ret (Fin.closeD 1 _ rfl rfl (Fin.retY1 [_] rfl (RVal.cell 0 rfl rfl agg49 sz49 rfl (Pr.le_refl _)) ?_ (fun _ _ _ _ => rfl))))
 · exact ex_in 0 (fact_in (by constructor <;> omega) (agg_le ⟨Pr.le_refl _, Pr.le_refl _, int_eq (by show _ = anyN _ _ _; unfold anyN; (repeat (first | rw [if_pos (by omega)] | rw [if_neg (by omega)])) <;> first | rfl | (rw [hsu]; rfl) | (rw [hiy]; rfl)), int_eq (by show _ = anyA _ _ _; unfold anyA; (repeat (rw [if_neg (by omega)])) <;> rfl), int_eq (by show _ = (anyI _ _ _ _).alg; rw [anyI_ne (by omega)] <;> rfl), int_eq (by show _ = (anyI _ _ _ _).bits; rw [anyI_ne (by omega)] <;> rfl), int_eq (by show _ = (anyI _ _ _ _).keyId; rw [anyI_ne (by omega)] <;> rfl), (by show Pr.le _ (certs (anyI _ _ _ _).chain); rw [anyI_ne (by omega)]; exact nil_slice 15), trivial⟩))
 refine ac ?_
 refine Tr.cn rfl ?_ ?_ <;> intro h15 q15
 refine ac ?_
 refine Tr.cond rfl (fun _ => ?_) (fun h => nomatch h15.symm.trans h)
 refine ao ?_
 refine TO.efc 2 rfl rfl (by decide) (ef_callc rfl rfl (by decide) rfl (w_DNext (by omega) (by omega)) ⟨ke rfl, ke rfl, trivial⟩) (tp rfl (okp_fieldAddr rfl fo49_2 (vl rfl)) (TO.ef0 0 rfl rfl (ef_store rfl rfl (vl rfl) (VL.le (vl rfl) (one_cellsP _)) sz3 rfl (by exact Nat.le_of_ble_eq_true rfl) rfl) ?_))
 refine ao ?_
 refine ao ?_
 refine TO.store_all 1 rfl rfl rfl (vl rfl) (VL.le (vl rfl) (agg_cellsP _)) rfl sz49 rfl rfl ?_
 refine ao ?_
 refine Tr.drop 0 (Tr.ret (Fin.closeD 1 _ rfl rfl (Fin.retY1 [_] rfl (RVal.cell 0 rfl rfl agg49 sz49 rfl (Pr.le_refl _)) ?_ (fun _ _ _ _ => rfl))))
 · exact ex_in 0 (fact_in (by constructor <;> omega) (agg_le ⟨Pr.le_refl _, Pr.le_refl _, int_eq (by show _ = anyN _ _ _; unfold anyN; (repeat (rw [if_neg (by omega)])) <;> first | rfl | (rw [hsu]; rfl) | (rw [hiy]; rfl)), int_eq (by show _ = anyA _ _ _; unfold anyA; (repeat (rw [if_neg (by omega)])) <;> rfl), int_eq (by show _ = (anyI _ _ _ _).alg; rw [anyI_ne (by omega)] <;> rfl), int_eq (by show _ = (anyI _ _ _ _).bits; rw [anyI_ne (by omega)] <;> rfl), int_eq (by show _ = (anyI _ _ _ _).keyId; rw [anyI_ne (by omega)] <;> rfl), (by show Pr.le _ (certs (anyI _ _ _ _).chain); rw [anyI_ne (by omega)]; exact nil_slice 15), trivial⟩))
 refine ac ?_
 refine Tr.cn rfl ?_ ?_ <;> intro h16 q16
 refine ao ?_
 refine TO.efc 2 rfl rfl (by decide) (ef_callc rfl rfl (by decide) rfl (w_DNext (by omega) (by omega)) ⟨ke rfl, ke rfl, trivial⟩) (tp rfl (okp_fieldAddr rfl fo49_2 (vl rfl)) (TO.ef0 0 rfl rfl (ef_store rfl rfl (vl rfl) (VL.le (vl rfl) (one_cellsP _)) sz3 rfl (by exact Nat.le_of_ble_eq_true rfl) rfl) ?_))
 refine ao ?_
 refine wk2 4 7 rfl ?_
 refine ao ?_
 refine TO.store_all 1 rfl rfl rfl (vl rfl) (VL.le (vl rfl) (agg_cellsP _)) rfl sz49 rfl rfl ?_
 refine ao ?_
 refine Tr.drop 0 (Tr.ret (Fin.closeD 1 _ rfl rfl (Fin.retY1 [_] rfl (RVal.cell 0 rfl rfl agg49 sz49 rfl (Pr.le_refl _)) ?_ (fun _ _ _ _ => rfl))))
 · exact ex_in 0 (fact_in (by constructor <;> omega) (agg_le ⟨Pr.le_refl _, Pr.le_refl _, int_eq (by show _ = anyN _ _ _; unfold anyN; (repeat (rw [if_neg (by omega)])) <;> first | rfl | (rw [hsu]; rfl) | (rw [hiy]; rfl)), int_eq (by show _ = anyA _ _ _; unfold anyA; (repeat (rw [if_neg (by omega)])) <;> rfl), int_eq (by show _ = (anyI _ _ _ _).alg; rw [anyI_ne (by omega)] <;> rfl), int_eq (by show _ = (anyI _ _ _ _).bits; rw [anyI_ne (by omega)] <;> rfl), int_eq (by show _ = (anyI _ _ _ _).keyId; rw [anyI_ne (by omega)] <;> rfl), (by show Pr.le _ (certs (anyI _ _ _ _).chain); rw [anyI_ne (by omega)]; exact nil_slice 15), trivial⟩))
 refine ac ?_
 refine ao ?_
 refine TO.store_all 1 rfl rfl rfl (vl rfl) (VL.le (vl rfl) (agg_cellsP _)) rfl sz49 rfl rfl ?_
 refine ao ?_
 refine Tr.drop 0 (Tr.ret (Fin.closeD 1 _ rfl rfl (Fin.retY1 [_] rfl (RVal.cell 0 rfl rfl agg49 sz49 rfl (Pr.le_refl _)) ?_ (fun _ _ _ _ => rfl))))
 · exfalso; omega
end Go.Proofs.YtflodcidhlmaaaaGreat
namespace Go.Proofs.YtflodcidhlmaaaaGreat
open Go Go.RowKit Cp

theorem leaf_idq {nm : List UInt8} (h : nm ∈ nameL) {a b id key q : Int} (hab : (a = 5 ∧ b = 2048) ∨ (a = 7 ∧ b = 256)) (hid : 0 ≤ id ∧ id ≤ 1000) (hk : 0 ≤ key ∧ key ≤ 2) (hq : sumOk q) : idB (leafI nm a b id 901 key q) = true := by
  have hv := leafV (s := q) h hab hid hq hk
  have hof : ofB a b 2 = true := by rcases hab with ⟨rfl, rfl⟩ | ⟨rfl, rfl⟩ <;> decide +kernel
  show showsB a b id [leafC nm a b id 901 key q] = true
  unfold showsB keyB
  simp only [List.all_cons, List.all_nil, Bool.and_true, Bool.and_eq_true, decide_eq_true_eq, List.length_cons, List.length_nil]
  refine ⟨⟨⟨⟨hof, by omega, by omega⟩, ?_⟩, ?_⟩, ?_⟩ <;> first | exact hv | simp
theorem eptB_ids {e : Ept} {k : Nat} {l : List Idn} {x y : Idn} (hx : idB x = true) (hy : idB y = true) : eptB { e with ids := l.take k ++ [x] ++ l.drop k } = eptB { e with ids := l.take k ++ [y] ++ l.drop k } := by
  unfold eptB
  simp only [List.length_append, List.length_cons, List.length_nil, List.all_append, List.all_cons, List.all_nil, hx, hy]
theorem done_any {s : DS} {n : Int} {i : Nat} {e : Ept} (hse : SndE i e) : ∃ (x : Ept) (I : Int → List Idn) (b : Chg) (f : Int), ∀ q, sumOk q → doneR e (anyC s n e q) = ({ x with ids := I q }, b, f) := by
  by_cases hk : 1 + s.adv.val 12 = 5
  · have hnm := List.mem_of_getElem? hse.name
    have hce := eptB_iff.2 (sndE_ok hse)
    have hv1 := s.adv.adv.adv.adv.val_in (n := 3) (by omega)
    have hv2 := s.adv.adv.adv.adv.adv.val_in (n := 2) (by omega)
    have hI : ∀ q, anyI s.adv.adv (1 + s.adv.val 12) e q = leafI e.name (if s.adv.adv.adv.val 2 = 0 then 7 else 5) (if s.adv.adv.adv.val 2 = 0 then 256 else 2048) (200 + s.adv.adv.adv.adv.val 3) 901 (1 + s.adv.adv.adv.adv.adv.val 2) q := fun q => if_pos hk
    have hid : ∀ q, sumOk q → idB (anyI s.adv.adv (1 + s.adv.val 12) e q) = true := fun q hq => by rw [hI]; exact leaf_idq hnm (abok _) (by omega) (by omega) hq
    have hok : ∀ q, okCh (anyC s n e q) := fun q => by
      refine ⟨anyC_kind, ?_⟩
      have h5 : (anyC s n e q).kind = 5 := hk
      unfold leanB; rw [if_neg (by rw [h5]; decide), if_pos h5]
      show (anyN s.adv.adv (1 + s.adv.val 12) e == 0) = true
      unfold anyN; rw [if_neg (by omega), if_neg (by omega), if_neg (by omega), if_pos hk]; rfl
    have hst : ∀ q, stepR e (anyC s n e q) = (if ¬ (0 ≤ anyA s.adv.adv (1 + s.adv.val 12) e ∧ anyA s.adv.adv (1 + s.adv.val 12) e ≤ (e.ids.length : Nat)) then .error 2
        else if 0 ≤ keyIdx (200 + s.adv.adv.adv.adv.val 3) e.ids then .error 41
        else .ok ({ e with ids := e.ids.take (anyA s.adv.adv (1 + s.adv.val 12) e).toNat ++ [anyI s.adv.adv (1 + s.adv.val 12) e q] ++ e.ids.drop (anyA s.adv.adv (1 + s.adv.val 12) e).toNat }, ⟨s.val n, 6, 200 + s.adv.adv.adv.adv.val 3, 0, zeroId⟩)) := fun q => by
      have := stepR_5 (e := e) (c := anyC s n e q) hk
      rw [this, show (anyC s n e q).idn.keyId = 200 + s.adv.adv.adv.adv.val 3 from by show (anyI _ _ _ _).keyId = _; rw [hI]]
      rfl
    by_cases h1 : 0 ≤ anyA s.adv.adv (1 + s.adv.val 12) e ∧ anyA s.adv.adv (1 + s.adv.val 12) e ≤ (e.ids.length : Nat)
    · by_cases h2 : 0 ≤ keyIdx (200 + s.adv.adv.adv.adv.val 3) e.ids
      · refine ⟨zeroEp, fun _ => [], zeroChg, 41, fun q _ => ?_⟩
        unfold doneR; rw [hce, if_neg (by simp), if_neg (by simp [hok q]), hst q, if_neg (by simp [h1]), if_pos h2]; rfl
      · by_cases h3 : eptB { e with ids := e.ids.take (anyA s.adv.adv (1 + s.adv.val 12) e).toNat ++ [anyI s.adv.adv (1 + s.adv.val 12) e 0] ++ e.ids.drop (anyA s.adv.adv (1 + s.adv.val 12) e).toNat } = true
        · refine ⟨e, fun q => e.ids.take (anyA s.adv.adv (1 + s.adv.val 12) e).toNat ++ [anyI s.adv.adv (1 + s.adv.val 12) e q] ++ e.ids.drop (anyA s.adv.adv (1 + s.adv.val 12) e).toNat, ⟨s.val n, 6, 200 + s.adv.adv.adv.adv.val 3, 0, zeroId⟩, 0, fun q hq => ?_⟩
          unfold doneR; rw [hce, if_neg (by simp), if_neg (by simp [hok q]), hst q, if_neg (by simp [h1]), if_neg h2]
          show (if eptB _ = true then _ else _) = _
          rw [eptB_ids (hid q hq) (hid 0 (by constructor <;> omega)), if_pos h3]
        · refine ⟨zeroEp, fun _ => [], zeroChg, 18, fun q hq => ?_⟩
          unfold doneR; rw [hce, if_neg (by simp), if_neg (by simp [hok q]), hst q, if_neg (by simp [h1]), if_neg h2]
          show (if eptB _ = true then _ else _) = _
          rw [eptB_ids (hid q hq) (hid 0 (by constructor <;> omega)), if_neg h3]; rfl
    · refine ⟨zeroEp, fun _ => [], zeroChg, 2, fun q _ => ?_⟩
      unfold doneR; rw [hce, if_neg (by simp), if_neg (by simp [hok q]), hst q, if_pos h1]; rfl
  · refine ⟨(doneR e (anyC s n e 0)).1, fun _ => (doneR e (anyC s n e 0)).1.ids, (doneR e (anyC s n e 0)).2.1, (doneR e (anyC s n e 0)).2.2, fun q _ => ?_⟩
    have : anyC s n e q = anyC s n e 0 := by unfold anyC; rw [anyI_ne hk, anyI_ne hk]
    rw [this]
/-- An endpoint of whose identities only that is known. -/
abbrev rowXI (x : Ept) (I : Int → List Idn) : List Pr := [str x.name, int x.least, int x.most, ints x.suites, bool x.own, Cp.ex fun q : Int => fact (sumOk q) (idns (I q)), ints x.anchors, ints x.hashes, bool x.fall]
theorem Fun.exArg {P : Program} {f : FuncId} {p0 : Pr} {α : Type} {φ : α → Prop} {p1 : α → Pr} {res : α → Pr} {r : Pr} (q0 : α) (hq0 : φ q0) (h : ∀ q, φ q → Fun P f [p0, p1 q] (res q)) (hr : ∀ q, φ q → Pr.le (res q) r) : Fun P f [p0, Cp.ex fun q => fact (φ q) (p1 q)] r :=
  ⟨(h q0 hq0).1, fun M w vs hb hv => by
    match vs, hv with
    | [u0, u1], hv =>
      obtain ⟨h0, ⟨q, hq, h1⟩, _⟩ := hv
      exact ((h q hq).2 M w [u0, u1] hb ⟨h0, h1, trivial⟩).mono fun _ _ ⟨v, g1, g2, g3⟩ => ⟨v, g1, hr q hq _ _ _ g2, g3⟩⟩
theorem ref_xi {x : Ept} {I : Int → List Idn} : Pr.le (ref (rowXI x I)) (Cp.ex fun q : Int => fact (sumOk q) (ref (rowEp { x with ids := I q }))) := by
  rintro M w v ⟨ad, h1, h2⟩
  obtain ⟨u, g1, g2, g3, q, hq, g4⟩ := h2 5 _ rfl
  refine ⟨q, hq, ad, h1, fun j p hp => ?_⟩
  by_cases hj : j = 5
  · subst hj; cases hp; exact ⟨u, g1, g2, g3, g4⟩
  · refine h2 j p ?_
    match j, hj, hp with
    | 0, _, hp | 1, _, hp | 2, _, hp | 3, _, hp | 4, _, hp | 6, _, hp | 7, _, hp | 8, _, hp => exact hp
    | 5, hj, _ => exact absurd rfl hj
    | k + 9, _, hp => exact absurd hp (by simp)
theorem w_ApplyAny {s : DS} {n : Int} {i : Nat} {e x : Ept} {I : Int → List Idn} {b : Chg} {f : Int} (hse : SndE i e) (h : ∀ q, sumOk q → doneR e (anyC s n e q) = ({ x with ids := I q }, b, f)) : Fun Tryz.prog 15 [agg (rowEp e), Cp.ex fun q : Int => fact (sumOk q) (agg (rowChg (anyC s n e q)))] (tup [agg (rowXI x I), int f]) :=
  Fun.exArg 0 (by constructor <;> omega) (fun q _ => w_R24Apply (e := e) (c := anyC s n e q) (sndE_sz hse) (by omega) (anyI_fs (List.mem_of_getElem? hse.name))) fun q hq => by
    rw [h q hq]
    exact tup_le ⟨agg_le ⟨Pr.le_refl _, Pr.le_refl _, Pr.le_refl _, Pr.le_refl _, Pr.le_refl _, ex_in q (fact_in hq (Pr.le_refl _)), Pr.le_refl _, Pr.le_refl _, Pr.le_refl _, trivial⟩, Pr.le_refl _, trivial⟩

end Go.Proofs.YtflodcidhlmaaaaGreat
namespace Go.Proofs.YtflodcidhlmaaaaGreat
open Go Go.RowKit Cp Go.ChangeShapes Go.WideShapes Go.ChangeAt

def hB (e x : Ept) (d : Bool) : Hst := if d then ⟨x, [e]⟩ else ⟨e, []⟩
theorem hB_small {e x : Ept} {d : Bool} (he : e.small) (hx : x.small) : (hB e x d).small := by
  unfold hB; split
  · exact ⟨hx, by show 1 ≤ _; omega, fun y hy => by simp at hy; subst hy; exact he⟩
  · exact hs0 he
theorem w_tryOk {e x : Ept} {k : Int} (he : e.sz 2000) (hx : x.sz 2000) (hc : eptB x = true) (hn : x.name = e.name) (hk : 0 ≤ k ∧ k ≤ 3) : Fun Tryz.prog 17 [agg (rowH ⟨e, []⟩), agg (rowEp x), int k] (tup [agg (rowH (hB e x (decide (k = 0 ∨ k = 2)))), bool (decide (k = 0 ∨ k = 3)), int 0]) := by
  have h := w_HTry (h := ⟨e, []⟩) (to_ := x) (k := k) (hs0 (he.small (by omega))) (by show 0 ≤ _; omega) hx.fits (hx.small (by omega))
  have ht : tryH ⟨e, []⟩ x k = (hB e x (decide (k = 0 ∨ k = 2)), decide (k = 0 ∨ k = 3), 0) := by
    unfold tryH hB
    rw [if_neg (by simp [hc]), if_neg (by simp [hn]), if_neg (by omega)]
    by_cases hd : k = 0 ∨ k = 2
    · rw [if_pos hd, if_pos (by simpa using hd)]; rfl
    · rw [if_neg hd, if_neg (by simpa using hd)]
  rw [ht] at h; exact h
theorem w_backB {e x : Ept} {d : Bool} (he : e.small) (hx : x.small) : Fun Tryz.prog 19 [agg (rowH (hB e x d))] (tup [agg (rowH ⟨e, []⟩), int (if d = true then 0 else 4)]) := by
  have h := w_HBack (hB_small (d := d) he hx)
  cases d
  · exact h
  · exact h
theorem hB_ep {e x : Ept} {d : Bool} (h : x ≠ e) : decide ((hB e x d).ep = x) = d := by
  cases d
  · show decide (e = x) = false; simp [Ne.symm h]
  · show decide (x = x) = true; simp
theorem hB_len {e x : Ept} {d : Bool} : (((hB e x d).bef.length : Nat) : Int) = if d = true then 1 else 0 := by cases d <;> rfl
theorem take_one {l : List Ept} {e : Ept} (h : l[0]? = some e) : slice 9 ((l.map rowEp).take 1) = slice 9 ([e].map rowEp) := by
  cases l with
  | nil => simp at h
  | cons a l => simp at h; subst h; rfl
theorem name_done {e x : Ept} {c b : Chg} (h : doneR e c = (x, b, 0)) : x.name = e.name := by
  obtain ⟨_, h2, h3, _⟩ := doneR_inv h
  rcases kinds12 h2.1 with hk | hk | hk | hk | hk | hk | hk | hk | hk | hk | hk | hk
  · rw [stepR_1 hk] at h3; (repeat' (split at h3)) <;> first | (cases h3; done) | (injection h3 with h3; obtain ⟨rfl, rfl⟩ := Prod.mk.inj h3; rfl)
  · rw [stepR_2 hk] at h3; (repeat' (split at h3)) <;> first | (cases h3; done) | (injection h3 with h3; obtain ⟨rfl, rfl⟩ := Prod.mk.inj h3; rfl)
  · rw [stepR_3 hk] at h3; (repeat' (split at h3)) <;> first | (cases h3; done) | (injection h3 with h3; obtain ⟨rfl, rfl⟩ := Prod.mk.inj h3; rfl)
  · rw [stepR_4 hk] at h3; (repeat' (split at h3)) <;> first | (cases h3; done) | (injection h3 with h3; obtain ⟨rfl, rfl⟩ := Prod.mk.inj h3; rfl)
  · rw [stepR_5 hk] at h3; (repeat' (split at h3)) <;> first | (cases h3; done) | (injection h3 with h3; obtain ⟨rfl, rfl⟩ := Prod.mk.inj h3; rfl)
  · rw [stepR_6 hk] at h3; (repeat' (split at h3)) <;> first | (cases h3; done) | (injection h3 with h3; obtain ⟨rfl, rfl⟩ := Prod.mk.inj h3; rfl)
  · rw [stepR_7 hk] at h3; (repeat' (split at h3)) <;> first | (cases h3; done) | (injection h3 with h3; obtain ⟨rfl, rfl⟩ := Prod.mk.inj h3; rfl)
  · rw [stepR_8 hk] at h3; (repeat' (split at h3)) <;> first | (cases h3; done) | (injection h3 with h3; obtain ⟨rfl, rfl⟩ := Prod.mk.inj h3; rfl)
  · rw [stepR_9 hk] at h3; (repeat' (split at h3)) <;> first | (cases h3; done) | (injection h3 with h3; obtain ⟨rfl, rfl⟩ := Prod.mk.inj h3; rfl)
  · rw [stepR_10 hk] at h3; (repeat' (split at h3)) <;> first | (cases h3; done) | (injection h3 with h3; obtain ⟨rfl, rfl⟩ := Prod.mk.inj h3; rfl)
  · rw [stepR_11 hk] at h3; (repeat' (split at h3)) <;> first | (cases h3; done) | (injection h3 with h3; obtain ⟨rfl, rfl⟩ := Prod.mk.inj h3; rfl)
  · rw [stepR_12 hk] at h3; (repeat' (split at h3)) <;> first | (cases h3; done) | (injection h3 with h3; obtain ⟨rfl, rfl⟩ := Prod.mk.inj h3; rfl)

theorem w_HostBack {t : List Int} {cn : Int} (hcn : 0 ≤ cn ∧ cn < 256) : Fun Tryz.prog 3 [ints t, is (.int .u8 cn)] (bool true) := by
 refine fo Tryz.func3 rfl ⟨rfl, rfl⟩ fun M0 w0 => ?_
 refine ac ?_
 refine ac ?_
 refine co rfl (kc1 (w_Light) rfl rfl) ?_
 refine ac ?_
 refine Tr.cn rfl ?_ ?_ <;> intro h1 q1
 refine Tr.seq (Tr.reg0 (co rfl (kc0 (w_awake36) rfl) ?_))
 refine ac ?_
 refine ac ?_
 · exact Pr.le_refl _
 have ht4 : t.length ≤ 400 := by simpa using h1
 have ht9 : t.length ≤ 1000000000 := by omega
 refine ac ?_
 refine ao ?_
 refine TO.pad ?_
 refine TO.efs 0 rfl rfl (by decide) (ef_call rfl rfl (by decide) rfl (w_Roll (l := t) ht9) ⟨ke rfl, trivial⟩) (fun v1 => ?_)
 refine TO.opn 23 0 _ rfl rfl (fun _ => rfl) (fun b1 => ?_)
 refine ao ?_
 refine ao ?_
 refine TO.efc 0 rfl rfl (by decide) (ef_callc rfl rfl (by decide) rfl (w_Sound) ⟨ke rfl, trivial⟩) ?_
 refine TO.ex 25 rfl (fun z1 => TO.fact 25 rfl fun hz1 => ?_)
 obtain ⟨e, he0⟩ := at_ (l := z1) (k := 0) (by omega)
 have hse : SndE 0 e := hz1.2 0 e he0
 have he := (sndE_sz hse).le (m := 2000) (by omega)
 have hce := eptB_iff.2 (sndE_ok hse)
 refine TO.alloc rfl rfl (by decide) rfl z31 zo31 (fun b2 => ?_)
 refine sf 0 6 ⟨rfl, rfl, rfl⟩ rfl rfl rfl rfl ?_
 refine TO.nil (Fin.openD 0 rfl (fun s1 => ?_))
 refine Fin.go ?_
 refine ao ?_
 refine tp rfl (ok_indexAddr rfl Tryz.underlying27 sz35 (vl rfl) (vl rfl) (by omega) (row_atI (f := rowEp) (i := 0) he0)) (tp rfl (ok_loadA rfl agg35 sz35 (vl rfl) rfl rfl) (tp rfl (kc1 (w_HNewY he.fits (he.small (by omega)) hce) rfl rfl) ?_))
 refine ao ?_
 refine TO.alloc rfl rfl (by decide) rfl z37 zo37 (fun b3 => ?_)
 refine sf 0 7 ⟨rfl, rfl, rfl⟩ rfl rfl rfl rfl ?_
 refine ao ?_
 refine wk5 1 5 6 7 8 rfl (Tr.seq ?_)
 have hvi := s1.val_in (n := 1) (by omega)
 have hat : ([e] : List Ept)[(s1.val (([e] : List Ept).length : Nat)).toNat]? = some e := by show [e][(s1.val 1).toNat]? = _; rw [show (s1.val 1).toNat = 0 by omega]; rfl
 obtain ⟨x, I, b_, f, hd⟩ := done_any (s := s1) (n := (([e] : List Ept).length : Nat)) hse
 refine Tr.pad (Tr.rx ?_)
 refine ax ?_
 refine xo rfl (fun _ => ok_indexAddr rfl Tryz.underlying27 sz35 (vl rfl) (vl rfl) (by omega) (row_atI (f := rowEp) (i := 0) he0)) ?_
 refine ax ?_
 refine xo rfl (fun _ => ok_sliceTo rfl Tryz.underlying27 sz35 (vl rfl) (vl rfl) (by omega) (by simp; omega)) ?_
 refine xo rfl (fun _ => ok_build (rows := [(0, [_])]) rfl bl31 zo31 ⟨⟨rfl, (VL.le (vl rfl) (one_cellsP _))⟩, trivial⟩ rfl) ?_
 refine Cx.ef 1 rfl rfl (by decide) (ef_callc rfl rfl (by decide) rfl (w_AnyF (s := s1) (es := [e]) (e := e) ⟨by simp, by simp⟩ hat ⟨0, hse⟩) ⟨ke rfl, ⟨_, rfl, agg_le ⟨Pr.le_of_eq (take_one he0), Pr.le_refl _, Pr.le_refl _, trivial⟩⟩, trivial⟩) ?_
 refine xo rfl (fun _ => kc2 (w_ApplyAny hse hd) rfl rfl rfl) ?_
 refine ax ?_
 refine Cx.ef 0 rfl rfl (by decide) (ef_allocX rfl rfl (by decide) rfl z35 zo35) (Cx.ef0 0 rfl rfl (ef_storeX rfl rfl rfl rfl (VL.le (vl rfl) (agg_cellsP _)) sz35 rfl rfl) (xm rfl ?_))
 refine Cx.nil ⟨by kernel_rfl, ?_⟩
 refine FinX.open_ 0 9 rfl rfl (fun v2 => ?_)
 refine FinX.done al2 (Fin.opn 9 0 _ rfl rfl (fun _ => rfl) (fun b4 => ?_))
 refine Fin.openD 1 rfl (fun s2 => ?_)
 refine Fin.go (wk5 1 7 8 9 10 rfl (Tr.seq (Tr.seq (Tr.freeze 0 9 rfl rfl (Tr.re 9 rfl ref_xi (Tr.ex 9 rfl fun q => (Tr.fact 9 rfl fun hq => ?_)))))))
 have hd := hd q hq
 refine ac ?_
 refine Tr.cn rfl ?_ ?_ <;> intro h2 q2
 refine ac ?_
 refine Ch.cs 52 rfl ?_ ?_ <;> intro h3 q3
 refine cy h3 rfl (kc0 (w_awake36) rfl) ?_
 refine ac ?_
 refine wk1 4 rfl ?_
 refine ac ?_
 · exact Pr.le_refl _
 exact absurd h3 (by decide)
 refine ac ?_
 refine Tr.seq ?_
 have hf : f = 0 := by simpa using h2
 subst hf
 obtain ⟨_, hxn, hne, hcx⟩ := done_twice hd
 have hnx := name_done hd
 have hxz := (sz_done hd (sndE_sz hse) (anyI_fs (List.mem_of_getElem? hse.name))).1.le (m := 2000) (by omega)
 have hn3 : 0 ≤ cn.tmod 4 ∧ cn.tmod 4 ≤ 3 := by have h1 := Int.tmod_nonneg 4 hcn.1; have h2 := Int.tmod_lt_of_pos cn (show (0 : Int) < 4 by omega); omega
 have hn4 : cn.tmod 4 = 0 ∨ cn.tmod 4 = 1 ∨ cn.tmod 4 = 2 ∨ cn.tmod 4 = 3 := by omega
 refine ac ?_
 refine co rfl (ok_rem rfl (vl rfl) (vl rfl) (by omega)) ?_
 refine co rfl (ok_convI rfl Tryz.underlying5 Tryz.underlying3 (vl rfl) (by unfold InI; omega)) ?_
 refine ac ?_
 refine ao ?_
 refine tp rfl (kc3 (w_tryOk (e := e) (x := ({ x with ids := I q } : Ept)) (k := cn.tmod 4) he hxz hcx hnx hn3) rfl rfl rfl rfl) ?_
 refine ao ?_
 refine TO.alloc rfl rfl (by decide) rfl z37 zo37 (fun b5 => ?_)
 refine sf 0 12 ⟨rfl, rfl, rfl⟩ rfl rfl rfl rfl ?_
 refine ao ?_
 refine wk6 7 9 11 12 13 14 rfl ?_
 refine ac ?_
 refine co rfl (kc2 (w_R9Same) rfl rfl rfl) ?_
 refine ac ?_
 refine Tr.seq (Tr.seq (Tr.re 15 rfl (bool_eq (hB_ep hne)) ?_))
 refine ac ?_
 refine Ch.cs 72 rfl ?_ ?_ <;> intro h4 q4
 exact absurd h4 (by decide)
 refine ac ?_
 refine Ch.cs 76 rfl ?_ ?_ <;> intro h5 q5
 refine ac ?_
 refine cy h4 rfl (ok_neb rfl Tryz.underlying4 (vl rfl) (vl rfl)) ?_
 refine ac ?_
 refine Ch.cs 82 rfl ?_ ?_ <;> intro h6 q6
 exfalso; have h_ := h6; rcases hn4 with g | g | g | g <;> first | omega | (rw [g] at h_; exact absurd h_ (by decide))
 refine ac ?_
 refine Ch.cs 88 rfl ?_ ?_ <;> intro h7 q7
 refine ac ?_
 refine cy h6 rfl (ok_neb rfl Tryz.underlying4 (vl rfl) (vl rfl)) ?_
 refine ac ?_
 refine Ch.cs 94 rfl ?_ ?_ <;> intro h8 q8
 exfalso; have h_ := h8; rcases hn4 with g | g | g | g <;> first | omega | (rw [g] at h_; exact absurd h_ (by decide))
 refine ac ?_
 refine cy h8 rfl (ok_neb rfl Tryz.underlying4 (vl rfl) (vl rfl)) ?_
 refine ac ?_
 refine wk4 7 12 15 101 rfl ?_
 refine Tr.cn rfl ?_ ?_ <;> intro h9 q9
 exfalso; have h_ := h9; rw [hB_len] at h_; rcases hn4 with g | g | g | g <;> first | omega | (rw [g] at h_; exact absurd h_ (by decide))
 refine ac ?_
 refine ao ?_
 refine tp rfl (kc1 (w_backB (e := e) (x := ({ x with ids := I q } : Ept)) (d := (decide (cn.tmod 4 = 0 ∨ cn.tmod 4 = 2))) (he.small (by omega)) (hxz.small (by omega))) rfl rfl) ?_
 refine ao ?_
 refine TO.alloc rfl rfl (by decide) rfl z37 zo37 (fun b6 => ?_)
 refine sf 0 16 ⟨rfl, rfl, rfl⟩ rfl rfl rfl rfl ?_
 refine ao ?_
 refine ac ?_
 refine wk5 7 12 16 17 108 rfl ?_
 refine Tr.cn rfl ?_ ?_ <;> intro h10 q10
 have hD : decide (cn.tmod 4 = 0 ∨ cn.tmod 4 = 2) = false := by simpa using h10
 refine ac ?_
 refine Ch.cs 111 rfl ?_ ?_ <;> intro h11 q11
 refine ac ?_
 refine cy h11 rfl (kc2 (w_HSame) rfl rfl rfl) ?_
 refine ac ?_
 refine Ch.cs 116 rfl ?_ ?_ <;> intro h12 q12
 refine cy h12 rfl (kc0 (w_awake36) rfl) ?_
 refine ac ?_
 refine wk1 4 rfl ?_
 refine ac ?_
 · exact Pr.le_refl _
 exact absurd (by rw [hD]; rfl) q12
 exfalso; have h_ := h11; rcases hn4 with g | g | g | g <;> omega
 have hD : decide (cn.tmod 4 = 0 ∨ cn.tmod 4 = 2) = true := by have h_ := h10; cases hd_ : decide (cn.tmod 4 = 0 ∨ cn.tmod 4 = 2) <;> simp_all only [Bool.not_true, Bool.not_false, Bool.true_eq_false]
 refine ac ?_
 refine ac ?_
 refine Ch.cs 121 rfl ?_ ?_ <;> intro h13 q13
 refine ac ?_
 refine cy h13 rfl (kc2 (w_HSame) rfl rfl rfl) ?_
 refine ac ?_
 refine Ch.cs 126 rfl ?_ ?_ <;> intro h14 q14
 refine cy h14 rfl (kc0 (w_awake36) rfl) ?_
 refine ac ?_
 refine wk1 4 rfl ?_
 refine ac ?_
 · exact Pr.le_refl _
 exact absurd rfl q14
 exfalso; have h_ := h13; rcases hn4 with g | g | g | g <;> first | omega | (rw [g] at h_; exact absurd h_ (by decide))
 exfalso; have h1_ := q7; have h2_ := q5; omega
 refine ac ?_
 refine cy h4 rfl (ok_neb rfl Tryz.underlying4 (vl rfl) (vl rfl)) ?_
 refine ac ?_
 refine Ch.cs 82 rfl ?_ ?_ <;> intro h15 q15
 exfalso; have h_ := h15; rcases hn4 with g | g | g | g <;> first | omega | (rw [g] at h_; exact absurd h_ (by decide))
 refine ac ?_
 refine Ch.cs 88 rfl ?_ ?_ <;> intro h16 q16
 exfalso; have h1_ := q16; have h2_ := q5; omega
 refine ac ?_
 refine cy h15 rfl (ok_neb rfl Tryz.underlying4 (vl rfl) (vl rfl)) ?_
 refine ac ?_
 refine Ch.cs 94 rfl ?_ ?_ <;> intro h17 q17
 exfalso; have h_ := h17; rcases hn4 with g | g | g | g <;> first | omega | (rw [g] at h_; exact absurd h_ (by decide))
 refine ac ?_
 refine cy h17 rfl (ok_neb rfl Tryz.underlying4 (vl rfl) (vl rfl)) ?_
 refine ac ?_
 refine wk4 7 12 15 101 rfl ?_
 refine Tr.cn rfl ?_ ?_ <;> intro h18 q18
 exfalso; have h_ := h18; rw [hB_len] at h_; rcases hn4 with g | g | g | g <;> first | omega | (rw [g] at h_; exact absurd h_ (by decide))
 refine ac ?_
 refine ao ?_
 refine tp rfl (kc1 (w_backB (e := e) (x := ({ x with ids := I q } : Ept)) (d := (decide (cn.tmod 4 = 0 ∨ cn.tmod 4 = 2))) (he.small (by omega)) (hxz.small (by omega))) rfl rfl) ?_
 refine ao ?_
 refine TO.alloc rfl rfl (by decide) rfl z37 zo37 (fun b7 => ?_)
 refine sf 0 16 ⟨rfl, rfl, rfl⟩ rfl rfl rfl rfl ?_
 refine ao ?_
 refine ac ?_
 refine wk5 7 12 16 17 108 rfl ?_
 refine Tr.cn rfl ?_ ?_ <;> intro h19 q19
 have hD : decide (cn.tmod 4 = 0 ∨ cn.tmod 4 = 2) = false := by simpa using h19
 refine ac ?_
 refine Ch.cs 111 rfl ?_ ?_ <;> intro h20 q20
 refine ac ?_
 refine cy h20 rfl (kc2 (w_HSame) rfl rfl rfl) ?_
 refine ac ?_
 refine Ch.cs 116 rfl ?_ ?_ <;> intro h21 q21
 refine cy h21 rfl (kc0 (w_awake36) rfl) ?_
 refine ac ?_
 refine wk1 4 rfl ?_
 refine ac ?_
 · exact Pr.le_refl _
 exact absurd (by rw [hD]; rfl) q21
 exfalso; have h_ := h20; rcases hn4 with g | g | g | g <;> first | omega | (rw [g] at h_; exact absurd h_ (by decide))
 have hD : decide (cn.tmod 4 = 0 ∨ cn.tmod 4 = 2) = true := by have h_ := h19; cases hd_ : decide (cn.tmod 4 = 0 ∨ cn.tmod 4 = 2) <;> simp_all only [Bool.not_true, Bool.not_false, Bool.true_eq_false]
 refine ac ?_
 refine ac ?_
 refine Ch.cs 121 rfl ?_ ?_ <;> intro h22 q22
 refine ac ?_
 refine cy h22 rfl (kc2 (w_HSame) rfl rfl rfl) ?_
 refine ac ?_
 refine Ch.cs 126 rfl ?_ ?_ <;> intro h23 q23
 refine cy h23 rfl (kc0 (w_awake36) rfl) ?_
 refine ac ?_
 refine wk1 4 rfl ?_
 refine ac ?_
 · exact Pr.le_refl _
 exact absurd rfl q23
 exfalso; have h_ := h22; rcases hn4 with g | g | g | g <;> first | omega | (rw [g] at h_; exact absurd h_ (by decide))
theorem hostBack_lifted (os : Os) (started : os.Started) (H : Type) (enc : TypeId × Value → H) :
    ReturnsInHanded {} Tryz.checked os 3 .any (Rows.hostBackSpec.pre6 enc Tryz.prog Tryz.f3 Rows.hostBackRow.domain false) (Rows.hostBackSpec.post enc Tryz.prog Tryz.f3 false true false false) := by
  refine returnsInHanded_of_change (C := Tryz.checked) own0 started (by kernel_rfl) Tryz.func3
    (ChangeSpec.witness6 (enc := enc) (C := Tryz.checked) false ⟨#[], #[.slice none 0 0, .int .u8 0], []⟩ 8 (by kernel_rfl) (by kernel_rfl) (by kernel_rfl) (by kernel_rfl)) ?_
  intro W base args ds gs before hval0 hW hcnd _
  have hval : ∀ (j : Nat) t v, Tryz.f3.params[j]? = some t → args[j]? = some v → Value.okWide Tryz.prog W .any base t v := hval0
  have hW' := hW
  obtain ⟨p, q, hA0, hV, hpq, hfz, hnd⟩ := hW
  have hA : DataW.TrodAll enc Tryz.prog W 0 (fun _ => true) true Tryz.f3.params.toList args.toList ds p := hA0
  have hA' := hA
  rw [Tryz.params3] at hA hval
  obtain ⟨v0, v1, d0, d1, p0, p1, rfl, rfl, hp, h0, h1⟩ := trodAll_two hA
  obtain ⟨rfl, rfl⟩ := trodVars_none hV
  obtain ⟨a0, hr0, e0⟩ := arg_one (opens_ints Tryz.underlying22 Tryz.underlying3 (by kernel_rfl)) h0 (by obtain ⟨_, _, _, rfl⟩ := okWide_slice Tryz.underlying22 (hval 0 22 v0 rfl rfl); rfl)
  obtain ⟨a1, hr1, e1⟩ := arg_one (opens_int Tryz.underlying5) h1 (by obtain ⟨_, rfl⟩ := okWide_int Tryz.underlying5 (hval 1 5 v1 rfl rfl); rfl)
  refine ((w_HostBack (u8_in hr1)).2 noM W [v0, v1] (noM_bd W) ⟨e0, e1, trivial⟩).mono fun e W' ⟨v, he, hv, hb⟩ => ?_
  subst he
  obtain rfl : v = .bool true := hv
  exact ⟨_, rfl, law_post laidOut0 (by kernel_rfl) rfl Tryz.underlying4 rfl hA' (by rw [hpq]; simp) hW' rfl hb⟩
theorem hostBack_holds : Rows.HostBackSaid :=
  OpenClaim.holds_of_wide 3 Tryz.f3 rfl rfl rfl rfl rfl rfl rfl ⟨rfl, rfl, rfl, rfl, rfl⟩ rfl rfl rfl rfl rfl (by kernel_rfl) Tryz.func3 (by kernel_rfl)
    (of_decide_eq_true (by kernel_rfl)) (by unfold Func.isWrapper; first | (rw [if_pos (by decide +kernel)]; kernel_rfl) | (rw [if_neg (by decide +kernel)]; exact ⟨rfl, rfl⟩))
    (fun os started H enc _ => hostBack_lifted os started H enc)
end Go.Proofs.YtflodcidhlmaaaaGreat
