/-
  Part 6 of the texts that prove this claim, merged.
-/
import Derived.Test.YtppeeogffbpcbaaGreatCkHP5
set_option linter.all false
set_option maxRecDepth 40000
set_option maxHeartbeats 16000000
namespace Go.Proofs.YtppeeogffbpcbaaGreat
open Go Go.RowKit Cp

def letN (n : Nat) : Bool := decide ((97 ≤ n ∧ n ≤ 122) ∨ (65 ≤ n ∧ n ≤ 90) ∨ (48 ≤ n ∧ n ≤ 57) ∨ n = 45 ∨ n = 95 ∨ n = 46)
theorem letter_all : ∀ n ∈ List.range 256, letterB [45, 95, 46] (UInt8.ofNat n) = letN n := by decide +kernel
theorem letter_eq (c : UInt8) : letterB [45, 95, 46] c = letN c.toNat := by
  have h := letter_all c.toNat (List.mem_range.2 c.toNat_lt)
  rw [UInt8.ofNat_toNat] at h; exact h

theorem w_R6Word {s : List UInt8}  : Fun Tryz.prog 124 [str s] (bool (wordB s)) := by
 refine fo Tryz.func124 rfl ⟨rfl, rfl⟩ fun M0 w0 => ?_
 refine ac ?_
 refine ac ?_
 refine Ch.cs 8 rfl ?_ ?_ <;> intro h1 q1
 refine ac ?_
 refine ac ?_
 refine ac ?_
 · refine bool_eq ?_; unfold wordB; rw [Bool.and_eq_false_iff.2 (.inr (by simp; omega))]
 refine ac ?_
 refine Tr.cn rfl ?_ ?_ <;> intro h2 q2
 refine ac ?_
 refine ac ?_
 · refine bool_eq ?_; unfold wordB; rw [Bool.and_eq_false_iff.2 (.inr (by simp; omega))]
 refine ac ?_
 refine ac ?_
 refine Tr.block (Tr.loopw [(0, _)] ⟨ke rfl, trivial⟩ (fun k : Nat => [(3, int ((k : Nat) : Int))]) (fun k : Nat => k ≤ (s).length ∧ (∀ j y, j < k → s[j]? = some y → (!letterB [45, 95, 46] y) = false)) (fun k : Nat => (s).length - k) 0 (⟨Nat.zero_le _, fun j y hj => absurd hj (by omega)⟩) ⟨ke rfl, trivial⟩ ?_)
 rintro k ⟨hle_k, hinv_k⟩
 refine ac ?_
 refine Tr.cn rfl ?_ ?_ <;> intro h3 q3
 have hk_k : k < (s).length := lt_of_dec h3
 obtain ⟨c, hx_k⟩ := at_ hk_k
 refine ac ?_
 refine ac ?_
 refine co rfl (ok_sidx rfl Tryz.underlying9 (vl rfl) (vl rfl) (by omega) (sidx_at (by assumption))) ?_
 refine ac ?_
 refine ac ?_
 refine Ch.cs 24 rfl ?_ ?_ <;> intro h4 q4
 refine ac ?_
 refine Ch.cs 31 rfl ?_ ?_ <;> intro h5 q5
 refine ac ?_
 refine Ch.cs 39 rfl ?_ ?_ <;> intro h6 q6
 refine ac ?_
 refine Ch.cs 48 rfl ?_ ?_ <;> intro h7 q7
 refine ac ?_
 refine Ch.cs 52 rfl ?_ ?_ <;> intro h8 q8
 refine ac ?_
 refine wk3 0 3 55 rfl ?_
 refine Tr.cn rfl ?_ ?_ <;> intro h9 q9
 refine ac ?_
 refine ac ?_
 · refine bool_eq ?_; unfold wordB; rw [all_hit (p := letterB [45, 95, 46]) hx_k (by rw [letter_eq]; unfold letN; simp; omega)]; rfl
 refine ac ?_
 refine ac ?_
 exact Fin.fam_same (k + 1) ⟨⟨hk_k, step_no (p := fun c => !letterB [45, 95, 46] c) hx_k (by rw [letter_eq]; unfold letN; simp; omega) hinv_k⟩, by omega⟩ ⟨⟨_, rfl, int_succ k⟩, ke rfl, trivial⟩
 refine ac ?_
 refine wk3 0 3 55 rfl ?_
 refine ac ?_
 refine ac ?_
 exact Fin.fam_same (k + 1) ⟨⟨hk_k, step_no (p := fun c => !letterB [45, 95, 46] c) hx_k (by rw [letter_eq]; unfold letN; simp; omega) hinv_k⟩, by omega⟩ ⟨⟨_, rfl, int_succ k⟩, ke rfl, trivial⟩
 refine ac ?_
 refine wk3 0 3 55 rfl ?_
 refine ac ?_
 refine ac ?_
 exact Fin.fam_same (k + 1) ⟨⟨hk_k, step_no (p := fun c => !letterB [45, 95, 46] c) hx_k (by rw [letter_eq]; unfold letN; simp; omega) hinv_k⟩, by omega⟩ ⟨⟨_, rfl, int_succ k⟩, ke rfl, trivial⟩
 refine ac ?_
 refine Ch.cs 44 rfl ?_ ?_ <;> intro h10 q10
 refine ac ?_
 refine Ch.cs 48 rfl ?_ ?_ <;> intro h11 q11
 refine ac ?_
 refine Ch.cs 52 rfl ?_ ?_ <;> intro h12 q12
 refine ac ?_
 refine wk3 0 3 55 rfl ?_
 refine Tr.cn rfl ?_ ?_ <;> intro h13 q13
 refine ac ?_
 refine ac ?_
 · refine bool_eq ?_; unfold wordB; rw [all_hit (p := letterB [45, 95, 46]) hx_k (by rw [letter_eq]; unfold letN; simp; omega)]; rfl
 refine ac ?_
 refine ac ?_
 exact Fin.fam_same (k + 1) ⟨⟨hk_k, step_no (p := fun c => !letterB [45, 95, 46] c) hx_k (by rw [letter_eq]; unfold letN; simp; omega) hinv_k⟩, by omega⟩ ⟨⟨_, rfl, int_succ k⟩, ke rfl, trivial⟩
 refine ac ?_
 refine wk3 0 3 55 rfl ?_
 refine ac ?_
 refine ac ?_
 exact Fin.fam_same (k + 1) ⟨⟨hk_k, step_no (p := fun c => !letterB [45, 95, 46] c) hx_k (by rw [letter_eq]; unfold letN; simp; omega) hinv_k⟩, by omega⟩ ⟨⟨_, rfl, int_succ k⟩, ke rfl, trivial⟩
 refine ac ?_
 refine wk3 0 3 55 rfl ?_
 refine ac ?_
 refine ac ?_
 exact Fin.fam_same (k + 1) ⟨⟨hk_k, step_no (p := fun c => !letterB [45, 95, 46] c) hx_k (by rw [letter_eq]; unfold letN; simp; omega) hinv_k⟩, by omega⟩ ⟨⟨_, rfl, int_succ k⟩, ke rfl, trivial⟩
 refine ac ?_
 refine wk3 0 3 55 rfl ?_
 refine ac ?_
 refine ac ?_
 exact Fin.fam_same (k + 1) ⟨⟨hk_k, step_no (p := fun c => !letterB [45, 95, 46] c) hx_k (by rw [letter_eq]; unfold letN; simp; omega) hinv_k⟩, by omega⟩ ⟨⟨_, rfl, int_succ k⟩, ke rfl, trivial⟩
 refine ac ?_
 refine Ch.cs 36 rfl ?_ ?_ <;> intro h14 q14
 refine ac ?_
 refine Ch.cs 39 rfl ?_ ?_ <;> intro h15 q15
 refine ac ?_
 refine Ch.cs 48 rfl ?_ ?_ <;> intro h16 q16
 refine ac ?_
 refine Ch.cs 52 rfl ?_ ?_ <;> intro h17 q17
 refine ac ?_
 refine wk3 0 3 55 rfl ?_
 refine Tr.cn rfl ?_ ?_ <;> intro h18 q18
 refine ac ?_
 refine ac ?_
 · refine bool_eq ?_; unfold wordB; rw [all_hit (p := letterB [45, 95, 46]) hx_k (by rw [letter_eq]; unfold letN; simp; omega)]; rfl
 refine ac ?_
 refine ac ?_
 exact Fin.fam_same (k + 1) ⟨⟨hk_k, step_no (p := fun c => !letterB [45, 95, 46] c) hx_k (by rw [letter_eq]; unfold letN; simp; omega) hinv_k⟩, by omega⟩ ⟨⟨_, rfl, int_succ k⟩, ke rfl, trivial⟩
 refine ac ?_
 refine wk3 0 3 55 rfl ?_
 refine ac ?_
 refine ac ?_
 exact Fin.fam_same (k + 1) ⟨⟨hk_k, step_no (p := fun c => !letterB [45, 95, 46] c) hx_k (by rw [letter_eq]; unfold letN; simp; omega) hinv_k⟩, by omega⟩ ⟨⟨_, rfl, int_succ k⟩, ke rfl, trivial⟩
 refine ac ?_
 refine wk3 0 3 55 rfl ?_
 refine ac ?_
 refine ac ?_
 exact Fin.fam_same (k + 1) ⟨⟨hk_k, step_no (p := fun c => !letterB [45, 95, 46] c) hx_k (by rw [letter_eq]; unfold letN; simp; omega) hinv_k⟩, by omega⟩ ⟨⟨_, rfl, int_succ k⟩, ke rfl, trivial⟩
 refine ac ?_
 refine Ch.cs 44 rfl ?_ ?_ <;> intro h19 q19
 refine ac ?_
 refine Ch.cs 48 rfl ?_ ?_ <;> intro h20 q20
 refine ac ?_
 refine Ch.cs 52 rfl ?_ ?_ <;> intro h21 q21
 refine ac ?_
 refine wk3 0 3 55 rfl ?_
 refine Tr.cn rfl ?_ ?_ <;> intro h22 q22
 refine ac ?_
 refine ac ?_
 · refine bool_eq ?_; unfold wordB; rw [all_hit (p := letterB [45, 95, 46]) hx_k (by rw [letter_eq]; unfold letN; simp; omega)]; rfl
 refine ac ?_
 refine ac ?_
 exact Fin.fam_same (k + 1) ⟨⟨hk_k, step_no (p := fun c => !letterB [45, 95, 46] c) hx_k (by rw [letter_eq]; unfold letN; simp; omega) hinv_k⟩, by omega⟩ ⟨⟨_, rfl, int_succ k⟩, ke rfl, trivial⟩
 refine ac ?_
 refine wk3 0 3 55 rfl ?_
 refine ac ?_
 refine ac ?_
 exact Fin.fam_same (k + 1) ⟨⟨hk_k, step_no (p := fun c => !letterB [45, 95, 46] c) hx_k (by rw [letter_eq]; unfold letN; simp; omega) hinv_k⟩, by omega⟩ ⟨⟨_, rfl, int_succ k⟩, ke rfl, trivial⟩
 refine ac ?_
 refine wk3 0 3 55 rfl ?_
 refine ac ?_
 refine ac ?_
 exact Fin.fam_same (k + 1) ⟨⟨hk_k, step_no (p := fun c => !letterB [45, 95, 46] c) hx_k (by rw [letter_eq]; unfold letN; simp; omega) hinv_k⟩, by omega⟩ ⟨⟨_, rfl, int_succ k⟩, ke rfl, trivial⟩
 refine ac ?_
 refine wk3 0 3 55 rfl ?_
 refine ac ?_
 refine ac ?_
 exact Fin.fam_same (k + 1) ⟨⟨hk_k, step_no (p := fun c => !letterB [45, 95, 46] c) hx_k (by rw [letter_eq]; unfold letN; simp; omega) hinv_k⟩, by omega⟩ ⟨⟨_, rfl, int_succ k⟩, ke rfl, trivial⟩
 refine ac ?_
 refine wk3 0 3 55 rfl ?_
 refine ac ?_
 refine ac ?_
 exact Fin.fam_same (k + 1) ⟨⟨hk_k, step_no (p := fun c => !letterB [45, 95, 46] c) hx_k (by rw [letter_eq]; unfold letN; simp; omega) hinv_k⟩, by omega⟩ ⟨⟨_, rfl, int_succ k⟩, ke rfl, trivial⟩
 refine ac ?_
 refine Ch.cs 28 rfl ?_ ?_ <;> intro h23 q23
 refine ac ?_
 refine Ch.cs 31 rfl ?_ ?_ <;> intro h24 q24
 refine ac ?_
 refine Ch.cs 39 rfl ?_ ?_ <;> intro h25 q25
 refine ac ?_
 refine Ch.cs 48 rfl ?_ ?_ <;> intro h26 q26
 refine ac ?_
 refine Ch.cs 52 rfl ?_ ?_ <;> intro h27 q27
 refine ac ?_
 refine wk3 0 3 55 rfl ?_
 refine Tr.cn rfl ?_ ?_ <;> intro h28 q28
 refine ac ?_
 refine ac ?_
 · refine bool_eq ?_; unfold wordB; rw [all_hit (p := letterB [45, 95, 46]) hx_k (by rw [letter_eq]; unfold letN; simp; omega)]; rfl
 refine ac ?_
 refine ac ?_
 exact Fin.fam_same (k + 1) ⟨⟨hk_k, step_no (p := fun c => !letterB [45, 95, 46] c) hx_k (by rw [letter_eq]; unfold letN; simp; omega) hinv_k⟩, by omega⟩ ⟨⟨_, rfl, int_succ k⟩, ke rfl, trivial⟩
 refine ac ?_
 refine wk3 0 3 55 rfl ?_
 refine ac ?_
 refine ac ?_
 exact Fin.fam_same (k + 1) ⟨⟨hk_k, step_no (p := fun c => !letterB [45, 95, 46] c) hx_k (by rw [letter_eq]; unfold letN; simp; omega) hinv_k⟩, by omega⟩ ⟨⟨_, rfl, int_succ k⟩, ke rfl, trivial⟩
 refine ac ?_
 refine wk3 0 3 55 rfl ?_
 refine ac ?_
 refine ac ?_
 exact Fin.fam_same (k + 1) ⟨⟨hk_k, step_no (p := fun c => !letterB [45, 95, 46] c) hx_k (by rw [letter_eq]; unfold letN; simp; omega) hinv_k⟩, by omega⟩ ⟨⟨_, rfl, int_succ k⟩, ke rfl, trivial⟩
 refine ac ?_
 refine Ch.cs 44 rfl ?_ ?_ <;> intro h29 q29
 refine ac ?_
 refine Ch.cs 48 rfl ?_ ?_ <;> intro h30 q30
 refine ac ?_
 refine Ch.cs 52 rfl ?_ ?_ <;> intro h31 q31
 refine ac ?_
 refine wk3 0 3 55 rfl ?_
 refine Tr.cn rfl ?_ ?_ <;> intro h32 q32
 refine ac ?_
 refine ac ?_
 · refine bool_eq ?_; unfold wordB; rw [all_hit (p := letterB [45, 95, 46]) hx_k (by rw [letter_eq]; unfold letN; simp; omega)]; rfl
 refine ac ?_
 refine ac ?_
 exact Fin.fam_same (k + 1) ⟨⟨hk_k, step_no (p := fun c => !letterB [45, 95, 46] c) hx_k (by rw [letter_eq]; unfold letN; simp; omega) hinv_k⟩, by omega⟩ ⟨⟨_, rfl, int_succ k⟩, ke rfl, trivial⟩
 refine ac ?_
 refine wk3 0 3 55 rfl ?_
 refine ac ?_
 refine ac ?_
 exact Fin.fam_same (k + 1) ⟨⟨hk_k, step_no (p := fun c => !letterB [45, 95, 46] c) hx_k (by rw [letter_eq]; unfold letN; simp; omega) hinv_k⟩, by omega⟩ ⟨⟨_, rfl, int_succ k⟩, ke rfl, trivial⟩
 refine ac ?_
 refine wk3 0 3 55 rfl ?_
 refine ac ?_
 refine ac ?_
 exact Fin.fam_same (k + 1) ⟨⟨hk_k, step_no (p := fun c => !letterB [45, 95, 46] c) hx_k (by rw [letter_eq]; unfold letN; simp; omega) hinv_k⟩, by omega⟩ ⟨⟨_, rfl, int_succ k⟩, ke rfl, trivial⟩
 refine ac ?_
 refine wk3 0 3 55 rfl ?_
 refine ac ?_
 refine ac ?_
 exact Fin.fam_same (k + 1) ⟨⟨hk_k, step_no (p := fun c => !letterB [45, 95, 46] c) hx_k (by rw [letter_eq]; unfold letN; simp; omega) hinv_k⟩, by omega⟩ ⟨⟨_, rfl, int_succ k⟩, ke rfl, trivial⟩
 refine ac ?_
 refine Ch.cs 36 rfl ?_ ?_ <;> intro h33 q33
 refine ac ?_
 refine Ch.cs 39 rfl ?_ ?_ <;> intro h34 q34
 refine ac ?_
 refine Ch.cs 48 rfl ?_ ?_ <;> intro h35 q35
 refine ac ?_
 refine Ch.cs 52 rfl ?_ ?_ <;> intro h36 q36
 refine ac ?_
 refine wk3 0 3 55 rfl ?_
 refine Tr.cn rfl ?_ ?_ <;> intro h37 q37
 refine ac ?_
 refine ac ?_
 · refine bool_eq ?_; unfold wordB; rw [all_hit (p := letterB [45, 95, 46]) hx_k (by rw [letter_eq]; unfold letN; simp; omega)]; rfl
 refine ac ?_
 refine ac ?_
 exact Fin.fam_same (k + 1) ⟨⟨hk_k, step_no (p := fun c => !letterB [45, 95, 46] c) hx_k (by rw [letter_eq]; unfold letN; simp; omega) hinv_k⟩, by omega⟩ ⟨⟨_, rfl, int_succ k⟩, ke rfl, trivial⟩
 refine ac ?_
 refine wk3 0 3 55 rfl ?_
 refine ac ?_
 refine ac ?_
 exact Fin.fam_same (k + 1) ⟨⟨hk_k, step_no (p := fun c => !letterB [45, 95, 46] c) hx_k (by rw [letter_eq]; unfold letN; simp; omega) hinv_k⟩, by omega⟩ ⟨⟨_, rfl, int_succ k⟩, ke rfl, trivial⟩
 refine ac ?_
 refine wk3 0 3 55 rfl ?_
 refine ac ?_
 refine ac ?_
 exact Fin.fam_same (k + 1) ⟨⟨hk_k, step_no (p := fun c => !letterB [45, 95, 46] c) hx_k (by rw [letter_eq]; unfold letN; simp; omega) hinv_k⟩, by omega⟩ ⟨⟨_, rfl, int_succ k⟩, ke rfl, trivial⟩
 refine ac ?_
 refine Ch.cs 44 rfl ?_ ?_ <;> intro h38 q38
 refine ac ?_
 refine Ch.cs 48 rfl ?_ ?_ <;> intro h39 q39
 refine ac ?_
 refine Ch.cs 52 rfl ?_ ?_ <;> intro h40 q40
 refine ac ?_
 refine wk3 0 3 55 rfl ?_
 refine Tr.cn rfl ?_ ?_ <;> intro h41 q41
 refine ac ?_
 refine ac ?_
 · refine bool_eq ?_; unfold wordB; rw [all_hit (p := letterB [45, 95, 46]) hx_k (by rw [letter_eq]; unfold letN; simp; omega)]; rfl
 refine ac ?_
 refine ac ?_
 exact Fin.fam_same (k + 1) ⟨⟨hk_k, step_no (p := fun c => !letterB [45, 95, 46] c) hx_k (by rw [letter_eq]; unfold letN; simp; omega) hinv_k⟩, by omega⟩ ⟨⟨_, rfl, int_succ k⟩, ke rfl, trivial⟩
 refine ac ?_
 refine wk3 0 3 55 rfl ?_
 refine ac ?_
 refine ac ?_
 exact Fin.fam_same (k + 1) ⟨⟨hk_k, step_no (p := fun c => !letterB [45, 95, 46] c) hx_k (by rw [letter_eq]; unfold letN; simp; omega) hinv_k⟩, by omega⟩ ⟨⟨_, rfl, int_succ k⟩, ke rfl, trivial⟩
 refine ac ?_
 refine wk3 0 3 55 rfl ?_
 refine ac ?_
 refine ac ?_
 exact Fin.fam_same (k + 1) ⟨⟨hk_k, step_no (p := fun c => !letterB [45, 95, 46] c) hx_k (by rw [letter_eq]; unfold letN; simp; omega) hinv_k⟩, by omega⟩ ⟨⟨_, rfl, int_succ k⟩, ke rfl, trivial⟩
 refine ac ?_
 refine wk3 0 3 55 rfl ?_
 refine ac ?_
 refine ac ?_
 exact Fin.fam_same (k + 1) ⟨⟨hk_k, step_no (p := fun c => !letterB [45, 95, 46] c) hx_k (by rw [letter_eq]; unfold letN; simp; omega) hinv_k⟩, by omega⟩ ⟨⟨_, rfl, int_succ k⟩, ke rfl, trivial⟩
 refine ac ?_
 refine wk3 0 3 55 rfl ?_
 refine ac ?_
 refine ac ?_
 exact Fin.fam_same (k + 1) ⟨⟨hk_k, step_no (p := fun c => !letterB [45, 95, 46] c) hx_k (by rw [letter_eq]; unfold letN; simp; omega) hinv_k⟩, by omega⟩ ⟨⟨_, rfl, int_succ k⟩, ke rfl, trivial⟩
 refine ac ?_
 refine wk3 0 3 55 rfl ?_
 refine ac ?_
 refine ac ?_
 exact Fin.fam_same (k + 1) ⟨⟨hk_k, step_no (p := fun c => !letterB [45, 95, 46] c) hx_k (by rw [letter_eq]; unfold letN; simp; omega) hinv_k⟩, by omega⟩ ⟨⟨_, rfl, int_succ k⟩, ke rfl, trivial⟩
 have he_k : k = (s).length := by have := ge_of_dec h3; omega
 subst he_k
 refine ac ?_
 refine ac ?_
 refine ac ?_
 · refine bool_eq ?_; unfold wordB; rw [all_end hinv_k, Bool.true_and]; symm; rw [decide_eq_true_eq]; omega
theorem w_R2use {a b : Int}  : Fun Tryz.prog 218 [int a, int b] (agg [int a, int b]) := by
 refine fo Tryz.func218 rfl ⟨rfl, rfl⟩ fun M0 w0 => (Tr.seq (Tr.regT ?_))
 refine TO.alloc rfl rfl (by decide) rfl z24 zo24 (fun b1 => ?_)
 refine ap ?_
 refine ap ?_
 refine Tr.ret (Fin.retX1 rfl (RVal.cell 0 rfl rfl agg24 sz24 rfl (Pr.le_refl _)) ?_)
 · exact Pr.le_refl _
theorem w_R2suite {a l m x1 y1 x2 y2 x3 y3 x4 y4 : Int} {s : List UInt8}  : Fun Tryz.prog 219 [int a, str s, agg [int x1, int y1], agg [int x2, int y2], agg [int x3, int y3], agg [int x4, int y4], int l, int m] (agg anyRow) := by
 refine Fun.of Tryz.func219 rfl rfl (by exact Nat.le_of_ble_eq_true rfl) fun M0 w0 => ?_
 refine Tr.seq (Tr.regT ?_)
 iterate 4 refine tp rfl (ok_box rfl (VL.le (vl rfl) (agg_cellsP _))) ?_
 refine TO.alloc rfl rfl (by decide) rfl z170 zo170 (fun b1 => ?_)
 refine TO.nil (Fin.go (Tr.seq (Tr.regT (tm rfl (tm rfl ?_)))))
 iterate 4 refine tp rfl (ok_loadA rfl agg24 sz24 (vl rfl) rfl rfl) ?_
 refine tm rfl (tm rfl (tp rfl (ok_build (rows := [(0, [_]), (1, [_]), (2, _), (3, _), (4, _), (5, _), (6, [_]), (7, [_])]) rfl bl170 zo170 ⟨⟨rfl, (VL.le (vl rfl) (one_cellsP _))⟩, ⟨⟨rfl, (VL.le (vl rfl) (one_cellsP _))⟩, ⟨⟨rfl, (VL.le (vl rfl) (agg_cellsP _))⟩, ⟨⟨rfl, (VL.le (vl rfl) (agg_cellsP _))⟩, ⟨⟨rfl, (VL.le (vl rfl) (agg_cellsP _))⟩, ⟨⟨rfl, (VL.le (vl rfl) (agg_cellsP _))⟩, ⟨⟨rfl, (VL.le (vl rfl) (one_cellsP _))⟩, ⟨⟨rfl, (VL.le (vl rfl) (one_cellsP _))⟩, trivial⟩⟩⟩⟩⟩⟩⟩⟩ rfl) (TO.re 25 (agg anyRow) rfl (agg_any rfl) (TO.store_all 0 rfl rfl rfl (vl rfl) (VL.le (vl rfl) (agg_cellsP _)) rfl sz170 rfl rfl (TO.nil (Fin.go (wk1 16 rfl (Tr.ret (Fin.retX1 rfl (RVal.cell 0 rfl rfl agg170 sz170 rfl (Pr.le_refl _)) ?_)))))))))
 · exact Pr.le_refl _
theorem w_R2Suites   : Fun Tryz.prog 179 [] (slice 12 anyRows) := by
 refine fo Tryz.func179 rfl ⟨rfl, rfl⟩ fun M0 w0 => ?_
 refine ac ?_
 refine Tr.seq (Tr.regT (tp rfl (kc2 (w_R2use) rfl rfl rfl) (tp rfl (kc2 (w_R2use) rfl rfl rfl) (tp rfl (ok_build (rows := []) rfl bl24 zo24 trivial rfl) ?_))))
 refine TO.alloc rfl rfl (by decide) rfl z24 zo24 (fun b1 => ?_)
 refine TO.alloc rfl rfl (by decide) rfl z24 zo24 (fun b2 => ?_)
 refine TO.alloc rfl rfl (by decide) rfl z24 zo24 (fun b3 => ?_)
 refine sf 2 1 ⟨rfl, rfl, rfl⟩ rfl rfl rfl rfl ?_
 refine sf 1 2 ⟨rfl, rfl, rfl⟩ rfl rfl rfl rfl ?_
 refine sf 0 3 ⟨rfl, rfl, rfl⟩ rfl rfl rfl rfl ?_
 refine ao ?_
 refine Tr.seq (Tr.regT (tp rfl (kc2 (w_R2use) rfl rfl rfl) (tp rfl (kc2 (w_R2use) rfl rfl rfl) ?_)))
 refine TO.alloc rfl rfl (by decide) rfl z24 zo24 (fun b4 => ?_)
 refine TO.alloc rfl rfl (by decide) rfl z24 zo24 (fun b5 => ?_)
 refine sf 1 4 ⟨rfl, rfl, rfl⟩ rfl rfl rfl rfl ?_
 refine sf 0 5 ⟨rfl, rfl, rfl⟩ rfl rfl rfl rfl ?_
 refine ao ?_
 refine wk5 1 2 3 4 5 rfl (Tr.seq (Tr.regT (tp rfl (kc2 (w_R2use) rfl rfl rfl) (tp rfl (kc2 (w_R2use) rfl rfl rfl) (tp rfl (kc2 (w_R2use) rfl rfl rfl) ?_)))))
 refine TO.alloc rfl rfl (by decide) rfl z24 zo24 (fun b6 => ?_)
 refine TO.alloc rfl rfl (by decide) rfl z24 zo24 (fun b7 => ?_)
 refine TO.alloc rfl rfl (by decide) rfl z24 zo24 (fun b8 => ?_)
 refine sf 2 6 ⟨rfl, rfl, rfl⟩ rfl rfl rfl rfl ?_
 refine sf 1 7 ⟨rfl, rfl, rfl⟩ rfl rfl rfl rfl ?_
 refine sf 0 8 ⟨rfl, rfl, rfl⟩ rfl rfl rfl rfl ?_
 refine ao ?_
 refine wk8 1 2 3 4 5 6 7 8 rfl (Tr.seq (Tr.regT ?_))
 iterate 4 refine tp rfl (kc2 (w_R2use) rfl rfl rfl) ?_
 refine TO.alloc rfl rfl (by decide) rfl z24 zo24 (fun b9 => ?_)
 refine TO.alloc rfl rfl (by decide) rfl z24 zo24 (fun b10 => ?_)
 refine TO.alloc rfl rfl (by decide) rfl z24 zo24 (fun b11 => ?_)
 refine TO.alloc rfl rfl (by decide) rfl z24 zo24 (fun b12 => ?_)
 refine sf 3 9 ⟨rfl, rfl, rfl⟩ rfl rfl rfl rfl ?_
 refine sf 2 10 ⟨rfl, rfl, rfl⟩ rfl rfl rfl rfl ?_
 refine sf 1 11 ⟨rfl, rfl, rfl⟩ rfl rfl rfl rfl ?_
 refine sf 0 12 ⟨rfl, rfl, rfl⟩ rfl rfl rfl rfl ?_
 refine ao ?_
 refine wk12 1 2 3 4 5 6 7 8 9 10 11 12 rfl (Tr.seq (Tr.regT (tp rfl (kc2 (w_R2use) rfl rfl rfl) (tp rfl (kc2 (w_R2use) rfl rfl rfl) ?_))))
 refine TO.alloc rfl rfl (by decide) rfl z24 zo24 (fun b13 => ?_)
 refine TO.alloc rfl rfl (by decide) rfl z24 zo24 (fun b14 => ?_)
 refine sf 1 13 ⟨rfl, rfl, rfl⟩ rfl rfl rfl rfl ?_
 refine sf 0 14 ⟨rfl, rfl, rfl⟩ rfl rfl rfl rfl ?_
 refine ao ?_
 refine wk14 1 2 3 4 5 6 7 8 9 10 11 12 13 14 rfl ?_
 refine ac ?_
 refine co rfl (ok_call rfl (w_R2suite) ⟨ke rfl, ke rfl, ke rfl, ke rfl, ke rfl, ke rfl, ke rfl, ke rfl, trivial⟩) ?_
 refine ac ?_
 refine co rfl (ok_call rfl (w_R2suite) ⟨ke rfl, ke rfl, ke rfl, ke rfl, ke rfl, ke rfl, ke rfl, ke rfl, trivial⟩) ?_
 refine ac ?_
 refine co rfl (ok_call rfl (w_R2suite) ⟨ke rfl, ke rfl, ke rfl, ke rfl, ke rfl, ke rfl, ke rfl, ke rfl, trivial⟩) (co rfl (kc2 (w_R2use) rfl rfl rfl) (co rfl (kc2 (w_R2use) rfl rfl rfl) ?_))
 refine ac ?_
 refine co rfl (ok_call rfl (w_R2suite) ⟨ke rfl, ke rfl, ke rfl, ke rfl, ke rfl, ke rfl, ke rfl, ke rfl, trivial⟩) (co rfl (kc2 (w_R2use) rfl rfl rfl) ?_)
 refine ac ?_
 refine co rfl (ok_call rfl (w_R2suite) ⟨ke rfl, ke rfl, ke rfl, ke rfl, ke rfl, ke rfl, ke rfl, ke rfl, trivial⟩) ?_
 refine ac ?_
 refine co rfl (ok_call rfl (w_R2suite) ⟨ke rfl, ke rfl, ke rfl, ke rfl, ke rfl, ke rfl, ke rfl, ke rfl, trivial⟩) (co rfl (kc2 (w_R2use) rfl rfl rfl) ?_)
 refine ac ?_
 refine co rfl (ok_call rfl (w_R2suite) ⟨ke rfl, ke rfl, ke rfl, ke rfl, ke rfl, ke rfl, ke rfl, ke rfl, trivial⟩) ?_
 refine ac ?_
 refine co rfl (ok_call rfl (w_R2suite) ⟨ke rfl, ke rfl, ke rfl, ke rfl, ke rfl, ke rfl, ke rfl, ke rfl, trivial⟩) (co rfl (ok_loadA rfl agg24 sz24 (vl rfl) rfl rfl) (co rfl (kc2 (w_R2use) rfl rfl rfl) (co rfl (kc2 (w_R2use) rfl rfl rfl) (co rfl (ok_loadA rfl agg24 sz24 (vl rfl) rfl rfl) (co rfl (ok_call rfl (w_R2suite) ⟨ke rfl, ke rfl, ke rfl, ke rfl, ke rfl, ke rfl, ke rfl, ke rfl, trivial⟩) ?_)))))
 refine ac ?_
 refine co rfl (ok_call rfl (w_R2suite) ⟨ke rfl, ke rfl, ke rfl, ke rfl, ke rfl, ke rfl, ke rfl, ke rfl, trivial⟩) (co rfl (kc2 (w_R2use) rfl rfl rfl) (co rfl (kc2 (w_R2use) rfl rfl rfl) ?_))
 refine ac ?_
 refine co rfl (ok_call rfl (w_R2suite) ⟨ke rfl, ke rfl, ke rfl, ke rfl, ke rfl, ke rfl, ke rfl, ke rfl, trivial⟩) ?_
 refine ac ?_
 refine co rfl (ok_call rfl (w_R2suite) ⟨ke rfl, ke rfl, ke rfl, ke rfl, ke rfl, ke rfl, ke rfl, ke rfl, trivial⟩) ?_
 refine ac ?_
 refine co rfl (ok_call rfl (w_R2suite) ⟨ke rfl, ke rfl, ke rfl, ke rfl, ke rfl, ke rfl, ke rfl, ke rfl, trivial⟩) ?_
 refine ac ?_
 refine co rfl (ok_call rfl (w_R2suite) ⟨ke rfl, ke rfl, ke rfl, ke rfl, ke rfl, ke rfl, ke rfl, ke rfl, trivial⟩) ?_
 refine ac ?_
 refine co rfl (ok_call rfl (w_R2suite) ⟨ke rfl, ke rfl, ke rfl, ke rfl, ke rfl, ke rfl, ke rfl, ke rfl, trivial⟩) (co rfl (kc2 (w_R2use) rfl rfl rfl) ?_)
 refine ac ?_
 refine co rfl (ok_call rfl (w_R2suite) ⟨ke rfl, ke rfl, ke rfl, ke rfl, ke rfl, ke rfl, ke rfl, ke rfl, trivial⟩) (co rfl (ok_buildSlice (xs := [.tmp 33, .tmp 38, .tmp 43, .tmp 48, .tmp 53, .tmp 58, .tmp 63, .tmp 68, .tmp 73, .tmp 78, .tmp 83, .tmp 88, .tmp 93, .tmp 98, .tmp 103, .tmp 108]) (rows := anyRows) rfl rfl Tryz.underlying205 sz170 z170 rfl (by decide) ⟨⟨(by exact rfl), VL.le (vl rfl) (agg_cellsP _)⟩, ⟨⟨(by exact rfl), VL.le (vl rfl) (agg_cellsP _)⟩, ⟨⟨(by exact rfl), VL.le (vl rfl) (agg_cellsP _)⟩, ⟨⟨(by exact rfl), VL.le (vl rfl) (agg_cellsP _)⟩, ⟨⟨(by exact rfl), VL.le (vl rfl) (agg_cellsP _)⟩, ⟨⟨(by exact rfl), VL.le (vl rfl) (agg_cellsP _)⟩, ⟨⟨(by exact rfl), VL.le (vl rfl) (agg_cellsP _)⟩, ⟨⟨(by exact rfl), VL.le (vl rfl) (agg_cellsP _)⟩, ⟨⟨(by exact rfl), VL.le (vl rfl) (agg_cellsP _)⟩, ⟨⟨(by exact rfl), VL.le (vl rfl) (agg_cellsP _)⟩, ⟨⟨(by exact rfl), VL.le (vl rfl) (agg_cellsP _)⟩, ⟨⟨(by exact rfl), VL.le (vl rfl) (agg_cellsP _)⟩, ⟨⟨(by exact rfl), VL.le (vl rfl) (agg_cellsP _)⟩, ⟨⟨(by exact rfl), VL.le (vl rfl) (agg_cellsP _)⟩, ⟨⟨(by exact rfl), VL.le (vl rfl) (agg_cellsP _)⟩, ⟨⟨(by exact rfl), VL.le (vl rfl) (agg_cellsP _)⟩, trivial⟩⟩⟩⟩⟩⟩⟩⟩⟩⟩⟩⟩⟩⟩⟩⟩ (by decide)) ?_)
 refine ac ?_
 refine wk1 0 rfl ?_
 refine ac ?_
 · exact full_le _ _
theorem w_R2Suite {code : Int}  : Fun Tryz.prog 125 [int code] (tup [agg anyRow, int (if 1 ≤ code ∧ code ≤ 16 then 0 else 8)]) := by
 refine fo Tryz.func125 rfl ⟨rfl, rfl⟩ fun M0 w0 => (Tr.seq (Tr.regT ?_))
 refine TO.alloc rfl rfl (by decide) rfl z170 zo170 (fun b1 => ?_)
 refine ap ?_
 refine ac ?_
 refine Ch.cs 6 rfl ?_ ?_ <;> intro h1 q1
 refine ac ?_
 refine Tr.cond rfl (fun _ => ?_) (fun h => nomatch h)
 refine Tr.seq (Tr.regT (tp rfl (ok_build (rows := []) rfl bl170 zo170 trivial rfl) (TO.store_all 0 rfl rfl rfl (vl rfl) (VL.le (vl rfl) (agg_cellsP _)) rfl sz170 rfl rfl (tm rfl (TO.nil (Fin.go (Tr.ret (Fin.then_ret (Fin.retX2 rfl (RVal.cell 0 rfl rfl agg170 sz170 rfl (Pr.le_refl _)) (RVal.tmp rfl (Pr.le_refl _)) ?_)))))))))
 · exact tup_le ⟨agg_any rfl, int_eq (by rw [if_neg]; simp_all; omega), trivial⟩
 refine ac ?_
 refine Tr.cn rfl ?_ ?_ <;> intro h2 q2
 refine ap ?_
 refine Tr.ret (Fin.then_ret (Fin.retX2 rfl (RVal.cell 0 rfl rfl agg170 sz170 rfl (Pr.le_refl _)) (RVal.tmp rfl (Pr.le_refl _)) ?_))
 · exact tup_le ⟨agg_any rfl, int_eq (by rw [if_neg]; simp_all), trivial⟩
 have hin : 1 ≤ code ∧ code ≤ 16 := by omega
 refine ac ?_
 refine Tr.seq (Tr.regT (tp rfl (kc0 (w_R2Suites) rfl) ?_))
 refine ap ?_
 refine tp rfl (ok_indexAddr rfl Tryz.underlying205 sz170 (vl rfl) (vl rfl) (by omega) (any_rows (by omega))) ?_
 refine ap ?_
 refine wk2 2 3 rfl (Tr.ret (Fin.retX2 rfl (RVal.cell 0 rfl rfl agg170 sz170 rfl (Pr.le_refl _)) (RVal.tmp rfl (Pr.le_refl _)) ?_))
 · exact tup_le ⟨Pr.le_refl _, int_eq (by rw [if_pos hin]), trivial⟩
theorem w_R02Has {l : List Int} {v : Int}  : Fun Tryz.prog 112 [ints l, int v] (bool (l.any fun x => v == x)) := by
 refine fo Tryz.func112 rfl ⟨rfl, rfl⟩ fun M0 w0 => (Tr.lenm 0 rfl fun hlm_0 => ?_)
 refine ac ?_
 refine ac ?_
 refine Tr.block (Tr.loopw [(0, _), (1, _)] (kk2 rfl) (fun k : Nat => [(5, int ((k : Nat) : Int))]) (fun k : Nat => k ≤ (l).length ∧ ((l.take k).any (fun x => v == x) = false)) (fun k : Nat => (l).length - k) 0 (⟨Nat.zero_le _, rfl⟩) ⟨ke rfl, trivial⟩ ?_)
 rintro k ⟨hle_k, hinv_k⟩
 refine ac ?_
 refine Tr.cn rfl ?_ ?_ <;> intro h1 q1
 have hk_k : k < (l).length := lt_of_dec h1
 obtain ⟨x, hx_k⟩ := at_ hk_k
 refine ac ?_
 refine ac ?_
 refine co rfl (ok_indexAddr rfl Tryz.underlying22 sz3 (vl rfl) (vl rfl) (by omega) (by exact row_at (by assumption))) ?_
 refine ac ?_
 refine Tr.cn rfl ?_ ?_ <;> intro h2 q2
 refine ac ?_
 refine wk1 4 rfl ?_
 refine ac ?_
 · refine bool_eq ?_; symm; rw [List.any_eq_true]; exact ⟨_, List.mem_of_getElem? hx_k, by simp_all⟩
 refine ac ?_
 refine ac ?_
 exact Fin.fam_same (k + 1) ⟨⟨hk_k, (by rw [List.take_add_one, hx_k, List.any_append, hinv_k]; simp; omega)⟩, by omega⟩ ⟨⟨_, rfl, int_succ k⟩, ke rfl, ke rfl, trivial⟩
 have he_k : k = (l).length := by have := ge_of_dec h1; omega
 subst he_k
 refine ac ?_
 refine ac ?_
 refine ac ?_
 · refine bool_eq ?_; rw [List.take_length] at hinv_k; exact hinv_k.symm
theorem names_iff {l : List (List UInt8)} : namesB l = true ↔ (∀ j, j < l.length → nameAt l j = true) ∧ l.length ≤ 8 := by unfold namesB; rw [Bool.and_eq_true, allI_iff, decide_eq_true_eq]
theorem nameAt_of {l : List (List UInt8)} {k : Nat} {s : List UInt8} (hs : l[k]? = some s) (h1 : named s = true) (h2 : 0 < k → ∃ y, l[k - 1]? = some y ∧ Lib.compareBytes y s = -1) : nameAt l k = true := by
  unfold nameAt; rw [hs]; simp only [Option.getD_some, h1, Bool.true_and, Bool.or_eq_true, decide_eq_true_eq]
  rcases Nat.eq_zero_or_pos k with h0 | h0
  · exact .inl h0
  · obtain ⟨y, hy, hc⟩ := h2 h0; rw [hy]; exact .inr hc
theorem w_R3CheckG {c : Crt}  : Fun Tryz.prog 159 [agg (rowCr c)] (int (if validB c then 0 else 9)) := by
 refine fo Tryz.func159 rfl ⟨rfl, rfl⟩ fun M0 w0 => ?_
 refine ac ?_
 refine ac ?_
 refine Ch.cs 7 rfl ?_ ?_ <;> intro h1 q1
 refine ac ?_
 refine wk2 1 39 rfl ?_
 refine ac ?_
 refine ac ?_
 · refine int_eq (if_neg (fun hv => ?_)).symm; have vf := vf_of hv; obtain ⟨v_s0, v_s1, v_iss, v_sub, v_nm, v_key, v_k0, v_k1, v_hash, v_sk0, v_sk1, v_su0, v_su1, v_f0, v_ft, v_t1, v_p0, v_p1, v_ap⟩ := vf; have v_l8 := (names_iff.1 v_nm).2; unfold ofB at v_key v_hash; omega
 refine ac ?_
 refine Ch.cs 12 rfl ?_ ?_ <;> intro h2 q2
 refine ac ?_
 refine wk2 1 39 rfl ?_
 refine ac ?_
 refine ac ?_
 · refine int_eq (if_neg (fun hv => ?_)).symm; have vf := vf_of hv; obtain ⟨v_s0, v_s1, v_iss, v_sub, v_nm, v_key, v_k0, v_k1, v_hash, v_sk0, v_sk1, v_su0, v_su1, v_f0, v_ft, v_t1, v_p0, v_p1, v_ap⟩ := vf; have v_l8 := (names_iff.1 v_nm).2; unfold ofB at v_key v_hash; omega
 refine ac ?_
 refine cy h2 rfl (kc1 (w_RName) rfl rfl) ?_
 refine ac ?_
 refine Ch.cs 18 rfl ?_ ?_ <;> intro h3 q3
 refine ac ?_
 refine wk2 1 39 rfl ?_
 refine ac ?_
 refine ac ?_
 · refine int_eq (if_neg (fun hv => ?_)).symm; have vf := vf_of hv; obtain ⟨v_s0, v_s1, v_iss, v_sub, v_nm, v_key, v_k0, v_k1, v_hash, v_sk0, v_sk1, v_su0, v_su1, v_f0, v_ft, v_t1, v_p0, v_p1, v_ap⟩ := vf; have v_l8 := (names_iff.1 v_nm).2; unfold ofB at v_key v_hash; simp_all
 refine ac ?_
 refine cy h3 rfl (kc1 (w_RName) rfl rfl) ?_
 refine ac ?_
 refine Ch.cs 24 rfl ?_ ?_ <;> intro h4 q4
 refine ac ?_
 refine wk2 1 39 rfl ?_
 refine ac ?_
 refine ac ?_
 · refine int_eq (if_neg (fun hv => ?_)).symm; have vf := vf_of hv; obtain ⟨v_s0, v_s1, v_iss, v_sub, v_nm, v_key, v_k0, v_k1, v_hash, v_sk0, v_sk1, v_su0, v_su1, v_f0, v_ft, v_t1, v_p0, v_p1, v_ap⟩ := vf; have v_l8 := (names_iff.1 v_nm).2; unfold ofB at v_key v_hash; simp_all
 refine ac ?_
 refine cy h4 rfl (kc1 (w_Signature) rfl rfl) ?_
 refine ac ?_
 refine Ch.cs 30 rfl ?_ ?_ <;> intro h5 q5
 refine ac ?_
 refine wk2 1 39 rfl ?_
 refine ac ?_
 refine ac ?_
 · refine int_eq (if_neg (fun hv => ?_)).symm; have vf := vf_of hv; obtain ⟨v_s0, v_s1, v_iss, v_sub, v_nm, v_key, v_k0, v_k1, v_hash, v_sk0, v_sk1, v_su0, v_su1, v_f0, v_ft, v_t1, v_p0, v_p1, v_ap⟩ := vf; have v_l8 := (names_iff.1 v_nm).2; unfold ofB at v_key v_hash; simp_all
 refine ac ?_
 refine Ch.cs 35 rfl ?_ ?_ <;> intro h6 q6
 refine ac ?_
 refine wk2 1 39 rfl ?_
 refine ac ?_
 refine ac ?_
 · refine int_eq (if_neg (fun hv => ?_)).symm; have vf := vf_of hv; obtain ⟨v_s0, v_s1, v_iss, v_sub, v_nm, v_key, v_k0, v_k1, v_hash, v_sk0, v_sk1, v_su0, v_su1, v_f0, v_ft, v_t1, v_p0, v_p1, v_ap⟩ := vf; have v_l8 := (names_iff.1 v_nm).2; unfold ofB at v_key v_hash; omega
 refine ac ?_
 refine wk2 1 39 rfl ?_
 refine Tr.cn rfl ?_ ?_ <;> intro h7 q7
 refine ac ?_
 refine ac ?_
 · refine int_eq (if_neg (fun hv => ?_)).symm; have vf := vf_of hv; obtain ⟨v_s0, v_s1, v_iss, v_sub, v_nm, v_key, v_k0, v_k1, v_hash, v_sk0, v_sk1, v_su0, v_su1, v_f0, v_ft, v_t1, v_p0, v_p1, v_ap⟩ := vf; have v_l8 := (names_iff.1 v_nm).2; unfold ofB at v_key v_hash; omega
 refine ac ?_
 refine ac ?_
 refine co rfl (kc1 (w_RValid) rfl rfl) ?_
 refine ac ?_
 refine Ch.cs 44 rfl ?_ ?_ <;> intro h8 q8
 refine ac ?_
 refine wk2 1 67 rfl ?_
 refine ac ?_
 refine ac ?_
 · refine int_eq (if_neg (fun hv => ?_)).symm; have vf := vf_of hv; obtain ⟨v_s0, v_s1, v_iss, v_sub, v_nm, v_key, v_k0, v_k1, v_hash, v_sk0, v_sk1, v_su0, v_su1, v_f0, v_ft, v_t1, v_p0, v_p1, v_ap⟩ := vf; have v_l8 := (names_iff.1 v_nm).2; unfold ofB at v_key v_hash; simp_all; omega
 refine ac ?_
 refine cy h8 rfl (kc1 (w_RKind) rfl rfl) ?_
 refine ac ?_
 refine Ch.cs 51 rfl ?_ ?_ <;> intro h9 q9
 refine ac ?_
 refine wk2 1 67 rfl ?_
 refine ac ?_
 refine ac ?_
 · refine int_eq (if_neg (fun hv => ?_)).symm; have vf := vf_of hv; obtain ⟨v_s0, v_s1, v_iss, v_sub, v_nm, v_key, v_k0, v_k1, v_hash, v_sk0, v_sk1, v_su0, v_su1, v_f0, v_ft, v_t1, v_p0, v_p1, v_ap⟩ := vf; have v_l8 := (names_iff.1 v_nm).2; unfold ofB at v_key v_hash; simp_all
 refine ac ?_
 refine Ch.cs 56 rfl ?_ ?_ <;> intro h10 q10
 refine ac ?_
 refine wk2 1 67 rfl ?_
 refine ac ?_
 refine ac ?_
 · refine int_eq (if_neg (fun hv => ?_)).symm; have vf := vf_of hv; obtain ⟨v_s0, v_s1, v_iss, v_sub, v_nm, v_key, v_k0, v_k1, v_hash, v_sk0, v_sk1, v_su0, v_su1, v_f0, v_ft, v_t1, v_p0, v_p1, v_ap⟩ := vf; have v_l8 := (names_iff.1 v_nm).2; unfold ofB at v_key v_hash; omega
 refine ac ?_
 refine Ch.cs 63 rfl ?_ ?_ <;> intro h11 q11
 refine ac ?_
 refine wk2 1 67 rfl ?_
 refine ac ?_
 refine ac ?_
 · refine int_eq (if_neg (fun hv => ?_)).symm; have vf := vf_of hv; obtain ⟨v_s0, v_s1, v_iss, v_sub, v_nm, v_key, v_k0, v_k1, v_hash, v_sk0, v_sk1, v_su0, v_su1, v_f0, v_ft, v_t1, v_p0, v_p1, v_ap⟩ := vf; have v_l8 := (names_iff.1 v_nm).2; unfold ofB at v_key v_hash; omega
 refine ac ?_
 refine wk2 1 67 rfl ?_
 refine Tr.cn rfl ?_ ?_ <;> intro h12 q12
 refine ac ?_
 refine ac ?_
 · refine int_eq (if_neg (fun hv => ?_)).symm; have vf := vf_of hv; obtain ⟨v_s0, v_s1, v_iss, v_sub, v_nm, v_key, v_k0, v_k1, v_hash, v_sk0, v_sk1, v_su0, v_su1, v_f0, v_ft, v_t1, v_p0, v_p1, v_ap⟩ := vf; have v_l8 := (names_iff.1 v_nm).2; unfold ofB at v_key v_hash; omega
 refine ac ?_
 refine ac ?_
 refine Ch.cs 71 rfl ?_ ?_ <;> intro h13 q13
 refine ac ?_
 refine wk2 1 91 rfl ?_
 refine ac ?_
 refine ac ?_
 · refine int_eq (if_neg (fun hv => ?_)).symm; have vf := vf_of hv; obtain ⟨v_s0, v_s1, v_iss, v_sub, v_nm, v_key, v_k0, v_k1, v_hash, v_sk0, v_sk1, v_su0, v_su1, v_f0, v_ft, v_t1, v_p0, v_p1, v_ap⟩ := vf; have v_l8 := (names_iff.1 v_nm).2; unfold ofB at v_key v_hash; omega
 refine ac ?_
 refine Ch.cs 76 rfl ?_ ?_ <;> intro h14 q14
 refine ac ?_
 refine wk2 1 91 rfl ?_
 refine ac ?_
 refine ac ?_
 · refine int_eq (if_neg (fun hv => ?_)).symm; have vf := vf_of hv; obtain ⟨v_s0, v_s1, v_iss, v_sub, v_nm, v_key, v_k0, v_k1, v_hash, v_sk0, v_sk1, v_su0, v_su1, v_f0, v_ft, v_t1, v_p0, v_p1, v_ap⟩ := vf; have v_l8 := (names_iff.1 v_nm).2; unfold ofB at v_key v_hash; omega
 refine ac ?_
 refine Ch.cs 80 rfl ?_ ?_ <;> intro h15 q15
 refine ac ?_
 refine Ch.cs 86 rfl ?_ ?_ <;> intro h16 q16
 refine ac ?_
 refine wk2 1 91 rfl ?_
 refine ac ?_
 refine ac ?_
 · refine int_eq (if_neg (fun hv => ?_)).symm; have vf := vf_of hv; obtain ⟨v_s0, v_s1, v_iss, v_sub, v_nm, v_key, v_k0, v_k1, v_hash, v_sk0, v_sk1, v_su0, v_su1, v_f0, v_ft, v_t1, v_p0, v_p1, v_ap⟩ := vf; have v_l8 := (names_iff.1 v_nm).2; unfold ofB at v_key v_hash; simp_all
 refine ac ?_
 refine wk2 1 91 rfl ?_
 refine Tr.cn rfl ?_ ?_ <;> intro h17 q17
 refine ac ?_
 refine ac ?_
 · refine int_eq (if_neg (fun hv => ?_)).symm; have vf := vf_of hv; obtain ⟨v_s0, v_s1, v_iss, v_sub, v_nm, v_key, v_k0, v_k1, v_hash, v_sk0, v_sk1, v_su0, v_su1, v_f0, v_ft, v_t1, v_p0, v_p1, v_ap⟩ := vf; have v_l8 := (names_iff.1 v_nm).2; unfold ofB at v_key v_hash; omega
 refine ac ?_
 refine ac ?_
 refine Tr.block (Tr.loopw [(1, _)] ⟨ke rfl, trivial⟩ (fun k : Nat => [(3, int ((k : Nat) : Int))]) (fun k : Nat => k ≤ (c.names).length ∧ (∀ j, j < k → nameAt c.names j = true)) (fun k : Nat => (c.names).length - k) 0 (⟨Nat.zero_le _, fun j hj => absurd hj (by omega)⟩) ⟨ke rfl, trivial⟩ ?_)
 rintro k ⟨hle_k, hinv_k⟩
 refine ac ?_
 refine Tr.cn rfl ?_ ?_ <;> intro h18 q18
 have hk_k : k < (c.names).length := lt_of_dec h18
 obtain ⟨s, hx_k⟩ := at_ hk_k
 refine ac ?_
 refine ac ?_
 refine co rfl (ok_indexAddr rfl Tryz.underlying74 sz9 (vl rfl) (vl rfl) (by omega) (row_at hx_k)) (co rfl (kl1 rfl one9 rfl) (co rfl (kc1 (w_RName) rfl rfl) ?_))
 refine ac ?_
 refine Ch.cs 106 rfl ?_ ?_ <;> intro h19 q19
 refine ac ?_
 refine wk3 1 3 123 rfl ?_
 refine ac ?_
 refine ac ?_
 · refine int_eq (if_neg (fun hv => ?_)).symm; have vf := vf_of hv; obtain ⟨v_s0, v_s1, v_iss, v_sub, v_nm, v_key, v_k0, v_k1, v_hash, v_sk0, v_sk1, v_su0, v_su1, v_f0, v_ft, v_t1, v_p0, v_p1, v_ap⟩ := vf; have v_l8 := (names_iff.1 v_nm).2; unfold ofB at v_key v_hash; have hn_ := (names_iff.1 v_nm).1 k (by omega); unfold nameAt at hn_; simp_all
 refine ac ?_
 refine Ch.cs 109 rfl ?_ ?_ <;> intro h20 q20
 have hk00 : 0 < k := by simpa using h20
 obtain ⟨y, hy⟩ := at_ (l := c.names) (k := k - 1) (by omega)
 refine ac ?_
 refine cy h20 rfl (ok_indexAddr rfl Tryz.underlying74 sz9 (vl rfl) (vl rfl) (by omega) (by rw [show ((k : Nat) : Int) - 1 = ((k - 1 : Nat) : Int) by omega]; exact row_at hy)) ?_
 refine ac ?_
 refine cy h20 rfl (ok_indexAddr rfl Tryz.underlying74 sz9 (vl rfl) (vl rfl) (by omega) (row_at hx_k)) (cy h20 rfl (kl1 rfl one9 rfl) (cy h20 rfl (ok_ges rfl (vl rfl) (vl rfl)) ?_))
 refine ac ?_
 refine wk3 1 3 123 rfl ?_
 refine Tr.cn rfl ?_ ?_ <;> intro h21 q21
 refine ac ?_
 refine ac ?_
 · refine int_eq (if_neg (fun hv => ?_)).symm; have vf := vf_of hv; obtain ⟨v_s0, v_s1, v_iss, v_sub, v_nm, v_key, v_k0, v_k1, v_hash, v_sk0, v_sk1, v_su0, v_su1, v_f0, v_ft, v_t1, v_p0, v_p1, v_ap⟩ := vf; have v_l8 := (names_iff.1 v_nm).2; unfold ofB at v_key v_hash; have hn_ := (names_iff.1 v_nm).1 k (by omega); unfold nameAt at hn_; simp_all
 refine ac ?_
 refine ac ?_
 exact Fin.fam_same (k + 1) ⟨⟨hk_k, (fun j hj => by rcases Nat.lt_or_eq_of_le (Nat.le_of_lt_succ hj) with h_ | h_; exact hinv_k j h_; (subst h_; refine nameAt_of hx_k (by simp_all) (fun h0 => ?_); exact ⟨y, hy, by simp_all⟩))⟩, by omega⟩ ⟨⟨_, rfl, int_succ k⟩, ke rfl, trivial⟩
 have hk00 : ¬ 0 < k := by simpa using h20
 refine ac ?_
 refine wk3 1 3 123 rfl ?_
 refine ac ?_
 refine ac ?_
 exact Fin.fam_same (k + 1) ⟨⟨hk_k, (fun j hj => by rcases Nat.lt_or_eq_of_le (Nat.le_of_lt_succ hj) with h_ | h_; exact hinv_k j h_; (subst h_; refine nameAt_of hx_k (by simp_all) (fun h0 => ?_); exact absurd h0 hk00))⟩, by omega⟩ ⟨⟨_, rfl, int_succ k⟩, ke rfl, trivial⟩
 have he_k : k = (c.names).length := by have := ge_of_dec h18; omega
 subst he_k
 refine ac ?_
 refine ac ?_
 refine Ch.cs 128 rfl ?_ ?_ <;> intro h22 q22
 refine ac ?_
 refine wk1 145 rfl ?_
 refine ac ?_
 refine ac ?_
 · refine int_eq (if_neg (fun hv => ?_)).symm; have vf := vf_of hv; obtain ⟨v_s0, v_s1, v_iss, v_sub, v_nm, v_key, v_k0, v_k1, v_hash, v_sk0, v_sk1, v_su0, v_su1, v_f0, v_ft, v_t1, v_p0, v_p1, v_ap⟩ := vf; have v_l8 := (names_iff.1 v_nm).2; unfold ofB at v_key v_hash; omega
 refine ac ?_
 refine Ch.cs 134 rfl ?_ ?_ <;> intro h23 q23
 refine ac ?_
 refine wk1 145 rfl ?_
 refine ac ?_
 refine ac ?_
 · refine int_eq (if_neg (fun hv => ?_)).symm; have vf := vf_of hv; obtain ⟨v_s0, v_s1, v_iss, v_sub, v_nm, v_key, v_k0, v_k1, v_hash, v_sk0, v_sk1, v_su0, v_su1, v_f0, v_ft, v_t1, v_p0, v_p1, v_ap⟩ := vf; have v_l8 := (names_iff.1 v_nm).2; unfold ofB at v_key v_hash; omega
 refine ac ?_
 refine Ch.cs 140 rfl ?_ ?_ <;> intro h24 q24
 refine ac ?_
 refine wk1 145 rfl ?_
 refine ac ?_
 refine ac ?_
 · refine int_eq (if_neg (fun hv => ?_)).symm; have vf := vf_of hv; obtain ⟨v_s0, v_s1, v_iss, v_sub, v_nm, v_key, v_k0, v_k1, v_hash, v_sk0, v_sk1, v_su0, v_su1, v_f0, v_ft, v_t1, v_p0, v_p1, v_ap⟩ := vf; have v_l8 := (names_iff.1 v_nm).2; unfold ofB at v_key v_hash; omega
 refine ac ?_
 refine wk1 145 rfl ?_
 refine Tr.cn rfl ?_ ?_ <;> intro h25 q25
 refine ac ?_
 refine ac ?_
 · refine int_eq (if_neg (fun hv => ?_)).symm; have vf := vf_of hv; obtain ⟨v_s0, v_s1, v_iss, v_sub, v_nm, v_key, v_k0, v_k1, v_hash, v_sk0, v_sk1, v_su0, v_su1, v_f0, v_ft, v_t1, v_p0, v_p1, v_ap⟩ := vf; have v_l8 := (names_iff.1 v_nm).2; unfold ofB at v_key v_hash; omega
 refine ac ?_
 refine ac ?_
 refine ac ?_
 · refine int_eq (if_pos (of_vf ⟨by omega, by omega, by simp_all, by simp_all, names_iff.2 ⟨hinv_k, by omega⟩, by unfold ofB; simp_all, by omega, by omega, by unfold ofB; simp_all, by omega, by omega, by omega, by omega, by omega, by omega, by omega, by omega, by omega, by right; omega⟩)).symm
 refine ac ?_
 refine wk2 1 91 rfl ?_
 refine Tr.cn rfl ?_ ?_ <;> intro h26 q26
 refine ac ?_
 refine ac ?_
 · refine int_eq (if_neg (fun hv => ?_)).symm; have vf := vf_of hv; obtain ⟨v_s0, v_s1, v_iss, v_sub, v_nm, v_key, v_k0, v_k1, v_hash, v_sk0, v_sk1, v_su0, v_su1, v_f0, v_ft, v_t1, v_p0, v_p1, v_ap⟩ := vf; have v_l8 := (names_iff.1 v_nm).2; unfold ofB at v_key v_hash; omega
 refine ac ?_
 refine ac ?_
 refine Tr.block (Tr.loopw [(1, _)] ⟨ke rfl, trivial⟩ (fun k : Nat => [(3, int ((k : Nat) : Int))]) (fun k : Nat => k ≤ (c.names).length ∧ (∀ j, j < k → nameAt c.names j = true)) (fun k : Nat => (c.names).length - k) 0 (⟨Nat.zero_le _, fun j hj => absurd hj (by omega)⟩) ⟨ke rfl, trivial⟩ ?_)
 rintro k ⟨hle_k, hinv_k⟩
 refine ac ?_
 refine Tr.cn rfl ?_ ?_ <;> intro h27 q27
 have hk_k : k < (c.names).length := lt_of_dec h27
 obtain ⟨s, hx_k⟩ := at_ hk_k
 refine ac ?_
 refine ac ?_
 refine co rfl (ok_indexAddr rfl Tryz.underlying74 sz9 (vl rfl) (vl rfl) (by omega) (row_at hx_k)) (co rfl (kl1 rfl one9 rfl) (co rfl (kc1 (w_RName) rfl rfl) ?_))
 refine ac ?_
 refine Ch.cs 106 rfl ?_ ?_ <;> intro h28 q28
 refine ac ?_
 refine wk3 1 3 123 rfl ?_
 refine ac ?_
 refine ac ?_
 · refine int_eq (if_neg (fun hv => ?_)).symm; have vf := vf_of hv; obtain ⟨v_s0, v_s1, v_iss, v_sub, v_nm, v_key, v_k0, v_k1, v_hash, v_sk0, v_sk1, v_su0, v_su1, v_f0, v_ft, v_t1, v_p0, v_p1, v_ap⟩ := vf; have v_l8 := (names_iff.1 v_nm).2; unfold ofB at v_key v_hash; have hn_ := (names_iff.1 v_nm).1 k (by omega); unfold nameAt at hn_; simp_all
 refine ac ?_
 refine Ch.cs 109 rfl ?_ ?_ <;> intro h29 q29
 have hk00 : 0 < k := by simpa using h29
 obtain ⟨y, hy⟩ := at_ (l := c.names) (k := k - 1) (by omega)
 refine ac ?_
 refine cy h29 rfl (ok_indexAddr rfl Tryz.underlying74 sz9 (vl rfl) (vl rfl) (by omega) (by rw [show ((k : Nat) : Int) - 1 = ((k - 1 : Nat) : Int) by omega]; exact row_at hy)) ?_
 refine ac ?_
 refine cy h29 rfl (ok_indexAddr rfl Tryz.underlying74 sz9 (vl rfl) (vl rfl) (by omega) (row_at hx_k)) (cy h29 rfl (kl1 rfl one9 rfl) (cy h29 rfl (ok_ges rfl (vl rfl) (vl rfl)) ?_))
 refine ac ?_
 refine wk3 1 3 123 rfl ?_
 refine Tr.cn rfl ?_ ?_ <;> intro h30 q30
 refine ac ?_
 refine ac ?_
 · refine int_eq (if_neg (fun hv => ?_)).symm; have vf := vf_of hv; obtain ⟨v_s0, v_s1, v_iss, v_sub, v_nm, v_key, v_k0, v_k1, v_hash, v_sk0, v_sk1, v_su0, v_su1, v_f0, v_ft, v_t1, v_p0, v_p1, v_ap⟩ := vf; have v_l8 := (names_iff.1 v_nm).2; unfold ofB at v_key v_hash; have hn_ := (names_iff.1 v_nm).1 k (by omega); unfold nameAt at hn_; simp_all
 refine ac ?_
 refine ac ?_
 exact Fin.fam_same (k + 1) ⟨⟨hk_k, (fun j hj => by rcases Nat.lt_or_eq_of_le (Nat.le_of_lt_succ hj) with h_ | h_; exact hinv_k j h_; (subst h_; refine nameAt_of hx_k (by simp_all) (fun h0 => ?_); exact ⟨y, hy, by simp_all⟩))⟩, by omega⟩ ⟨⟨_, rfl, int_succ k⟩, ke rfl, trivial⟩
 have hk00 : ¬ 0 < k := by simpa using h29
 refine ac ?_
 refine wk3 1 3 123 rfl ?_
 refine ac ?_
 refine ac ?_
 exact Fin.fam_same (k + 1) ⟨⟨hk_k, (fun j hj => by rcases Nat.lt_or_eq_of_le (Nat.le_of_lt_succ hj) with h_ | h_; exact hinv_k j h_; (subst h_; refine nameAt_of hx_k (by simp_all) (fun h0 => ?_); exact absurd h0 hk00))⟩, by omega⟩ ⟨⟨_, rfl, int_succ k⟩, ke rfl, trivial⟩
 have he_k : k = (c.names).length := by have := ge_of_dec h27; omega
 subst he_k
 refine ac ?_
 refine ac ?_
 refine Ch.cs 128 rfl ?_ ?_ <;> intro h31 q31
 refine ac ?_
 refine wk1 145 rfl ?_
 refine ac ?_
 refine ac ?_
 · refine int_eq (if_neg (fun hv => ?_)).symm; have vf := vf_of hv; obtain ⟨v_s0, v_s1, v_iss, v_sub, v_nm, v_key, v_k0, v_k1, v_hash, v_sk0, v_sk1, v_su0, v_su1, v_f0, v_ft, v_t1, v_p0, v_p1, v_ap⟩ := vf; have v_l8 := (names_iff.1 v_nm).2; unfold ofB at v_key v_hash; omega
 refine ac ?_
 refine Ch.cs 134 rfl ?_ ?_ <;> intro h32 q32
 refine ac ?_
 refine wk1 145 rfl ?_
 refine ac ?_
 refine ac ?_
 · refine int_eq (if_neg (fun hv => ?_)).symm; have vf := vf_of hv; obtain ⟨v_s0, v_s1, v_iss, v_sub, v_nm, v_key, v_k0, v_k1, v_hash, v_sk0, v_sk1, v_su0, v_su1, v_f0, v_ft, v_t1, v_p0, v_p1, v_ap⟩ := vf; have v_l8 := (names_iff.1 v_nm).2; unfold ofB at v_key v_hash; omega
 refine ac ?_
 refine Ch.cs 140 rfl ?_ ?_ <;> intro h33 q33
 refine ac ?_
 refine wk1 145 rfl ?_
 refine ac ?_
 refine ac ?_
 · refine int_eq (if_neg (fun hv => ?_)).symm; have vf := vf_of hv; obtain ⟨v_s0, v_s1, v_iss, v_sub, v_nm, v_key, v_k0, v_k1, v_hash, v_sk0, v_sk1, v_su0, v_su1, v_f0, v_ft, v_t1, v_p0, v_p1, v_ap⟩ := vf; have v_l8 := (names_iff.1 v_nm).2; unfold ofB at v_key v_hash; omega
 refine ac ?_
 refine wk1 145 rfl ?_
 refine Tr.cn rfl ?_ ?_ <;> intro h34 q34
 refine ac ?_
 refine ac ?_
 · refine int_eq (if_neg (fun hv => ?_)).symm; have vf := vf_of hv; obtain ⟨v_s0, v_s1, v_iss, v_sub, v_nm, v_key, v_k0, v_k1, v_hash, v_sk0, v_sk1, v_su0, v_su1, v_f0, v_ft, v_t1, v_p0, v_p1, v_ap⟩ := vf; have v_l8 := (names_iff.1 v_nm).2; unfold ofB at v_key v_hash; omega
 refine ac ?_
 refine ac ?_
 refine ac ?_
 · refine int_eq (if_pos (of_vf ⟨by omega, by omega, by simp_all, by simp_all, names_iff.2 ⟨hinv_k, by omega⟩, by unfold ofB; simp_all, by omega, by omega, by unfold ofB; simp_all, by omega, by omega, by omega, by omega, by omega, by omega, by omega, by omega, by omega, by left; simp_all⟩)).symm
end Go.Proofs.YtppeeogffbpcbaaGreat
namespace Go.Proofs.YtppeeogffbpcbaaGreat
open Go Go.RowKit Cp

theorem and1 {a b : Bool} (h : (a && b) = true) : a = true := by simp at h; exact h.1
theorem and2 {a b : Bool} (h : (a && b) = true) : b = true := by simp at h; exact h.2
theorem pigeon : ∀ (n : Nat) (l : List Int), (∀ x ∈ l, 1 ≤ x ∧ x ≤ (n : Int)) → l.Nodup → l.length ≤ n
  | 0, l, h, _ => by
    cases l with
    | nil => exact Nat.le_refl _
    | cons a l => have := h a (List.mem_cons_self ..); omega
  | n + 1, l, h, hn => by
    have ih := pigeon n (l.erase ((n : Int) + 1)) (fun x hx => by
      have h1 := h x (List.mem_of_mem_erase hx)
      have h2 := (hn.mem_erase_iff.1 hx).1
      omega) (hn.erase _)
    rw [List.length_erase] at ih
    split at ih <;> omega
theorem suites_16 {l : List Int} (h : suitesB l = true) : l.length ≤ 16 := by
  refine pigeon 16 l (fun x hx => ?_) ?_
  · obtain ⟨j, hj⟩ := List.getElem?_of_mem hx
    have h1 := allI_iff.1 (show allI (suiteAt l) l.length = true from h) j (lt_of_at hj)
    unfold suiteAt at h1; rw [getD_at hj] at h1
    have := and1 h1
    simpa using this
  · refine List.pairwise_iff_getElem.2 fun i j hi hj hij he => ?_
    have := suites_one h (List.getElem?_eq_getElem hi) (by rw [he]; exact List.getElem?_eq_getElem hj)
    omega
theorem all_at {p : Int → Bool} {l : List Int} (h : ∀ j, j < l.length → p (l[j]?.getD 0) = true) : l.all p = true := List.all_eq_true.2 fun x hx => by
  obtain ⟨j, hj⟩ := List.getElem?_of_mem hx
  have := h j (lt_of_at hj)
  rw [getD_at hj] at this; exact this

theorem w_R5Right {alg bits id : Int} {l : List Crt}  : Fun Tryz.prog 126 [agg [int alg, int bits], int id, certs l] (bool (showsB alg bits id l)) := by
 refine fo Tryz.func126 rfl ⟨rfl, rfl⟩ fun M0 w0 => (Tr.lenm 2 rfl fun hlm_2 => ?_)
 refine ac ?_
 refine ac ?_
 refine co rfl (kc1 (w_Signature) rfl rfl) ?_
 refine ac ?_
 refine Ch.cs 11 rfl ?_ ?_ <;> intro h1 q1
 refine ac ?_
 refine wk4 1 2 3 23 rfl ?_
 refine ac ?_
 refine ac ?_
 · refine bool_eq ?_; rw [showsB_eq]; unfold ofB keyB; simp_all
 refine ac ?_
 refine Ch.cs 15 rfl ?_ ?_ <;> intro h2 q2
 refine ac ?_
 refine wk4 1 2 3 23 rfl ?_
 refine ac ?_
 refine ac ?_
 · refine bool_eq ?_; rw [showsB_eq]; unfold ofB keyB; simp_all; omega
 refine ac ?_
 refine Ch.cs 19 rfl ?_ ?_ <;> intro h3 q3
 refine ac ?_
 refine wk4 1 2 3 23 rfl ?_
 refine ac ?_
 refine ac ?_
 · refine bool_eq ?_; rw [showsB_eq]; unfold ofB keyB; simp_all; omega
 refine ac ?_
 refine wk4 1 2 3 23 rfl ?_
 refine Tr.cn rfl ?_ ?_ <;> intro h4 q4
 refine ac ?_
 refine ac ?_
 · refine bool_eq ?_; rw [showsB_eq]; unfold ofB keyB; simp_all; omega
 refine ac ?_
 refine ac ?_
 refine Tr.block (Tr.loopw [(1, _), (2, _), (3, _)] (kk3 rfl) (fun k : Nat => [(7, int ((k : Nat) : Int))]) (fun k : Nat => k ≤ (l).length ∧ (∀ j y, j < k → l[j]? = some y → (!validB y) = false)) (fun k : Nat => (l).length - k) 0 (⟨Nat.zero_le _, fun j y hj => absurd hj (by omega)⟩) ⟨ke rfl, trivial⟩ ?_)
 rintro k ⟨hle_k, hinv_k⟩
 refine ac ?_
 refine Tr.cn rfl ?_ ?_ <;> intro h5 q5
 have hk_k : k < (l).length := lt_of_dec h5
 obtain ⟨c, hx_k⟩ := at_ hk_k
 refine ac ?_
 refine ac ?_
 refine co rfl (ok_indexAddr rfl Tryz.underlying25 sz131 (vl rfl) (vl rfl) (by omega) (row_at hx_k)) (co rfl (ok_loadA rfl agg131 sz131 (vl rfl) rfl rfl) (co rfl (kc1 (w_R3CheckG) rfl rfl) ?_))
 refine ac ?_
 refine wk5 1 2 3 7 35 rfl ?_
 refine Tr.cn rfl ?_ ?_ <;> intro h6 q6
 refine ac ?_
 refine ac ?_
 · refine bool_eq ?_; rw [showsB_eq]; unfold ofB keyB; rw [all_hit (p := validB) hx_k (by simp_all)]; simp
 refine ac ?_
 refine ac ?_
 exact Fin.fam_same (k + 1) ⟨⟨hk_k, step_no (p := fun c => !validB c) hx_k (by simp_all) hinv_k⟩, by omega⟩ ⟨⟨_, rfl, int_succ k⟩, ke rfl, ke rfl, ke rfl, trivial⟩
 have he_k : k = (l).length := by have := ge_of_dec h5; omega
 subst he_k
 have hall := all_end hinv_k
 refine ac ?_
 refine ac ?_
 refine Ch.cs 39 rfl ?_ ?_ <;> intro h7 q7
 refine ac ?_
 refine wk1 6 rfl ?_
 refine ac ?_
 · refine bool_eq ?_; rw [showsB_eq]; unfold ofB keyB; rw [hall, headB_nil (by simp_all)]; simp_all
 obtain ⟨c0, hc0⟩ := at_ (l := l) (k := 0) (by have := h7; simp at this; exact List.length_pos_iff.2 this)
 refine cym h7 rfl ?_
 refine cy h7 rfl (ok_indexAddr rfl Tryz.underlying25 sz131 (vl rfl) (vl rfl) (by omega) (row_at (k := 0) hc0)) ?_
 refine ac ?_
 refine cy h7 rfl (ok_eq24 rfl (vl rfl) (vl rfl)) (cym h7 rfl ?_)
 refine Ch.cs 46 rfl ?_ ?_ <;> intro h8 q8
 refine cym h8 rfl ?_
 refine cy h8 rfl (ok_indexAddr rfl Tryz.underlying25 sz131 (vl rfl) (vl rfl) (by omega) (row_at (k := 0) hc0)) ?_
 refine ac ?_
 refine wk1 6 rfl ?_
 refine ac ?_
 · refine bool_eq ?_; rw [showsB_eq]; unfold ofB keyB; rw [hall, headB_at hc0]; clear hall hinv_k hc0; simp_all; omega
 refine ac ?_
 refine wk1 6 rfl ?_
 refine ac ?_
 · refine bool_eq ?_; rw [showsB_eq]; unfold ofB keyB; rw [hall, headB_at hc0]; clear hall hinv_k hc0; simp_all
theorem w_R9Check {e : Ept} (hsm : e.small) : Fun Tryz.prog 77 [agg (rowEp e)] (int (if eptB e then 0 else 19)) := by
 refine fo Tryz.func77 rfl ⟨rfl, rfl⟩ fun M0 w0 => ?_
 have hs3 := hsm.hashes
 clear hsm
 refine ac ?_
 refine ac ?_
 refine co rfl (kc1 (w_R6Word) rfl rfl) ?_
 refine ac ?_
 refine Ch.cs 13 rfl ?_ ?_ <;> intro h1 q1
 refine ac ?_
 refine wk2 1 47 rfl ?_
 refine ac ?_
 refine ac ?_
 · refine int_eq (if_neg (fun hv => ?_)).symm; have ok := eptB_iff.1 hv; have v1 := ok.name; have v2 := ok.least; have v3 := ok.lm; have v4 := ok.most; have v5 := suites_16 ok.suites; have v6 := ok.idl; have v7 := ok.ancl; simp_all
 refine ac ?_
 refine Ch.cs 18 rfl ?_ ?_ <;> intro h2 q2
 refine ac ?_
 refine wk2 1 47 rfl ?_
 refine ac ?_
 refine ac ?_
 · refine int_eq (if_neg (fun hv => ?_)).symm; have ok := eptB_iff.1 hv; have v1 := ok.name; have v2 := ok.least; have v3 := ok.lm; have v4 := ok.most; have v5 := suites_16 ok.suites; have v6 := ok.idl; have v7 := ok.ancl; omega
 refine ac ?_
 refine Ch.cs 25 rfl ?_ ?_ <;> intro h3 q3
 refine ac ?_
 refine wk2 1 47 rfl ?_
 refine ac ?_
 refine ac ?_
 · refine int_eq (if_neg (fun hv => ?_)).symm; have ok := eptB_iff.1 hv; have v1 := ok.name; have v2 := ok.least; have v3 := ok.lm; have v4 := ok.most; have v5 := suites_16 ok.suites; have v6 := ok.idl; have v7 := ok.ancl; omega
 refine ac ?_
 refine Ch.cs 30 rfl ?_ ?_ <;> intro h4 q4
 refine ac ?_
 refine wk2 1 47 rfl ?_
 refine ac ?_
 refine ac ?_
 · refine int_eq (if_neg (fun hv => ?_)).symm; have ok := eptB_iff.1 hv; have v1 := ok.name; have v2 := ok.least; have v3 := ok.lm; have v4 := ok.most; have v5 := suites_16 ok.suites; have v6 := ok.idl; have v7 := ok.ancl; omega
 refine ac ?_
 refine Ch.cs 36 rfl ?_ ?_ <;> intro h5 q5
 refine ac ?_
 refine wk2 1 47 rfl ?_
 refine ac ?_
 refine ac ?_
 · refine int_eq (if_neg (fun hv => ?_)).symm; have ok := eptB_iff.1 hv; have v1 := ok.name; have v2 := ok.least; have v3 := ok.lm; have v4 := ok.most; have v5 := suites_16 ok.suites; have v6 := ok.idl; have v7 := ok.ancl; omega
 refine ac ?_
 refine Ch.cs 42 rfl ?_ ?_ <;> intro h6 q6
 refine ac ?_
 refine wk2 1 47 rfl ?_
 refine ac ?_
 refine ac ?_
 · refine int_eq (if_neg (fun hv => ?_)).symm; have ok := eptB_iff.1 hv; have v1 := ok.name; have v2 := ok.least; have v3 := ok.lm; have v4 := ok.most; have v5 := suites_16 ok.suites; have v6 := ok.idl; have v7 := ok.ancl; omega
 refine ac ?_
 refine wk2 1 47 rfl ?_
 refine Tr.cn rfl ?_ ?_ <;> intro h7 q7
 refine ac ?_
 refine ac ?_
 · refine int_eq (if_neg (fun hv => ?_)).symm; have ok := eptB_iff.1 hv; have v1 := ok.name; have v2 := ok.least; have v3 := ok.lm; have v4 := ok.most; have v5 := suites_16 ok.suites; have v6 := ok.idl; have v7 := ok.ancl; omega
 refine ac ?_
 refine ac ?_
 refine Tr.block (Tr.loopw [(1, _)] ⟨ke rfl, trivial⟩ (fun i : Nat => [(3, int ((i : Nat) : Int))]) (fun i : Nat => i ≤ (e.suites).length ∧ (∀ j, j < i → suiteAt e.suites j = true)) (fun i : Nat => (e.suites).length - i) 0 (⟨Nat.zero_le _, fun j hj => absurd hj (by omega)⟩) ⟨ke rfl, trivial⟩ ?_)
 rintro i ⟨hle_i, hinv_i⟩
 refine ac ?_
 refine Tr.cn rfl ?_ ?_ <;> intro h8 q8
 have hk_i : i < (e.suites).length := lt_of_dec h8
 obtain ⟨x, hx_i⟩ := at_ hk_i
 have hg := getD_at (d := (0 : Int)) hx_i
 refine ac ?_
 refine ao ?_
 refine tp rfl (ok_indexAddr rfl Tryz.underlying22 sz3 (vl rfl) (vl rfl) (by omega) (row_at hx_i)) (tp rfl (kl1 rfl one3 rfl) (tp rfl (kc1 (w_R2Suite) rfl rfl) ?_))
 refine ao ?_
 refine TO.alloc rfl rfl (by decide) rfl z170 zo170 (fun b1 => ?_)
 refine sf 0 4 ⟨rfl, rfl, rfl⟩ rfl rfl rfl rfl ?_
 refine ao ?_
 refine wk3 1 3 5 rfl ?_
 refine ac ?_
 refine Ch.cs 66 rfl ?_ ?_ <;> intro h9 q9
 have hnin : ¬ (1 ≤ x ∧ x ≤ 16) := by intro hh; rw [if_pos hh] at h9; exact absurd h9 (by decide)
 refine ac ?_
 refine wk3 1 3 77 rfl ?_
 refine ac ?_
 refine ac ?_
 · refine int_eq (if_neg (fun hv => ?_)).symm; have ok := eptB_iff.1 hv; have h_ := allI_iff.1 (show allI (suiteAt e.suites) e.suites.length = true from ok.suites) i (by omega); unfold suiteAt at h_; rw [hg] at h_; exact hnin (by simpa using and1 h_)
 have hin : 1 ≤ x ∧ x ≤ 16 := by refine Decidable.byContradiction fun hh => ?_; rw [if_neg hh] at h9; exact absurd h9 (by decide)
 refine ac ?_
 refine cy h9 rfl (ok_sliceTo rfl Tryz.underlying22 sz3 (vl rfl) (vl rfl) (by omega) (by simp; omega)) ?_
 refine ac ?_
 refine cy h9 rfl (ok_indexAddr rfl Tryz.underlying22 sz3 (vl rfl) (vl rfl) (by omega) (row_at hx_i)) (cy h9 rfl (kl1 rfl one3 rfl) ?_)
 refine cy h9 rfl (ok_call rfl (w_R02Has (l := e.suites.take i) (v := x)) ⟨⟨_, rfl, Pr.le_of_eq (by rw [← List.map_take, Int.toNat_natCast])⟩, ke rfl, trivial⟩) ?_
 refine ac ?_
 refine wk3 1 3 77 rfl ?_
 refine Tr.cn rfl ?_ ?_ <;> intro h10 q10
 refine ac ?_
 refine ac ?_
 · refine int_eq (if_neg (fun hv => ?_)).symm; have ok := eptB_iff.1 hv; have h_ := allI_iff.1 (show allI (suiteAt e.suites) e.suites.length = true from ok.suites) i (by omega); unfold suiteAt at h_; rw [hg] at h_; exact absurd (by assumption : ((e.suites.take i).any fun y => x == y) = true) (by have h2 := and2 h_; rw [Bool.not_eq_true'] at h2; rw [h2]; decide)
 refine ac ?_
 refine ac ?_
 exact Fin.fam_same (i + 1) ⟨⟨hk_i, allI_step hinv_i (by unfold suiteAt; rw [hg]; rw [decide_eq_true hin]; simp_all)⟩, by omega⟩ ⟨⟨_, rfl, int_succ i⟩, ke rfl, trivial⟩
 have he_i : i = (e.suites).length := by have := ge_of_dec h8; omega
 subst he_i
 refine ac ?_
 refine ac ?_
 refine Tr.block (Tr.loopw [(1, _)] ⟨ke rfl, trivial⟩ (fun m : Nat => [(6, int ((m : Nat) : Int))]) (fun m : Nat => m ≤ (e.ids).length ∧ (∀ j y, j < m → e.ids[j]? = some y → (!idB y) = false)) (fun m : Nat => (e.ids).length - m) 0 (⟨Nat.zero_le _, fun j y hj => absurd hj (by omega)⟩) ⟨ke rfl, trivial⟩ ?_)
 rintro m ⟨hle_m, hinv_m⟩
 refine ac ?_
 refine Tr.cn rfl ?_ ?_ <;> intro h11 q11
 have hk_m : m < (e.ids).length := lt_of_dec h11
 obtain ⟨x, hx_m⟩ := at_ hk_m
 refine ac ?_
 refine ac ?_
 refine co rfl (ok_indexAddr rfl Tryz.underlying30 sz27 (vl rfl) (vl rfl) (by omega) (row_at hx_m)) ?_
 refine ac ?_
 refine co rfl (ok_indexAddr rfl Tryz.underlying30 sz27 (vl rfl) (vl rfl) (by omega) (row_at hx_m)) ?_
 refine ac ?_
 refine co rfl (ok_indexAddr rfl Tryz.underlying30 sz27 (vl rfl) (vl rfl) (by omega) (row_at hx_m)) ?_
 refine ac ?_
 refine co rfl (kc3 (w_R5Right) rfl rfl rfl rfl) ?_
 refine ac ?_
 refine wk3 1 6 104 rfl ?_
 refine Tr.cn rfl ?_ ?_ <;> intro h12 q12
 refine ac ?_
 refine ac ?_
 · refine int_eq (if_neg (fun hv => ?_)).symm; have ok := eptB_iff.1 hv; have h_ := List.all_eq_true.1 ok.ids x (List.mem_of_getElem? hx_m); unfold idB at h_; simp_all
 refine ac ?_
 refine ac ?_
 exact Fin.fam_same (m + 1) ⟨⟨hk_m, step_no (p := fun c => !idB c) hx_m (by unfold idB; simp_all) hinv_m⟩, by omega⟩ ⟨⟨_, rfl, int_succ m⟩, ke rfl, trivial⟩
 have he_m : m = (e.ids).length := by have := ge_of_dec h11; omega
 subst he_m
 have hall := all_end hinv_m
 refine ac ?_
 refine ac ?_
 refine Tr.block (Tr.loopw [(1, _)] ⟨ke rfl, trivial⟩ (fun o : Nat => [(7, int ((o : Nat) : Int))]) (fun o : Nat => o ≤ (e.anchors).length ∧ (∀ j, j < o → (ascAt e.anchors j && keyB (e.anchors[j]?.getD 0)) = true)) (fun o : Nat => (e.anchors).length - o) 0 (⟨Nat.zero_le _, fun j hj => absurd hj (by omega)⟩) ⟨ke rfl, trivial⟩ ?_)
 rintro o ⟨hle_o, hinv_o⟩
 refine ac ?_
 refine Tr.cn rfl ?_ ?_ <;> intro h13 q13
 have hk_o : o < (e.anchors).length := lt_of_dec h13
 obtain ⟨a, hx_o⟩ := at_ hk_o
 have hg := getD_at (d := (0 : Int)) hx_o
 refine ac ?_
 refine ac ?_
 refine co rfl (ok_indexAddr rfl Tryz.underlying22 sz3 (vl rfl) (vl rfl) (by omega) (row_at hx_o)) ?_
 refine ac ?_
 refine Ch.cs 118 rfl ?_ ?_ <;> intro h14 q14
 refine ac ?_
 refine wk3 1 7 143 rfl ?_
 refine ac ?_
 refine ac ?_
 · refine int_eq (if_neg (fun hv => ?_)).symm; have ok := eptB_iff.1 hv; have h_ := List.all_eq_true.1 ok.keys a (List.mem_of_getElem? hx_o); unfold keyB at h_; simp at h_; omega
 refine ac ?_
 refine cy h14 rfl (ok_indexAddr rfl Tryz.underlying22 sz3 (vl rfl) (vl rfl) (by omega) (row_at hx_o)) ?_
 refine ac ?_
 refine Ch.cs 126 rfl ?_ ?_ <;> intro h15 q15
 refine ac ?_
 refine wk3 1 7 143 rfl ?_
 refine ac ?_
 refine ac ?_
 · refine int_eq (if_neg (fun hv => ?_)).symm; have ok := eptB_iff.1 hv; have h_ := List.all_eq_true.1 ok.keys a (List.mem_of_getElem? hx_o); unfold keyB at h_; simp at h_; omega
 refine ac ?_
 refine Ch.cs 129 rfl ?_ ?_ <;> intro h16 q16
 have hk0 : 0 < o := by simpa using h16
 obtain ⟨y, hy⟩ := at_ (l := e.anchors) (k := o - 1) (by omega)
 have hgy := getD_at (d := (0 : Int)) hy
 refine ac ?_
 refine cy h16 rfl (ok_indexAddr rfl Tryz.underlying22 sz3 (vl rfl) (vl rfl) (by omega) (by rw [show ((o : Nat) : Int) - 1 = ((o - 1 : Nat) : Int) by omega]; exact row_at hy)) ?_
 refine ac ?_
 refine cy h16 rfl (ok_indexAddr rfl Tryz.underlying22 sz3 (vl rfl) (vl rfl) (by omega) (row_at hx_o)) ?_
 refine ac ?_
 refine wk3 1 7 143 rfl ?_
 refine Tr.cn rfl ?_ ?_ <;> intro h17 q17
 refine ac ?_
 refine ac ?_
 · refine int_eq (if_neg (fun hv => ?_)).symm; have ok := eptB_iff.1 hv; have h_ := allI_iff.1 (show allI (ascAt e.anchors) e.anchors.length = true from ok.anc) o (by omega); unfold ascAt at h_; rw [hg, hgy] at h_; simp at h_; omega
 refine ac ?_
 refine ac ?_
 exact Fin.fam_same (o + 1) ⟨⟨hk_o, (fun j hj => by rcases Nat.lt_or_eq_of_le (Nat.le_of_lt_succ hj) with h_ | h_; exact hinv_o j h_; (subst h_; unfold ascAt keyB; rw [hg]; rw [hgy]; simp_all))⟩, by omega⟩ ⟨⟨_, rfl, int_succ o⟩, ke rfl, trivial⟩
 have hk00 : ¬ 0 < o := by simpa using h16
 refine ac ?_
 refine wk3 1 7 143 rfl ?_
 refine ac ?_
 refine ac ?_
 exact Fin.fam_same (o + 1) ⟨⟨hk_o, (fun j hj => by rcases Nat.lt_or_eq_of_le (Nat.le_of_lt_succ hj) with h_ | h_; exact hinv_o j h_; (subst h_; unfold ascAt keyB; rw [hg]; simp_all))⟩, by omega⟩ ⟨⟨_, rfl, int_succ o⟩, ke rfl, trivial⟩
 have he_o : o = (e.anchors).length := by have := ge_of_dec h13; omega
 subst he_o
 refine ac ?_
 refine ac ?_
 refine Tr.block (Tr.loopw [(1, _)] ⟨ke rfl, trivial⟩ (fun q : Nat => [(8, int ((q : Nat) : Int))]) (fun q : Nat => q ≤ (e.hashes).length ∧ (∀ j, j < q → (ascAt e.hashes j && hashB (e.hashes[j]?.getD 0)) = true)) (fun q : Nat => (e.hashes).length - q) 0 (⟨Nat.zero_le _, fun j hj => absurd hj (by omega)⟩) ⟨ke rfl, trivial⟩ ?_)
 rintro q ⟨hle_q, hinv_q⟩
 refine ac ?_
 refine Tr.cn rfl ?_ ?_ <;> intro h18 q18
 have hk_q : q < (e.hashes).length := lt_of_dec h18
 obtain ⟨a, hx_q⟩ := at_ hk_q
 have hg := getD_at (d := (0 : Int)) hx_q
 refine ac ?_
 refine ac ?_
 refine co rfl (ok_indexAddr rfl Tryz.underlying22 sz3 (vl rfl) (vl rfl) (by omega) (row_at hx_q)) (co rfl (kl1 rfl one3 rfl) (co rfl (kc1 (w_RKind) rfl rfl) ?_))
 refine ac ?_
 refine Ch.cs 158 rfl ?_ ?_ <;> intro h19 q19
 refine ac ?_
 refine wk3 1 8 175 rfl ?_
 refine ac ?_
 refine ac ?_
 · refine int_eq (if_neg (fun hv => ?_)).symm; have ok := eptB_iff.1 hv; have h_ := List.all_eq_true.1 ok.hsh a (List.mem_of_getElem? hx_q); unfold hashB at h_; simp_all
 refine ac ?_
 refine Ch.cs 161 rfl ?_ ?_ <;> intro h20 q20
 have hk0 : 0 < q := by simpa using h20
 obtain ⟨y, hy⟩ := at_ (l := e.hashes) (k := q - 1) (by omega)
 have hgy := getD_at (d := (0 : Int)) hy
 refine ac ?_
 refine cy h20 rfl (ok_indexAddr rfl Tryz.underlying22 sz3 (vl rfl) (vl rfl) (by omega) (by rw [show ((q : Nat) : Int) - 1 = ((q - 1 : Nat) : Int) by omega]; exact row_at hy)) ?_
 refine ac ?_
 refine cy h20 rfl (ok_indexAddr rfl Tryz.underlying22 sz3 (vl rfl) (vl rfl) (by omega) (row_at hx_q)) ?_
 refine ac ?_
 refine wk3 1 8 175 rfl ?_
 refine Tr.cn rfl ?_ ?_ <;> intro h21 q21
 refine ac ?_
 refine ac ?_
 · refine int_eq (if_neg (fun hv => ?_)).symm; have ok := eptB_iff.1 hv; have h_ := allI_iff.1 (show allI (ascAt e.hashes) e.hashes.length = true from ok.hash) q (by omega); unfold ascAt at h_; rw [hg, hgy] at h_; simp at h_; omega
 refine ac ?_
 refine ac ?_
 exact Fin.fam_same (q + 1) ⟨⟨hk_q, (fun j hj => by rcases Nat.lt_or_eq_of_le (Nat.le_of_lt_succ hj) with h_ | h_; exact hinv_q j h_; (subst h_; unfold ascAt hashB; rw [hg]; rw [hgy]; simp_all))⟩, by omega⟩ ⟨⟨_, rfl, int_succ q⟩, ke rfl, trivial⟩
 have hk00 : ¬ 0 < q := by simpa using h20
 refine ac ?_
 refine wk3 1 8 175 rfl ?_
 refine ac ?_
 refine ac ?_
 exact Fin.fam_same (q + 1) ⟨⟨hk_q, (fun j hj => by rcases Nat.lt_or_eq_of_le (Nat.le_of_lt_succ hj) with h_ | h_; exact hinv_q j h_; (subst h_; unfold ascAt hashB; rw [hg]; simp_all))⟩, by omega⟩ ⟨⟨_, rfl, int_succ q⟩, ke rfl, trivial⟩
 have he_q : q = (e.hashes).length := by have := ge_of_dec h18; omega
 subst he_q
 refine ac ?_
 refine ac ?_
 refine ac ?_
 · refine int_eq (if_pos (eptB_iff.2 ⟨by simp_all, by omega, by omega, by omega, allI_iff.2 hinv_i, by omega, by omega, allI_iff.2 (fun j hj => and1 (hinv_o j hj)), allI_iff.2 (fun j hj => and1 (hinv_q j hj)), hall, all_at (fun j hj => and2 (hinv_o j hj)), all_at (fun j hj => and2 (hinv_q j hj))⟩)).symm
end Go.Proofs.YtppeeogffbpcbaaGreat
namespace Go.Proofs.YtppeeogffbpcbaaGreat
open Go Go.RowKit Cp

theorem idx_snoc {β : Type} {p : β → Bool} {l : List β} {k : Nat} {x : β} (h : l[k]? = some x) : idx p (l.take (k + 1)) = if idx p (l.take k) < 0 then (if p x = true then (k : Int) else -1) else idx p (l.take k) := by
  have hk := lt_of_at h
  rw [List.take_add_one, h]
  have hl : (l.take k).length = k := by rw [List.length_take]; omega
  show idx p (l.take k ++ [x]) = _
  generalize l.take k = a at hl ⊢
  unfold idx
  rw [List.findIdx?_append]
  cases ha : a.findIdx? p with
  | some i => simp; intro h3; omega
  | none => cases hp : p x <;> simp [hp, hl]
theorem cnt_snoc {β : Type} {p : β → Bool} {l : List β} {k : Nat} {x : β} (h : l[k]? = some x) : (((l.take (k + 1)).countP p : Nat) : Int) = ((l.take k).countP p : Nat) + (if p x = true then 1 else 0) := by
  rw [List.take_add_one, h]
  show (((l.take k ++ [x]).countP p : Nat) : Int) = _
  rw [List.countP_append, List.countP_singleton]; split <;> simp_all
theorem idx_cnt {β : Type} {p : β → Bool} {l : List β} : idx p l < 0 ↔ l.countP p = 0 := by
  unfold idx
  cases h : l.findIdx? p with
  | none =>
    rw [List.findIdx?_eq_none_iff] at h
    simp only [show ((none : Option Nat).map fun n => (n : Int)).getD (-1) = -1 from rfl]
    constructor
    · intro _; rw [List.countP_eq_zero]; intro a ha; rw [h a ha]; decide
    · intro _; decide
  | some i =>
    rw [List.findIdx?_eq_some_iff_getElem] at h
    obtain ⟨h1, h2, _⟩ := h
    constructor
    · intro h3; exfalso; revert h3; simp
    · intro h3; rw [List.countP_eq_zero] at h3; exact absurd h2 (h3 _ (List.getElem_mem h1))
theorem cnt_le {β : Type} {p : β → Bool} {l : List β} {k n : Nat} (h : l.length ≤ n) : (l.take k).countP p ≤ n := Nat.le_trans List.countP_le_length (Nat.le_trans (by rw [List.length_take]; omega) h)
theorem bsX {l : List Int} {n x : Int} {k : Nat} (h : ∀ (j : Nat) y, j < k → l[j]? = some y → y < n) (hx : l[k]? = some x) (hlt : x < n) : ∀ (j : Nat) y, j < k + 1 → l[j]? = some y → y < n := by
  intro j y hj hy
  rcases Nat.lt_or_eq_of_le (Nat.le_of_lt_succ hj) with h1 | h1
  · exact h j y h1 hy
  · subst h1; rw [hx] at hy; cases hy; exact hlt
def keyP (id : Int) (x : Idn) : Bool := x.keyId == id
def cntK (id : Int) (l : List Idn) : Int := ((l.countP (keyP id) : Nat) : Int)
theorem keyIdx_eq (id : Int) (l : List Idn) : keyIdx id l = idx (keyP id) l := rfl
theorem cntK_snoc {id : Int} {l : List Idn} {k : Nat} {x : Idn} (h : l[k]? = some x) : cntK id (l.take (k + 1)) = cntK id (l.take k) + (if x.keyId = id then 1 else 0) := by
  unfold cntK; rw [cnt_snoc h]; unfold keyP; simp only [beq_iff_eq]
theorem keyIdx_snoc {id : Int} {l : List Idn} {k : Nat} {x : Idn} (h : l[k]? = some x) : keyIdx id (l.take (k + 1)) = if cntK id (l.take k) = 0 then (if x.keyId = id then (k : Int) else -1) else keyIdx id (l.take k) := by
  rw [keyIdx_eq, keyIdx_eq, idx_snoc h]
  have := idx_cnt (p := keyP id) (l := l.take k)
  unfold cntK
  by_cases h2 : idx (keyP id) (l.take k) < 0
  · have h4 : (((l.take k).countP (keyP id) : Nat) : Int) = 0 := by rw [this.1 h2]; rfl
    rw [if_pos h2, if_pos h4]; unfold keyP; simp only [beq_iff_eq]
  · rw [if_neg h2, if_neg (fun h3 => h2 (this.2 (by omega)))]
theorem keyIdx_cnt0 {id : Int} {l : List Idn} (h : cntK id l = 0) : keyIdx id l = -1 := by
  have h2 := (idx_cnt (p := keyP id) (l := l)).2 (by unfold cntK at h; omega)
  rw [keyIdx_eq]; unfold idx at h2 ⊢
  cases h3 : l.findIdx? (keyP id) with
  | none => rfl
  | some i => rw [h3] at h2; simp at h2; omega
def valR (e : Ept) (k : Int) : Int × Bool := if k = 3 then (e.most, true) else if k = 4 then (e.least, true) else if k = 11 then (bitI e.fall, true) else if k = 12 then (bitI e.own, true) else (0, false)
def lstR (e : Ept) (k : Int) : List Int × Bool × Bool :=
  if k = 1 ∨ k = 2 then (e.suites, decide (k = 1), true) else if k = 7 ∨ k = 8 then (e.anchors, decide (k = 7), true) else if k = 9 ∨ k = 10 then (e.hashes, decide (k = 9), true) else ([], false, false)
theorem noneB_dec (x : Idn) : decide (x = zeroId) = noneB x := by
  rw [Bool.eq_iff_iff, decide_eq_true_eq]; unfold noneB zeroId
  cases x; simp only [Idn.mk.injEq, Bool.and_eq_true, decide_eq_true_eq, beq_iff_eq, and_assoc]
  constructor
  · rintro ⟨h1, h2, h3, h4⟩; exact ⟨h1, h2, h3, by simp [h4]⟩
  · rintro ⟨h1, h2, h3, h4⟩; exact ⟨h1, h2, h3, List.eq_nil_of_length_eq_zero (by omega)⟩

theorem w_R24place {l : List Int} {n : Int}  : Fun Tryz.prog 78 [ints l, int n] (int (idx (fun y => n == y) l)) := by
 refine fo Tryz.func78 rfl ⟨rfl, rfl⟩ fun M0 w0 => (Tr.lenm 0 rfl fun hlm_0 => ?_)
 refine ac ?_
 refine ac ?_
 refine Tr.block (Tr.loopw [(1, _), (7, _), (8, _)] (kk3 rfl) (fun k : Nat => [(9, int ((k : Nat) : Int))]) (fun k : Nat => k ≤ (l).length ∧ (∀ j y, j < k → l[j]? = some y → (n == y) = false)) (fun k : Nat => (l).length - k) 0 (⟨Nat.zero_le _, fun j y hj => absurd hj (by omega)⟩) ⟨ke rfl, trivial⟩ ?_)
 rintro k ⟨hle_k, hinv_k⟩
 refine ac ?_
 refine Tr.seq ?_
 refine Tr.cn rfl ?_ ?_ <;> intro h1 q1
 have hk_k : k < (l).length := lt_of_dec h1
 obtain ⟨x, hx_k⟩ := at_ hk_k
 refine ac ?_
 refine ac ?_
 refine co rfl (ok_indexAddr rfl Tryz.underlying22 sz3 (vl rfl) (vl rfl) (by omega) (by exact row_at (by assumption))) ?_
 refine ac ?_
 refine ac ?_
 refine Tr.cn rfl ?_ ?_ <;> intro h2 q2
 refine ac ?_
 refine wk1 4 rfl ?_
 refine ac ?_
 · exact int_eq (idx_found (p := fun y => n == y) hx_k (by simp; omega) hinv_k)
 refine ac ?_
 refine ac ?_
 exact Fin.fam_same (k + 1) ⟨⟨hk_k, step_no (p := fun y => n == y) hx_k (by simp; omega) hinv_k⟩, by omega⟩ ⟨⟨_, rfl, int_succ k⟩, ke rfl, ke rfl, ke rfl, trivial⟩
 have he_k : k = (l).length := by have := ge_of_dec h1; omega
 subst he_k
 refine ac ?_
 refine ac ?_
 refine ac ?_
 · exact int_eq (idx_none (p := fun y => n == y) hinv_k)
theorem w_R24keys {e : Ept} {id : Int} (hl : e.ids.length ≤ 1000000) : Fun Tryz.prog 79 [agg (rowEp e), int id] (tup [int (cntK id e.ids), int (keyIdx id e.ids)]) := by
 refine fo Tryz.func79 rfl ⟨rfl, rfl⟩ fun M0 w0 => ?_
 refine ac ?_
 refine ac ?_
 refine ac ?_
 refine Tr.block (Tr.loopw [(1, _), (11, _), (12, _)] (kk3 rfl) (fun k : Nat => [(13, int ((k : Nat) : Int)), (6, int (cntK id (e.ids.take k))), (7, int (keyIdx id (e.ids.take k)))]) (fun k : Nat => k ≤ (e.ids).length) (fun k : Nat => (e.ids).length - k) 0 (Nat.zero_le _) ⟨ke rfl, ⟨_, rfl, int_eq rfl⟩, ⟨_, rfl, int_eq rfl⟩, trivial⟩ ?_)
 rintro k hle_k
 refine ac ?_
 refine Tr.seq ?_
 refine Tr.cn rfl ?_ ?_ <;> intro h1 q1
 have hk_k : k < (e.ids).length := lt_of_dec h1
 obtain ⟨x, hx_k⟩ := at_ hk_k
 have hc := cntK_snoc (id := id) hx_k
 have hi := keyIdx_snoc (id := id) hx_k
 have hcl : 0 ≤ cntK id (e.ids.take k) ∧ cntK id (e.ids.take k) ≤ 1000000 := ⟨by unfold cntK; omega, by have := cnt_le (p := keyP id) (k := k) hl; unfold cntK; omega⟩
 have h0 := keyIdx_cnt0 (id := id) (l := e.ids.take k)
 refine ac ?_
 refine ao ?_
 refine tp rfl (ok_indexAddr rfl Tryz.underlying30 sz27 (vl rfl) (vl rfl) (by omega) (by exact row_at (by assumption))) ?_
 refine tp rfl (ok_loadA rfl agg27 sz27 (vl rfl) rfl rfl) ?_
 refine TO.alloc rfl rfl (by decide) rfl z27 zo27 (fun b1 => ?_)
 refine tm rfl ?_
 refine sf 0 9 ⟨rfl, rfl, rfl⟩ rfl rfl rfl rfl ?_
 refine ao ?_
 refine wk8 1 6 7 8 9 11 12 13 rfl ?_
 refine ac ?_
 refine Tr.cn rfl ?_ ?_ <;> intro h2 q2
 refine ac ?_
 refine wk8 1 6 7 8 11 12 13 23 rfl ?_
 refine Tr.cn rfl ?_ ?_ <;> intro h3 q3
 refine ac ?_
 refine ac ?_
 refine ac ?_
 exact Fin.fam_same (k + 1) ⟨hk_k, by omega⟩ ⟨⟨_, rfl, int_succ k⟩, ⟨_, rfl, int_eq (by simp_all)⟩, ⟨_, rfl, int_eq (by simp_all)⟩, ke rfl, ke rfl, ke rfl, trivial⟩
 refine ac ?_
 refine ac ?_
 refine ac ?_
 exact Fin.fam_same (k + 1) ⟨hk_k, by omega⟩ ⟨⟨_, rfl, int_succ k⟩, ⟨_, rfl, int_eq (by simp_all)⟩, ⟨_, rfl, int_eq (by simp_all)⟩, ke rfl, ke rfl, ke rfl, trivial⟩
 refine ac ?_
 refine ac ?_
 exact Fin.fam_same (k + 1) ⟨hk_k, by omega⟩ ⟨⟨_, rfl, int_succ k⟩, ⟨_, rfl, int_eq (by simp_all)⟩, ⟨_, rfl, int_eq (by simp_all)⟩, ke rfl, ke rfl, ke rfl, trivial⟩
 have he_k : k = (e.ids).length := by have := ge_of_dec h1; omega
 subst he_k
 rw [List.take_length]
 refine ac ?_
 refine ac ?_
 refine Tr.ret (Fin.ret2 rfl (OutW.bse _ _) rfl ?_ rfl ?_)
 · exact Pr.le_refl _
 · exact Pr.le_refl _
theorem w_R24bit {b : Bool}  : Fun Tryz.prog 128 [bool b] (int (bitI b)) := by
 refine fo Tryz.func128 rfl ⟨rfl, rfl⟩ fun M0 w0 => ?_
 refine ac ?_
 refine ac ?_
 refine Tr.cn rfl ?_ ?_ <;> intro h1 q1
 refine ac ?_
 refine ac ?_
 · exact int_eq (by simp_all [bitI])
 refine ac ?_
 refine ac ?_
 refine ac ?_
 · exact int_eq (by simp_all [bitI])
theorem w_R24value {e : Ept} {k : Int}  : Fun Tryz.prog 81 [agg (rowEp e), int k] (tup [int (valR e k).1, bool (valR e k).2]) := by
 refine fo Tryz.func81 rfl ⟨rfl, rfl⟩ fun M0 w0 => ?_
 refine ac ?_
 refine ac ?_
 refine ac ?_
 refine Tr.cn rfl ?_ ?_ <;> intro h1 q1
 refine ac ?_
 refine Tr.ret (Fin.block_ret (Fin.then_ret (Fin.ret2 rfl (OutW.bse _ _) rfl ?_ rfl ?_)))
 · exact int_eq (by simp_all [valR])
 · exact bool_eq (by simp_all [valR])
 refine ac ?_
 refine Tr.cn rfl ?_ ?_ <;> intro h2 q2
 refine ac ?_
 refine Tr.ret (Fin.block_ret (Fin.then_ret (Fin.ret2 rfl (OutW.bse _ _) rfl ?_ rfl ?_)))
 · exact int_eq (by simp_all [valR])
 · exact bool_eq (by simp_all [valR])
 refine ac ?_
 refine Tr.cn rfl ?_ ?_ <;> intro h3 q3
 refine ac ?_
 refine co rfl (kc1 (w_R24bit) rfl rfl) ?_
 refine ac ?_
 refine wk2 4 5 rfl (Tr.ret (Fin.block_ret (Fin.then_ret (Fin.ret2 rfl (OutW.bse _ _) rfl ?_ rfl ?_))))
 · exact int_eq (by simp_all [valR])
 · exact bool_eq (by simp_all [valR])
 refine ac ?_
 refine Tr.cn rfl ?_ ?_ <;> intro h4 q4
 refine ac ?_
 refine co rfl (kc1 (w_R24bit) rfl rfl) ?_
 refine ac ?_
 refine wk2 4 5 rfl (Tr.ret (Fin.block_ret (Fin.then_ret (Fin.ret2 rfl (OutW.bse _ _) rfl ?_ rfl ?_))))
 · exact int_eq (by simp_all [valR])
 · exact bool_eq (by simp_all [valR])
 refine ac ?_
 refine ac ?_
 refine wk2 4 5 rfl (Tr.ret (Fin.ret2 rfl (OutW.bse _ _) rfl ?_ rfl ?_))
 · exact int_eq (by simp_all [valR])
 · exact bool_eq (by simp_all [valR])
theorem w_R24form {c : Chg} (hcs : c.idn.small) : Fun Tryz.prog 119 [agg (rowChg c)] (bool (decide (okCh c))) := by
 refine fo Tryz.func119 rfl ⟨rfl, rfl⟩ fun M0 w0 => ?_
 refine ac ?_
 refine ac ?_
 refine co rfl (ok_call rfl (w_R24SameI (a := c.idn) (b := zeroId) hcs) ⟨ke rfl, ⟨_, rfl, agg_le ⟨Pr.le_refl _, Pr.le_refl _, Pr.le_refl _, nil_slice 15, trivial⟩⟩, trivial⟩) ?_
 refine ac ?_
 refine ac ?_
 refine ac ?_
 refine Tr.cn rfl ?_ ?_ <;> intro h1 q1
 refine ac ?_
 refine ac ?_
 · refine bool_eq ?_; (try simp only [noneB_dec] at *); rw [Bool.eq_iff_iff, decide_eq_true_eq]; unfold okCh leanB; simp_all
 refine ac ?_
 refine Tr.cn rfl ?_ ?_ <;> intro h2 q2
 refine ac ?_
 refine wk1 2 rfl ?_
 refine ac ?_
 · refine bool_eq ?_; (try simp only [noneB_dec] at *); rw [Bool.eq_iff_iff, decide_eq_true_eq]; unfold okCh leanB; simp_all
 refine ac ?_
 refine ac ?_
 refine Ch.cs 21 rfl ?_ ?_ <;> intro h3 q3
 refine ac ?_
 refine Ch.cs 26 rfl ?_ ?_ <;> intro h4 q4
 refine ac ?_
 refine Ch.cs 29 rfl ?_ ?_ <;> intro h5 q5
 refine ac ?_
 refine wk1 2 rfl ?_
 refine ac ?_
 · refine bool_eq ?_; (try simp only [noneB_dec] at *); rw [Bool.eq_iff_iff, decide_eq_true_eq]; unfold okCh leanB; simp_all
 refine ac ?_
 refine wk1 2 rfl ?_
 refine ac ?_
 · refine bool_eq ?_; (try simp only [noneB_dec] at *); rw [Bool.eq_iff_iff, decide_eq_true_eq]; unfold okCh leanB; simp_all
 refine ac ?_
 refine wk1 2 rfl ?_
 refine ac ?_
 · refine bool_eq ?_; (try simp only [noneB_dec] at *); rw [Bool.eq_iff_iff, decide_eq_true_eq]; unfold okCh leanB; simp_all; omega
 refine ac ?_
 refine wk1 2 rfl ?_
 refine ac ?_
 · refine bool_eq ?_; (try simp only [noneB_dec] at *); rw [Bool.eq_iff_iff, decide_eq_true_eq]; unfold okCh leanB; simp_all; omega
theorem w_R24listed {e : Ept} {k : Int}  : Fun Tryz.prog 120 [agg (rowEp e), int k] (tup [ints (lstR e k).1, bool (lstR e k).2.1, bool (lstR e k).2.2]) := by
 refine fo Tryz.func120 rfl ⟨rfl, rfl⟩ fun M0 w0 => ?_
 refine ac ?_
 refine ac ?_
 refine ac ?_
 refine Tr.cn rfl ?_ ?_ <;> intro h1 q1
 refine ac ?_
 refine Tr.cond rfl (fun _ => ?_) (fun h => nomatch h1.symm.trans h)
 refine ac ?_
 refine wk3 4 5 6 rfl (Tr.ret (Fin.block_ret (Fin.then_ret (Fin.ret3 rfl (OutW.bse _ _) rfl ?_ rfl ?_ rfl ?_))))
 · exact Pr.le_of_eq (by simp_all [lstR])
 · exact bool_eq (by simp_all [lstR])
 · exact bool_eq (by simp_all [lstR])
 refine ac ?_
 refine Tr.cn rfl ?_ ?_ <;> intro h2 q2
 refine ac ?_
 refine wk3 4 5 6 rfl (Tr.ret (Fin.block_ret (Fin.then_ret (Fin.ret3 rfl (OutW.bse _ _) rfl ?_ rfl ?_ rfl ?_))))
 · exact Pr.le_of_eq (by simp_all [lstR])
 · exact bool_eq (by simp_all [lstR])
 · exact bool_eq (by simp_all [lstR])
 refine ac ?_
 refine Tr.cn rfl ?_ ?_ <;> intro h3 q3
 refine ac ?_
 refine Tr.cond rfl (fun _ => ?_) (fun h => nomatch h3.symm.trans h)
 refine ac ?_
 refine wk3 4 5 6 rfl (Tr.ret (Fin.block_ret (Fin.then_ret (Fin.ret3 rfl (OutW.bse _ _) rfl ?_ rfl ?_ rfl ?_))))
 · exact Pr.le_of_eq (by simp_all [lstR])
 · exact bool_eq (by simp_all [lstR])
 · exact bool_eq (by simp_all [lstR])
 refine ac ?_
 refine Tr.cn rfl ?_ ?_ <;> intro h4 q4
 refine ac ?_
 refine wk3 4 5 6 rfl (Tr.ret (Fin.block_ret (Fin.then_ret (Fin.ret3 rfl (OutW.bse _ _) rfl ?_ rfl ?_ rfl ?_))))
 · exact Pr.le_of_eq (by simp_all [lstR])
 · exact bool_eq (by simp_all [lstR])
 · exact bool_eq (by simp_all [lstR])
 refine ac ?_
 refine wk4 1 2 7 22 rfl ?_
 refine Tr.cn rfl ?_ ?_ <;> intro h5 q5
 refine ac ?_
 refine Tr.cond rfl (fun _ => ?_) (fun h => nomatch h5.symm.trans h)
 refine ac ?_
 refine Tr.ret (Fin.block_ret (Fin.then_ret (Fin.ret3 rfl (OutW.bse _ _) rfl ?_ rfl ?_ rfl ?_)))
 · exact Pr.le_of_eq (by simp_all [lstR])
 · exact bool_eq (by simp_all [lstR])
 · exact bool_eq (by simp_all [lstR])
 refine ac ?_
 refine Tr.cn rfl ?_ ?_ <;> intro h6 q6
 refine ac ?_
 refine Tr.ret (Fin.block_ret (Fin.then_ret (Fin.ret3 rfl (OutW.bse _ _) rfl ?_ rfl ?_ rfl ?_)))
 · exact Pr.le_of_eq (by simp_all [lstR])
 · exact bool_eq (by simp_all [lstR])
 · exact bool_eq (by simp_all [lstR])
 refine ac ?_
 refine ac ?_
 refine Tr.ret (Fin.ret3 rfl (OutW.bse _ _) rfl ?_ rfl ?_ rfl ?_)
 · exact Pr.le_trans (nil_slice 1) (Pr.le_of_eq (by rw [show (lstR e k).1 = [] by simp_all [lstR]]; rfl))
 · exact bool_eq (by simp_all [lstR])
 · exact bool_eq (by simp_all [lstR])
theorem w_R24with {l : List Int} {i : Nat} {n : Int} (hi : i ≤ l.length) (hl : l.length ≤ 1000000) : Fun Tryz.prog 121 [ints l, int ((i : Nat) : Int), int n] (ints (l.take i ++ [n] ++ l.drop i)) := by
 refine fo Tryz.func121 rfl ⟨rfl, rfl⟩ fun M0 w0 => ?_
 have hml : (l.map fun n : Int => [int n]).length = l.length := List.length_map _
 refine ac ?_
 refine ap ?_
 refine tp rfl (ok_sliceTo rfl Tryz.underlying22 sz3 (vl rfl) (vl rfl) (by omega) (by omega)) (TO.pad ?_)
 refine TO.efs 0 rfl rfl (by decide) (ef_append rfl rfl (by decide) rfl Tryz.underlying22 sz3 by3 z3 rfl (by decide) ⟨_, rfl, nil_slice _⟩ (vl rfl) (by simp only [List.length_map, List.length_append, List.length_cons, List.length_nil, List.length_take, List.length_drop]; unfold maxLen; omega) (by simp only [List.length_map, List.length_append, List.length_cons, List.length_nil, List.length_take, List.length_drop]; omega) (appR_full (by exact List.Mem.head _) ⟨_, rfl, nil_full 1⟩)) (fun v1 => ?_)
 refine ap ?_
 refine ap ?_
 refine TO.efs 0 rfl rfl (by decide) (ef_append rfl rfl (by decide) rfl Tryz.underlying22 sz3 by3 z3 rfl (by decide) ⟨_, rfl, andIs_le _ _⟩ ⟨_, rfl, full_le _ _⟩ (by simp only [List.length_map, List.length_append, List.length_cons, List.length_nil, List.length_take, List.length_drop]; unfold maxLen; omega) (by simp only [List.length_map, List.length_append, List.length_cons, List.length_nil, List.length_take, List.length_drop]; omega) (appR_is (by exact List.Mem.head _) ⟨_, rfl, andIs_is _ _⟩)) (fun v2 => ?_)
 refine ap ?_
 refine ap ?_
 refine tp rfl (ok_sliceFrom rfl Tryz.underlying22 sz3 (vl rfl) (vl rfl) (by omega) (by omega)) ?_
 refine TO.efs 0 rfl rfl (by decide) (ef_append rfl rfl (by decide) rfl Tryz.underlying22 sz3 by3 z3 rfl (by decide) ⟨_, rfl, andIs_le _ _⟩ (vl rfl) (by simp only [List.length_map, List.length_append, List.length_cons, List.length_nil, List.length_take, List.length_drop]; unfold maxLen; omega) (by simp only [List.length_map, List.length_append, List.length_cons, List.length_nil, List.length_take, List.length_drop]; omega) (appR_is (by exact List.Mem.head _) ⟨_, rfl, andIs_is _ _⟩)) (fun v3 => ?_)
 refine ap ?_
 refine wk1 6 rfl ?_
 refine ac ?_
 · exact Pr.le_trans (andIs_le _ _) (Pr.le_of_eq (by show _ = slice 1 ((l.take i ++ [n] ++ l.drop i).map fun n => [int n]); simp [List.map_take, List.map_drop]))
theorem w_R24without {l : List Int} {i : Nat} (hi : i < l.length) (hl : l.length ≤ 1000000) : Fun Tryz.prog 122 [ints l, int ((i : Nat) : Int)] (ints (l.eraseIdx i)) := by
 refine fo Tryz.func122 rfl ⟨rfl, rfl⟩ fun M0 w0 => ?_
 have hml : (l.map fun n : Int => [int n]).length = l.length := List.length_map _
 refine ac ?_
 refine ap ?_
 refine tp rfl (ok_sliceTo rfl Tryz.underlying22 sz3 (vl rfl) (vl rfl) (by omega) (by omega)) (TO.pad ?_)
 refine TO.efs 0 rfl rfl (by decide) (ef_append rfl rfl (by decide) rfl Tryz.underlying22 sz3 by3 z3 rfl (by decide) ⟨_, rfl, nil_slice _⟩ (vl rfl) (by simp only [List.length_map, List.length_append, List.length_cons, List.length_nil, List.length_take, List.length_drop]; unfold maxLen; omega) (by simp only [List.length_map, List.length_append, List.length_cons, List.length_nil, List.length_take, List.length_drop]; omega) (appR_full (by exact List.Mem.head _) ⟨_, rfl, nil_full 1⟩)) (fun v1 => ?_)
 refine ap ?_
 refine ap ?_
 refine tp rfl (ok_sliceFrom rfl Tryz.underlying22 sz3 (vl rfl) (vl rfl) (by omega) (by omega)) ?_
 refine TO.efs 0 rfl rfl (by decide) (ef_append rfl rfl (by decide) rfl Tryz.underlying22 sz3 by3 z3 rfl (by decide) ⟨_, rfl, andIs_le _ _⟩ (vl rfl) (by simp only [List.length_map, List.length_append, List.length_cons, List.length_nil, List.length_take, List.length_drop]; unfold maxLen; omega) (by simp only [List.length_map, List.length_append, List.length_cons, List.length_nil, List.length_take, List.length_drop]; omega) (appR_is (by exact List.Mem.head _) ⟨_, rfl, andIs_is _ _⟩)) (fun v2 => ?_)
 refine ap ?_
 refine ac ?_
 · exact Pr.le_trans (andIs_le _ _) (Pr.le_of_eq (by rw [List.eraseIdx_eq_take_drop_succ]; show _ = slice 1 ((l.take i ++ l.drop (i + 1)).map fun n => [int n]); simp [List.map_take, List.map_drop, show (((i : Nat) : Int) + 1).toNat = i + 1 by omega]))
theorem w_R24sorted {l : List Int} {n : Int} (hl : l.length ≤ 1000000) : Fun Tryz.prog 123 [ints l, int n] (ints (insX l n)) := by
 refine fo Tryz.func123 rfl ⟨rfl, rfl⟩ fun M0 w0 => (Tr.lenm 0 rfl fun hlm_0 => ?_)
 refine ac ?_
 refine ac ?_
 refine Tr.seq (Tr.block (Tr.loopw [(0, _), (1, _)] (kk2 rfl) (fun k : Nat => [(5, int ((k : Nat) : Int))]) (fun k : Nat => k ≤ l.length ∧ (∀ j y, j < k → l[j]? = some y → y < n)) (fun k : Nat => l.length - k) 0 (⟨Nat.zero_le _, fun j y hj => absurd hj (by omega)⟩) ⟨ke rfl, trivial⟩ ?_))
 rintro k ⟨hle_k, hinv⟩
 refine ac ?_
 refine Ch.cs 10 rfl ?_ ?_ <;> intro h1 q1
 obtain ⟨x, hx⟩ := at_ (l := l) (k := k) (by omega)
 refine ac ?_
 refine cy h1 rfl (ok_indexAddr rfl Tryz.underlying22 sz3 (vl rfl) (vl rfl) (by omega) (row_at hx)) ?_
 refine ac ?_
 refine wk4 0 1 5 17 rfl ?_
 refine Tr.cn rfl ?_ ?_ <;> intro h2 q2
 have hq := h2
 refine ac ?_
 refine ac ?_
 exact Fin.fam_same (k + 1) ⟨⟨by omega, bsX hinv hx (by simpa using hq)⟩, by omega⟩ ⟨⟨_, rfl, int_succ k⟩, ke rfl, ke rfl, trivial⟩
 have hp : posI l n = k := posI_eq hle_k hinv (fun y hy => by have h_ := h2; rw [hx] at hy; cases hy; simpa using h_)
 refine ac ?_
 refine ac ?_
 refine co rfl (ok_call rfl (w_R24with (l := l) (i := posI l n) (posI_le _ _) hl) ⟨ke rfl, ⟨_, rfl, int_eq (by omega)⟩, ke rfl, trivial⟩) ?_
 refine ac ?_
 refine ac ?_
 · exact Pr.le_refl _
 have hp : posI l n = k := posI_eq hle_k hinv (fun y hy => by have := lt_of_at hy; have := q1; omega)
 refine ac ?_
 refine wk4 0 1 5 17 rfl ?_
 refine ac ?_
 refine ac ?_
 refine co rfl (ok_call rfl (w_R24with (l := l) (i := posI l n) (posI_le _ _) hl) ⟨ke rfl, ⟨_, rfl, int_eq (by omega)⟩, ke rfl, trivial⟩) ?_
 refine ac ?_
 refine ac ?_
 · exact Pr.le_refl _
end Go.Proofs.YtppeeogffbpcbaaGreat
namespace Go.Proofs.YtppeeogffbpcbaaGreat
open Go Go.RowKit Cp

def alw (e : Ept) (c : Chg) : Int :=
  if eptB e = false then 19 else if ¬ okCh c then 40
  else if c.kind = 1 ∧ (c.at_ < 0 ∨ (e.suites.length : Int) < c.at_) then 2
  else if c.kind = 5 ∧ (c.at_ < 0 ∨ (e.ids.length : Int) < c.at_) then 2
  else if (c.kind = 11 ∨ c.kind = 12) ∧ (c.number ≠ 0 ∧ c.number ≠ 1) then 2
  else if (lstR e c.kind).2.2 = true ∧ decide (0 ≤ idx (fun y => c.number == y) (lstR e c.kind).1) = (lstR e c.kind).2.1 then 41
  else if (valR e c.kind).2 = true ∧ (valR e c.kind).1 = c.number then 41
  else if c.kind = 5 ∧ 0 < cntK c.idn.keyId e.ids then 41
  else if c.kind = 6 ∧ cntK c.number e.ids = 0 then 41
  else if c.kind = 6 ∧ 1 < cntK c.number e.ids then 5 else 0
theorem idx_has {l : List Int} (hs : AscI l) {n : Int} : idx (fun y => n == y) l = if hasX l n = true then ((posI l n : Nat) : Int) else -1 := by
  by_cases h : hasX l n = true
  · rw [if_pos h]
    obtain ⟨y, hy⟩ := at_ (hasX_lt h)
    have hyn : y = n := by have h2 := hasX_at rfl hy; rw [h] at h2; simpa using h2.symm
    exact (idx_found (p := fun y => n == y) hy (by simp [hyn]) (fun j z hj hz => by have := posI_lt hj hz; simp; omega)).symm
  · rw [if_neg h]
    refine (idx_none (p := fun y => n == y) (fun j z hj hz => ?_)).symm
    simp only [beq_eq_false_iff_ne, ne_eq]
    intro hn; subst hn
    rcases Nat.lt_trichotomy j (posI l n) with h1 | h1 | h1
    · have := posI_lt h1 hz; omega
    · subst h1; exact h (by rw [hasX_at rfl hz]; simp)
    · obtain ⟨y, hy⟩ := at_ (l := l) (k := posI l n) (by have := lt_of_at hz; omega)
      have h2 := posI_ge hy
      have h3 := ascI_lt hs h1 hy hz
      omega
theorem dup_cnt {l : List Idn} {n : Int} {x : Idn} (h0 : ¬ keyIdx n l < 0) (hx : l[(keyIdx n l).toNat]? = some x) : (1 < cntK n l) ↔ ((l.drop (keyIdx n l + 1).toNat).any fun x => x.keyId == n) = true := by
  obtain ⟨y, hy, hp, hlt⟩ := idx_hit (p := keyP n) (l := l) (by rw [← keyIdx_eq]; omega)
  rw [← keyIdx_eq] at hy hlt
  have hsplit : l = l.take (keyIdx n l).toNat ++ y :: l.drop ((keyIdx n l).toNat + 1) := by
    rw [List.getElem?_eq_getElem hlt] at hy; cases hy
    rw [List.getElem_cons_drop]; exact (List.take_append_drop _ _).symm
  have h1 : (l.take (keyIdx n l).toNat).countP (keyP n) = 0 := by
    refine idx_cnt.1 (Int.not_le.1 fun h2 => ?_)
    obtain ⟨z, hz, hzp, hzl⟩ := idx_hit h2
    have e1 : keyIdx n l = idx (keyP n) (l.take (keyIdx n l).toNat) := by
      obtain ⟨i, hi⟩ : ∃ i : Nat, idx (keyP n) (l.take (keyIdx n l).toNat) = (i : Int) := ⟨_, (Int.toNat_of_nonneg h2).symm⟩
      have h3 : ((l.take (keyIdx n l).toNat).findIdx? (keyP n)) = some i := by
        unfold idx at hi; cases h4 : (l.take (keyIdx n l).toNat).findIdx? (keyP n) with
        | none => rw [h4] at hi; simp at hi
        | some k => rw [h4] at hi; rw [show k = i by simp at hi; omega]
      have h5 : l.findIdx? (keyP n) = some i := by
        rw [← List.take_append_drop (keyIdx n l).toNat l, List.findIdx?_append, h3]; rfl
      have e2 : idx (keyP n) l = (i : Int) := by unfold idx; rw [h5]
      exact e2.trans hi.symm
    rw [← e1] at hzl; rw [List.length_take] at hzl; omega
  have h2 : l.countP (keyP n) = 1 + (l.drop ((keyIdx n l).toNat + 1)).countP (keyP n) := by
    conv => lhs; rw [hsplit]
    rw [List.countP_append, h1, List.countP_cons, hp]; simp; omega
  unfold cntK; rw [h2, show (keyIdx n l + 1).toNat = (keyIdx n l).toNat + 1 by omega]
  show _ ↔ (List.any _ (keyP n)) = true
  rw [List.any_eq_true, ← List.countP_pos_iff]; omega
theorem dec_any {l : List Int} {n : Int} : decide (0 ≤ idx (fun y => n == y) l) = l.any fun y => n == y := idx_any _ _
theorem dec_has {l : List Int} (hs : AscI l) {n : Int} : decide (0 ≤ idx (fun y => n == y) l) = hasX l n := by
  rw [idx_has hs]; cases hasX l n <;> simp
theorem alw_step {e : Ept} {c : Chg} (hce : eptB e = true) (hc : okCh c) : alw e c = match stepR e c with | .error f => f | .ok _ => 0 := by
  have ok := eptB_iff.1 hce
  have ha := ascI_of ok.anc; have hh := ascI_of ok.hash
  have hk := hc.1
  unfold alw
  rw [if_neg (by rw [hce]; decide), if_neg (not_not_intro hc)]
  have h0 : c.kind = 1 ∨ c.kind = 2 ∨ c.kind = 3 ∨ c.kind = 4 ∨ c.kind = 5 ∨ c.kind = 6 ∨ c.kind = 7 ∨ c.kind = 8 ∨ c.kind = 9 ∨ c.kind = 10 ∨ c.kind = 11 ∨ c.kind = 12 := by omega
  rcases h0 with h | h | h | h | h | h | h | h | h | h | h | h
  · rw [stepR_1 h]; unfold lstR valR; simp only [h]
    by_cases h1 : c.at_ < 0 ∨ (e.suites.length : Int) < c.at_
    · have h2 : ¬ (0 ≤ c.at_ ∧ c.at_ ≤ (e.suites.length : Int)) := by omega
      simp [h1, h2]
    · have h2 : 0 ≤ c.at_ ∧ c.at_ ≤ (e.suites.length : Int) := by omega
      have h3 := dec_any (l := e.suites) (n := c.number)
      have h4 : (0 ≤ idx (fun y => c.number == y) e.suites) ↔ (e.suites.any fun y => c.number == y) = true := by rw [← h3, decide_eq_true_eq]
      by_cases h5 : (e.suites.any fun y => c.number == y) = true
      · have h6 := h4.2 h5; simp only [h5]; simp [h1, h2, h6]
      · have h6 : ¬ 0 ≤ idx (fun y => c.number == y) e.suites := fun h => h5 (h4.1 h)
        simp only [h5]; simp [h1, h2, h6]
  · rw [stepR_2 h]; unfold lstR valR sIdx; simp only [h]
    by_cases h1 : idx (fun y => c.number == y) e.suites < 0
    · simp [h1]
    · simp [h1]
  · rw [stepR_3 h]; unfold lstR valR; simp only [h]; by_cases h1 : e.most = c.number <;> simp [h1]
  · rw [stepR_4 h]; unfold lstR valR; simp only [h]; by_cases h1 : e.least = c.number <;> simp [h1]
  · rw [stepR_5 h]; unfold lstR valR; simp only [h]
    have hcnt := idx_cnt (p := keyP c.idn.keyId) (l := e.ids)
    rw [← keyIdx_eq] at hcnt
    by_cases h1 : c.at_ < 0 ∨ (e.ids.length : Int) < c.at_
    · have h2 : ¬ (0 ≤ c.at_ ∧ c.at_ ≤ (e.ids.length : Int)) := by omega
      simp [h1, h2]
    · have h3 : 0 ≤ c.at_ ∧ c.at_ ≤ (e.ids.length : Int) := by omega
      by_cases h2 : 0 ≤ keyIdx c.idn.keyId e.ids
      · have : 0 < cntK c.idn.keyId e.ids := by unfold cntK; omega
        simp [h1, h2, h3, this]
      · have : ¬ 0 < cntK c.idn.keyId e.ids := by unfold cntK; omega
        simp [h1, h2, h3, this]
  · rw [stepR_6 h]; unfold lstR valR; simp only [h]
    have hcnt := idx_cnt (p := keyP c.number) (l := e.ids)
    rw [← keyIdx_eq] at hcnt
    by_cases h2 : keyIdx c.number e.ids < 0
    · have : cntK c.number e.ids = 0 := by unfold cntK; omega
      cases e.ids[(keyIdx c.number e.ids).toNat]? <;> simp [h2, this]
    · have h3 : ¬ cntK c.number e.ids = 0 := by unfold cntK; omega
      obtain ⟨x, hx, _, _⟩ := idx_hit (p := fun x : Idn => x.keyId == c.number) (l := e.ids) (by unfold keyIdx at h2; omega)
      have hx : e.ids[(keyIdx c.number e.ids).toNat]? = some x := hx
      have hd := dup_cnt h2 hx
      rw [hx]; simp only [if_neg h2]
      by_cases h4 : ((e.ids.drop (keyIdx c.number e.ids + 1).toNat).any fun x => x.keyId == c.number) = true
      · have := hd.2 h4; simp only [h4]; simp [h3, this]
      · have : ¬ 1 < cntK c.number e.ids := fun h5 => h4 (hd.1 h5)
        simp only [h4]; simp [h3, this]
  · rw [stepR_7 h]; unfold lstR valR; simp only [h]
    have h1 : (0 ≤ idx (fun y => c.number == y) e.anchors) ↔ hasX e.anchors c.number = true := by rw [← dec_has ha, decide_eq_true_eq]
    by_cases h2 : hasX e.anchors c.number = true
    · have h3 := h1.2 h2; simp [h2, h3]
    · have h3 : ¬ 0 ≤ idx (fun y => c.number == y) e.anchors := fun h => h2 (h1.1 h)
      simp [h2, h3]
  · rw [stepR_8 h]; unfold lstR valR; simp only [h]
    have h1 : (0 ≤ idx (fun y => c.number == y) e.anchors) ↔ hasX e.anchors c.number = true := by rw [← dec_has ha, decide_eq_true_eq]
    by_cases h2 : hasX e.anchors c.number = true
    · have h3 := h1.2 h2; simp [h2, h3]
    · have h3 : ¬ 0 ≤ idx (fun y => c.number == y) e.anchors := fun h => h2 (h1.1 h)
      simp [h2, h3]
  · rw [stepR_9 h]; unfold lstR valR; simp only [h]
    have h1 : (0 ≤ idx (fun y => c.number == y) e.hashes) ↔ hasX e.hashes c.number = true := by rw [← dec_has hh, decide_eq_true_eq]
    by_cases h2 : hasX e.hashes c.number = true
    · have h3 := h1.2 h2; simp [h2, h3]
    · have h3 : ¬ 0 ≤ idx (fun y => c.number == y) e.hashes := fun h => h2 (h1.1 h)
      simp [h2, h3]
  · rw [stepR_10 h]; unfold lstR valR; simp only [h]
    have h1 : (0 ≤ idx (fun y => c.number == y) e.hashes) ↔ hasX e.hashes c.number = true := by rw [← dec_has hh, decide_eq_true_eq]
    by_cases h2 : hasX e.hashes c.number = true
    · have h3 := h1.2 h2; simp [h2, h3]
    · have h3 : ¬ 0 ≤ idx (fun y => c.number == y) e.hashes := fun h => h2 (h1.1 h)
      simp [h2, h3]
  · rw [stepR_11 h]; unfold lstR valR; simp only [h]
    by_cases h1 : 0 ≤ c.number ∧ c.number ≤ 1
    · have : ¬ (c.number ≠ 0 ∧ c.number ≠ 1) := by omega
      by_cases h2 : bitI e.fall = c.number <;> simp [this, h1, h2]
    · have : c.number ≠ 0 ∧ c.number ≠ 1 := by omega
      simp [this, h1]
  · rw [stepR_12 h]; unfold lstR valR; simp only [h]
    by_cases h1 : 0 ≤ c.number ∧ c.number ≤ 1
    · have : ¬ (c.number ≠ 0 ∧ c.number ≠ 1) := by omega
      by_cases h2 : bitI e.own = c.number <;> simp [this, h1, h2]
    · have : c.number ≠ 0 ∧ c.number ≠ 1 := by omega
      simp [this, h1]
theorem alw_bad {e : Ept} {c : Chg} (h : alw e c ≠ 0) : doneR e c = (zeroEp, zeroChg, alw e c) := by
  by_cases hce : eptB e = false
  · have : alw e c = 19 := by unfold alw; rw [if_pos hce]
    rw [this]; unfold doneR; rw [if_pos hce]
  · by_cases hc : okCh c
    · have hce : eptB e = true := by simpa using hce
      have hs := alw_step hce hc
      cases h2 : stepR e c with
      | error f => rw [h2] at hs; rw [doneR_err hce hc h2, show alw e c = f from hs]
      | ok r => rw [h2] at hs; exact absurd hs h
    · have : alw e c = 40 := by unfold alw; rw [if_neg hce, if_pos hc]
      rw [this]; unfold doneR; rw [if_neg hce, if_pos hc]
theorem alw_ok {e : Ept} {c : Chg} (h : alw e c = 0) : eptB e = true ∧ okCh c ∧ ∃ e2 b, stepR e c = .ok (e2, b) := by
  by_cases hce : eptB e = false
  · have : alw e c = 19 := by unfold alw; rw [if_pos hce]
    rw [this] at h; cases h
  · by_cases hc : okCh c
    · have hce : eptB e = true := by simpa using hce
      have hs := alw_step hce hc
      cases h2 : stepR e c with
      | error f =>
        rw [h2] at hs; rw [h] at hs
        have h3 : (0 : Int) = f := hs
        have := stepR_ne hc h2; omega
      | ok r => exact ⟨hce, hc, r.1, r.2, rfl⟩
    · have : alw e c = 40 := by unfold alw; rw [if_neg hce, if_pos hc]
      rw [this] at h; cases h

end Go.Proofs.YtppeeogffbpcbaaGreat
namespace Go.Proofs.YtppeeogffbpcbaaGreat
open Go Go.RowKit Cp

theorem take_snocM {β γ : Type} {f : β → γ} {l : List β} {k : Nat} {x : β} (h : l[k]? = some x) : (l.take k).map f ++ [f x] = (l.take (k + 1)).map f := by rw [List.take_add_one, h, List.map_append]; rfl

theorem w_R24CopyI {x : Idn} (hx : x.small) : Fun Tryz.prog 80 [agg (rowId x)] (agg (rowId x)) := by
 refine fo Tryz.func80 rfl ⟨rfl, rfl⟩ fun M0 w0 => ?_
 have hch := hx.chain
 refine Tr.seq (Tr.regT (tp rfl (ok_box rfl (VL.le (vl rfl) (agg_cellsP _))) ?_))
 refine TO.alloc rfl rfl (by decide) rfl z27 zo27 (fun b1 => ?_)
 refine ap ?_
 refine ap ?_
 refine TO.alloc rfl rfl (by decide) rfl z27 zo27 (fun b2 => ?_)
 refine ap ?_
 refine ac ?_
 refine wk5 2 3 12 13 14 rfl (Tr.block (Tr.reC 0 [int x.alg, int x.bits, int x.keyId, andIs (.slice none 0 0) (slice 15 ((x.chain.take 0).map rowCr))] rfl ⟨Pr.le_refl _, Pr.le_refl _, Pr.le_refl _, own_nil rfl, trivial⟩ (Tr.addnil 131 15 (Tr.loopV1 [(2, _), (3, _), (12, _), (13, _)] ⟨ke rfl, ke rfl, ke rfl, ke rfl, trivial⟩ (fun k v => [(14, int ((k : Nat) : Int))]) (fun k v => Hp M0 w0 noS ([appRes 131 15 v, cellsRes true b2 27 [int x.alg, int x.bits, int x.keyId, andIs v (slice 15 ((x.chain.take k).map rowCr))], cellsRes true b1 27 (([.int .i64 0, .int .i64 0, .int .i64 0, .slice none 0 0] : List Value).map is)])) (fun k : Nat => k ≤ (x.chain).length) (fun k : Nat => (x.chain).length - k) 0 (.slice none 0 0) (Nat.zero_le _) ⟨ke rfl, trivial⟩ (fun _ _ h => h) ?_))))
 rintro k v hle_k
 refine ac ?_
 refine Tr.seq ?_
 refine Tr.cn rfl ?_ ?_ <;> intro h1 q1
 have hk_k : k < (x.chain).length := lt_of_dec h1
 obtain ⟨c, hx_k⟩ := at_ hk_k
 have hcn := hx.names c (List.mem_of_getElem? hx_k)
 refine ac ?_
 refine Tr.seq (Tr.block (Tr.seq (Tr.regT (tp rfl (ok_indexAddr rfl Tryz.underlying25 sz131 (vl rfl) (vl rfl) (by omega) (by exact row_at (by assumption))) ?_))))
 refine tp rfl (ok_loadA rfl agg131 sz131 (vl rfl) rfl rfl) ?_
 refine TO.alloc rfl rfl (by decide) rfl z131 zo131 (fun b3 => ?_)
 refine ap ?_
 refine ap ?_
 refine tp rfl (ok_appN rfl Tryz.underlying74 sz9 by9 z9 rfl (by decide) (vl rfl) (by simp only [List.length_map]; unfold maxLen; omega) (by simp only [List.length_map]; omega)) ?_
 refine ap ?_
 refine wk6 2 3 5 12 13 14 rfl ?_
 refine ap ?_
 refine TO.efs 1 rfl rfl (by decide) (ef_append rfl rfl (by decide) rfl Tryz.underlying25 sz131 by131 z131 rfl (by decide) ⟨_, rfl, andIs_le _ _⟩ ⟨_, rfl, full_le _ _⟩ (by simp only [List.length_map, List.length_append, List.length_cons, List.length_nil, List.length_take]; unfold maxLen; omega) (by simp only [List.length_map, List.length_append, List.length_cons, List.length_nil, List.length_take]; omega) (appR_is (by exact List.Mem.head _) ⟨_, rfl, andIs_is _ _⟩)) (fun v1 => ?_)
 refine ap ?_
 refine Tr.drop 0 ?_
 refine ac ?_
 refine Fin.reC 1 [int x.alg, int x.bits, int x.keyId, andIs v1 (slice 15 ((x.chain.take (k + 1)).map rowCr))] rfl ⟨Pr.le_refl _, Pr.le_refl _, Pr.le_refl _, own_le (take_snocM (f := rowCr) hx_k), trivial⟩ (Fin.famV1 (k + 1) v1 (⟨hk_k, by omega⟩) ⟨⟨_, rfl, int_succ k⟩, ke rfl, ke rfl, ke rfl, ke rfl, trivial⟩ (fun _ _ h => h))
 have he_k : k = (x.chain).length := by have := ge_of_dec h1; omega
 subst he_k
 refine ac ?_
 refine ap ?_
 refine Tr.ret (Fin.retX1 rfl (RVal.cell 2 rfl rfl agg27 sz27 rfl (Pr.le_refl _)) ?_)
 · exact agg_le ⟨Pr.le_refl _, Pr.le_refl _, Pr.le_refl _, Pr.le_trans (andIs_le _ _) (Pr.le_of_eq (by rw [List.take_length])), trivial⟩
theorem w_R24Copy {e : Ept} (hsm : e.small) : Fun Tryz.prog 96 [agg (rowEp e)] (agg (rowEp e)) := by
 refine fo Tryz.func96 rfl ⟨rfl, rfl⟩ fun M0 w0 => ?_
 have hs1 := hsm.suites
 have hs2 := hsm.anchors
 have hs3 := hsm.hashes
 have hs4 := hsm.idl
 refine Tr.seq (Tr.regT (tp rfl (ok_box rfl (VL.le (vl rfl) (agg_cellsP _))) ?_))
 refine TO.alloc rfl rfl (by decide) rfl z32 zo32 (fun b1 => ?_)
 refine ao ?_
 refine ao ?_
 refine TO.alloc rfl rfl (by decide) rfl z32 zo32 (fun b2 => ?_)
 refine TO.store_all 0 rfl rfl rfl (vl rfl) (VL.le (vl rfl) (agg_cellsP _)) rfl sz32 rfl rfl ?_
 refine ao ?_
 refine Tr.seq (Tr.rx ?_)
 refine ax ?_
 refine xo rfl (fun _ => ok_appN rfl Tryz.underlying22 sz3 by3 z3 rfl (by decide) (vl rfl) (by simp only [List.length_map]; unfold maxLen; omega) (by simp only [List.length_map]; omega)) ?_
 refine ax ?_
 refine xo rfl (fun _ => ok_appN rfl Tryz.underlying22 sz3 by3 z3 rfl (by decide) (vl rfl) (by simp only [List.length_map]; unfold maxLen; omega) (by simp only [List.length_map]; omega)) ?_
 refine ax ?_
 refine xo rfl (fun _ => ok_appN rfl Tryz.underlying22 sz3 by3 z3 rfl (by decide) (vl rfl) (by simp only [List.length_map]; unfold maxLen; omega) (by simp only [List.length_map]; omega)) ?_
 refine xo rfl (fun _ => okp_fieldAddr rfl fo32_3 (vl rfl)) (Cx.ef0 0 rfl rfl (ef_store rfl rfl (vl rfl) (VL.le (vl rfl) (one_cellsP _)) sz22 rfl (by exact Nat.le_of_ble_eq_true rfl) rfl) (xo rfl (fun _ => okp_fieldAddr rfl fo32_6 (vl rfl)) (Cx.ef0 0 rfl rfl (ef_store rfl rfl (vl rfl) (VL.le (vl rfl) (one_cellsP _)) sz22 rfl (by exact Nat.le_of_ble_eq_true rfl) rfl) (xo rfl (fun _ => okp_fieldAddr rfl fo32_7 (vl rfl)) (Cx.ef0 0 rfl rfl (ef_store rfl rfl (vl rfl) (VL.le (vl rfl) (one_cellsP _)) sz22 rfl (by exact Nat.le_of_ble_eq_true rfl) rfl) ?_)))))
 refine Cx.nil ⟨by kernel_rfl, ?_⟩
 refine FinX.done al2 (Fin.go (wk3 1 2 3 rfl ?_))
 refine ao ?_
 refine TO.ef0 0 rfl rfl (ef_store rfl rfl (vl rfl) (VL.le (vl rfl) (one_cellsP _)) sz30 rfl (by exact Nat.le_of_ble_eq_true rfl) rfl) ?_
 refine ao ?_
 refine ac ?_
 refine Tr.block (Tr.reC 0 [str e.name, int e.least, int e.most, ints e.suites, bool e.own, andIs (.slice none 0 0) (slice 4 ((e.ids.take 0).map rowId)), ints e.anchors, ints e.hashes, bool e.fall] rfl ⟨Pr.le_refl _, Pr.le_refl _, Pr.le_refl _, Pr.le_refl _, Pr.le_refl _, own_nil rfl, Pr.le_refl _, Pr.le_refl _, Pr.le_refl _, trivial⟩ (Tr.addnil 27 4 (Tr.loopV1 [(2, _), (3, _), (21, _), (22, _)] ⟨ke rfl, ke rfl, ke rfl, ke rfl, trivial⟩ (fun k v => [(23, int ((k : Nat) : Int))]) (fun k v => Hp M0 w0 noS ([appRes 27 4 v, cellsRes true b2 32 [str e.name, int e.least, int e.most, ints e.suites, bool e.own, andIs v (slice 4 ((e.ids.take k).map rowId)), ints e.anchors, ints e.hashes, bool e.fall], cellsRes true b1 32 (([.string (ByteArray.mk #[]), .int .i64 0, .int .i64 0, .slice none 0 0, .bool false, .slice none 0 0, .slice none 0 0, .slice none 0 0, .bool false] : List Value).map is)])) (fun k : Nat => k ≤ (e.ids).length) (fun k : Nat => (e.ids).length - k) 0 (.slice none 0 0) (Nat.zero_le _) ⟨ke rfl, trivial⟩ (fun _ _ h => h) ?_)))
 rintro k v hle_k
 refine ac ?_
 refine Tr.seq ?_
 refine Tr.cn rfl ?_ ?_ <;> intro h1 q1
 have hk_k : k < (e.ids).length := lt_of_dec h1
 obtain ⟨x, hx_k⟩ := at_ hk_k
 have hxs := hsm.ids x (List.mem_of_getElem? hx_k)
 refine ac ?_
 refine Tr.seq (Tr.block (Tr.seq (Tr.regT (tp rfl (ok_indexAddr rfl Tryz.underlying30 sz27 (vl rfl) (vl rfl) (by omega) (by exact row_at (by assumption))) ?_))))
 refine tp rfl (ok_loadA rfl agg27 sz27 (vl rfl) rfl rfl) ?_
 refine TO.alloc rfl rfl (by decide) rfl z27 zo27 (fun b3 => ?_)
 refine sf 0 5 ⟨rfl, rfl, rfl⟩ rfl rfl rfl rfl ?_
 refine ao ?_
 refine Tr.pad (Tr.rx ?_)
 refine ax ?_
 refine xo rfl (fun _ => kc1 (w_R24CopyI hxs) rfl rfl) (xo rfl (fun _ => ok_buildSlice (xs := [.tmp 30]) (rows := [_]) rfl rfl Tryz.underlying30 sz27 z27 rfl (by decide) ⟨⟨(by exact rfl), (VL.le (vl rfl) (agg_cellsP _))⟩, trivial⟩ (by decide)) ?_)
 refine Cx.ef 1 rfl rfl (by decide) (ef_append rfl rfl (by decide) rfl Tryz.underlying30 sz27 by27 z27 rfl (by decide) ⟨_, rfl, andIs_le _ _⟩ ⟨_, rfl, full_le _ _⟩ (by simp only [List.length_map, List.length_append, List.length_cons, List.length_nil, List.length_take]; unfold maxLen; omega) (by simp only [List.length_map, List.length_append, List.length_cons, List.length_nil, List.length_take]; omega) (appR_is (by exact List.Mem.head _) ⟨_, rfl, andIs_is _ _⟩)) ?_
 refine xo rfl (fun _ => okp_fieldAddr rfl fo32_5 (vl rfl)) (Cx.ef0 2 rfl rfl (ef_storeS rfl rfl rfl (vl rfl) rfl sz30 (by exact Nat.le_of_ble_eq_true rfl)) ?_)
 refine Cx.nil ⟨by kernel_rfl, ?_⟩
 refine FinX.open2 1 2 32 rfl rfl (by decide) rfl (fun v1 => ?_)
 refine FinX.done al4 ?_
 refine ac ?_
 refine Tr.drop 0 (wk5 2 3 21 22 23 rfl ?_)
 refine ac ?_
 refine Fin.reC 1 [str e.name, int e.least, int e.most, ints e.suites, bool e.own, andIs v1 (slice 4 ((e.ids.take (k + 1)).map rowId)), ints e.anchors, ints e.hashes, bool e.fall] rfl ⟨Pr.le_refl _, Pr.le_refl _, Pr.le_refl _, Pr.le_refl _, Pr.le_refl _, own_le (take_snocM (f := rowId) hx_k), Pr.le_refl _, Pr.le_refl _, Pr.le_refl _, trivial⟩ (Fin.famV1 (k + 1) v1 (⟨hk_k, by omega⟩) ⟨⟨_, rfl, int_succ k⟩, ke rfl, ke rfl, ke rfl, ke rfl, trivial⟩ (fun _ _ h => h))
 have he_k : k = (e.ids).length := by have := ge_of_dec h1; omega
 subst he_k
 refine ac ?_
 refine ao ?_
 refine TO.store_all 2 rfl rfl rfl (vl rfl) (VL.le (vl rfl) (agg_cellsP _)) rfl sz32 rfl rfl ?_
 refine ao ?_
 refine Tr.ret (Fin.retX1 rfl (RVal.cell 2 rfl rfl agg32 sz32 rfl (Pr.le_refl _)) ?_)
 · exact agg_le ⟨Pr.le_refl _, Pr.le_refl _, Pr.le_refl _, Pr.le_refl _, Pr.le_refl _, Pr.le_trans (andIs_le _ _) (Pr.le_of_eq (by rw [List.take_length])), Pr.le_refl _, Pr.le_refl _, Pr.le_refl _, trivial⟩
theorem w_R24allowed {e : Ept} {c : Chg} (hsm : e.small) (hcs : c.idn.small) : Fun Tryz.prog 75 [agg (rowEp e), agg (rowChg c)] (int (alw e c)) := by
 refine fo Tryz.func75 rfl ⟨rfl, rfl⟩ fun M0 w0 => ?_
 refine ac ?_
 refine ac ?_
 refine co rfl (kc1 (w_R9Check hsm) rfl rfl) ?_
 refine ac ?_
 refine Tr.cn rfl ?_ ?_ <;> intro h1 q1
 refine ac ?_
 refine ac ?_
 · refine int_eq ?_; unfold alw; repeat (refine (if_pos ?_).symm; simp_all)
 refine ac ?_
 refine ac ?_
 refine co rfl (kc1 (w_R24form (c := c) hcs) rfl rfl) ?_
 refine ac ?_
 refine Tr.cn rfl ?_ ?_ <;> intro h2 q2
 refine ac ?_
 refine ac ?_
 · refine int_eq ?_; unfold alw; repeat (first | (refine (if_pos ?_).symm; omega) | (refine Eq.trans ?_ (if_neg ?_).symm; rotate_left; focus (simp_all; done)))
 refine ac ?_
 refine wk2 2 3 rfl (Tr.cutk [2, 3] [] (¬ (c.kind = 1 ∧ (c.at_ < 0 ∨ (e.suites.length : Int) < c.at_)) ∧ ¬ (c.kind = 5 ∧ (c.at_ < 0 ∨ (e.ids.length : Int) < c.at_)) ∧ ¬ ((c.kind = 11 ∨ c.kind = 12) ∧ (c.number ≠ 0 ∧ c.number ≠ 1))) ?_ (fun hrng => ?_))
 refine ac ?_
 refine ac ?_
 refine Tr.cn rfl ?_ ?_ <;> intro h4 q4
 refine ac ?_
 refine Ch.cs 27 rfl ?_ ?_ <;> intro h5 q5
 refine ac ?_
 refine wk3 2 3 34 rfl ?_
 refine ac ?_
 refine ac ?_
 · refine int_eq ?_; unfold alw; repeat (first | (refine (if_pos ?_).symm; omega) | (refine Eq.trans ?_ (if_neg ?_).symm; rotate_left; focus (simp_all; done)))
 refine ac ?_
 refine wk3 2 3 34 rfl ?_
 refine Tr.cn rfl ?_ ?_ <;> intro h6 q6
 refine ac ?_
 refine ac ?_
 · refine int_eq ?_; unfold alw; repeat (first | (refine (if_pos ?_).symm; omega) | (refine Eq.trans ?_ (if_neg ?_).symm; rotate_left; focus (simp_all; done)))
 refine Tr.skip (Fin.block (Fin.fam_same () (by omega) (kk2 rfl)))
 refine ac ?_
 refine Tr.cn rfl ?_ ?_ <;> intro h7 q7
 refine ac ?_
 refine Ch.cs 40 rfl ?_ ?_ <;> intro h8 q8
 refine ac ?_
 refine wk3 2 3 47 rfl ?_
 refine ac ?_
 refine ac ?_
 · refine int_eq ?_; unfold alw; repeat (first | (refine Eq.trans ?_ (if_neg ?_).symm; rotate_left; focus (omega)) | (refine (if_pos ?_).symm; omega) | (refine Eq.trans ?_ (if_neg ?_).symm; rotate_left; focus (simp_all; done)))
 refine ac ?_
 refine wk3 2 3 47 rfl ?_
 refine Tr.cn rfl ?_ ?_ <;> intro h9 q9
 refine ac ?_
 refine ac ?_
 · refine int_eq ?_; unfold alw; repeat (first | (refine Eq.trans ?_ (if_neg ?_).symm; rotate_left; focus (omega)) | (refine (if_pos ?_).symm; omega) | (refine Eq.trans ?_ (if_neg ?_).symm; rotate_left; focus (simp_all; done)))
 refine Tr.skip (Fin.block (Fin.fam_same () (by omega) (kk2 rfl)))
 refine ac ?_
 refine Tr.cn rfl ?_ ?_ <;> intro h10 q10
 refine ac ?_
 refine Tr.cond rfl (fun _ => ?_) (fun h => nomatch h10.symm.trans h)
 refine ac ?_
 refine Ch.cs 54 rfl ?_ ?_ <;> intro h11 q11
 refine ac ?_
 refine wk3 2 3 58 rfl ?_
 refine Tr.cn rfl ?_ ?_ <;> intro h12 q12
 refine ac ?_
 refine ac ?_
 · refine int_eq ?_; unfold alw; repeat (first | (refine Eq.trans ?_ (if_neg ?_).symm; rotate_left; focus (omega)) | (refine (if_pos ?_).symm; omega) | (refine Eq.trans ?_ (if_neg ?_).symm; rotate_left; focus (simp_all; done)))
 refine Tr.skip (Fin.block (Fin.fam_same () (by omega) (kk2 rfl)))
 refine ac ?_
 refine wk3 2 3 58 rfl (Tr.cond rfl (fun h => nomatch h) (fun _ => ?_))
 refine Tr.skip (Fin.block (Fin.fam_same () (by omega) (kk2 rfl)))
 refine ac ?_
 refine Tr.cn rfl ?_ ?_ <;> intro h13 q13
 refine ac ?_
 refine Ch.cs 54 rfl ?_ ?_ <;> intro h14 q14
 refine ac ?_
 refine wk3 2 3 58 rfl ?_
 refine Tr.cn rfl ?_ ?_ <;> intro h15 q15
 refine ac ?_
 refine ac ?_
 · refine int_eq ?_; unfold alw; repeat (first | (refine Eq.trans ?_ (if_neg ?_).symm; rotate_left; focus (omega)) | (refine (if_pos ?_).symm; omega) | (refine Eq.trans ?_ (if_neg ?_).symm; rotate_left; focus (simp_all; done)))
 refine Tr.skip (Fin.block (Fin.fam_same () (by omega) (kk2 rfl)))
 refine ac ?_
 refine wk3 2 3 58 rfl (Tr.cond rfl (fun h => nomatch h) (fun _ => ?_))
 refine Tr.skip (Fin.block (Fin.fam_same () (by omega) (kk2 rfl)))
 refine Tr.skip (Fin.block (Fin.fam_same () (by omega) (kk2 rfl)))
 refine wk2 2 3 rfl (Tr.cutk [2, 3] [] (¬ ((lstR e c.kind).2.2 = true ∧ decide (0 ≤ idx (fun y => c.number == y) (lstR e c.kind).1) = (lstR e c.kind).2.1)) ?_ (fun hlst => ?_))
 refine ac ?_
 refine co rfl (kc2 (w_R24listed) rfl rfl rfl) ?_
 refine ac ?_
 refine ac ?_
 refine Ch.cs 68 rfl ?_ ?_ <;> intro h17 q17
 refine ac ?_
 refine cy h17 rfl (kc2 (w_R24place) rfl rfl rfl) ?_
 refine ac ?_
 refine wk3 2 3 76 rfl ?_
 refine Tr.cn rfl ?_ ?_ <;> intro h18 q18
 refine ac ?_
 refine ac ?_
 · refine int_eq ?_; unfold alw; repeat (first | (refine Eq.trans ?_ (if_neg ?_).symm; rotate_left; focus (omega)) | (refine Eq.trans ?_ (if_neg ?_).symm; rotate_left; focus (simp_all; done)) | (refine (if_pos ?_).symm; simp_all; done))
 refine Tr.skip (Fin.fam_same () (by simp_all) (kk2 rfl))
 refine ac ?_
 refine wk3 2 3 76 rfl (Tr.cond rfl (fun h => nomatch h) (fun _ => ?_))
 refine Tr.skip (Fin.fam_same () (by simp_all) (kk2 rfl))
 refine wk2 2 3 rfl (Tr.cutk [2, 3] [] (¬ ((valR e c.kind).2 = true ∧ (valR e c.kind).1 = c.number)) ?_ (fun hval => ?_))
 refine ac ?_
 refine co rfl (kc2 (w_R24value) rfl rfl rfl) ?_
 refine ac ?_
 refine ac ?_
 refine Ch.cs 85 rfl ?_ ?_ <;> intro h20 q20
 refine ac ?_
 refine wk3 2 3 90 rfl ?_
 refine Tr.cn rfl ?_ ?_ <;> intro h21 q21
 refine ac ?_
 refine ac ?_
 · refine int_eq ?_; unfold alw; repeat (first | (refine Eq.trans ?_ (if_neg ?_).symm; rotate_left; focus (omega)) | (refine Eq.trans ?_ (if_neg ?_).symm; rotate_left; focus (simp_all; done)) | (refine (if_pos ?_).symm; simp_all; done))
 refine Tr.skip (Fin.fam_same () (by simp_all) (kk2 rfl))
 refine ac ?_
 refine wk3 2 3 90 rfl (Tr.cond rfl (fun h => nomatch h) (fun _ => ?_))
 refine Tr.skip (Fin.fam_same () (by simp_all) (kk2 rfl))
 refine wk2 2 3 rfl (Tr.cutk [2, 3] [] (¬ (c.kind = 5 ∧ 0 < cntK c.idn.keyId e.ids)) ?_ (fun hadd => ?_))
 refine ac ?_
 refine Tr.cn rfl ?_ ?_ <;> intro h23 q23
 refine ac ?_
 refine co rfl (kc2 (w_R24keys hsm.idl) rfl rfl rfl) ?_
 refine ac ?_
 refine wk3 2 3 10 rfl ?_
 refine ac ?_
 refine Tr.cn rfl ?_ ?_ <;> intro h24 q24
 refine ac ?_
 refine ac ?_
 · refine int_eq ?_; unfold alw; repeat (first | (refine Eq.trans ?_ (if_neg ?_).symm; rotate_left; focus (omega)) | (refine (if_pos ?_).symm; omega) | (refine Eq.trans ?_ (if_neg ?_).symm; rotate_left; focus (simp_all; done)))
 refine Tr.skip (Fin.fam_same () (by omega) (kk2 rfl))
 refine Tr.skip (Fin.fam_same () (by omega) (kk2 rfl))
 refine ac ?_
 refine Tr.cn rfl ?_ ?_ <;> intro h25 q25
 refine ac ?_
 refine co rfl (kc2 (w_R24keys hsm.idl) rfl rfl rfl) ?_
 refine ac ?_
 refine wk1 12 rfl ?_
 refine ac ?_
 refine Tr.cn rfl ?_ ?_ <;> intro h26 q26
 refine ac ?_
 refine ac ?_
 · refine int_eq ?_; unfold alw; repeat (first | (refine Eq.trans ?_ (if_neg ?_).symm; rotate_left; focus (omega)) | (refine (if_pos ?_).symm; omega) | (refine Eq.trans ?_ (if_neg ?_).symm; rotate_left; focus (simp_all; done)))
 refine ac ?_
 refine ac ?_
 refine Tr.cn rfl ?_ ?_ <;> intro h27 q27
 refine ac ?_
 refine ac ?_
 · refine int_eq ?_; unfold alw; repeat (first | (refine Eq.trans ?_ (if_neg ?_).symm; rotate_left; focus (omega)) | (refine (if_pos ?_).symm; omega) | (refine Eq.trans ?_ (if_neg ?_).symm; rotate_left; focus (simp_all; done)))
 refine ac ?_
 refine ac ?_
 refine ac ?_
 · refine int_eq ?_; unfold alw; repeat (first | rfl | (refine Eq.trans ?_ (if_neg ?_).symm; rotate_left; focus (omega)) | (refine Eq.trans ?_ (if_neg ?_).symm; rotate_left; focus (simp_all; done)))
 refine ac ?_
 refine ac ?_
 refine ac ?_
 · refine int_eq ?_; unfold alw; repeat (first | rfl | (refine Eq.trans ?_ (if_neg ?_).symm; rotate_left; focus (omega)) | (refine Eq.trans ?_ (if_neg ?_).symm; rotate_left; focus (simp_all; done)))
end Go.Proofs.YtppeeogffbpcbaaGreat
namespace Go.Proofs.YtppeeogffbpcbaaGreat
open Go Go.RowKit Cp
theorem ok_1 {e e2 : Ept} {c b : Chg} (h : c.kind = 1) (hs : stepR e c = .ok (e2, b)) : (0 ≤ c.at_ ∧ c.at_ ≤ (e.suites.length : Nat)) ∧ e2 = { e with suites := e.suites.take c.at_.toNat ++ [c.number] ++ e.suites.drop c.at_.toNat } ∧ b = ⟨c.endpoint, 2, c.number, 0, zeroId⟩ := by
  rw [stepR_1 h] at hs
  (repeat' (split at hs)) <;> first | (cases hs; done) | (injection hs with hs; injection hs with h1 h2; exact ⟨by omega, h1.symm, h2.symm⟩)
theorem ok_2 {e e2 : Ept} {c b : Chg} (h : c.kind = 2) (hs : stepR e c = .ok (e2, b)) : (0 ≤ sIdx e c) ∧ e2 = { e with suites := e.suites.eraseIdx (sIdx e c).toNat } ∧ b = ⟨c.endpoint, 1, c.number, sIdx e c, zeroId⟩ := by
  rw [stepR_2 h] at hs
  (repeat' (split at hs)) <;> first | (cases hs; done) | (injection hs with hs; injection hs with h1 h2; exact ⟨by omega, h1.symm, h2.symm⟩)
theorem ok_3 {e e2 : Ept} {c b : Chg} (h : c.kind = 3) (hs : stepR e c = .ok (e2, b)) : e2 = { e with most := c.number } ∧ b = ⟨c.endpoint, c.kind, e.most, 0, zeroId⟩ := by
  rw [stepR_3 h] at hs
  (repeat' (split at hs)) <;> first | (cases hs; done) | (injection hs with hs; injection hs with h1 h2; exact ⟨h1.symm, h2.symm⟩)
theorem ok_4 {e e2 : Ept} {c b : Chg} (h : c.kind = 4) (hs : stepR e c = .ok (e2, b)) : e2 = { e with least := c.number } ∧ b = ⟨c.endpoint, c.kind, e.least, 0, zeroId⟩ := by
  rw [stepR_4 h] at hs
  (repeat' (split at hs)) <;> first | (cases hs; done) | (injection hs with hs; injection hs with h1 h2; exact ⟨h1.symm, h2.symm⟩)
theorem ok_5 {e e2 : Ept} {c b : Chg} (h : c.kind = 5) (hs : stepR e c = .ok (e2, b)) : (0 ≤ c.at_ ∧ c.at_ ≤ (e.ids.length : Nat)) ∧ e2 = { e with ids := e.ids.take c.at_.toNat ++ [c.idn] ++ e.ids.drop c.at_.toNat } ∧ b = ⟨c.endpoint, 6, c.idn.keyId, 0, zeroId⟩ := by
  rw [stepR_5 h] at hs
  (repeat' (split at hs)) <;> first | (cases hs; done) | (injection hs with hs; injection hs with h1 h2; exact ⟨by omega, h1.symm, h2.symm⟩)
theorem ok_6 {e e2 : Ept} {c b : Chg} (h : c.kind = 6) (hs : stepR e c = .ok (e2, b)) : ∃ x, e.ids[(keyIdx c.number e.ids).toNat]? = some x ∧ 0 ≤ keyIdx c.number e.ids ∧ e2 = { e with ids := e.ids.eraseIdx (keyIdx c.number e.ids).toNat } ∧ b = ⟨c.endpoint, 5, 0, keyIdx c.number e.ids, x⟩ := by
  rw [stepR_6 h] at hs
  (repeat' (split at hs)) <;> first | (cases hs; done) | (injection hs with hs; injection hs with h1 h2; exact ⟨_, by assumption, by omega, h1.symm, h2.symm⟩)
theorem ok_7 {e e2 : Ept} {c b : Chg} (h : c.kind = 7) (hs : stepR e c = .ok (e2, b)) : hasX e.anchors c.number = false ∧ e2 = { e with anchors := insX e.anchors c.number } ∧ b = ⟨c.endpoint, 8, c.number, 0, zeroId⟩ := by
  rw [stepR_7 h] at hs
  (repeat' (split at hs)) <;> first | (cases hs; done) | (injection hs with hs; injection hs with h1 h2; exact ⟨by simp_all, h1.symm, h2.symm⟩)
theorem ok_8 {e e2 : Ept} {c b : Chg} (h : c.kind = 8) (hs : stepR e c = .ok (e2, b)) : hasX e.anchors c.number = true ∧ e2 = { e with anchors := e.anchors.eraseIdx (posI e.anchors c.number) } ∧ b = ⟨c.endpoint, 7, c.number, 0, zeroId⟩ := by
  rw [stepR_8 h] at hs
  (repeat' (split at hs)) <;> first | (cases hs; done) | (injection hs with hs; injection hs with h1 h2; exact ⟨by simp_all, h1.symm, h2.symm⟩)
theorem ok_9 {e e2 : Ept} {c b : Chg} (h : c.kind = 9) (hs : stepR e c = .ok (e2, b)) : hasX e.hashes c.number = false ∧ e2 = { e with hashes := insX e.hashes c.number } ∧ b = ⟨c.endpoint, 10, c.number, 0, zeroId⟩ := by
  rw [stepR_9 h] at hs
  (repeat' (split at hs)) <;> first | (cases hs; done) | (injection hs with hs; injection hs with h1 h2; exact ⟨by simp_all, h1.symm, h2.symm⟩)
theorem ok_10 {e e2 : Ept} {c b : Chg} (h : c.kind = 10) (hs : stepR e c = .ok (e2, b)) : hasX e.hashes c.number = true ∧ e2 = { e with hashes := e.hashes.eraseIdx (posI e.hashes c.number) } ∧ b = ⟨c.endpoint, 9, c.number, 0, zeroId⟩ := by
  rw [stepR_10 h] at hs
  (repeat' (split at hs)) <;> first | (cases hs; done) | (injection hs with hs; injection hs with h1 h2; exact ⟨by simp_all, h1.symm, h2.symm⟩)
theorem ok_11 {e e2 : Ept} {c b : Chg} (h : c.kind = 11) (hs : stepR e c = .ok (e2, b)) : e2 = { e with fall := (c.number == 1) } ∧ b = ⟨c.endpoint, c.kind, bitI e.fall, 0, zeroId⟩ := by
  rw [stepR_11 h] at hs
  (repeat' (split at hs)) <;> first | (cases hs; done) | (injection hs with hs; injection hs with h1 h2; exact ⟨h1.symm, h2.symm⟩)
theorem ok_12 {e e2 : Ept} {c b : Chg} (h : c.kind = 12) (hs : stepR e c = .ok (e2, b)) : e2 = { e with own := (c.number == 1) } ∧ b = ⟨c.endpoint, c.kind, bitI e.own, 0, zeroId⟩ := by
  rw [stepR_12 h] at hs
  (repeat' (split at hs)) <;> first | (cases hs; done) | (injection hs with hs; injection hs with h1 h2; exact ⟨h1.symm, h2.symm⟩)

theorem sIdx_lt {e : Ept} {c : Chg} (h : 0 ≤ sIdx e c) : (sIdx e c).toNat < e.suites.length := by obtain ⟨_, _, _, h3⟩ := idx_hit (p := fun y => c.number == y) (l := e.suites) h; exact h3
theorem w_R24made {e e2 : Ept} {c b : Chg} (hsm : e.small) (hcs : c.idn.small) (hce : eptB e = true) (hc : okCh c) (hs : stepR e c = .ok (e2, b)) : Fun Tryz.prog 76 [agg (rowEp e), agg (rowChg c)] (agg (rowEp e2)) := by
 refine fo Tryz.func76 rfl ⟨rfl, rfl⟩ fun M0 w0 => ?_
 have hk := hc.1
 have ok := eptB_iff.1 hce
 have hs1 := hsm.suites
 have hs2 := hsm.anchors
 have hs3 := hsm.hashes
 have hs4 := hsm.idl
 refine Tr.seq (Tr.regT (tp rfl (ok_box rfl (VL.le (vl rfl) (agg_cellsP _))) (tp rfl (ok_box rfl (VL.le (vl rfl) (agg_cellsP _))) ?_)))
 refine TO.alloc rfl rfl (by decide) rfl z32 zo32 (fun b1 => ?_)
 refine ap ?_
 refine ap ?_
 refine tp rfl (kc1 (w_R24Copy hsm) rfl rfl) ?_
 refine TO.alloc rfl rfl (by decide) rfl z32 zo32 (fun b2 => ?_)
 refine ap ?_
 refine ac ?_
 refine ac ?_
 refine Tr.cn rfl ?_ ?_ <;> intro h1 q1
 obtain ⟨hr, rfl, rfl⟩ := ok_1 q1 hs
 refine ap ?_
 refine tp rfl (ok_call rfl (w_R24with (l := e.suites) (i := c.at_.toNat) (by omega) hs1) ⟨ke rfl, ⟨_, rfl, int_eq (by omega)⟩, ke rfl, trivial⟩) ?_
 refine ap ?_
 refine wk2 4 5 rfl ?_
 refine ap ?_
 refine Tr.drop 0 (Tr.ret (Fin.retX1 rfl (RVal.cell 0 rfl rfl agg32 sz32 rfl (Pr.le_refl _)) ?_))
 · exact Pr.le_refl _
 refine ac ?_
 refine wk6 2 3 4 5 13 24 rfl ?_
 refine Tr.cn rfl ?_ ?_ <;> intro h2 q2
 obtain ⟨hr, rfl, rfl⟩ := ok_2 q2 hs
 refine Tr.rx ?_
 refine ay ?_
 refine xo rfl (fun _ => kc2 (w_R24place) rfl rfl rfl) ?_
 refine xo rfl (fun _ => ok_call rfl (w_R24without (l := e.suites) (i := (sIdx e c).toNat) (sIdx_lt hr) hs1) ⟨ke rfl, ⟨_, rfl, int_eq (show sIdx e c = _ by omega)⟩, trivial⟩) ?_
 refine ay ?_
 refine Cx.nil ⟨by kernel_rfl, ?_⟩
 refine FinX.done al2 ?_
 refine ac ?_
 refine wk2 4 5 rfl ?_
 refine ap ?_
 refine Tr.drop 0 (Tr.ret (Fin.retX1 rfl (RVal.cell 0 rfl rfl agg32 sz32 rfl (Pr.le_refl _)) ?_))
 · exact Pr.le_refl _
 refine ac ?_
 refine Tr.cn rfl ?_ ?_ <;> intro h3 q3
 obtain ⟨rfl, rfl⟩ := ok_3 q3 hs
 refine ap ?_
 refine ap ?_
 refine Tr.drop 0 (Tr.ret (Fin.retX1 rfl (RVal.cell 0 rfl rfl agg32 sz32 rfl (Pr.le_refl _)) ?_))
 · exact Pr.le_refl _
 refine ac ?_
 refine Tr.cn rfl ?_ ?_ <;> intro h4 q4
 obtain ⟨rfl, rfl⟩ := ok_4 q4 hs
 refine ap ?_
 refine ap ?_
 refine Tr.drop 0 (wk1 4 rfl (Tr.ret (Fin.retX1 rfl (RVal.cell 0 rfl rfl agg32 sz32 rfl (Pr.le_refl _)) ?_)))
 · exact Pr.le_refl _
 refine ac ?_
 refine Tr.cn rfl ?_ ?_ <;> intro h5 q5
 obtain ⟨hr, rfl, rfl⟩ := ok_5 q5 hs
 refine ap ?_
 refine tp rfl (ok_sliceTo rfl Tryz.underlying30 sz27 (vl rfl) (vl rfl) (by omega) (by simp; omega)) ?_
 refine TO.pad ?_
 refine TO.efs 0 rfl rfl (by decide) (ef_append rfl rfl (by decide) rfl Tryz.underlying30 sz27 by27 z27 rfl (by decide) ⟨_, rfl, nil_slice _⟩ (vl rfl) (by simp only [List.length_map, List.length_append, List.length_cons, List.length_nil, List.length_take, List.length_drop]; unfold maxLen; omega) (by simp only [List.length_map, List.length_append, List.length_cons, List.length_nil, List.length_take, List.length_drop]; omega) (appR_full (by exact List.Mem.head _) ⟨_, rfl, nil_full 1⟩)) (fun v1 => ?_)
 refine ap ?_
 refine wk4 3 4 5 6 rfl ?_
 refine ap ?_
 refine tp rfl (kc1 (w_R24CopyI hcs) rfl rfl) (tp rfl (ok_buildSlice (xs := [.tmp 56]) (rows := [_]) rfl rfl Tryz.underlying30 sz27 z27 rfl (by decide) ⟨⟨(by exact rfl), (VL.le (vl rfl) (agg_cellsP _))⟩, trivial⟩ (by decide)) ?_)
 refine TO.efs 0 rfl rfl (by decide) (ef_append rfl rfl (by decide) rfl Tryz.underlying30 sz27 by27 z27 rfl (by decide) ⟨_, rfl, andIs_le _ _⟩ ⟨_, rfl, full_le _ _⟩ (by simp only [List.length_map, List.length_append, List.length_cons, List.length_nil, List.length_take, List.length_drop]; unfold maxLen; omega) (by simp only [List.length_map, List.length_append, List.length_cons, List.length_nil, List.length_take, List.length_drop]; omega) (appR_is (by exact List.Mem.head _) ⟨_, rfl, andIs_is _ _⟩)) (fun v2 => ?_)
 refine ap ?_
 refine ap ?_
 refine tp rfl (ok_sliceFrom rfl Tryz.underlying30 sz27 (vl rfl) (vl rfl) (by omega) (by simp; omega)) ?_
 refine TO.efs 0 rfl rfl (by decide) (ef_append rfl rfl (by decide) rfl Tryz.underlying30 sz27 by27 z27 rfl (by decide) ⟨_, rfl, andIs_le _ _⟩ (vl rfl) (by simp only [List.length_map, List.length_append, List.length_cons, List.length_nil, List.length_take, List.length_drop]; unfold maxLen; omega) (by simp only [List.length_map, List.length_append, List.length_cons, List.length_nil, List.length_take, List.length_drop]; omega) (appR_is (by exact List.Mem.head _) ⟨_, rfl, andIs_is _ _⟩)) (fun v3 => ?_)
 refine ap ?_
 refine wk2 4 5 rfl ?_
 refine ap ?_
 refine Tr.drop 1 (Tr.ret (Fin.retX1 rfl (RVal.cell 1 rfl rfl agg32 sz32 rfl (Pr.le_refl _)) ?_))
 · exact agg_le ⟨Pr.le_refl _, Pr.le_refl _, Pr.le_refl _, Pr.le_refl _, Pr.le_refl _, Pr.le_trans (andIs_le _ _) (Pr.le_of_eq (by show _ = slice 4 ((e.ids.take c.at_.toNat ++ [c.idn] ++ e.ids.drop c.at_.toNat).map rowId); simp [List.map_take, List.map_drop])), Pr.le_refl _, Pr.le_refl _, Pr.le_refl _, trivial⟩
 refine ac ?_
 refine wk6 2 3 4 5 13 67 rfl ?_
 refine Tr.cn rfl ?_ ?_ <;> intro h6 q6
 obtain ⟨x_, hx_, hr, rfl, rfl⟩ := ok_6 q6 hs
 have hlt := lt_of_at hx_
 refine ac ?_
 refine co rfl (kc2 (w_R24keys hs4) rfl rfl rfl) ?_
 refine ac ?_
 refine wk3 4 5 8 rfl ?_
 refine ap ?_
 refine tp rfl (ok_sliceTo rfl Tryz.underlying30 sz27 (vl rfl) (vl rfl) (by omega) (by simp; omega)) ?_
 refine TO.pad ?_
 refine TO.efs 0 rfl rfl (by decide) (ef_append rfl rfl (by decide) rfl Tryz.underlying30 sz27 by27 z27 rfl (by decide) ⟨_, rfl, nil_slice _⟩ (vl rfl) (by simp only [List.length_map, List.length_append, List.length_cons, List.length_nil, List.length_take, List.length_drop]; unfold maxLen; omega) (by simp only [List.length_map, List.length_append, List.length_cons, List.length_nil, List.length_take, List.length_drop]; omega) (appR_full (by exact List.Mem.head _) ⟨_, rfl, nil_full 1⟩)) (fun v4 => ?_)
 refine ap ?_
 refine ap ?_
 refine tp rfl (ok_sliceFrom rfl Tryz.underlying30 sz27 (vl rfl) (vl rfl) (by omega) (by simp; omega)) ?_
 refine TO.efs 0 rfl rfl (by decide) (ef_append rfl rfl (by decide) rfl Tryz.underlying30 sz27 by27 z27 rfl (by decide) ⟨_, rfl, andIs_le _ _⟩ (vl rfl) (by simp only [List.length_map, List.length_append, List.length_cons, List.length_nil, List.length_take, List.length_drop]; unfold maxLen; omega) (by simp only [List.length_map, List.length_append, List.length_cons, List.length_nil, List.length_take, List.length_drop]; omega) (appR_is (by exact List.Mem.head _) ⟨_, rfl, andIs_is _ _⟩)) (fun v5 => ?_)
 refine ap ?_
 refine wk2 4 5 rfl ?_
 refine ap ?_
 refine Tr.drop 1 (Tr.ret (Fin.retX1 rfl (RVal.cell 1 rfl rfl agg32 sz32 rfl (Pr.le_refl _)) ?_))
 · exact agg_le ⟨Pr.le_refl _, Pr.le_refl _, Pr.le_refl _, Pr.le_refl _, Pr.le_refl _, Pr.le_trans (andIs_le _ _) (Pr.le_of_eq (by show _ = slice 4 ((e.ids.eraseIdx (keyIdx c.number e.ids).toNat).map rowId); rw [List.eraseIdx_eq_take_drop_succ, show (keyIdx c.number e.ids + 1).toNat = (keyIdx c.number e.ids).toNat + 1 by omega]; simp [List.map_take, List.map_drop])), Pr.le_refl _, Pr.le_refl _, Pr.le_refl _, trivial⟩
 refine ac ?_
 refine Tr.cn rfl ?_ ?_ <;> intro h7 q7
 obtain ⟨hr, rfl, rfl⟩ := ok_7 q7 hs
 refine ap ?_
 refine tp rfl (kc2 (w_R24sorted hs2) rfl rfl rfl) ?_
 refine ap ?_
 refine wk2 4 5 rfl ?_
 refine ap ?_
 refine Tr.drop 0 (Tr.ret (Fin.retX1 rfl (RVal.cell 0 rfl rfl agg32 sz32 rfl (Pr.le_refl _)) ?_))
 · exact Pr.le_refl _
 refine ac ?_
 refine Tr.cn rfl ?_ ?_ <;> intro h8 q8
 obtain ⟨hr, rfl, rfl⟩ := ok_8 q8 hs
 refine Tr.rx ?_
 refine ay ?_
 refine xo rfl (fun _ => kc2 (w_R24place) rfl rfl rfl) ?_
 refine xo rfl (fun _ => ok_call rfl (w_R24without (l := e.anchors) (i := posI e.anchors c.number) (hasX_lt hr) hs2) ⟨ke rfl, ⟨_, rfl, int_eq (by rw [idx_has (ascI_of ok.anc), if_pos hr])⟩, trivial⟩) ?_
 refine ay ?_
 refine Cx.nil ⟨by kernel_rfl, ?_⟩
 refine FinX.done al2 ?_
 refine ac ?_
 refine wk2 4 5 rfl ?_
 refine ap ?_
 refine Tr.drop 0 (Tr.ret (Fin.retX1 rfl (RVal.cell 0 rfl rfl agg32 sz32 rfl (Pr.le_refl _)) ?_))
 · exact Pr.le_refl _
 refine ac ?_
 refine Tr.cn rfl ?_ ?_ <;> intro h9 q9
 obtain ⟨hr, rfl, rfl⟩ := ok_9 q9 hs
 refine ap ?_
 refine tp rfl (kc2 (w_R24sorted hs3) rfl rfl rfl) ?_
 refine ap ?_
 refine wk2 4 5 rfl ?_
 refine ap ?_
 refine Tr.drop 0 (Tr.ret (Fin.retX1 rfl (RVal.cell 0 rfl rfl agg32 sz32 rfl (Pr.le_refl _)) ?_))
 · exact Pr.le_refl _
 refine ac ?_
 refine wk6 2 3 4 5 13 116 rfl ?_
 refine Tr.cn rfl ?_ ?_ <;> intro h10 q10
 obtain ⟨hr, rfl, rfl⟩ := ok_10 q10 hs
 refine Tr.rx ?_
 refine ay ?_
 refine xo rfl (fun _ => kc2 (w_R24place) rfl rfl rfl) ?_
 refine xo rfl (fun _ => ok_call rfl (w_R24without (l := e.hashes) (i := posI e.hashes c.number) (hasX_lt hr) hs3) ⟨ke rfl, ⟨_, rfl, int_eq (by rw [idx_has (ascI_of ok.hash), if_pos hr])⟩, trivial⟩) ?_
 refine ay ?_
 refine Cx.nil ⟨by kernel_rfl, ?_⟩
 refine FinX.done al2 ?_
 refine ac ?_
 refine wk2 4 5 rfl ?_
 refine ap ?_
 refine Tr.drop 0 (Tr.ret (Fin.retX1 rfl (RVal.cell 0 rfl rfl agg32 sz32 rfl (Pr.le_refl _)) ?_))
 · exact Pr.le_refl _
 refine ac ?_
 refine Tr.cn rfl ?_ ?_ <;> intro h11 q11
 obtain ⟨rfl, rfl⟩ := ok_11 q11 hs
 refine ap ?_
 refine ap ?_
 refine Tr.drop 0 (Tr.ret (Fin.retX1 rfl (RVal.cell 0 rfl rfl agg32 sz32 rfl (Pr.le_refl _)) ?_))
 · exact Pr.le_refl _
 refine ac ?_
 refine Tr.cn rfl ?_ ?_ <;> intro h12 q12
 obtain ⟨rfl, rfl⟩ := ok_12 q12 hs
 refine ap ?_
 refine wk2 4 5 rfl ?_
 refine ap ?_
 refine Tr.drop 0 (Tr.ret (Fin.retX1 rfl (RVal.cell 0 rfl rfl agg32 sz32 rfl (Pr.le_refl _)) ?_))
 · exact Pr.le_refl _
 exfalso; omega
theorem w_R24Apply {e : Ept} {c : Chg} {n : Nat} (hz : e.sz n) (hn : n ≤ 900000) (hi : c.idn.fits ∧ c.idn.small) : Fun Tryz.prog 19 [agg (rowEp e), agg (rowChg c)] (tup [agg (rowEp (doneR e c).1), int (doneR e c).2.2]) := by
 refine fo Tryz.func19 rfl ⟨rfl, rfl⟩ fun M0 w0 => ?_
 have hsm := hz.small (by omega)
 have hcs := hi.2
 refine Tr.seq (Tr.regT (tp rfl (ok_box rfl (VL.le (vl rfl) (agg_cellsP _))) (tp rfl (ok_box rfl (VL.le (vl rfl) (agg_cellsP _))) ?_)))
 refine TO.alloc rfl rfl (by decide) rfl z32 zo32 (fun b1 => ?_)
 refine ao ?_
 refine ac ?_
 refine co rfl (kc2 (w_R24allowed hsm hcs) rfl rfl rfl) ?_
 refine ac ?_
 refine ac ?_
 refine Tr.cn rfl ?_ ?_ <;> intro h1 q1
 have hb := alw_bad q1
 refine ao ?_
 refine TO.store_all 0 rfl rfl rfl (vl rfl) (VL.le (vl rfl) (agg_cellsP _)) rfl sz32 rfl rfl ?_
 refine ao ?_
 refine wk2 4 5 rfl (Tr.ret (Fin.then_ret (Fin.retX2 rfl (RVal.cell 0 rfl rfl agg32 sz32 rfl (Pr.le_refl _)) (RVal.tmp rfl (Pr.le_refl _)) ?_)))
 refine tup_le ⟨?_, ?_, trivial⟩
 · rw [hb]; exact agg_le ⟨Pr.le_refl _, Pr.le_refl _, Pr.le_refl _, nil_slice 1, Pr.le_refl _, nil_slice 4, nil_slice 1, nil_slice 1, Pr.le_refl _, trivial⟩
 · exact int_eq (by rw [hb])
 obtain ⟨hce, hc, e2, b, hs⟩ := alw_ok (e := e) (c := c) (by have := q1; omega)
 have hsm2 := (sz_step hc hs hz hi).1.small (by omega)
 refine ac ?_
 refine ao ?_
 refine tp rfl (kc2 (w_R24made hsm hcs hce hc hs) rfl rfl rfl) ?_
 refine TO.alloc rfl rfl (by decide) rfl z32 zo32 (fun b2 => ?_)
 refine sf 0 7 ⟨rfl, rfl, rfl⟩ rfl rfl rfl rfl ?_
 refine ao ?_
 refine wk2 4 7 rfl ?_
 refine ac ?_
 refine co rfl (kc1 (w_R9Check hsm2) rfl rfl) ?_
 refine ac ?_
 refine Tr.cn rfl ?_ ?_ <;> intro h2 q2
 have hb := doneR_v hce hc hs (by have := q2; cases h_ : eptB e2 <;> simp_all)
 refine ao ?_
 refine TO.store_all 0 rfl rfl rfl (vl rfl) (VL.le (vl rfl) (agg_cellsP _)) rfl sz32 rfl rfl ?_
 refine ao ?_
 refine Tr.ret (Fin.then_ret (Fin.retX2 rfl (RVal.cell 0 rfl rfl agg32 sz32 rfl (Pr.le_refl _)) (RVal.tmp rfl (Pr.le_refl _)) ?_))
 refine tup_le ⟨?_, ?_, trivial⟩
 · rw [hb]; exact agg_le ⟨Pr.le_refl _, Pr.le_refl _, Pr.le_refl _, nil_slice 1, Pr.le_refl _, nil_slice 4, nil_slice 1, nil_slice 1, Pr.le_refl _, trivial⟩
 · exact int_eq (by rw [hb])
 have hb := doneR_ok hce hc hs (by have := q2; cases h_ : eptB e2 <;> simp_all)
 refine ac ?_
 refine ao ?_
 refine TO.store_all 0 rfl rfl rfl (vl rfl) (VL.le (vl rfl) (agg_cellsP _)) rfl sz32 rfl rfl ?_
 refine ao ?_
 refine Tr.ret (Fin.retX2 rfl (RVal.cell 0 rfl rfl agg32 sz32 rfl (Pr.le_refl _)) (RVal.tmp rfl (Pr.le_refl _)) ?_)
 refine tup_le ⟨?_, ?_, trivial⟩
 · rw [hb]; exact Pr.le_refl _
 · exact int_eq (by rw [hb])
theorem w_R24Check {e : Ept} {c : Chg} {n : Nat} (hz : e.sz n) (hn : n ≤ 900000) (hi : c.idn.fits ∧ c.idn.small) : Fun Tryz.prog 46 [agg (rowEp e), agg (rowChg c)] (int (doneR e c).2.2) := by
 refine fo Tryz.func46 rfl ⟨rfl, rfl⟩ fun M0 w0 => ?_
 refine ac ?_
 refine ao ?_
 refine tp rfl (kc2 (w_R24Apply hz hn hi) rfl rfl rfl) ?_
 refine ao ?_
 refine TO.alloc rfl rfl (by decide) rfl z32 zo32 (fun b1 => ?_)
 refine sf 0 5 ⟨rfl, rfl, rfl⟩ rfl rfl rfl rfl ?_
 refine ao ?_
 refine ac ?_
 refine wk1 4 rfl ?_
 refine ac ?_
 · exact Pr.le_refl _
theorem w_R24Widens {e : Ept} {c : Chg} {n : Nat} (hz : e.sz n) (hn : n ≤ 900000) (hi : c.idn.fits ∧ c.idn.small) : Fun Tryz.prog 26 [agg (rowEp e), agg (rowChg c)] (bool (widensB e c)) := by
 refine fo Tryz.func26 rfl ⟨rfl, rfl⟩ fun M0 w0 => ?_
 refine ac ?_
 refine ac ?_
 refine co rfl (kc2 (w_R24Check hz hn hi) rfl rfl rfl) ?_
 refine ac ?_
 refine Tr.cn rfl ?_ ?_ <;> intro h1 q1
 refine ac ?_
 refine ac ?_
 · refine bool_eq ?_; unfold widensB; simp_all
 refine ac ?_
 refine ac ?_
 refine ac ?_
 refine Tr.cn rfl ?_ ?_ <;> intro h2 q2
 refine ac ?_
 refine Tr.cond rfl (fun _ => ?_) (fun h => nomatch h2.symm.trans h)
 refine ac ?_
 refine ac ?_
 · refine bool_eq ?_; unfold widensB; simp_all
 refine ac ?_
 refine Tr.cn rfl ?_ ?_ <;> intro h3 q3
 refine ac ?_
 refine Tr.cond rfl (fun _ => ?_) (fun h => nomatch h3.symm.trans h)
 refine ac ?_
 refine wk1 4 rfl ?_
 refine ac ?_
 · refine bool_eq ?_; unfold widensB; simp_all
 refine ac ?_
 refine wk4 2 3 10 11 rfl ?_
 refine Tr.cn rfl ?_ ?_ <;> intro h4 q4
 refine ac ?_
 refine Tr.cond rfl (fun _ => ?_) (fun h => nomatch h4.symm.trans h)
 refine ac ?_
 refine ac ?_
 · refine bool_eq ?_; unfold widensB; simp_all
 refine ac ?_
 refine Tr.cn rfl ?_ ?_ <;> intro h5 q5
 refine ac ?_
 refine ac ?_
 · refine bool_eq ?_; unfold widensB; simp_all
 refine ac ?_
 refine Tr.cn rfl ?_ ?_ <;> intro h6 q6
 refine ac ?_
 refine wk1 4 rfl ?_
 refine ac ?_
 · refine bool_eq ?_; unfold widensB; simp_all
 refine ac ?_
 refine Tr.cn rfl ?_ ?_ <;> intro h7 q7
 refine ac ?_
 refine wk1 4 rfl ?_
 refine ac ?_
 · refine bool_eq ?_; unfold widensB; simp_all
 refine ac ?_
 refine Tr.cn rfl ?_ ?_ <;> intro h8 q8
 refine ac ?_
 refine wk1 4 rfl ?_
 refine ac ?_
 · refine bool_eq ?_; unfold widensB; simp_all
 refine ac ?_
 refine ac ?_
 refine ac ?_
 · refine bool_eq ?_; unfold widensB; simp_all
end Go.Proofs.YtppeeogffbpcbaaGreat
namespace Go.Proofs.YtppeeogffbpcbaaGreat
open Go Go.RowKit Cp

abbrev crtM (iss su : List UInt8) (a c id sg : Int) (au : Bool) (sr h fr to_ pa : Int) (nm : List (List UInt8)) (key s : Int) : Crt := ⟨sr, iss, su, a, c, id, h, 0, fr, to_, au, pa, nm, key, s⟩
abbrev crtE : Pr := Cp.ex fun c : Crt => fact (validB c = true) (agg (rowCr c))
/-- What may be drawn for a certificate. -/
structure MkH (iss su : List UInt8) (a c id sg : Int) : Prop where
  iss : named iss = true
  su : namesB [su, su ++ [120]] = true
  key : ofB a c 2 = true
  a : 0 ≤ a ∧ a ≤ 40000
  c : 0 ≤ c ∧ c ≤ 40000
  id : 0 ≤ id ∧ id ≤ 40000
  sg : 0 ≤ sg ∧ sg ≤ 40000
theorem nmsB_two {su t : List UInt8} (h : namesB [su, t] = true) : named su = true ∧ namesB [su] = true := by
  unfold namesB at h
  rw [Bool.and_eq_true] at h
  have h0 := allI_iff.1 h.1 0 (by simp)
  have h1 : named su = true := by unfold nameAt at h0; simp at h0; exact h0
  refine ⟨h1, ?_⟩
  unfold namesB; rw [Bool.and_eq_true]
  refine ⟨allI_iff.2 fun j hj => ?_, by simp⟩
  have : j = 0 := by simp at hj; omega
  subst this; unfold nameAt; simp [h1]
theorem mhash_ok {h : Int} (hh : h ∈ [3, 2, 4, 1]) : ofB h 0 1 = true ∧ 0 ≤ h ∧ h ≤ 40000 := by
  simp at hh; rcases hh with rfl | rfl | rfl | rfl <;> exact ⟨by decide +kernel, by omega, by omega⟩
theorem mk_valid {iss su : List UInt8} {a c id sg : Int} (hm : MkH iss su a c id sg) {au : Bool} {sr h fr to_ pa key s : Int} {nm : List (List UInt8)} (hsr : 0 ≤ sr ∧ sr < 1000) (hh : h ∈ [3, 2, 4, 1]) (hfr : fr ∈ [0, 5, 10]) (hto : to_ ∈ [1000, 100, 50, 20]) (hpa : 0 ≤ pa ∧ pa ≤ 3) (hau : au = true ∨ pa = 0) (hnm : nm = [su] ∨ nm = [su, su ++ [120]]) (hk : 0 ≤ key ∧ key ≤ 2147483648) (hs : 0 ≤ s ∧ s < 4294967296) :
    validB (crtM iss su a c id sg au sr h fr to_ pa nm key s) = true := by
  have h1 := nmsB_two hm.su
  have hi := hm.id
  simp at hfr hto
  refine of_vf ⟨hsr.1, by show sr ≤ _; omega, hm.iss, h1.1, ?_, hm.key, hi.1, by show id ≤ _; omega, (mhash_ok hh).1, hk.1, hk.2, hs.1, hs.2, by show 0 ≤ fr; omega, by show fr ≤ to_; omega, by show to_ ≤ _; omega, hpa.1, by show pa ≤ _; omega, hau⟩
  rcases hnm with rfl | rfl
  · exact h1.2
  · exact hm.su
theorem mk_tiny {iss su : List UInt8} {a c id sg : Int} (hm : MkH iss su a c id sg) {au : Bool} {sr h fr to_ pa key s : Int} {nm : List (List UInt8)} (hsr : 0 ≤ sr ∧ sr < 1000) (hh : h ∈ [3, 2, 4, 1]) : (crtM iss su a c id sg au sr h fr to_ pa nm key s).tiny :=
  ⟨by show sr ≤ _; omega, hm.id.2, hm.a, hm.c, (mhash_ok hh).2, by show (0 : Int) ≤ 0 ∧ (0 : Int) ≤ 40000; omega⟩

theorem w_mkCert {b : Nat} {s : DS} {iss su : List UInt8} {a c id sg : Int} {au : Bool} (hm : MkH iss su a c id sg) : FunM Tryz.prog 114 [ptr b 0, str iss, str su, agg [int a, int c], int id, int sg, bool au] (crtE) (diceS b s) (fun _ => diceEx 101 b) := by
 refine FunM.of Tryz.func114 rfl rfl (by exact Nat.le_of_ble_eq_true rfl) fun M0 w0 S rs M1 w1 => ?_
 have hsr := s.val_in (n := 1000) (by omega)
 have hh := s.adv.of_mem (l := [3, 2, 4, 1]) (by simp)
 have hfr := s.adv.adv.of_mem (l := [0, 5, 10]) (by simp)
 have hto := s.adv.adv.adv.of_mem (l := [1000, 100, 50, 20]) (by simp)
 have hpp := s.adv.adv.adv.adv.of_mem (l := [3, 0, 1]) (by simp)
 have hpa : 0 ≤ s.adv.adv.adv.adv.of [3, 0, 1] ∧ s.adv.adv.adv.adv.of [3, 0, 1] ≤ 3 := by simp at hpp; omega
 have hsg : 0 ≤ sg ∧ sg ≤ 2147483648 := ⟨hm.sg.1, by have := hm.sg.2; omega⟩
 refine Tr.seq (Tr.regT (tp rfl (ok_box rfl (VL.le (vl rfl) (agg_cellsP _))) ?_))
 refine TO.alloc rfl rfl (by decide) rfl z131 zo131 (fun b1 => ?_)
 refine ap ?_
 refine Tr.seq (Tr.pad (Tr.rx (xm rfl (Cx.ef 2 rfl rfl (by decide) (ef_callc rfl rfl (by decide) rfl (w_DNext (by omega) (by omega)) ⟨ke rfl, ke rfl, trivial⟩) ?_))))
 refine ax ?_
 refine xo rfl (fun _ => ok_buildSlice (xs := [.const (.int .i64 (3)), .const (.int .i64 (2)), .const (.int .i64 (4)), .const (.int .i64 (1))]) (rows := [[_], [_], [_], [_]]) rfl rfl Tryz.underlying22 sz3 z3 rfl (by decide) ⟨⟨(by exact rfl), (VL.le (vl rfl) (one_cellsP _))⟩, ⟨⟨(by exact rfl), (VL.le (vl rfl) (one_cellsP _))⟩, ⟨⟨(by exact rfl), (VL.le (vl rfl) (one_cellsP _))⟩, ⟨⟨(by exact rfl), (VL.le (vl rfl) (one_cellsP _))⟩, trivial⟩⟩⟩⟩ (by decide)) ?_
 refine Cx.ef 2 rfl rfl (by decide) (ef_callc rfl rfl (by decide) rfl (w_DOf (l := [3, 2, 4, 1]) (by simp) (by simp)) ⟨ke rfl, ⟨_, rfl, full_le _ _⟩, trivial⟩) ?_
 refine ax ?_
 refine xo rfl (fun _ => ok_buildSlice (xs := [.const (.int .i64 (0)), .const (.int .i64 (5)), .const (.int .i64 (10))]) (rows := [[_], [_], [_]]) rfl rfl Tryz.underlying22 sz3 z3 rfl (by decide) ⟨⟨(by exact rfl), (VL.le (vl rfl) (one_cellsP _))⟩, ⟨⟨(by exact rfl), (VL.le (vl rfl) (one_cellsP _))⟩, ⟨⟨(by exact rfl), (VL.le (vl rfl) (one_cellsP _))⟩, trivial⟩⟩⟩ (by decide)) ?_
 refine Cx.ef 2 rfl rfl (by decide) (ef_callc rfl rfl (by decide) rfl (w_DOf (l := [0, 5, 10]) (by simp) (by simp)) ⟨ke rfl, ⟨_, rfl, full_le _ _⟩, trivial⟩) ?_
 refine xm rfl (xo rfl (fun _ => ok_buildSlice (xs := [.const (.int .i64 (1000)), .const (.int .i64 (100)), .const (.int .i64 (50)), .const (.int .i64 (20))]) (rows := [[_], [_], [_], [_]]) rfl rfl Tryz.underlying22 sz3 z3 rfl (by decide) ⟨⟨(by exact rfl), (VL.le (vl rfl) (one_cellsP _))⟩, ⟨⟨(by exact rfl), (VL.le (vl rfl) (one_cellsP _))⟩, ⟨⟨(by exact rfl), (VL.le (vl rfl) (one_cellsP _))⟩, ⟨⟨(by exact rfl), (VL.le (vl rfl) (one_cellsP _))⟩, trivial⟩⟩⟩⟩ (by decide)) ?_)
 refine Cx.ef 2 rfl rfl (by decide) (ef_callc rfl rfl (by decide) rfl (w_DOf (l := [1000, 100, 50, 20]) (by simp) (by simp)) ⟨ke rfl, ⟨_, rfl, full_le _ _⟩, trivial⟩) ?_
 refine xm rfl (xo rfl (fun _ => ok_build (qs := [int (s.val 1000), str iss, str su, int a, int c, int id, int (s.adv.of [3, 2, 4, 1]), int 0, int (s.adv.adv.of [0, 5, 10]), int (s.adv.adv.adv.of [1000, 100, 50, 20]), bool au, int 0, is (.slice none 0 0), int 0, int 0]) (rows := [(0, [_]), (1, [_]), (2, [_]), (3, _), (4, [_]), (5, _), (6, [_]), (7, [_]), (8, [_])]) rfl bl131 zo131 ⟨⟨rfl, (VL.le (vl rfl) (one_cellsP _))⟩, ⟨⟨rfl, (VL.le (vl rfl) (one_cellsP _))⟩, ⟨⟨rfl, (VL.le (vl rfl) (one_cellsP _))⟩, ⟨⟨rfl, (VL.le (vl rfl) (agg_cellsP _))⟩, ⟨⟨rfl, (VL.le (vl rfl) (one_cellsP _))⟩, ⟨⟨rfl, (VL.le (vl rfl) (agg_cellsP _))⟩, ⟨⟨rfl, (VL.le (vl rfl) (one_cellsP _))⟩, ⟨⟨rfl, (VL.le (vl rfl) (one_cellsP _))⟩, ⟨⟨rfl, (VL.le (vl rfl) (one_cellsP _))⟩, trivial⟩⟩⟩⟩⟩⟩⟩⟩⟩ (by kernel_rfl)) (Cx.ef 0 rfl rfl (by decide) (ef_allocX rfl rfl (by decide) rfl z131 zo131) (Cx.ef0 0 rfl rfl (ef_storeX rfl rfl rfl rfl (VL.le (vl rfl) (agg_cellsP _)) sz131 rfl rfl) ?_)))
 refine Cx.nil ⟨by kernel_rfl, ?_⟩
 refine FinX.open_ 0 15 rfl rfl (fun v1 => ?_)
 refine FinX.done al4 (Fin.opn 15 0 _ rfl rfl (fun _ => rfl) (fun b2 => ?_))
 refine Fin.go (wk6 0 2 5 6 14 15 rfl (Tr.seq (Tr.seq (Tr.eqC 0 [int (s.val 1000), str iss, str su, int a, int c, int id, int (s.adv.of [3, 2, 4, 1]), int 0, int (s.adv.adv.of [0, 5, 10]), int (s.adv.adv.adv.of [1000, 100, 50, 20]), bool au, int 0, is (.slice none 0 0), int 0, int 0] rfl (by kernel_rfl) ?_))))
 refine ac ?_
 refine Tr.cn rfl ?_ ?_ <;> intro h1 q1
 refine Tr.eqC 0 [int (s.val 1000), str iss, str su, int a, int c, int id, int (s.adv.of [3, 2, 4, 1]), int 0, int (s.adv.adv.of [0, 5, 10]), int (s.adv.adv.adv.of [1000, 100, 50, 20]), bool au, int 0, is (.slice none 0 0), int 0, int 0] rfl (by kernel_rfl) ?_
 refine ap ?_
 refine TO.efc 2 rfl rfl (by decide) (ef_callc rfl rfl (by decide) rfl (w_DOf (l := [3, 0, 1]) (by simp) (by simp)) ⟨ke rfl, ⟨_, rfl, full_le _ _⟩, trivial⟩) ?_
 refine ap ?_
 refine Tr.seq (Tr.eqC 0 [int (s.val 1000), str iss, str su, int a, int c, int id, int (s.adv.of [3, 2, 4, 1]), int 0, int (s.adv.adv.of [0, 5, 10]), int (s.adv.adv.adv.of [1000, 100, 50, 20]), bool au, int (s.adv.adv.adv.adv.of [3, 0, 1]), is (.slice none 0 0), int 0, int 0] rfl (by kernel_rfl) ?_)
 refine ap ?_
 refine wk5 0 2 5 14 15 rfl (Tr.seq (Tr.seq (Tr.eqC 0 [int (s.val 1000), str iss, str su, int a, int c, int id, int (s.adv.of [3, 2, 4, 1]), int 0, int (s.adv.adv.of [0, 5, 10]), int (s.adv.adv.adv.of [1000, 100, 50, 20]), bool au, int (s.adv.adv.adv.adv.of [3, 0, 1]), full 1 [[str su]], int 0, int 0] rfl (by kernel_rfl) ?_)))
 refine ap ?_
 refine TO.efc 2 rfl rfl (by decide) (ef_callc rfl rfl (by decide) rfl (w_DOne (by omega) (by omega)) ⟨ke rfl, ke rfl, trivial⟩) ?_
 refine ap ?_
 refine Tr.cn rfl ?_ ?_ <;> intro h2 q2
 refine Tr.eqC 0 [int (s.val 1000), str iss, str su, int a, int c, int id, int (s.adv.of [3, 2, 4, 1]), int 0, int (s.adv.adv.of [0, 5, 10]), int (s.adv.adv.adv.of [1000, 100, 50, 20]), bool au, int (s.adv.adv.adv.adv.of [3, 0, 1]), full 1 [[str su]], int 0, int 0] rfl (by kernel_rfl) ?_
 refine ap ?_
 refine tp rfl (ok_cat rfl (vl rfl) (vl rfl) (by have := named_len (nmsB_two hm.su).1; simp only [List.length_cons, List.length_nil]; unfold maxLen; omega)) ?_
 refine tp rfl (ok_buildSlice (xs := [.tmp 47]) (rows := [[_]]) rfl rfl Tryz.underlying74 sz9 z9 rfl (by decide) ⟨⟨(by exact rfl), (VL.le (vl rfl) (one_cellsP _))⟩, trivial⟩ (by decide)) ?_
 refine tp rfl (ok_appF rfl Tryz.underlying74 sz9 by9 z9 rfl (by decide) (vl rfl) ⟨_, rfl, full_le _ _⟩ (by simp only [List.length_append, List.length_cons, List.length_nil]; unfold maxLen; omega) (by simp only [List.length_append, List.length_cons, List.length_nil]; omega)) ?_
 refine ap ?_
 refine wk3 5 14 15 rfl (Tr.seq (Tr.eqC 0 [int (s.val 1000), str iss, str su, int a, int c, int id, int (s.adv.of [3, 2, 4, 1]), int 0, int (s.adv.adv.of [0, 5, 10]), int (s.adv.adv.adv.of [1000, 100, 50, 20]), bool au, int (s.adv.adv.adv.adv.of [3, 0, 1]), slice 1 ([[str su]] ++ [[str (su ++ [120])]]), int 0, int 0] rfl (by kernel_rfl) ?_))
 have hv : validB (sealed (crtM iss su a c id sg au (s.val 1000) (s.adv.of [3, 2, 4, 1]) (s.adv.adv.of [0, 5, 10]) (s.adv.adv.adv.of [1000, 100, 50, 20]) (s.adv.adv.adv.adv.of [3, 0, 1]) [su, su ++ [120]] 0 0) 0 0) = true := mk_valid hm hsr hh hfr hto hpa (.inl h1) (.inr rfl) (key := 0) (s := 0) (by omega) (by omega)
 have ht : (sealed (crtM iss su a c id sg au (s.val 1000) (s.adv.of [3, 2, 4, 1]) (s.adv.adv.of [0, 5, 10]) (s.adv.adv.adv.of [1000, 100, 50, 20]) (s.adv.adv.adv.adv.of [3, 0, 1]) [su, su ++ [120]] 0 0) 0 0).tiny := mk_tiny hm hsr hh
 refine Tr.reC 0 (rowCr (crtM iss su a c id sg au (s.val 1000) (s.adv.of [3, 2, 4, 1]) (s.adv.adv.of [0, 5, 10]) (s.adv.adv.adv.of [1000, 100, 50, 20]) (s.adv.adv.adv.adv.of [3, 0, 1]) [su, su ++ [120]] 0 0)) rfl ⟨Pr.le_refl _, Pr.le_refl _, Pr.le_refl _, Pr.le_refl _, Pr.le_refl _, Pr.le_refl _, Pr.le_refl _, Pr.le_refl _, Pr.le_refl _, Pr.le_refl _, Pr.le_refl _, Pr.le_refl _, Pr.le_refl _, Pr.le_refl _, Pr.le_refl _, trivial⟩ ?_
 refine ap ?_
 refine tp rfl (kc2 (w_R3Sign (key := sg) hv ht hsg) rfl rfl rfl) ?_
 refine TO.ex 54 rfl (fun z54 => TO.fact 54 rfl fun hz54 => ?_)
 refine ap ?_
 refine ap ?_
 refine Tr.drop 0 (Tr.ret (Fin.closeD 1 _ rfl rfl (Fin.retY1 [_] rfl (RVal.cell 0 rfl rfl agg131 sz131 rfl (Pr.le_refl _)) ?_ (fun _ _ _ _ => rfl))))
 · exact ex_in _ (fact_in (mk_valid hm hsr hh hfr hto hpa (.inl h1) (.inr rfl) hsg hz54) (Pr.le_refl _))
 refine ac ?_
 refine Tr.seq (Tr.eqC 0 [int (s.val 1000), str iss, str su, int a, int c, int id, int (s.adv.of [3, 2, 4, 1]), int 0, int (s.adv.adv.of [0, 5, 10]), int (s.adv.adv.adv.of [1000, 100, 50, 20]), bool au, int (s.adv.adv.adv.adv.of [3, 0, 1]), full 1 [[str su]], int 0, int 0] rfl (by kernel_rfl) ?_)
 have hv : validB (sealed (crtM iss su a c id sg au (s.val 1000) (s.adv.of [3, 2, 4, 1]) (s.adv.adv.of [0, 5, 10]) (s.adv.adv.adv.of [1000, 100, 50, 20]) (s.adv.adv.adv.adv.of [3, 0, 1]) [su] 0 0) 0 0) = true := mk_valid hm hsr hh hfr hto hpa (.inl h1) (.inl rfl) (key := 0) (s := 0) (by omega) (by omega)
 have ht : (sealed (crtM iss su a c id sg au (s.val 1000) (s.adv.of [3, 2, 4, 1]) (s.adv.adv.of [0, 5, 10]) (s.adv.adv.adv.of [1000, 100, 50, 20]) (s.adv.adv.adv.adv.of [3, 0, 1]) [su] 0 0) 0 0).tiny := mk_tiny hm hsr hh
 refine Tr.reC 0 (rowCr (crtM iss su a c id sg au (s.val 1000) (s.adv.of [3, 2, 4, 1]) (s.adv.adv.of [0, 5, 10]) (s.adv.adv.adv.of [1000, 100, 50, 20]) (s.adv.adv.adv.adv.of [3, 0, 1]) [su] 0 0)) rfl ⟨Pr.le_refl _, Pr.le_refl _, Pr.le_refl _, Pr.le_refl _, Pr.le_refl _, Pr.le_refl _, Pr.le_refl _, Pr.le_refl _, Pr.le_refl _, Pr.le_refl _, Pr.le_refl _, Pr.le_refl _, full_le _ _, Pr.le_refl _, Pr.le_refl _, trivial⟩ ?_
 refine ap ?_
 refine tp rfl (kc2 (w_R3Sign (key := sg) hv ht hsg) rfl rfl rfl) ?_
 refine TO.ex 54 rfl (fun z54 => TO.fact 54 rfl fun hz54 => ?_)
 refine ap ?_
 refine ap ?_
 refine Tr.drop 0 (wk1 14 rfl (Tr.ret (Fin.closeD 1 _ rfl rfl (Fin.retY1 [_] rfl (RVal.cell 0 rfl rfl agg131 sz131 rfl (Pr.le_refl _)) ?_ (fun _ _ _ _ => rfl)))))
 · exact ex_in _ (fact_in (mk_valid hm hsr hh hfr hto hpa (.inl h1) (.inl rfl) hsg hz54) (Pr.le_refl _))
 refine ac ?_
 refine Tr.seq (Tr.eqC 0 [int (s.val 1000), str iss, str su, int a, int c, int id, int (s.adv.of [3, 2, 4, 1]), int 0, int (s.adv.adv.of [0, 5, 10]), int (s.adv.adv.adv.of [1000, 100, 50, 20]), bool au, int 0, is (.slice none 0 0), int 0, int 0] rfl (by kernel_rfl) ?_)
 refine ap ?_
 refine Tr.seq (Tr.seq (Tr.eqC 0 [int (s.val 1000), str iss, str su, int a, int c, int id, int (s.adv.of [3, 2, 4, 1]), int 0, int (s.adv.adv.of [0, 5, 10]), int (s.adv.adv.adv.of [1000, 100, 50, 20]), bool au, int 0, full 1 [[str su]], int 0, int 0] rfl (by kernel_rfl) ?_))
 refine ap ?_
 refine TO.efc 2 rfl rfl (by decide) (ef_callc rfl rfl (by decide) rfl (w_DOne (by omega) (by omega)) ⟨ke rfl, ke rfl, trivial⟩) ?_
 refine ap ?_
 refine Tr.cn rfl ?_ ?_ <;> intro h3 q3
 refine Tr.eqC 0 [int (s.val 1000), str iss, str su, int a, int c, int id, int (s.adv.of [3, 2, 4, 1]), int 0, int (s.adv.adv.of [0, 5, 10]), int (s.adv.adv.adv.of [1000, 100, 50, 20]), bool au, int 0, full 1 [[str su]], int 0, int 0] rfl (by kernel_rfl) ?_
 refine ap ?_
 refine tp rfl (ok_cat rfl (vl rfl) (vl rfl) (by have := named_len (nmsB_two hm.su).1; simp only [List.length_cons, List.length_nil]; unfold maxLen; omega)) ?_
 refine tp rfl (ok_buildSlice (xs := [.tmp 47]) (rows := [[_]]) rfl rfl Tryz.underlying74 sz9 z9 rfl (by decide) ⟨⟨(by exact rfl), (VL.le (vl rfl) (one_cellsP _))⟩, trivial⟩ (by decide)) ?_
 refine tp rfl (ok_appF rfl Tryz.underlying74 sz9 by9 z9 rfl (by decide) (vl rfl) ⟨_, rfl, full_le _ _⟩ (by simp only [List.length_append, List.length_cons, List.length_nil]; unfold maxLen; omega) (by simp only [List.length_append, List.length_cons, List.length_nil]; omega)) ?_
 refine ap ?_
 refine wk3 5 14 15 rfl (Tr.seq (Tr.eqC 0 [int (s.val 1000), str iss, str su, int a, int c, int id, int (s.adv.of [3, 2, 4, 1]), int 0, int (s.adv.adv.of [0, 5, 10]), int (s.adv.adv.adv.of [1000, 100, 50, 20]), bool au, int 0, slice 1 ([[str su]] ++ [[str (su ++ [120])]]), int 0, int 0] rfl (by kernel_rfl) ?_))
 have hv : validB (sealed (crtM iss su a c id sg au (s.val 1000) (s.adv.of [3, 2, 4, 1]) (s.adv.adv.of [0, 5, 10]) (s.adv.adv.adv.of [1000, 100, 50, 20]) 0 [su, su ++ [120]] 0 0) 0 0) = true := mk_valid hm hsr hh hfr hto (pa := 0) (by omega) (.inr rfl) (.inr rfl) (key := 0) (s := 0) (by omega) (by omega)
 have ht : (sealed (crtM iss su a c id sg au (s.val 1000) (s.adv.of [3, 2, 4, 1]) (s.adv.adv.of [0, 5, 10]) (s.adv.adv.adv.of [1000, 100, 50, 20]) 0 [su, su ++ [120]] 0 0) 0 0).tiny := mk_tiny hm hsr hh
 refine Tr.reC 0 (rowCr (crtM iss su a c id sg au (s.val 1000) (s.adv.of [3, 2, 4, 1]) (s.adv.adv.of [0, 5, 10]) (s.adv.adv.adv.of [1000, 100, 50, 20]) 0 [su, su ++ [120]] 0 0)) rfl ⟨Pr.le_refl _, Pr.le_refl _, Pr.le_refl _, Pr.le_refl _, Pr.le_refl _, Pr.le_refl _, Pr.le_refl _, Pr.le_refl _, Pr.le_refl _, Pr.le_refl _, Pr.le_refl _, Pr.le_refl _, Pr.le_refl _, Pr.le_refl _, Pr.le_refl _, trivial⟩ ?_
 refine ap ?_
 refine tp rfl (kc2 (w_R3Sign (key := sg) hv ht hsg) rfl rfl rfl) ?_
 refine TO.ex 54 rfl (fun z54 => TO.fact 54 rfl fun hz54 => ?_)
 refine ap ?_
 refine ap ?_
 refine Tr.drop 0 (Tr.ret (Fin.closeD 1 _ rfl rfl (Fin.retY1 [_] rfl (RVal.cell 0 rfl rfl agg131 sz131 rfl (Pr.le_refl _)) ?_ (fun _ _ _ _ => rfl))))
 · exact ex_in _ (fact_in (mk_valid hm hsr hh hfr hto (pa := 0) (by omega) (.inr rfl) (.inr rfl) hsg hz54) (Pr.le_refl _))
 refine ac ?_
 refine Tr.seq (Tr.eqC 0 [int (s.val 1000), str iss, str su, int a, int c, int id, int (s.adv.of [3, 2, 4, 1]), int 0, int (s.adv.adv.of [0, 5, 10]), int (s.adv.adv.adv.of [1000, 100, 50, 20]), bool au, int 0, full 1 [[str su]], int 0, int 0] rfl (by kernel_rfl) ?_)
 have hv : validB (sealed (crtM iss su a c id sg au (s.val 1000) (s.adv.of [3, 2, 4, 1]) (s.adv.adv.of [0, 5, 10]) (s.adv.adv.adv.of [1000, 100, 50, 20]) 0 [su] 0 0) 0 0) = true := mk_valid hm hsr hh hfr hto (pa := 0) (by omega) (.inr rfl) (.inl rfl) (key := 0) (s := 0) (by omega) (by omega)
 have ht : (sealed (crtM iss su a c id sg au (s.val 1000) (s.adv.of [3, 2, 4, 1]) (s.adv.adv.of [0, 5, 10]) (s.adv.adv.adv.of [1000, 100, 50, 20]) 0 [su] 0 0) 0 0).tiny := mk_tiny hm hsr hh
 refine Tr.reC 0 (rowCr (crtM iss su a c id sg au (s.val 1000) (s.adv.of [3, 2, 4, 1]) (s.adv.adv.of [0, 5, 10]) (s.adv.adv.adv.of [1000, 100, 50, 20]) 0 [su] 0 0)) rfl ⟨Pr.le_refl _, Pr.le_refl _, Pr.le_refl _, Pr.le_refl _, Pr.le_refl _, Pr.le_refl _, Pr.le_refl _, Pr.le_refl _, Pr.le_refl _, Pr.le_refl _, Pr.le_refl _, Pr.le_refl _, full_le _ _, Pr.le_refl _, Pr.le_refl _, trivial⟩ ?_
 refine ap ?_
 refine tp rfl (kc2 (w_R3Sign (key := sg) hv ht hsg) rfl rfl rfl) ?_
 refine TO.ex 54 rfl (fun z54 => TO.fact 54 rfl fun hz54 => ?_)
 refine ap ?_
 refine wk2 14 15 rfl ?_
 refine ap ?_
 refine Tr.drop 0 (Tr.ret (Fin.closeD 1 _ rfl rfl (Fin.retY1 [_] rfl (RVal.cell 0 rfl rfl agg131 sz131 rfl (Pr.le_refl _)) ?_ (fun _ _ _ _ => rfl))))
 · exact ex_in _ (fact_in (mk_valid hm hsr hh hfr hto (pa := 0) (by omega) (.inr rfl) (.inl rfl) hsg hz54) (Pr.le_refl _))
end Go.Proofs.YtppeeogffbpcbaaGreat
namespace Go.Proofs.YtppeeogffbpcbaaGreat
open Go Go.RowKit Cp

abbrev chainE : Pr := Cp.ex fun l : List Crt => fact (l.length ≤ 3 ∧ ∀ c ∈ l, validB c = true) (certs l)
def subL : List (List UInt8) := [[99, 97], [99, 98], [99, 99]]
theorem sub_ok {su : List UInt8} (h : su ∈ subL) : namesB [su, su ++ [120]] = true := by
  unfold subL at h; simp at h; rcases h with rfl | rfl | rfl <;> decide +kernel
theorem key_rsa : ofB 5 2048 2 = true := by decide +kernel
theorem mkh_sub {iss su : List UInt8} {id sg : Int} (hi : named iss = true) (h : su ∈ subL) (hid : 0 ≤ id ∧ id ≤ 40000) (hsg : 0 ≤ sg ∧ sg ≤ 40000) : MkH iss su 5 2048 id sg := ⟨hi, sub_ok h, key_rsa, by omega, by omega, hid, hsg⟩
theorem w_mkChain {b : Nat} {s : DS} {nm : List UInt8} {a c id : Int} (hn : namesB [nm, nm ++ [120]] = true) (hk : ofB a c 2 = true) (ha : 0 ≤ a ∧ a ≤ 40000) (hc : 0 ≤ c ∧ c ≤ 40000) (hid : 0 ≤ id ∧ id ≤ 40000) : FunM Tryz.prog 72 [ptr b 0, str nm, agg [int a, int c], int id] (chainE) (diceS b s) (fun _ => diceEx 101 b) := by
 refine FunM.of Tryz.func72 rfl rfl (by exact Nat.le_of_ble_eq_true rfl) fun M0 w0 S rs M1 w1 => ?_
 have hof := s.of_mem (l := [1, 0, 2]) (by simp)
 simp at hof
 have hv1 := s.adv.val_in (n := 2) (by omega)
 refine Tr.seq (Tr.reg0 (co rfl (ok_box rfl (VL.le (vl rfl) (agg_cellsP _))) (cm rfl (Ch.nil (Fin.go (Tr.seq (Tr.regT (tm rfl (tp rfl (ok_buildSlice (xs := [.const (.int .i64 (1)), .const (.int .i64 (0)), .const (.int .i64 (2))]) (rows := [[_], [_], [_]]) rfl rfl Tryz.underlying22 sz3 z3 rfl (by decide) ⟨⟨(by exact rfl), (VL.le (vl rfl) (one_cellsP _))⟩, ⟨⟨(by exact rfl), (VL.le (vl rfl) (one_cellsP _))⟩, ⟨⟨(by exact rfl), (VL.le (vl rfl) (one_cellsP _))⟩, trivial⟩⟩⟩ (by decide)) ?_)))))))))
 refine TO.efc 0 rfl rfl (by decide) (ef_callc rfl rfl (by decide) rfl (w_DOf (l := [1, 0, 2]) (by simp) (by simp)) ⟨ke rfl, ⟨_, rfl, full_le _ _⟩, trivial⟩) ?_
 refine tm rfl (TO.nil (Fin.go (Tr.seq (Tr.regT (tm rfl (TO.efc 0 rfl rfl (by decide) (ef_callc rfl rfl (by decide) rfl (w_DNext (by omega) (by omega)) ⟨ke rfl, ke rfl, trivial⟩) ?_))))))
 refine tp rfl (ok_add rfl (vl rfl) (vl rfl) ?hin) ?_; case hin => unfold InI; omega
 refine tm rfl (tm rfl (TO.nil (Fin.go (Tr.seq (Tr.reg0 (cm rfl (Ch.nil (Fin.go (Tr.seq (Tr.seq (Tr.reg0 (cm rfl (Ch.nil (Fin.go ?_))))))))))))))
 refine Tr.block ?_
 refine Tr.loopD4V0 [(0, _), (1, _), (3, _), (6, _), (9, _)] ⟨ke rfl, ke rfl, ke rfl, ke rfl, ke rfl, trivial⟩ (fun (ab : List Crt) (sg : Int) (iss : List UInt8) (s2 : DS) => [(13, int ((ab.length : Nat) : Int)), (12, certs ab), (10, int sg), (11, str iss)]) (fun (ab : List Crt) (sg : Int) (iss : List UInt8) (s2 : DS) => Hp M0 w0 S (diceS b s2 :: extRes M1 w1 :: rs)) (fun (ab : List Crt) (sg : Int) (iss : List UInt8) (s2 : DS) => ab.length ≤ 2 ∧ (∀ c ∈ ab, validB c = true) ∧ named iss = true ∧ (0 ≤ sg ∧ sg ≤ 40000)) (fun (ab : List Crt) (sg : Int) (iss : List UInt8) (s2 : DS) => 2 - ab.length) ([]) (_) (_) (_)  (⟨by show 0 ≤ 2; omega, fun c h => by simp at h, by decide, by omega⟩) ⟨ke rfl, ⟨_, rfl, nil_slice 15⟩, ke rfl, ke rfl, trivial⟩ (fun _ _ h => h) ?_
 rintro ab sg iss s2  ⟨hk1, hk3, hiss, hsg⟩
 refine Tr.seq (Tr.seq (Tr.reg0 (cm rfl (cm rfl (co rfl (ki rfl rfl rfl rfl) (Ch.nil (Fin.go ?_)))))))
 refine Tr.cn rfl ?_ ?_ <;> intro h1 q1
 have hlt : ((ab.length : Nat) : Int) < s.of [1, 0, 2] := of_decide_eq_true h1
 obtain ⟨su, hsu⟩ := at_ (l := subL) (k := ab.length) (by show _ < 3; omega)
 refine Tr.skip (Fin.go (Tr.seq (Tr.block (Tr.seq (Tr.reg0 (co rfl (ok_buildSlice (xs := [.const (.string ⟨[99, 97].toArray⟩), .const (.string ⟨[99, 98].toArray⟩), .const (.string ⟨[99, 99].toArray⟩)]) (rows := [[_], [_], [_]]) rfl rfl Tryz.underlying74 sz9 z9 rfl (by decide) ⟨⟨(by exact rfl), (VL.le (vl rfl) (one_cellsP _))⟩, ⟨⟨(by exact rfl), (VL.le (vl rfl) (one_cellsP _))⟩, ⟨⟨(by exact rfl), (VL.le (vl rfl) (one_cellsP _))⟩, trivial⟩⟩⟩ (by decide)) ?_))))))
 refine cm rfl ?_
 refine co rfl (ok_indexAddr rfl Tryz.underlying74 sz9 ⟨_, rfl, full_le _ _⟩ (vl rfl) (by omega) (show (subL.map fun t => [str t])[_]? = _ from row_at hsu)) ?_
 refine co rfl (kl1 rfl one9 rfl) (cm rfl (Ch.nil (Fin.go (wk10 0 1 3 6 9 10 11 12 13 14 rfl (Tr.seq (Tr.regT (tm rfl (tm rfl (tm rfl (tp rfl (ok_build (rows := [(0, [_]), (1, [_])]) rfl bl24 zo24 ⟨⟨rfl, (VL.le (vl rfl) (one_cellsP _))⟩, ⟨⟨rfl, (VL.le (vl rfl) (one_cellsP _))⟩, trivial⟩⟩ rfl) (tm rfl ?_)))))))))))
 refine tp rfl (ok_add rfl (vl rfl) (vl rfl) ?hin) ?_; case hin => unfold InI; omega
 refine tm rfl ?_
 refine TO.efc 0 rfl rfl (by decide) (ef_callc rfl rfl (by decide) rfl (w_mkCert (mkh_sub hiss (List.mem_of_getElem? hsu) (by omega) hsg)) ⟨ke rfl, ke rfl, ke rfl, ke rfl, ke rfl, ke rfl, ke rfl, trivial⟩) ?_
 refine TO.ex 38 rfl (fun z1 => TO.fact 38 rfl fun hz1 => ?_)
 refine TO.alloc rfl rfl (by decide) rfl z131 zo131 (fun b1 => ?_)
 refine TO.store_all 0 rfl rfl rfl (vl rfl) (VL.le (vl rfl) (agg_cellsP _)) rfl sz131 rfl rfl (TO.freeze 0 15 rfl rfl (TO.nil (Fin.openD 0 rfl (fun s1 => ?_))))
 refine Fin.go (wk9 0 1 3 6 9 12 13 14 15 rfl (Tr.seq (Tr.reg0 (co rfl (ok_loadA rfl agg131 sz131 (vl rfl) rfl rfl) (co rfl (ok_buildSlice (xs := [.tmp 39]) (rows := [_]) rfl rfl Tryz.underlying25 sz131 z131 rfl (by decide) ⟨⟨(by exact rfl), (VL.le (vl rfl) (agg_cellsP _))⟩, trivial⟩ (by decide)) ?_)))))
 refine cm rfl ?_
 refine co rfl (ok_appF rfl Tryz.underlying25 sz131 by131 z131 rfl (by decide) (vl rfl) (vl rfl) (by simp only [List.length_map, List.length_cons, List.length_nil, List.length_append]; unfold maxLen; omega) (by simp only [List.length_map, List.length_cons, List.length_nil, List.length_append]; omega)) ?_
 refine cm rfl (Ch.nil (Fin.go (wk8 0 1 3 6 9 12 13 14 rfl (Tr.reg0 (cm rfl (cad rfl rfl rfl rfl (by omega) (cm rfl (cm rfl (cm rfl (Ch.nil (Fin.block (Fin.go (Tr.reg0 ?_)))))))))))))
 refine cm rfl (cad rfl rfl rfl rfl (by omega) (cm rfl (Ch.nil ?_)))
 exact Fin.famD4V0 (z1 :: ab) (11 + (ab.length : Nat)) (su) (_)  (⟨⟨by simp; omega, fun c hc => (List.mem_cons.1 hc).elim (fun h => h ▸ hz1) (hk3 c), (nmsB_two (sub_ok (List.mem_of_getElem? hsu))).1, by omega⟩, by simp; omega⟩) ⟨⟨_, rfl, int_succ ab.length⟩, ke rfl, ke rfl, ke rfl, ke rfl, ke rfl, ke rfl, ke rfl, ke rfl, trivial⟩ (fun _ _ h => h)
 
 refine Tr.exit (Fin.then_exit (Fin.then_exit (Fin.block_here (Fin.go (Tr.seq (Tr.regT (tm rfl (tm rfl (tm rfl (tp rfl (ok_loadA rfl agg24 sz24 (vl rfl) rfl rfl) (tm rfl (tm rfl (TO.efc 0 rfl rfl (by decide) (ef_callc rfl rfl (by decide) rfl (w_mkCert ⟨hiss, hn, hk, ha, hc, hid, hsg⟩) ⟨ke rfl, ke rfl, ke rfl, ke rfl, ke rfl, ke rfl, ke rfl, trivial⟩) ?_)))))))))))))
 refine TO.ex 52 rfl (fun z2 => TO.fact 52 rfl fun hz2 => ?_)
 refine tp rfl (ok_buildSlice (xs := [.tmp 52]) (rows := [_]) rfl rfl Tryz.underlying25 sz131 z131 rfl (by decide) ⟨⟨(by exact rfl), (VL.le (vl rfl) (agg_cellsP _))⟩, trivial⟩ (by decide)) ?_
 refine tm rfl ?_
 refine tp rfl (ok_appF rfl Tryz.underlying25 sz131 by131 z131 rfl (by decide) (vl rfl) (vl rfl) (by simp only [List.length_map, List.length_cons, List.length_nil, List.length_append]; unfold maxLen; omega) (by simp only [List.length_map, List.length_cons, List.length_nil, List.length_append]; omega)) ?_
 refine tm rfl (TO.nil (Fin.openD 0 rfl (fun s2 => ?_)))
 refine Fin.go (wk1 8 rfl (Tr.ret (Fin.closeD 0 _ rfl rfl (Fin.retY1 [] rfl (RVal.tmp rfl (Pr.le_refl _)) ?_ (fun _ _ _ _ => rfl)))))
 · exact ex_in (z2 :: ab) (fact_in ⟨by simp; omega, fun c hc => (List.mem_cons.1 hc).elim (fun h => h ▸ hz2) (hk3 c)⟩ (Pr.le_refl _))
end Go.Proofs.YtppeeogffbpcbaaGreat
namespace Go.Proofs.YtppeeogffbpcbaaGreat
open Go Go.RowKit Cp

theorem app_on {β : Type} {sz : Nat} {f : β → List Pr} {l : List β} {x : β} : slice sz ([] ++ l.map f ++ [f x]) = slice sz ((l ++ [x]).map f) := by rw [List.map_append]; rfl
structure OddP (e x : Ept) : Prop where
  sz : x.sz 2000
  same : x.name = e.name ∨ x.least = e.least
theorem word_mem {s : DS} {l : List (List UInt8)} (h : l ≠ []) : wordOf s l ∈ l := by
  have hl0 : 1 ≤ (l.length : Int) := by have := List.length_pos_iff.2 h; omega
  have hv := s.val_in hl0
  obtain ⟨x, hx⟩ := at_ (l := l) (k := (s.val l.length).toNat) (by omega)
  unfold wordOf; rw [hx]; exact List.mem_of_getElem? hx
theorem crt_fits {c : Crt} (h : validB c = true) : c.fits ∧ c.names.length ≤ 8 := by
  obtain ⟨_, _, hiss, hsub, hnm, _⟩ := vf_of h
  have h1 := named_len hiss; have h2 := named_len hsub
  unfold namesB at hnm; rw [Bool.and_eq_true] at hnm
  refine ⟨⟨by unfold maxLen; omega, by unfold maxLen; omega, fun t ht => ?_⟩, by simpa using hnm.2⟩
  obtain ⟨i, hi, rfl⟩ := List.mem_iff_getElem.1 ht
  have := allI_iff.1 hnm.1 i hi
  have := named_len (name_at this (List.getElem?_eq_getElem hi))
  unfold maxLen; omega
theorem chain_fs {l : List Crt} (h : l.length ≤ 3 ∧ ∀ c ∈ l, validB c = true) {a c id : Int} : (⟨a, c, id, l⟩ : Idn).fits ∧ (⟨a, c, id, l⟩ : Idn).small :=
  ⟨fun c hc => (crt_fits (h.2 c hc)).1, by show l.length ≤ _; omega, fun c hc => by have := (crt_fits (h.2 c hc)).2; omega⟩
theorem odd_snoc {e : Ept} {y : Idn} (hy : y.fits ∧ y.small) (hs : e.sz 1000) : OddP e { e with ids := e.ids ++ [y] } :=
  ⟨⟨hs.name, Nat.le_trans hs.suites (by omega), Nat.le_trans hs.anchors (by omega), Nat.le_trans hs.hashes (by omega), by show (e.ids ++ [y]).length ≤ _; have := hs.idl; simp; omega, fun x hx => by
    rcases List.mem_append.1 hx with hx | hx
    · exact hs.ids x hx
    · simp at hx; subst hx; exact hy⟩, .inl rfl⟩

theorem w_mkOdd {b : Nat} {s : DS} {e : Ept} (hs : e.sz 1000) (hm : 0 ≤ e.most ∧ e.most ≤ 1000) : FunM Tryz.prog 15 [ptr b 0, agg (rowEp e)] (Cp.ex fun x : Ept => fact (OddP e x) (agg (rowEp x))) (diceS b s) (fun _ => diceEx 101 b) := by
 refine FunM.of Tryz.func15 rfl rfl (by exact Nat.le_of_ble_eq_true rfl) fun M0 w0 S rs M1 w1 => ?_
 have hsu := hs.suites
 have hil := hs.idl
 have hv := s.val_in (n := 8) (by omega)
 have hwm := word_mem (s := s.adv) (l := [[], [97, 32, 98], [120]]) (by simp)
 have hwl : (wordOf s.adv [[], [97, 32, 98], [120]]).length ≤ 3 := by simp at hwm; rcases hwm with h | h | h <;> rw [h] <;> simp
 refine Tr.seq (Tr.regT ?_)
 refine TO.boxm rfl rfl (by decide) rfl (VL.le (vl rfl) (agg_cellsP _)) (fun b1 => ?_)
 refine TO.alloc rfl rfl (by decide) rfl z32 zo32 (fun b2 => ?_)
 refine TO.nil (Fin.go (Tr.seq (Tr.seq (Tr.regT (tm rfl (TO.efc 2 rfl rfl (by decide) (ef_callc rfl rfl (by decide) rfl (w_DNext (by omega) (by omega)) ⟨ke rfl, ke rfl, trivial⟩) (TO.nil (Fin.go (Tr.block (Tr.seq (Tr.reg0 (co rfl (ki rfl rfl rfl rfl) (cm rfl ?_)))))))))))))
 refine Ch.nil (Fin.go ?_)
 refine Tr.cn rfl ?_ ?_ <;> intro h1 q1
 refine Tr.regT (tm rfl (tp rfl (ok_buildSlice (xs := [.const (.string ⟨[].toArray⟩), .const (.string ⟨[97, 32, 98].toArray⟩), .const (.string ⟨[120].toArray⟩)]) (rows := [[_], [_], [_]]) rfl rfl Tryz.underlying74 sz9 z9 rfl (by decide) ⟨⟨(by exact rfl), (VL.le (vl rfl) (one_cellsP _))⟩, ⟨⟨(by exact rfl), (VL.le (vl rfl) (one_cellsP _))⟩, ⟨⟨(by exact rfl), (VL.le (vl rfl) (one_cellsP _))⟩, trivial⟩⟩⟩ (by decide)) ?_))
 refine TO.efc 2 rfl rfl (by decide) (ef_callc rfl rfl (by decide) rfl (w_DWordE (l := [[], [97, 32, 98], [120]]) (by simp) (by simp)) ⟨ke rfl, ⟨_, rfl, full_le _ _⟩, trivial⟩) ?_
 refine tp rfl (okp_fieldAddr rfl fo32_0 (vl rfl)) (TO.ef0 1 rfl rfl (ef_store rfl rfl (vl rfl) (VL.le (vl rfl) (one_cellsP _)) sz9 rfl (by exact Nat.le_of_ble_eq_true rfl) rfl) (TO.nil (Fin.block (Fin.go (Tr.seq (Tr.regT (TO.rd 1 rfl rfl rfl (by decide) (rd_loadA rfl agg32 sz32 (vl rfl) rfl rfl) (TO.store_all 0 rfl rfl rfl (vl rfl) (VL.le (vl rfl) (agg_cellsP _)) rfl sz32 rfl rfl (TO.nil (Fin.go (Tr.drop 1 (Tr.ret (Fin.closeD 1 _ rfl rfl (Fin.retY1 [_] rfl (RVal.cell 0 rfl rfl agg32 sz32 rfl (Pr.le_refl _)) ?_ (fun _ _ _ _ => rfl)))))))))))))))
 · exact ex_in { e with name := wordOf s.adv [[], [97, 32, 98], [120]] } (fact_in ⟨⟨(by show (wordOf _ _).length ≤ _; unfold maxLen; omega), Nat.le_trans hs.suites (by omega), Nat.le_trans hs.anchors (by omega), Nat.le_trans hs.hashes (by omega), Nat.le_trans hs.idl (by omega), hs.ids⟩, .inr rfl⟩ (Pr.le_refl _))
 refine Tr.seq (Tr.reg0 (co rfl (ki rfl rfl rfl rfl) (cm rfl (Ch.nil (Fin.go ?_)))))
 refine Tr.cn rfl ?_ ?_ <;> intro h2 q2
 refine Tr.regT (tm rfl (tp rfl (okp_fieldAddr rfl fo32_2 (vl rfl)) (TO.rd 1 rfl rfl rfl (by decide) (rd_load1 rfl one3 (vl rfl) rfl) ?_)))
 refine tp rfl (ok_add rfl (vl rfl) (vl rfl) ?hin) ?_; case hin => unfold InI; omega
 refine tp rfl (ok_buildSlice (xs := [.const (.int .i64 (0)), .const (.int .i64 (5)), .tmp 30]) (rows := [[_], [_], [_]]) rfl rfl Tryz.underlying22 sz3 z3 rfl (by decide) ⟨⟨(by exact rfl), (VL.le (vl rfl) (one_cellsP _))⟩, ⟨⟨(by exact rfl), (VL.le (vl rfl) (one_cellsP _))⟩, ⟨⟨(by exact rfl), (VL.le (vl rfl) (one_cellsP _))⟩, trivial⟩⟩⟩ (by decide)) ?_
 refine TO.efc 2 rfl rfl (by decide) (ef_callc rfl rfl (by decide) rfl (w_DOf (l := [0, 5, e.most + 1]) (by simp) (by simp)) ⟨ke rfl, ⟨_, rfl, full_le _ _⟩, trivial⟩) ?_
 refine tp rfl (okp_fieldAddr rfl fo32_1 (vl rfl)) (TO.ef0 1 rfl rfl (ef_store rfl rfl (vl rfl) (VL.le (vl rfl) (one_cellsP _)) sz3 rfl (by exact Nat.le_of_ble_eq_true rfl) rfl) (TO.nil (Fin.block (Fin.go (wk2 3 4 rfl (Tr.seq (Tr.regT (TO.rd 1 rfl rfl rfl (by decide) (rd_loadA rfl agg32 sz32 (vl rfl) rfl rfl) (TO.store_all 0 rfl rfl rfl (vl rfl) (VL.le (vl rfl) (agg_cellsP _)) rfl sz32 rfl rfl (TO.nil (Fin.go (Tr.drop 1 (Tr.ret (Fin.closeD 1 _ rfl rfl ?_))))))))))))))
 refine Fin.retY1 [_] rfl (RVal.cell 0 rfl rfl agg32 sz32 rfl (Pr.le_refl _)) ?_ (fun _ _ _ _ => rfl)
 · exact ex_in { e with least := s.adv.of [0, 5, e.most + 1] } (fact_in ⟨⟨hs.name, Nat.le_trans hs.suites (by omega), Nat.le_trans hs.anchors (by omega), Nat.le_trans hs.hashes (by omega), Nat.le_trans hs.idl (by omega), hs.ids⟩, .inl rfl⟩ (Pr.le_refl _))
 refine Tr.seq (Tr.reg0 (co rfl (ki rfl rfl rfl rfl) (cm rfl (Ch.nil (Fin.go ?_)))))
 refine Tr.cn rfl ?_ ?_ <;> intro h3 q3
 refine Tr.regT (tm rfl (tp rfl (ok_buildSlice (xs := [.const (.int .i64 (5)), .const (.int .i64 (0))]) (rows := [[_], [_]]) rfl rfl Tryz.underlying22 sz3 z3 rfl (by decide) ⟨⟨(by exact rfl), (VL.le (vl rfl) (one_cellsP _))⟩, ⟨⟨(by exact rfl), (VL.le (vl rfl) (one_cellsP _))⟩, trivial⟩⟩ (by decide)) ?_))
 refine TO.efc 2 rfl rfl (by decide) (ef_callc rfl rfl (by decide) rfl (w_DOf (l := [5, 0]) (by simp) (by simp)) ⟨ke rfl, ⟨_, rfl, full_le _ _⟩, trivial⟩) ?_
 refine tp rfl (okp_fieldAddr rfl fo32_2 (vl rfl)) (TO.ef0 1 rfl rfl (ef_store rfl rfl (vl rfl) (VL.le (vl rfl) (one_cellsP _)) sz3 rfl (by exact Nat.le_of_ble_eq_true rfl) rfl) (TO.nil (Fin.block (Fin.go (wk2 3 4 rfl (Tr.seq (Tr.regT (TO.rd 1 rfl rfl rfl (by decide) (rd_loadA rfl agg32 sz32 (vl rfl) rfl rfl) (TO.store_all 0 rfl rfl rfl (vl rfl) (VL.le (vl rfl) (agg_cellsP _)) rfl sz32 rfl rfl (TO.nil (Fin.go (Tr.drop 1 (Tr.ret (Fin.closeD 1 _ rfl rfl ?_))))))))))))))
 refine Fin.retY1 [_] rfl (RVal.cell 0 rfl rfl agg32 sz32 rfl (Pr.le_refl _)) ?_ (fun _ _ _ _ => rfl)
 · exact ex_in { e with most := s.adv.of [5, 0] } (fact_in ⟨⟨hs.name, Nat.le_trans hs.suites (by omega), Nat.le_trans hs.anchors (by omega), Nat.le_trans hs.hashes (by omega), Nat.le_trans hs.idl (by omega), hs.ids⟩, .inl rfl⟩ (Pr.le_refl _))
 refine Tr.seq (Tr.reg0 (co rfl (ki rfl rfl rfl rfl) (cm rfl (Ch.nil (Fin.go ?_)))))
 refine Tr.cn rfl ?_ ?_ <;> intro h4 q4
 refine Tr.regT (tp rfl (ok_buildSlice (xs := []) (rows := []) rfl rfl Tryz.underlying22 sz3 z3 rfl (by decide) trivial (by decide)) (tp rfl (okp_fieldAddr rfl fo32_3 (vl rfl)) (TO.rd 1 rfl rfl rfl (by decide) (rd_load1 rfl one22 (vl rfl) rfl) (TO.pad ?_))))
 refine TO.efs 0 rfl rfl (by decide) (ef_append rfl rfl (by decide) rfl Tryz.underlying22 sz3 by3 z3 rfl (by decide) ⟨_, rfl, full_le _ _⟩ (vl rfl) (by simp only [List.length_append, List.length_map, List.length_cons, List.length_nil]; unfold maxLen; omega) (by simp only [List.length_append, List.length_map, List.length_cons, List.length_nil]; omega) (appR_full (by exact List.Mem.head _) (vl rfl))) (fun v1 => ?_)
 refine tm rfl (tp rfl (ok_buildSlice (xs := [.const (.int .i64 (17)), .const (.int .i64 (0)), .const (.int .i64 (3)), .const (.int .i64 (3))]) (rows := [[_], [_], [_], [_]]) rfl rfl Tryz.underlying22 sz3 z3 rfl (by decide) ⟨⟨(by exact rfl), (VL.le (vl rfl) (one_cellsP _))⟩, ⟨⟨(by exact rfl), (VL.le (vl rfl) (one_cellsP _))⟩, ⟨⟨(by exact rfl), (VL.le (vl rfl) (one_cellsP _))⟩, ⟨⟨(by exact rfl), (VL.le (vl rfl) (one_cellsP _))⟩, trivial⟩⟩⟩⟩ (by decide)) ?_)
 refine TO.efc 3 rfl rfl (by decide) (ef_callc rfl rfl (by decide) rfl (w_DOf (l := [17, 0, 3, 3]) (by simp) (by simp)) ⟨ke rfl, ⟨_, rfl, full_le _ _⟩, trivial⟩) ?_
 refine tp rfl (ok_buildSlice (xs := [.tmp 48]) (rows := [[_]]) rfl rfl Tryz.underlying22 sz3 z3 rfl (by decide) ⟨⟨(by exact rfl), (VL.le (vl rfl) (one_cellsP _))⟩, trivial⟩ (by decide)) ?_
 refine TO.efs 0 rfl rfl (by decide) (ef_append rfl rfl (by decide) rfl Tryz.underlying22 sz3 by3 z3 rfl (by decide) ⟨_, rfl, andIs_le _ _⟩ ⟨_, rfl, full_le _ _⟩ (by simp only [List.length_append, List.length_map, List.length_cons, List.length_nil]; unfold maxLen; omega) (by simp only [List.length_append, List.length_map, List.length_cons, List.length_nil]; omega) (appR_is (by exact List.Mem.head _) ⟨_, rfl, andIs_is _ _⟩)) (fun v2 => ?_)
 refine tp rfl (okp_fieldAddr rfl fo32_3 (vl rfl)) (TO.ef0 2 rfl rfl (ef_store rfl rfl (vl rfl) (VL.le (vl rfl) (one_cellsP _)) sz22 rfl (by exact Nat.le_of_ble_eq_true rfl) rfl) (TO.nil (Fin.block (Fin.go (wk2 3 4 rfl (Tr.seq (Tr.regT (TO.rd 2 rfl rfl rfl (by decide) (rd_loadA rfl agg32 sz32 (vl rfl) rfl rfl) (TO.store_all 1 rfl rfl rfl (vl rfl) (VL.le (vl rfl) (agg_cellsP _)) rfl sz32 rfl rfl (TO.nil (Fin.go (Tr.drop 2 (Tr.ret (Fin.closeD 2 _ rfl rfl ?_))))))))))))))
 refine Fin.retY1 [_, _] rfl (RVal.cell 1 rfl rfl agg32 sz32 rfl (Pr.le_refl _)) ?_ (fun _ _ _ _ => rfl)
 · exact ex_in { e with suites := e.suites ++ [s.adv.of [17, 0, 3, 3]] } (fact_in ⟨⟨hs.name, (by show (e.suites ++ [_]).length ≤ _; simp; omega), Nat.le_trans hs.anchors (by omega), Nat.le_trans hs.hashes (by omega), Nat.le_trans hs.idl (by omega), hs.ids⟩, .inl rfl⟩ (agg_le ⟨Pr.le_refl _, Pr.le_refl _, Pr.le_refl _, Pr.le_trans (andIs_le _ _) (Pr.le_of_eq (app_on (f := fun n : Int => [int n]))), Pr.le_refl _, Pr.le_refl _, Pr.le_refl _, Pr.le_refl _, Pr.le_refl _, trivial⟩))
 refine Tr.seq (Tr.reg0 (co rfl (ki rfl rfl rfl rfl) (cm rfl (Ch.nil (Fin.go (wk5 0 3 4 6 52 rfl ?_))))))
 refine Tr.cn rfl ?_ ?_ <;> intro h5 q5
 refine Tr.regT (tp rfl (ok_buildSlice (xs := [.const (.int .i64 (2)), .const (.int .i64 (1))]) (rows := [[_], [_]]) rfl rfl Tryz.underlying22 sz3 z3 rfl (by decide) ⟨⟨(by exact rfl), (VL.le (vl rfl) (one_cellsP _))⟩, ⟨⟨(by exact rfl), (VL.le (vl rfl) (one_cellsP _))⟩, trivial⟩⟩ (by decide)) ?_)
 refine tp rfl (okp_fieldAddr rfl fo32_6 (vl rfl)) (TO.ef0 1 rfl rfl (ef_store rfl rfl (vl rfl) (VL.le (vl rfl) (one_cellsP _)) sz22 rfl (by exact Nat.le_of_ble_eq_true rfl) rfl) (TO.nil (Fin.block (Fin.go (Tr.seq (Tr.regT (TO.rd 1 rfl rfl rfl (by decide) (rd_loadA rfl agg32 sz32 (vl rfl) rfl rfl) (TO.store_all 0 rfl rfl rfl (vl rfl) (VL.le (vl rfl) (agg_cellsP _)) rfl sz32 rfl rfl (TO.nil (Fin.go (Tr.drop 1 (Tr.ret (Fin.closeD 1 _ rfl rfl (Fin.retY1 [_] rfl (RVal.cell 0 rfl rfl agg32 sz32 rfl (Pr.le_refl _)) ?_ (fun _ _ _ _ => rfl)))))))))))))))
 · exact ex_in { e with anchors := [2, 1] } (fact_in ⟨⟨hs.name, Nat.le_trans hs.suites (by omega), (by show 2 ≤ _; omega), Nat.le_trans hs.hashes (by omega), Nat.le_trans hs.idl (by omega), hs.ids⟩, .inl rfl⟩ (agg_le ⟨Pr.le_refl _, Pr.le_refl _, Pr.le_refl _, Pr.le_refl _, Pr.le_refl _, Pr.le_refl _, full_le _ _, Pr.le_refl _, Pr.le_refl _, trivial⟩))
 refine Tr.seq (Tr.reg0 (co rfl (ki rfl rfl rfl rfl) (cm rfl (Ch.nil (Fin.go ?_)))))
 refine Tr.cn rfl ?_ ?_ <;> intro h6 q6
 refine Tr.regT (tm rfl (tp rfl (ok_buildSlice (xs := [.const (.int .i64 (5)), .const (.int .i64 (3)), .const (.int .i64 (0))]) (rows := [[_], [_], [_]]) rfl rfl Tryz.underlying22 sz3 z3 rfl (by decide) ⟨⟨(by exact rfl), (VL.le (vl rfl) (one_cellsP _))⟩, ⟨⟨(by exact rfl), (VL.le (vl rfl) (one_cellsP _))⟩, ⟨⟨(by exact rfl), (VL.le (vl rfl) (one_cellsP _))⟩, trivial⟩⟩⟩ (by decide)) ?_))
 refine TO.efc 2 rfl rfl (by decide) (ef_callc rfl rfl (by decide) rfl (w_DOf (l := [5, 3, 0]) (by simp) (by simp)) ⟨ke rfl, ⟨_, rfl, full_le _ _⟩, trivial⟩) ?_
 refine tp rfl (ok_buildSlice (xs := [.tmp 60]) (rows := [[_]]) rfl rfl Tryz.underlying22 sz3 z3 rfl (by decide) ⟨⟨(by exact rfl), (VL.le (vl rfl) (one_cellsP _))⟩, trivial⟩ (by decide)) ?_
 refine tp rfl (okp_fieldAddr rfl fo32_7 (vl rfl)) (TO.ef0 1 rfl rfl (ef_store rfl rfl (vl rfl) (VL.le (vl rfl) (one_cellsP _)) sz22 rfl (by exact Nat.le_of_ble_eq_true rfl) rfl) (TO.nil (Fin.block (Fin.go (Tr.seq (Tr.regT (TO.rd 1 rfl rfl rfl (by decide) (rd_loadA rfl agg32 sz32 (vl rfl) rfl rfl) (TO.store_all 0 rfl rfl rfl (vl rfl) (VL.le (vl rfl) (agg_cellsP _)) rfl sz32 rfl rfl (TO.nil (Fin.go (Tr.drop 1 (Tr.ret (Fin.closeD 1 _ rfl rfl (Fin.retY1 [_] rfl (RVal.cell 0 rfl rfl agg32 sz32 rfl (Pr.le_refl _)) ?_ (fun _ _ _ _ => rfl)))))))))))))))
 · exact ex_in { e with hashes := [s.adv.of [5, 3, 0]] } (fact_in ⟨⟨hs.name, Nat.le_trans hs.suites (by omega), Nat.le_trans hs.anchors (by omega), (by show 1 ≤ _; omega), Nat.le_trans hs.idl (by omega), hs.ids⟩, .inl rfl⟩ (agg_le ⟨Pr.le_refl _, Pr.le_refl _, Pr.le_refl _, Pr.le_refl _, Pr.le_refl _, Pr.le_refl _, Pr.le_refl _, full_le _ _, Pr.le_refl _, trivial⟩))
 refine Tr.seq (Tr.reg0 (co rfl (ki rfl rfl rfl rfl) (cm rfl (Ch.nil (Fin.go ?_)))))
 refine Tr.cn rfl ?_ ?_ <;> intro h7 q7
 refine Tr.regT (tp rfl (ok_buildSlice (xs := []) (rows := []) rfl rfl Tryz.underlying30 sz27 z27 rfl (by decide) trivial (by decide)) (tp rfl (okp_fieldAddr rfl fo32_5 (vl rfl)) (TO.rd 1 rfl rfl rfl (by decide) (rd_load1 rfl one30 (vl rfl) rfl) (TO.pad ?_))))
 refine TO.efs 0 rfl rfl (by decide) (ef_append rfl rfl (by decide) rfl Tryz.underlying30 sz27 by27 z27 rfl (by decide) ⟨_, rfl, full_le _ _⟩ (vl rfl) (by simp only [List.length_append, List.length_map, List.length_cons, List.length_nil]; unfold maxLen; omega) (by simp only [List.length_append, List.length_map, List.length_cons, List.length_nil]; omega) (appR_full (by exact List.Mem.head _) (vl rfl))) (fun v3 => ?_)
 refine tp rfl (ok_build (rows := [(0, [_])]) rfl bl24 zo24 ⟨⟨rfl, (VL.le (vl rfl) (one_cellsP _))⟩, trivial⟩ rfl) (tp rfl (ok_build (rows := [(0, _)]) rfl bl27 zo27 ⟨⟨rfl, (VL.le (vl rfl) (agg_cellsP _))⟩, trivial⟩ rfl) (tp rfl (ok_buildSlice (xs := [.tmp 70]) (rows := [rowId ⟨1, 0, 0, []⟩]) rfl rfl Tryz.underlying30 sz27 z27 rfl (by decide) ⟨⟨(by exact rfl), VL.le (vl rfl) (Pr.le_trans (agg_le (qs := rowId ⟨1, 0, 0, []⟩) ⟨Pr.le_refl _, Pr.le_refl _, Pr.le_refl _, nil_slice 15, trivial⟩) (agg_cellsP _))⟩, trivial⟩ (by decide)) ?_))
 refine TO.efs 0 rfl rfl (by decide) (ef_append rfl rfl (by decide) rfl Tryz.underlying30 sz27 by27 z27 rfl (by decide) ⟨_, rfl, andIs_le _ _⟩ ⟨_, rfl, full_le _ _⟩ (by simp only [List.length_append, List.length_map, List.length_cons, List.length_nil]; unfold maxLen; omega) (by simp only [List.length_append, List.length_map, List.length_cons, List.length_nil]; omega) (appR_is (by exact List.Mem.head _) ⟨_, rfl, andIs_is _ _⟩)) (fun v4 => ?_)
 refine tp rfl (okp_fieldAddr rfl fo32_5 (vl rfl)) (TO.ef0 2 rfl rfl (ef_store rfl rfl (vl rfl) (VL.le (vl rfl) (one_cellsP _)) sz30 rfl (by exact Nat.le_of_ble_eq_true rfl) rfl) (TO.nil (Fin.block (Fin.go (wk2 3 4 rfl (Tr.seq (Tr.regT (TO.rd 2 rfl rfl rfl (by decide) (rd_loadA rfl agg32 sz32 (vl rfl) rfl rfl) (TO.store_all 1 rfl rfl rfl (vl rfl) (VL.le (vl rfl) (agg_cellsP _)) rfl sz32 rfl rfl (TO.nil (Fin.go (Tr.drop 2 (Tr.ret (Fin.closeD 2 _ rfl rfl ?_))))))))))))))
 refine Fin.retY1 [_, _] rfl (RVal.cell 1 rfl rfl agg32 sz32 rfl (Pr.le_refl _)) ?_ (fun _ _ _ _ => rfl)
 · exact ex_in { e with ids := e.ids ++ [⟨1, 0, 0, []⟩] } (fact_in (odd_snoc (chain_fs ⟨by simp, fun c h => by simp at h⟩) hs) (agg_le ⟨Pr.le_refl _, Pr.le_refl _, Pr.le_refl _, Pr.le_refl _, Pr.le_refl _, Pr.le_trans (andIs_le _ _) (Pr.le_of_eq (app_on (f := rowId))), Pr.le_refl _, Pr.le_refl _, Pr.le_refl _, trivial⟩))
 refine Tr.regT (tp rfl (ok_buildSlice (xs := []) (rows := []) rfl rfl Tryz.underlying30 sz27 z27 rfl (by decide) trivial (by decide)) (tp rfl (okp_fieldAddr rfl fo32_5 (vl rfl)) (TO.rd 1 rfl rfl rfl (by decide) (rd_load1 rfl one30 (vl rfl) rfl) (TO.pad ?_))))
 refine TO.efs 0 rfl rfl (by decide) (ef_append rfl rfl (by decide) rfl Tryz.underlying30 sz27 by27 z27 rfl (by decide) ⟨_, rfl, full_le _ _⟩ (vl rfl) (by simp only [List.length_append, List.length_map, List.length_cons, List.length_nil]; unfold maxLen; omega) (by simp only [List.length_append, List.length_map, List.length_cons, List.length_nil]; omega) (appR_full (by exact List.Mem.head _) (vl rfl))) (fun v5 => ?_)
 refine tp rfl (ok_build (rows := [(0, [_]), (1, [_])]) rfl bl24 zo24 ⟨⟨rfl, (VL.le (vl rfl) (one_cellsP _))⟩, ⟨⟨rfl, (VL.le (vl rfl) (one_cellsP _))⟩, trivial⟩⟩ rfl) (tm rfl (tp rfl (ok_build (rows := [(0, [_]), (1, [_])]) rfl bl24 zo24 ⟨⟨rfl, (VL.le (vl rfl) (one_cellsP _))⟩, ⟨⟨rfl, (VL.le (vl rfl) (one_cellsP _))⟩, trivial⟩⟩ rfl) (TO.efc 3 rfl rfl (by decide) (ef_callc rfl rfl (by decide) rfl (w_mkChain (by decide +kernel) key_rsa (by omega) (by omega) (by omega)) ⟨ke rfl, ke rfl, ke rfl, ke rfl, trivial⟩) ?_)))
 refine TO.ex 14 rfl (fun z1 => TO.fact 14 rfl fun hz1 => ?_)
 refine tp rfl (ok_build (rows := [(0, _), (1, [_]), (2, [_])]) rfl bl27 zo27 ⟨⟨rfl, (VL.le (vl rfl) (agg_cellsP _))⟩, ⟨⟨rfl, (VL.le (vl rfl) (one_cellsP _))⟩, ⟨⟨rfl, (VL.le (vl rfl) (one_cellsP _))⟩, trivial⟩⟩⟩ rfl) (tp rfl (ok_buildSlice (xs := [.tmp 15]) (rows := [rowId ⟨5, 2048, 7, z1⟩]) rfl rfl Tryz.underlying30 sz27 z27 rfl (by decide) ⟨⟨(by exact rfl), VL.le (vl rfl) (Pr.le_trans (Pr.le_of_eq (show agg _ = agg (rowId ⟨5, 2048, 7, z1⟩) from rfl)) (agg_cellsP _))⟩, trivial⟩ (by decide)) ?_)
 refine TO.efs 0 rfl rfl (by decide) (ef_append rfl rfl (by decide) rfl Tryz.underlying30 sz27 by27 z27 rfl (by decide) ⟨_, rfl, andIs_le _ _⟩ ⟨_, rfl, full_le _ _⟩ (by simp only [List.length_append, List.length_map, List.length_cons, List.length_nil]; unfold maxLen; omega) (by simp only [List.length_append, List.length_map, List.length_cons, List.length_nil]; omega) (appR_is (by exact List.Mem.head _) ⟨_, rfl, andIs_is _ _⟩)) (fun v6 => ?_)
 refine tp rfl (okp_fieldAddr rfl fo32_5 (vl rfl)) (TO.ef0 2 rfl rfl (ef_store rfl rfl (vl rfl) (VL.le (vl rfl) (one_cellsP _)) sz30 rfl (by exact Nat.le_of_ble_eq_true rfl) rfl) (TO.nil (Fin.openD 3 rfl (fun s1 => ?_))))
 refine Fin.block (Fin.go (wk2 3 4 rfl (Tr.seq (Tr.regT (TO.rd 2 rfl rfl rfl (by decide) (rd_loadA rfl agg32 sz32 (vl rfl) rfl rfl) (TO.store_all 1 rfl rfl rfl (vl rfl) (VL.le (vl rfl) (agg_cellsP _)) rfl sz32 rfl rfl (TO.nil (Fin.go (Tr.drop 2 (Tr.ret (Fin.closeD 2 _ rfl rfl (Fin.retY1 [_, _] rfl (RVal.cell 1 rfl rfl agg32 sz32 rfl (Pr.le_refl _)) ?_ (fun _ _ _ _ => rfl)))))))))))))
 · exact ex_in { e with ids := e.ids ++ [⟨5, 2048, 7, z1⟩] } (fact_in (odd_snoc (chain_fs hz1) hs) (agg_le ⟨Pr.le_refl _, Pr.le_refl _, Pr.le_refl _, Pr.le_refl _, Pr.le_refl _, Pr.le_trans (andIs_le _ _) (Pr.le_of_eq (app_on (f := rowId))), Pr.le_refl _, Pr.le_refl _, Pr.le_refl _, trivial⟩))
end Go.Proofs.YtppeeogffbpcbaaGreat
namespace Go.Proofs.YtppeeogffbpcbaaGreat
open Go Go.RowKit Cp

theorem done_err {e : Ept} {c : Chg} (h : (doneR e c).2.2 ≠ 0) : (doneR e c).2.1 = zeroChg := by
  unfold doneR at h ⊢
  split
  · rfl
  next h1 =>
  rw [if_neg h1] at h
  split
  · rfl
  next h2 =>
  rw [if_neg h2] at h
  split
  · rfl
  next e2 b hs =>
  rw [hs] at h
  dsimp only at h ⊢
  split
  next h3 => rw [if_pos h3] at h; exact absurd rfl h
  · rfl
theorem done_yes {e : Ept} {c : Chg} (h : (doneR e c).2.2 = 0) : ∃ x b, doneR e c = (x, b, 0) ∧ okCh c ∧ stepR e c = .ok (x, b) := by
  have h2 : doneR e c = ((doneR e c).1, (doneR e c).2.1, 0) := by rw [← h]
  exact ⟨_, _, h2, (doneR_inv h2).2.1, (doneR_inv h2).2.2.1⟩
theorem inv_rest {e x : Ept} {c b : Chg} (hc : okCh c) (hs : stepR e c = .ok (x, b)) (h : ¬ c.kind = 1 ∧ ¬ c.kind = 2 ∧ ¬ c.kind = 5 ∧ ¬ c.kind = 6 ∧ ¬ c.kind = 7 ∧ ¬ c.kind = 8 ∧ ¬ c.kind = 9 ∧ ¬ c.kind = 10) : b = ⟨c.endpoint, c.kind, (valR e c.kind).1, 0, zeroId⟩ := by
  rcases kinds12 hc.1 with hk | hk | hk | hk | hk | hk | hk | hk | hk | hk | hk | hk <;> first | (exfalso; omega) | (obtain ⟨_, rfl⟩ := ok_3 hk hs; simp [valR, hk]; done) | (obtain ⟨_, rfl⟩ := ok_4 hk hs; simp [valR, hk]; done) | (obtain ⟨_, rfl⟩ := ok_11 hk hs; simp [valR, hk]; done) | (obtain ⟨_, rfl⟩ := ok_12 hk hs; simp [valR, hk]; done)

theorem w_R24Inverse {e : Ept} {c : Chg} {n : Nat} (hz : e.sz n) (hn : n ≤ 900000) (hi : c.idn.fits ∧ c.idn.small) : Fun Tryz.prog 21 [agg (rowEp e), agg (rowChg c)] (tup [agg (rowChg (doneR e c).2.1), int (doneR e c).2.2]) := by
 refine fo Tryz.func21 rfl ⟨rfl, rfl⟩ fun M0 w0 => ?_
 have hsm := hz.small (by omega)
 have hil := hsm.idl
 refine Tr.seq (Tr.regT (tp rfl (ok_box rfl (VL.le (vl rfl) (agg_cellsP _))) (tp rfl (ok_box rfl (VL.le (vl rfl) (agg_cellsP _))) ?_)))
 refine TO.alloc rfl rfl (by decide) rfl z29 zo29 (fun b1 => ?_)
 refine ap ?_
 refine ac ?_
 refine co rfl (kc2 (w_R24Check hz hn hi) rfl rfl rfl) ?_
 refine ac ?_
 refine ac ?_
 refine Tr.cn rfl ?_ ?_ <;> intro h1 q1
 refine ap ?_
 refine wk2 4 5 rfl (Tr.ret (Fin.then_ret (Fin.retX2 rfl (RVal.cell 0 rfl rfl agg29 sz29 rfl (Pr.le_refl _)) (RVal.tmp rfl (Pr.le_refl _)) ?_)))
 refine tup_le ⟨?_, ?_, trivial⟩
 · rw [done_err (by assumption)]; exact agg_le ⟨Pr.le_refl _, Pr.le_refl _, Pr.le_refl _, Pr.le_refl _, Pr.le_refl _, Pr.le_refl _, Pr.le_refl _, nil_slice 15, trivial⟩
 · exact Pr.le_refl _
 obtain ⟨x, b, hd, hc, hs⟩ := done_yes (e := e) (c := c) (by have := q1; omega)
 refine ac ?_
 refine ap ?_
 refine TO.alloc rfl rfl (by decide) rfl z29 zo29 (fun b2 => ?_)
 refine ap ?_
 refine wk4 2 3 4 7 rfl ?_
 refine ac ?_
 refine ac ?_
 refine Tr.cn rfl ?_ ?_ <;> intro h2 q2
 obtain ⟨hr, rfl, rfl⟩ := ok_1 q2 hs
 refine ap ?_
 refine ap ?_
 refine Tr.drop 0 (Tr.ret (Fin.retX2 rfl (RVal.cell 0 rfl rfl agg29 sz29 rfl (Pr.le_refl _)) (RVal.tmp rfl (Pr.le_refl _)) ?_))
 refine tup_le ⟨?_, ?_, trivial⟩
 · rw [hd]; exact agg_le ⟨Pr.le_refl _, Pr.le_refl _, Pr.le_refl _, Pr.le_refl _, Pr.le_refl _, Pr.le_refl _, Pr.le_refl _, nil_slice 15, trivial⟩
 · exact int_eq (by rw [hd])
 refine ac ?_
 refine Tr.cn rfl ?_ ?_ <;> intro h3 q3
 obtain ⟨hr, rfl, rfl⟩ := ok_2 q3 hs
 refine ap ?_
 refine tp rfl (kc2 (w_R24place) rfl rfl rfl) ?_
 refine ap ?_
 refine wk2 4 7 rfl ?_
 refine ap ?_
 refine Tr.drop 0 (Tr.ret (Fin.retX2 rfl (RVal.cell 0 rfl rfl agg29 sz29 rfl (Pr.le_refl _)) (RVal.tmp rfl (Pr.le_refl _)) ?_))
 refine tup_le ⟨?_, ?_, trivial⟩
 · rw [hd]; exact agg_le ⟨Pr.le_refl _, Pr.le_refl _, Pr.le_refl _, Pr.le_refl _, Pr.le_refl _, Pr.le_refl _, Pr.le_refl _, nil_slice 15, trivial⟩
 · exact int_eq (by rw [hd])
 refine ac ?_
 refine Tr.cn rfl ?_ ?_ <;> intro h4 q4
 obtain ⟨hr, rfl, rfl⟩ := ok_5 q4 hs
 refine Tr.rx ?_
 refine ay ?_
 refine Cx.nil ⟨by kernel_rfl, ?_⟩
 refine FinX.done al2 ?_
 refine ac ?_
 refine wk2 4 7 rfl ?_
 refine ap ?_
 refine Tr.drop 0 (Tr.ret (Fin.retX2 rfl (RVal.cell 0 rfl rfl agg29 sz29 rfl (Pr.le_refl _)) (RVal.tmp rfl (Pr.le_refl _)) ?_))
 refine tup_le ⟨?_, ?_, trivial⟩
 · rw [hd]; exact agg_le ⟨Pr.le_refl _, Pr.le_refl _, Pr.le_refl _, Pr.le_refl _, Pr.le_refl _, Pr.le_refl _, Pr.le_refl _, nil_slice 15, trivial⟩
 · exact int_eq (by rw [hd])
 refine ac ?_
 refine wk6 2 3 4 7 25 53 rfl ?_
 refine Tr.cn rfl ?_ ?_ <;> intro h5 q5
 obtain ⟨x_, hx_, hr, rfl, rfl⟩ := ok_6 q5 hs
 have hlt := lt_of_at hx_
 refine ac ?_
 refine co rfl (kc2 (w_R24keys hil) rfl rfl rfl) ?_
 refine ac ?_
 refine wk4 2 4 7 9 rfl ?_
 refine ap ?_
 refine tp rfl (ok_indexAddr rfl Tryz.underlying30 sz27 (vl rfl) (vl rfl) (by omega) (row_atI hx_)) (tp rfl (ok_loadA rfl agg27 sz27 (vl rfl) rfl rfl) ?_)
 refine tp rfl (kc1 (w_R24CopyI (hsm.ids _ (List.mem_of_getElem? hx_))) rfl rfl) ?_
 refine ap ?_
 refine wk2 4 7 rfl ?_
 refine ap ?_
 refine Tr.drop 0 (Tr.ret (Fin.retX2 rfl (RVal.cell 0 rfl rfl agg29 sz29 rfl (Pr.le_refl _)) (RVal.tmp rfl (Pr.le_refl _)) ?_))
 refine tup_le ⟨?_, ?_, trivial⟩
 · rw [hd]; exact Pr.le_refl _
 · exact int_eq (by rw [hd])
 refine ac ?_
 refine Tr.cn rfl ?_ ?_ <;> intro h6 q6
 obtain ⟨hr, rfl, rfl⟩ := ok_7 q6 hs
 refine ap ?_
 refine ap ?_
 refine Tr.drop 0 (Tr.ret (Fin.retX2 rfl (RVal.cell 0 rfl rfl agg29 sz29 rfl (Pr.le_refl _)) (RVal.tmp rfl (Pr.le_refl _)) ?_))
 refine tup_le ⟨?_, ?_, trivial⟩
 · rw [hd]; exact agg_le ⟨Pr.le_refl _, Pr.le_refl _, Pr.le_refl _, Pr.le_refl _, Pr.le_refl _, Pr.le_refl _, Pr.le_refl _, nil_slice 15, trivial⟩
 · exact int_eq (by rw [hd])
 refine ac ?_
 refine Tr.cn rfl ?_ ?_ <;> intro h7 q7
 obtain ⟨hr, rfl, rfl⟩ := ok_8 q7 hs
 refine ap ?_
 refine ap ?_
 refine Tr.drop 0 (Tr.ret (Fin.retX2 rfl (RVal.cell 0 rfl rfl agg29 sz29 rfl (Pr.le_refl _)) (RVal.tmp rfl (Pr.le_refl _)) ?_))
 refine tup_le ⟨?_, ?_, trivial⟩
 · rw [hd]; exact agg_le ⟨Pr.le_refl _, Pr.le_refl _, Pr.le_refl _, Pr.le_refl _, Pr.le_refl _, Pr.le_refl _, Pr.le_refl _, nil_slice 15, trivial⟩
 · exact int_eq (by rw [hd])
 refine ac ?_
 refine Tr.cn rfl ?_ ?_ <;> intro h8 q8
 obtain ⟨hr, rfl, rfl⟩ := ok_9 q8 hs
 refine ap ?_
 refine ap ?_
 refine Tr.drop 0 (wk2 4 5 rfl (Tr.ret (Fin.retX2 rfl (RVal.cell 0 rfl rfl agg29 sz29 rfl (Pr.le_refl _)) (RVal.tmp rfl (Pr.le_refl _)) ?_)))
 refine tup_le ⟨?_, ?_, trivial⟩
 · rw [hd]; exact agg_le ⟨Pr.le_refl _, Pr.le_refl _, Pr.le_refl _, Pr.le_refl _, Pr.le_refl _, Pr.le_refl _, Pr.le_refl _, nil_slice 15, trivial⟩
 · exact int_eq (by rw [hd])
 refine ac ?_
 refine wk5 2 3 4 7 82 rfl ?_
 refine Tr.cn rfl ?_ ?_ <;> intro h9 q9
 obtain ⟨hr, rfl, rfl⟩ := ok_10 q9 hs
 refine ap ?_
 refine ap ?_
 refine Tr.drop 0 (Tr.ret (Fin.retX2 rfl (RVal.cell 0 rfl rfl agg29 sz29 rfl (Pr.le_refl _)) (RVal.tmp rfl (Pr.le_refl _)) ?_))
 refine tup_le ⟨?_, ?_, trivial⟩
 · rw [hd]; exact agg_le ⟨Pr.le_refl _, Pr.le_refl _, Pr.le_refl _, Pr.le_refl _, Pr.le_refl _, Pr.le_refl _, Pr.le_refl _, nil_slice 15, trivial⟩
 · exact int_eq (by rw [hd])
 have hb := inv_rest hc hs (by omega)
 subst hb
 refine ap ?_
 refine tp rfl (kc2 (w_R24value) rfl rfl rfl) ?_
 refine ap ?_
 refine ap ?_
 refine Tr.drop 0 (wk2 4 5 rfl (Tr.ret (Fin.retX2 rfl (RVal.cell 0 rfl rfl agg29 sz29 rfl (Pr.le_refl _)) (RVal.tmp rfl (Pr.le_refl _)) ?_)))
 refine tup_le ⟨?_, ?_, trivial⟩
 · rw [hd]; exact agg_le ⟨Pr.le_refl _, Pr.le_refl _, Pr.le_refl _, Pr.le_refl _, Pr.le_refl _, Pr.le_refl _, Pr.le_refl _, nil_slice 15, trivial⟩
 · exact int_eq (by rw [hd])
theorem leaf_odd : validB (leafC [97, 112, 112] 5 2048 7 50 0 0) = true := by decide +kernel
structure OddC (c x : Chg) : Prop where
  fits : x.idn.fits
  small : x.idn.small
theorem oddC_id {c x : Chg} (h : x.idn = c.idn) (hi : c.idn.fits ∧ c.idn.small) : OddC c x := ⟨h ▸ hi.1, h ▸ hi.2⟩
theorem oddC_leaf {p0 p1 p2 p3 : Int} {nm : List UInt8} (hn : nm ∈ nameL) {c : Chg} {a b id to key : Int} : (agg [int p0, int p1, int p2, int p3, int a, int b, int id, sumP nm a b id to key]).le (Cp.ex fun x : Chg => fact (OddC c x) (agg (rowChg x))) := by
  intro M w v ⟨cs, h1, h2, h3⟩
  obtain ⟨s, h4⟩ := hl_exL (ps := [int p0, int p1, int p2, int p3, int a, int b, int id]) h3
  refine ⟨⟨p0, p1, p2, p3, leafI nm a b id to key s⟩, ⟨?_, ?_⟩, cs, h1, h2, hl_factL (ps := [int p0, int p1, int p2, int p3, int a, int b, int id]) h4⟩
  · intro d hd; simp at hd; subst hd
    have hn := (name_ok _ hn).2
    exact ⟨by show 4 ≤ maxLen; unfold maxLen; omega, by show nm.length ≤ maxLen; unfold maxLen; omega, fun n hn2 => by simp at hn2; subst hn2; unfold maxLen; omega⟩
  · exact ⟨by simp, fun d hd => by simp at hd; subst hd; simp⟩

theorem w_mvOdd {b : Nat} {s : DS} {c : Chg} (hi : c.idn.fits ∧ c.idn.small) : FunM Tryz.prog 17 [ptr b 0, agg (rowChg c)] (Cp.ex fun x : Chg => fact (OddC c x) (agg (rowChg x))) (diceS b s) (fun _ => diceEx 101 b) := by
 refine FunM.of Tryz.func17 rfl rfl (by exact Nat.le_of_ble_eq_true rfl) fun M0 w0 S rs M1 w1 => ?_
 have hv := s.adv.val_in (n := 15) (by omega)
 refine Tr.seq (Tr.regT ?_)
 refine TO.boxm rfl rfl (by decide) rfl (VL.le (vl rfl) (agg_cellsP _)) (fun b1 => ?_)
 refine TO.alloc rfl rfl (by decide) rfl z29 zo29 (fun b2 => ?_)
 refine ap ?_
 refine ap ?_
 refine TO.efc 2 rfl rfl (by decide) (ef_callc rfl rfl (by decide) rfl (w_DNext (by omega) (by omega)) ⟨ke rfl, ke rfl, trivial⟩) ?_
 refine ap ?_
 refine ac ?_
 refine Tr.cn rfl ?_ ?_ <;> intro h1 q1
 refine ap ?_
 refine TO.efc 2 rfl rfl (by decide) (ef_callc rfl rfl (by decide) rfl (w_DNext (by omega) (by omega)) ⟨ke rfl, ke rfl, trivial⟩) ?_
 refine ap ?_
 refine ap ?_
 refine Tr.drop 1 (Tr.ret (Fin.closeD 1 _ rfl rfl (Fin.retY1 [_] rfl (RVal.cell 0 rfl rfl agg29 sz29 rfl (Pr.le_refl _)) ?_ (fun _ _ _ _ => rfl))))
 · exact ex_in { c with kind := s.adv.val 15 - 1 } (fact_in (oddC_id rfl hi) (Pr.le_refl _))
 refine ac ?_
 refine Tr.cn rfl ?_ ?_ <;> intro h2 q2
 refine ap ?_
 refine TO.efc 2 rfl rfl (by decide) (ef_callc rfl rfl (by decide) rfl (w_DOf (l := [0, -1, 17, 70000, 2]) (by simp) (by simp)) ⟨ke rfl, ⟨_, rfl, full_le _ _⟩, trivial⟩) ?_
 refine ap ?_
 refine ap ?_
 refine Tr.drop 1 (wk1 4 rfl (Tr.ret (Fin.closeD 1 _ rfl rfl (Fin.retY1 [_] rfl (RVal.cell 0 rfl rfl agg29 sz29 rfl (Pr.le_refl _)) ?_ (fun _ _ _ _ => rfl)))))
 · exact ex_in { c with number := s.adv.of [0, -1, 17, 70000, 2] } (fact_in (oddC_id rfl hi) (Pr.le_refl _))
 refine ac ?_
 refine Tr.cn rfl ?_ ?_ <;> intro h3 q3
 refine ap ?_
 refine TO.efc 2 rfl rfl (by decide) (ef_callc rfl rfl (by decide) rfl (w_DOf (l := [-1, 1, 99]) (by simp) (by simp)) ⟨ke rfl, ⟨_, rfl, full_le _ _⟩, trivial⟩) ?_
 refine ap ?_
 refine wk2 3 4 rfl ?_
 refine ap ?_
 refine Tr.drop 1 (Tr.ret (Fin.closeD 1 _ rfl rfl (Fin.retY1 [_] rfl (RVal.cell 0 rfl rfl agg29 sz29 rfl (Pr.le_refl _)) ?_ (fun _ _ _ _ => rfl))))
 · exact ex_in { c with at_ := s.adv.of [-1, 1, 99] } (fact_in (oddC_id rfl hi) (Pr.le_refl _))
 refine ac ?_
 refine Tr.cn rfl ?_ ?_ <;> intro h4 q4
 refine Tr.regT (tp rfl (kc0 (w_RSA) rfl) ?_)
 refine tp rfl (kc5 (w_Leaf (name := [97, 112, 112]) (a := 5) (b := 2048) (id := 7) (to := 50) (key := 1) leaf_odd ⟨by show (7 : Int) ≤ 40000; omega, by show (7 : Int) ≤ 40000; omega, by show (0 : Int) ≤ 5 ∧ (5 : Int) ≤ 40000; omega, by show (0 : Int) ≤ 2048 ∧ (2048 : Int) ≤ 40000; omega, by show (0 : Int) ≤ 3 ∧ (3 : Int) ≤ 40000; omega, by show (0 : Int) ≤ 0 ∧ (0 : Int) ≤ 40000; omega⟩ (by omega)) rfl rfl rfl rfl rfl rfl) ?_
 refine tp rfl (okp_fieldAddr rfl fo29_4 (vl rfl)) (TO.ef0 1 rfl rfl (ef_store rfl rfl (vl rfl) (VL.le (vl rfl) (leaf_cells)) sz27 rfl (by exact Nat.le_of_ble_eq_true rfl) rfl) ?_)
 refine ap ?_
 refine wk2 3 4 rfl ?_
 refine ap ?_
 refine Tr.drop 1 (Tr.ret (Fin.closeD 1 _ rfl rfl (Fin.retY1 [_] rfl (RVal.cell 0 rfl rfl agg29 sz29 rfl (Pr.le_refl _)) ?_ (fun _ _ _ _ => rfl))))
 · exact oddC_leaf (by decide)
 refine ac ?_
 refine wk4 0 3 4 30 rfl ?_
 refine Tr.cn rfl ?_ ?_ <;> intro h5 q5
 refine ap ?_
 refine TO.efc 2 rfl rfl (by decide) (ef_callc rfl rfl (by decide) rfl (w_DOf (l := [-1, 9, 0]) (by simp) (by simp)) ⟨ke rfl, ⟨_, rfl, full_le _ _⟩, trivial⟩) ?_
 refine ap ?_
 refine ap ?_
 refine Tr.drop 1 (Tr.ret (Fin.closeD 1 _ rfl rfl (Fin.retY1 [_] rfl (RVal.cell 0 rfl rfl agg29 sz29 rfl (Pr.le_refl _)) ?_ (fun _ _ _ _ => rfl))))
 · exact ex_in { c with endpoint := s.adv.of [-1, 9, 0] } (fact_in (oddC_id rfl hi) (Pr.le_refl _))
 refine ac ?_
 refine ap ?_
 refine Tr.drop 1 (Tr.ret (Fin.closeD 1 _ rfl rfl (Fin.retY1 [_] rfl (RVal.cell 0 rfl rfl agg29 sz29 rfl (Pr.le_refl _)) ?_ (fun _ _ _ _ => rfl))))
 · exact ex_in c (fact_in (oddC_id rfl hi) (Pr.le_refl _))
end Go.Proofs.YtppeeogffbpcbaaGreat
namespace Go.Proofs.YtppeeogffbpcbaaGreat
open Go Go.RowKit Cp

/-- The sizes of an algorithm that may be drawn. -/
def szL (a : Int) : List Int := if a = 5 ∨ a = 6 ∨ a = 10 ∨ a = 11 then [2048, 1024, 512, 3072, 1023, 4096, 16384] else if a = 7 ∨ a = 12 then [256, 160, 224, 384, 521] else if a = 9 then [65, 44, 87] else if a = 13 then [768, 512, 1024] else if a = 14 then [128, 40] else if a = 15 then [168, 112] else if a = 16 ∨ a = 17 then [128, 256] else [0]
theorem key_in {a z : Int} (ha : a ∈ [5, 7, 5, 6, 8, 9]) (hz : z ∈ szL a) : ofB a z 2 = true ∧ (0 ≤ a ∧ a ≤ 40000) ∧ (0 ≤ z ∧ z ≤ 40000) := by
  have ha : a = 5 ∨ a = 7 ∨ a = 6 ∨ a = 8 ∨ a = 9 := by simp at ha; omega
  rcases ha with rfl | rfl | rfl | rfl | rfl <;> (simp [szL] at hz; (try rcases hz with rfl | rfl | rfl | rfl | rfl | rfl | rfl); all_goals exact ⟨by decide +kernel, by omega, by omega⟩)

theorem w_mkSize {b : Nat} {s : DS} {a : Int}  : FunM Tryz.prog 71 [ptr b 0, int a] (Cp.ex fun z : Int => fact (z ∈ szL a) (int z)) (diceS b s) (fun _ => diceEx 101 b) := by
 refine FunM.of Tryz.func71 rfl rfl (by exact Nat.le_of_ble_eq_true rfl) fun M0 w0 S rs M1 w1 => ?_
 refine ac ?_
 refine ac ?_
 refine ac ?_
 refine Tr.cn rfl ?_ ?_ <;> intro h1 q1
 refine ac ?_
 refine Tr.cond rfl (fun _ => ?_) (fun h => nomatch h1.symm.trans h)
 refine ap ?_
 refine TO.efc 0 rfl rfl (by decide) (ef_callc rfl rfl (by decide) rfl (w_DOf (l := [2048, 1024, 512, 3072, 1023, 4096, 16384]) (by simp) (by simp)) ⟨ke rfl, ⟨_, rfl, full_le _ _⟩, trivial⟩) ?_
 refine ap ?_
 refine Tr.ret (Fin.block_ret (Fin.then_ret (Fin.closeD 0 _ rfl rfl (Fin.retY1 [] rfl (RVal.tmp rfl (Pr.le_refl _)) ?_ (fun _ _ _ _ => rfl)))))
 · exact ex_in (s.of [2048, 1024, 512, 3072, 1023, 4096, 16384]) (fact_in (by unfold szL; (repeat (rw [if_pos (by omega)])); exact DS.of_mem _ (by simp)) (Pr.le_refl _))
 refine ac ?_
 refine Tr.cn rfl ?_ ?_ <;> intro h2 q2
 refine ac ?_
 refine Tr.cond rfl (fun _ => ?_) (fun h => nomatch h2.symm.trans h)
 refine ap ?_
 refine TO.efc 0 rfl rfl (by decide) (ef_callc rfl rfl (by decide) rfl (w_DOf (l := [2048, 1024, 512, 3072, 1023, 4096, 16384]) (by simp) (by simp)) ⟨ke rfl, ⟨_, rfl, full_le _ _⟩, trivial⟩) ?_
 refine ap ?_
 refine Tr.ret (Fin.block_ret (Fin.then_ret (Fin.closeD 0 _ rfl rfl (Fin.retY1 [] rfl (RVal.tmp rfl (Pr.le_refl _)) ?_ (fun _ _ _ _ => rfl)))))
 · exact ex_in (s.of [2048, 1024, 512, 3072, 1023, 4096, 16384]) (fact_in (by unfold szL; (repeat (rw [if_pos (by omega)])); exact DS.of_mem _ (by simp)) (Pr.le_refl _))
 refine ac ?_
 refine Tr.cn rfl ?_ ?_ <;> intro h3 q3
 refine ac ?_
 refine Tr.cond rfl (fun _ => ?_) (fun h => nomatch h3.symm.trans h)
 refine ap ?_
 refine TO.efc 0 rfl rfl (by decide) (ef_callc rfl rfl (by decide) rfl (w_DOf (l := [2048, 1024, 512, 3072, 1023, 4096, 16384]) (by simp) (by simp)) ⟨ke rfl, ⟨_, rfl, full_le _ _⟩, trivial⟩) ?_
 refine ap ?_
 refine Tr.ret (Fin.block_ret (Fin.then_ret (Fin.closeD 0 _ rfl rfl (Fin.retY1 [] rfl (RVal.tmp rfl (Pr.le_refl _)) ?_ (fun _ _ _ _ => rfl)))))
 · exact ex_in (s.of [2048, 1024, 512, 3072, 1023, 4096, 16384]) (fact_in (by unfold szL; (repeat (rw [if_pos (by omega)])); exact DS.of_mem _ (by simp)) (Pr.le_refl _))
 refine ac ?_
 refine Tr.cn rfl ?_ ?_ <;> intro h4 q4
 refine ap ?_
 refine TO.efc 0 rfl rfl (by decide) (ef_callc rfl rfl (by decide) rfl (w_DOf (l := [2048, 1024, 512, 3072, 1023, 4096, 16384]) (by simp) (by simp)) ⟨ke rfl, ⟨_, rfl, full_le _ _⟩, trivial⟩) ?_
 refine ap ?_
 refine wk1 4 rfl (Tr.ret (Fin.block_ret (Fin.then_ret (Fin.closeD 0 _ rfl rfl (Fin.retY1 [] rfl (RVal.tmp rfl (Pr.le_refl _)) ?_ (fun _ _ _ _ => rfl))))))
 · exact ex_in (s.of [2048, 1024, 512, 3072, 1023, 4096, 16384]) (fact_in (by unfold szL; (repeat (rw [if_pos (by omega)])); exact DS.of_mem _ (by simp)) (Pr.le_refl _))
 refine ac ?_
 refine Tr.cn rfl ?_ ?_ <;> intro h5 q5
 refine ac ?_
 refine Tr.cond rfl (fun _ => ?_) (fun h => nomatch h5.symm.trans h)
 refine ap ?_
 refine TO.efc 0 rfl rfl (by decide) (ef_callc rfl rfl (by decide) rfl (w_DOf (l := [256, 160, 224, 384, 521]) (by simp) (by simp)) ⟨ke rfl, ⟨_, rfl, full_le _ _⟩, trivial⟩) ?_
 refine ap ?_
 refine wk1 4 rfl (Tr.ret (Fin.block_ret (Fin.then_ret (Fin.closeD 0 _ rfl rfl (Fin.retY1 [] rfl (RVal.tmp rfl (Pr.le_refl _)) ?_ (fun _ _ _ _ => rfl))))))
 · exact ex_in (s.of [256, 160, 224, 384, 521]) (fact_in (by unfold szL; (repeat (first | rw [if_pos (by omega)] | rw [if_neg (by omega)])); exact DS.of_mem _ (by simp)) (Pr.le_refl _))
 refine ac ?_
 refine wk3 0 5 14 rfl ?_
 refine Tr.cn rfl ?_ ?_ <;> intro h6 q6
 refine ap ?_
 refine TO.efc 0 rfl rfl (by decide) (ef_callc rfl rfl (by decide) rfl (w_DOf (l := [256, 160, 224, 384, 521]) (by simp) (by simp)) ⟨ke rfl, ⟨_, rfl, full_le _ _⟩, trivial⟩) ?_
 refine ap ?_
 refine Tr.ret (Fin.block_ret (Fin.then_ret (Fin.closeD 0 _ rfl rfl (Fin.retY1 [] rfl (RVal.tmp rfl (Pr.le_refl _)) ?_ (fun _ _ _ _ => rfl)))))
 · exact ex_in (s.of [256, 160, 224, 384, 521]) (fact_in (by unfold szL; (repeat (first | rw [if_pos (by omega)] | rw [if_neg (by omega)])); exact DS.of_mem _ (by simp)) (Pr.le_refl _))
 refine ac ?_
 refine Tr.cn rfl ?_ ?_ <;> intro h7 q7
 refine ap ?_
 refine TO.efc 0 rfl rfl (by decide) (ef_callc rfl rfl (by decide) rfl (w_DOf (l := [65, 44, 87]) (by simp) (by simp)) ⟨ke rfl, ⟨_, rfl, full_le _ _⟩, trivial⟩) ?_
 refine ap ?_
 refine Tr.ret (Fin.block_ret (Fin.then_ret (Fin.closeD 0 _ rfl rfl (Fin.retY1 [] rfl (RVal.tmp rfl (Pr.le_refl _)) ?_ (fun _ _ _ _ => rfl)))))
 · exact ex_in (s.of [65, 44, 87]) (fact_in (by unfold szL; (repeat (first | rw [if_pos (by omega)] | rw [if_neg (by omega)])); exact DS.of_mem _ (by simp)) (Pr.le_refl _))
 refine ac ?_
 refine Tr.cn rfl ?_ ?_ <;> intro h8 q8
 refine ap ?_
 refine TO.efc 0 rfl rfl (by decide) (ef_callc rfl rfl (by decide) rfl (w_DOf (l := [768, 512, 1024]) (by simp) (by simp)) ⟨ke rfl, ⟨_, rfl, full_le _ _⟩, trivial⟩) ?_
 refine ap ?_
 refine Tr.ret (Fin.block_ret (Fin.then_ret (Fin.closeD 0 _ rfl rfl (Fin.retY1 [] rfl (RVal.tmp rfl (Pr.le_refl _)) ?_ (fun _ _ _ _ => rfl)))))
 · exact ex_in (s.of [768, 512, 1024]) (fact_in (by unfold szL; (repeat (first | rw [if_pos (by omega)] | rw [if_neg (by omega)])); exact DS.of_mem _ (by simp)) (Pr.le_refl _))
 refine ac ?_
 refine Tr.cn rfl ?_ ?_ <;> intro h9 q9
 refine ap ?_
 refine TO.efc 0 rfl rfl (by decide) (ef_callc rfl rfl (by decide) rfl (w_DOf (l := [128, 40]) (by simp) (by simp)) ⟨ke rfl, ⟨_, rfl, full_le _ _⟩, trivial⟩) ?_
 refine ap ?_
 refine Tr.ret (Fin.block_ret (Fin.then_ret (Fin.closeD 0 _ rfl rfl (Fin.retY1 [] rfl (RVal.tmp rfl (Pr.le_refl _)) ?_ (fun _ _ _ _ => rfl)))))
 · exact ex_in (s.of [128, 40]) (fact_in (by unfold szL; (repeat (first | rw [if_pos (by omega)] | rw [if_neg (by omega)])); exact DS.of_mem _ (by simp)) (Pr.le_refl _))
 refine ac ?_
 refine Tr.cn rfl ?_ ?_ <;> intro h10 q10
 refine ap ?_
 refine TO.efc 0 rfl rfl (by decide) (ef_callc rfl rfl (by decide) rfl (w_DOf (l := [168, 112]) (by simp) (by simp)) ⟨ke rfl, ⟨_, rfl, full_le _ _⟩, trivial⟩) ?_
 refine ap ?_
 refine wk1 4 rfl (Tr.ret (Fin.block_ret (Fin.then_ret (Fin.closeD 0 _ rfl rfl (Fin.retY1 [] rfl (RVal.tmp rfl (Pr.le_refl _)) ?_ (fun _ _ _ _ => rfl))))))
 · exact ex_in (s.of [168, 112]) (fact_in (by unfold szL; (repeat (first | rw [if_pos (by omega)] | rw [if_neg (by omega)])); exact DS.of_mem _ (by simp)) (Pr.le_refl _))
 refine ac ?_
 refine Tr.cn rfl ?_ ?_ <;> intro h11 q11
 refine ac ?_
 refine Tr.cond rfl (fun _ => ?_) (fun h => nomatch h11.symm.trans h)
 refine ap ?_
 refine TO.efc 0 rfl rfl (by decide) (ef_callc rfl rfl (by decide) rfl (w_DOf (l := [128, 256]) (by simp) (by simp)) ⟨ke rfl, ⟨_, rfl, full_le _ _⟩, trivial⟩) ?_
 refine ap ?_
 refine wk1 4 rfl (Tr.ret (Fin.block_ret (Fin.then_ret (Fin.closeD 0 _ rfl rfl (Fin.retY1 [] rfl (RVal.tmp rfl (Pr.le_refl _)) ?_ (fun _ _ _ _ => rfl))))))
 · exact ex_in (s.of [128, 256]) (fact_in (by unfold szL; (repeat (first | rw [if_pos (by omega)] | rw [if_neg (by omega)])); exact DS.of_mem _ (by simp)) (Pr.le_refl _))
 refine ac ?_
 refine wk2 0 40 rfl ?_
 refine Tr.cn rfl ?_ ?_ <;> intro h12 q12
 refine ap ?_
 refine TO.efc 0 rfl rfl (by decide) (ef_callc rfl rfl (by decide) rfl (w_DOf (l := [128, 256]) (by simp) (by simp)) ⟨ke rfl, ⟨_, rfl, full_le _ _⟩, trivial⟩) ?_
 refine ap ?_
 refine Tr.ret (Fin.block_ret (Fin.then_ret (Fin.closeD 0 _ rfl rfl (Fin.retY1 [] rfl (RVal.tmp rfl (Pr.le_refl _)) ?_ (fun _ _ _ _ => rfl)))))
 · exact ex_in (s.of [128, 256]) (fact_in (by unfold szL; (repeat (first | rw [if_pos (by omega)] | rw [if_neg (by omega)])); exact DS.of_mem _ (by simp)) (Pr.le_refl _))
 refine ac ?_
 refine ac ?_
 refine Tr.ret (Fin.closeD 0 _ rfl rfl (Fin.retY1 [] rfl (RVal.tmp rfl (Pr.le_refl _)) ?_ (fun _ _ _ _ => rfl)))
 · exact ex_in 0 (fact_in (by unfold szL; (repeat (rw [if_neg (by omega)])); simp) (Pr.le_refl _))
end Go.Proofs.YtppeeogffbpcbaaGreat
namespace Go.Proofs.YtppeeogffbpcbaaGreat
open Go Go.RowKit Cp

abbrev keyQ (k : Int × Int) : Prop := ofB k.1 k.2 2 = true ∧ (0 ≤ k.1 ∧ k.1 ≤ 40000) ∧ (0 ≤ k.2 ∧ k.2 ≤ 40000)
theorem agg_two : Pr.le (agg [anyK .i64, anyK .i64]) (Cp.ex fun x : Int => Cp.ex fun y : Int => agg [int x, int y]) := by
  rintro M w v ⟨cs, h1, h2, h3⟩
  match cs, h3 with
  | [c, d], ⟨⟨x, hx⟩, ⟨y, hy⟩, _⟩ => exact ⟨x, y, _, h1, h2, hx, hy, trivial⟩

theorem w_mkKey {b : Nat} {s : DS}  : FunM Tryz.prog 70 [ptr b 0] (Cp.ex fun k : Int × Int => fact (keyQ k) (agg [int k.1, int k.2])) (diceS b s) (fun _ => diceEx 101 b) := by
 refine FunM.of Tryz.func70 rfl rfl (by exact Nat.le_of_ble_eq_true rfl) fun M0 w0 S rs M1 w1 => ?_
 refine Tr.seq (Tr.regT ?_)
 refine TO.alloc rfl rfl (by decide) rfl z24 zo24 (fun b1 => ?_)
 refine TO.nil (Fin.go (Tr.seq (Tr.regT (tm rfl (tp rfl (ok_buildSlice (xs := [.const (.int .i64 (5)), .const (.int .i64 (7)), .const (.int .i64 (5)), .const (.int .i64 (6)), .const (.int .i64 (8)), .const (.int .i64 (9))]) (rows := [[_], [_], [_], [_], [_], [_]]) rfl rfl Tryz.underlying22 sz3 z3 rfl (by decide) ⟨⟨(by exact rfl), (VL.le (vl rfl) (one_cellsP _))⟩, ⟨⟨(by exact rfl), (VL.le (vl rfl) (one_cellsP _))⟩, ⟨⟨(by exact rfl), (VL.le (vl rfl) (one_cellsP _))⟩, ⟨⟨(by exact rfl), (VL.le (vl rfl) (one_cellsP _))⟩, ⟨⟨(by exact rfl), (VL.le (vl rfl) (one_cellsP _))⟩, ⟨⟨(by exact rfl), (VL.le (vl rfl) (one_cellsP _))⟩, trivial⟩⟩⟩⟩⟩⟩ (by decide)) ?_)))))
 refine TO.efc 1 rfl rfl (by decide) (ef_callc rfl rfl (by decide) rfl (w_DOf (l := [5, 7, 5, 6, 8, 9]) (by simp) (by simp)) ⟨ke rfl, ⟨_, rfl, full_le _ _⟩, trivial⟩) ?_
 refine tm rfl (TO.nil (Fin.go (Tr.seq (Tr.regT (tm rfl (tm rfl (tm rfl (TO.efc 1 rfl rfl (by decide) (ef_callc rfl rfl (by decide) rfl (w_mkSize) ⟨ke rfl, ke rfl, trivial⟩) ?_))))))))
 refine TO.ex 10 rfl (fun z1 => TO.fact 10 rfl fun hz1 => ?_)
 refine tp rfl (ok_build (rows := [(0, [_]), (1, [_])]) rfl bl24 zo24 ⟨⟨rfl, (VL.le (vl rfl) (one_cellsP _))⟩, ⟨⟨rfl, (VL.le (vl rfl) (one_cellsP _))⟩, trivial⟩⟩ rfl) (TO.store_all 0 rfl rfl rfl (vl rfl) (VL.le (vl rfl) (agg_cellsP _)) rfl sz24 rfl rfl (TO.nil (Fin.openD 1 rfl (fun s1 => ?_))))
 refine Fin.go (Tr.ret (Fin.closeD 1 _ rfl rfl (Fin.retY1 [_] rfl (RVal.cell 0 rfl rfl agg24 sz24 rfl (Pr.le_refl _)) ?_ (fun _ _ _ _ => rfl))))
 · exact ex_in (s.of [5, 7, 5, 6, 8, 9], z1) (fact_in (key_in (s.of_mem (by simp)) hz1) (Pr.le_refl _))
abbrev rowT : List Pr := [anyK .i64, (Cp.ex fun l : List UInt8 => str l), anyK .i64, anyK .i64, anyK .i64, anyK .i64, anyK .i64, anyK .i64, anyK .i64, anyK .i64, anyK .i64, anyK .i64]
abbrev rowsT : List (List Pr) := [rowT, rowT, rowT, rowT, rowT, rowT, rowT, rowT, rowT, rowT, rowT, rowT, rowT, rowT, rowT, rowT]
theorem rowT_at {i : Int} (h : 0 ≤ i ∧ i < 16) : rowsT[i.toNat]? = some rowT := by
  have : rowsT = List.replicate 16 rowT := rfl
  rw [this, List.getElem?_replicate, if_pos (by omega)]

theorem w_R2suiteT {a l m x1 y1 x2 y2 x3 y3 x4 y4 : Int} {s : List UInt8}  : Fun Tryz.prog 219 [int a, str s, agg [int x1, int y1], agg [int x2, int y2], agg [int x3, int y3], agg [int x4, int y4], int l, int m] (agg rowT) := by
 refine Fun.of Tryz.func219 rfl rfl (by exact Nat.le_of_ble_eq_true rfl) fun M0 w0 => ?_
 refine Tr.seq (Tr.regT ?_)
 iterate 4 refine tp rfl (ok_box rfl (VL.le (vl rfl) (agg_cellsP _))) ?_
 refine TO.alloc rfl rfl (by decide) rfl z170 zo170 (fun b1 => ?_)
 refine TO.nil (Fin.go (Tr.seq (Tr.regT (tm rfl (tm rfl ?_)))))
 iterate 4 refine tp rfl (ok_loadA rfl agg24 sz24 (vl rfl) rfl rfl) ?_
 refine tm rfl (tm rfl (tp rfl (ok_build (rows := [(0, [_]), (1, [_]), (2, _), (3, _), (4, _), (5, _), (6, [_]), (7, [_])]) rfl bl170 zo170 ⟨⟨rfl, (VL.le (vl rfl) (one_cellsP _))⟩, ⟨⟨rfl, (VL.le (vl rfl) (one_cellsP _))⟩, ⟨⟨rfl, (VL.le (vl rfl) (agg_cellsP _))⟩, ⟨⟨rfl, (VL.le (vl rfl) (agg_cellsP _))⟩, ⟨⟨rfl, (VL.le (vl rfl) (agg_cellsP _))⟩, ⟨⟨rfl, (VL.le (vl rfl) (agg_cellsP _))⟩, ⟨⟨rfl, (VL.le (vl rfl) (one_cellsP _))⟩, ⟨⟨rfl, (VL.le (vl rfl) (one_cellsP _))⟩, trivial⟩⟩⟩⟩⟩⟩⟩⟩ rfl) (TO.re 25 (agg rowT) rfl (agg_le ⟨is_anyK _ _, ex_in _ (Pr.le_refl _), is_anyK _ _, is_anyK _ _, is_anyK _ _, is_anyK _ _, is_anyK _ _, is_anyK _ _, is_anyK _ _, is_anyK _ _, is_anyK _ _, is_anyK _ _, trivial⟩) (TO.store_all 0 rfl rfl rfl (vl rfl) (VL.le (vl rfl) (agg_cellsP _)) rfl sz170 rfl rfl (TO.nil (Fin.go (wk1 16 rfl (Tr.ret (Fin.retX1 rfl (RVal.cell 0 rfl rfl agg170 sz170 rfl (Pr.le_refl _)) ?_)))))))))
 · exact Pr.le_refl _
theorem w_R2SuitesT   : Fun Tryz.prog 179 [] (slice 12 rowsT) := by
 refine fo Tryz.func179 rfl ⟨rfl, rfl⟩ fun M0 w0 => ?_
 refine ac ?_
 refine Tr.seq (Tr.regT (tp rfl (kc2 (w_R2use) rfl rfl rfl) (tp rfl (kc2 (w_R2use) rfl rfl rfl) (tp rfl (ok_build (rows := []) rfl bl24 zo24 trivial rfl) ?_))))
 refine TO.alloc rfl rfl (by decide) rfl z24 zo24 (fun b1 => ?_)
 refine TO.alloc rfl rfl (by decide) rfl z24 zo24 (fun b2 => ?_)
 refine TO.alloc rfl rfl (by decide) rfl z24 zo24 (fun b3 => ?_)
 refine sf 2 1 ⟨rfl, rfl, rfl⟩ rfl rfl rfl rfl ?_
 refine sf 1 2 ⟨rfl, rfl, rfl⟩ rfl rfl rfl rfl ?_
 refine sf 0 3 ⟨rfl, rfl, rfl⟩ rfl rfl rfl rfl ?_
 refine ao ?_
 refine Tr.seq (Tr.regT (tp rfl (kc2 (w_R2use) rfl rfl rfl) (tp rfl (kc2 (w_R2use) rfl rfl rfl) ?_)))
 refine TO.alloc rfl rfl (by decide) rfl z24 zo24 (fun b4 => ?_)
 refine TO.alloc rfl rfl (by decide) rfl z24 zo24 (fun b5 => ?_)
 refine sf 1 4 ⟨rfl, rfl, rfl⟩ rfl rfl rfl rfl ?_
 refine sf 0 5 ⟨rfl, rfl, rfl⟩ rfl rfl rfl rfl ?_
 refine ao ?_
 refine wk5 1 2 3 4 5 rfl (Tr.seq (Tr.regT (tp rfl (kc2 (w_R2use) rfl rfl rfl) (tp rfl (kc2 (w_R2use) rfl rfl rfl) (tp rfl (kc2 (w_R2use) rfl rfl rfl) ?_)))))
 refine TO.alloc rfl rfl (by decide) rfl z24 zo24 (fun b6 => ?_)
 refine TO.alloc rfl rfl (by decide) rfl z24 zo24 (fun b7 => ?_)
 refine TO.alloc rfl rfl (by decide) rfl z24 zo24 (fun b8 => ?_)
 refine sf 2 6 ⟨rfl, rfl, rfl⟩ rfl rfl rfl rfl ?_
 refine sf 1 7 ⟨rfl, rfl, rfl⟩ rfl rfl rfl rfl ?_
 refine sf 0 8 ⟨rfl, rfl, rfl⟩ rfl rfl rfl rfl ?_
 refine ao ?_
 refine wk8 1 2 3 4 5 6 7 8 rfl (Tr.seq (Tr.regT ?_))
 iterate 4 refine tp rfl (kc2 (w_R2use) rfl rfl rfl) ?_
 refine TO.alloc rfl rfl (by decide) rfl z24 zo24 (fun b9 => ?_)
 refine TO.alloc rfl rfl (by decide) rfl z24 zo24 (fun b10 => ?_)
 refine TO.alloc rfl rfl (by decide) rfl z24 zo24 (fun b11 => ?_)
 refine TO.alloc rfl rfl (by decide) rfl z24 zo24 (fun b12 => ?_)
 refine sf 3 9 ⟨rfl, rfl, rfl⟩ rfl rfl rfl rfl ?_
 refine sf 2 10 ⟨rfl, rfl, rfl⟩ rfl rfl rfl rfl ?_
 refine sf 1 11 ⟨rfl, rfl, rfl⟩ rfl rfl rfl rfl ?_
 refine sf 0 12 ⟨rfl, rfl, rfl⟩ rfl rfl rfl rfl ?_
 refine ao ?_
 refine wk12 1 2 3 4 5 6 7 8 9 10 11 12 rfl (Tr.seq (Tr.regT (tp rfl (kc2 (w_R2use) rfl rfl rfl) (tp rfl (kc2 (w_R2use) rfl rfl rfl) ?_))))
 refine TO.alloc rfl rfl (by decide) rfl z24 zo24 (fun b13 => ?_)
 refine TO.alloc rfl rfl (by decide) rfl z24 zo24 (fun b14 => ?_)
 refine sf 1 13 ⟨rfl, rfl, rfl⟩ rfl rfl rfl rfl ?_
 refine sf 0 14 ⟨rfl, rfl, rfl⟩ rfl rfl rfl rfl ?_
 refine ao ?_
 refine wk14 1 2 3 4 5 6 7 8 9 10 11 12 13 14 rfl ?_
 refine ac ?_
 refine co rfl (ok_call rfl (w_R2suiteT) ⟨ke rfl, ke rfl, ke rfl, ke rfl, ke rfl, ke rfl, ke rfl, ke rfl, trivial⟩) ?_
 refine ac ?_
 refine co rfl (ok_call rfl (w_R2suiteT) ⟨ke rfl, ke rfl, ke rfl, ke rfl, ke rfl, ke rfl, ke rfl, ke rfl, trivial⟩) ?_
 refine ac ?_
 refine co rfl (ok_call rfl (w_R2suiteT) ⟨ke rfl, ke rfl, ke rfl, ke rfl, ke rfl, ke rfl, ke rfl, ke rfl, trivial⟩) (co rfl (kc2 (w_R2use) rfl rfl rfl) (co rfl (kc2 (w_R2use) rfl rfl rfl) ?_))
 refine ac ?_
 refine co rfl (ok_call rfl (w_R2suiteT) ⟨ke rfl, ke rfl, ke rfl, ke rfl, ke rfl, ke rfl, ke rfl, ke rfl, trivial⟩) (co rfl (kc2 (w_R2use) rfl rfl rfl) ?_)
 refine ac ?_
 refine co rfl (ok_call rfl (w_R2suiteT) ⟨ke rfl, ke rfl, ke rfl, ke rfl, ke rfl, ke rfl, ke rfl, ke rfl, trivial⟩) ?_
 refine ac ?_
 refine co rfl (ok_call rfl (w_R2suiteT) ⟨ke rfl, ke rfl, ke rfl, ke rfl, ke rfl, ke rfl, ke rfl, ke rfl, trivial⟩) (co rfl (kc2 (w_R2use) rfl rfl rfl) ?_)
 refine ac ?_
 refine co rfl (ok_call rfl (w_R2suiteT) ⟨ke rfl, ke rfl, ke rfl, ke rfl, ke rfl, ke rfl, ke rfl, ke rfl, trivial⟩) ?_
 refine ac ?_
 refine co rfl (ok_call rfl (w_R2suiteT) ⟨ke rfl, ke rfl, ke rfl, ke rfl, ke rfl, ke rfl, ke rfl, ke rfl, trivial⟩) (co rfl (ok_loadA rfl agg24 sz24 (vl rfl) rfl rfl) (co rfl (kc2 (w_R2use) rfl rfl rfl) (co rfl (kc2 (w_R2use) rfl rfl rfl) (co rfl (ok_loadA rfl agg24 sz24 (vl rfl) rfl rfl) (co rfl (ok_call rfl (w_R2suiteT) ⟨ke rfl, ke rfl, ke rfl, ke rfl, ke rfl, ke rfl, ke rfl, ke rfl, trivial⟩) ?_)))))
 refine ac ?_
 refine co rfl (ok_call rfl (w_R2suiteT) ⟨ke rfl, ke rfl, ke rfl, ke rfl, ke rfl, ke rfl, ke rfl, ke rfl, trivial⟩) (co rfl (kc2 (w_R2use) rfl rfl rfl) (co rfl (kc2 (w_R2use) rfl rfl rfl) ?_))
 refine ac ?_
 refine co rfl (ok_call rfl (w_R2suiteT) ⟨ke rfl, ke rfl, ke rfl, ke rfl, ke rfl, ke rfl, ke rfl, ke rfl, trivial⟩) ?_
 refine ac ?_
 refine co rfl (ok_call rfl (w_R2suiteT) ⟨ke rfl, ke rfl, ke rfl, ke rfl, ke rfl, ke rfl, ke rfl, ke rfl, trivial⟩) ?_
 refine ac ?_
 refine co rfl (ok_call rfl (w_R2suiteT) ⟨ke rfl, ke rfl, ke rfl, ke rfl, ke rfl, ke rfl, ke rfl, ke rfl, trivial⟩) ?_
 refine ac ?_
 refine co rfl (ok_call rfl (w_R2suiteT) ⟨ke rfl, ke rfl, ke rfl, ke rfl, ke rfl, ke rfl, ke rfl, ke rfl, trivial⟩) ?_
 refine ac ?_
 refine co rfl (ok_call rfl (w_R2suiteT) ⟨ke rfl, ke rfl, ke rfl, ke rfl, ke rfl, ke rfl, ke rfl, ke rfl, trivial⟩) (co rfl (kc2 (w_R2use) rfl rfl rfl) ?_)
 refine ac ?_
 refine co rfl (ok_call rfl (w_R2suiteT) ⟨ke rfl, ke rfl, ke rfl, ke rfl, ke rfl, ke rfl, ke rfl, ke rfl, trivial⟩) (co rfl (ok_buildSlice (xs := [.tmp 33, .tmp 38, .tmp 43, .tmp 48, .tmp 53, .tmp 58, .tmp 63, .tmp 68, .tmp 73, .tmp 78, .tmp 83, .tmp 88, .tmp 93, .tmp 98, .tmp 103, .tmp 108]) (rows := rowsT) rfl rfl Tryz.underlying205 sz170 z170 rfl (by decide) ⟨⟨(by exact rfl), VL.le (vl rfl) (agg_cellsP _)⟩, ⟨⟨(by exact rfl), VL.le (vl rfl) (agg_cellsP _)⟩, ⟨⟨(by exact rfl), VL.le (vl rfl) (agg_cellsP _)⟩, ⟨⟨(by exact rfl), VL.le (vl rfl) (agg_cellsP _)⟩, ⟨⟨(by exact rfl), VL.le (vl rfl) (agg_cellsP _)⟩, ⟨⟨(by exact rfl), VL.le (vl rfl) (agg_cellsP _)⟩, ⟨⟨(by exact rfl), VL.le (vl rfl) (agg_cellsP _)⟩, ⟨⟨(by exact rfl), VL.le (vl rfl) (agg_cellsP _)⟩, ⟨⟨(by exact rfl), VL.le (vl rfl) (agg_cellsP _)⟩, ⟨⟨(by exact rfl), VL.le (vl rfl) (agg_cellsP _)⟩, ⟨⟨(by exact rfl), VL.le (vl rfl) (agg_cellsP _)⟩, ⟨⟨(by exact rfl), VL.le (vl rfl) (agg_cellsP _)⟩, ⟨⟨(by exact rfl), VL.le (vl rfl) (agg_cellsP _)⟩, ⟨⟨(by exact rfl), VL.le (vl rfl) (agg_cellsP _)⟩, ⟨⟨(by exact rfl), VL.le (vl rfl) (agg_cellsP _)⟩, ⟨⟨(by exact rfl), VL.le (vl rfl) (agg_cellsP _)⟩, trivial⟩⟩⟩⟩⟩⟩⟩⟩⟩⟩⟩⟩⟩⟩⟩⟩ (by decide)) ?_)
 refine ac ?_
 refine wk1 0 rfl ?_
 refine ac ?_
 · exact full_le _ _
theorem w_R2SuiteT {code : Int}  : Fun Tryz.prog 125 [int code] (tup [agg rowT, anyK .i64]) := by
 refine fo Tryz.func125 rfl ⟨rfl, rfl⟩ fun M0 w0 => (Tr.seq (Tr.regT ?_))
 refine TO.alloc rfl rfl (by decide) rfl z170 zo170 (fun b1 => ?_)
 refine ap ?_
 refine ac ?_
 refine Ch.cs 6 rfl ?_ ?_ <;> intro h1 q1
 refine ac ?_
 refine Tr.cond rfl (fun _ => ?_) (fun h => nomatch h)
 refine Tr.seq (Tr.regT (tp rfl (ok_build (rows := []) rfl bl170 zo170 trivial rfl) (TO.store_all 0 rfl rfl rfl (vl rfl) (VL.le (vl rfl) (agg_cellsP _)) rfl sz170 rfl rfl (tm rfl (TO.nil (Fin.go (Tr.ret (Fin.then_ret (Fin.retX2 rfl (RVal.cell 0 rfl rfl agg170 sz170 rfl (Pr.le_refl _)) (RVal.tmp rfl (Pr.le_refl _)) ?_)))))))))
 · exact tup_le ⟨agg_le ⟨is_anyK _ _, ex_in _ (Pr.le_refl _), is_anyK _ _, is_anyK _ _, is_anyK _ _, is_anyK _ _, is_anyK _ _, is_anyK _ _, is_anyK _ _, is_anyK _ _, is_anyK _ _, is_anyK _ _, trivial⟩, is_anyK _ _, trivial⟩
 refine ac ?_
 refine Tr.cn rfl ?_ ?_ <;> intro h2 q2
 refine ap ?_
 refine Tr.ret (Fin.then_ret (Fin.retX2 rfl (RVal.cell 0 rfl rfl agg170 sz170 rfl (Pr.le_refl _)) (RVal.tmp rfl (Pr.le_refl _)) ?_))
 · exact tup_le ⟨agg_le ⟨is_anyK _ _, ex_in _ (Pr.le_refl _), is_anyK _ _, is_anyK _ _, is_anyK _ _, is_anyK _ _, is_anyK _ _, is_anyK _ _, is_anyK _ _, is_anyK _ _, is_anyK _ _, is_anyK _ _, trivial⟩, is_anyK _ _, trivial⟩
 have hin : 1 ≤ code ∧ code ≤ 16 := by omega
 refine ac ?_
 refine Tr.seq (Tr.regT (tp rfl (kc0 (w_R2SuitesT) rfl) ?_))
 refine ap ?_
 refine tp rfl (ok_indexAddr rfl Tryz.underlying205 sz170 (vl rfl) (vl rfl) (by omega) (rowT_at (by omega))) ?_
 refine ap ?_
 refine wk2 2 3 rfl (Tr.ret (Fin.retX2 rfl (RVal.cell 0 rfl rfl agg170 sz170 rfl (Pr.le_refl _)) (RVal.tmp rfl (Pr.le_refl _)) ?_))
 · exact tup_le ⟨Pr.le_refl _, is_anyK _ _, trivial⟩
theorem w_R8Strength {code : Int}  : Fun Tryz.prog 162 [int code] (anyK .i64) := by
 refine fo Tryz.func162 rfl ⟨rfl, rfl⟩ fun M0 w0 => ?_
 refine ac ?_
 refine ao ?_
 refine tp rfl (kc1 (w_R2SuiteT) rfl rfl) ?_
 refine ao ?_
 refine TO.ex 9 rfl fun x9 => ?_
 refine TO.alloc rfl rfl (by decide) rfl z170 zo170 (fun b1 => ?_)
 refine sf 0 3 ⟨rfl, rfl, rfl⟩ rfl rfl rfl rfl ?_
 refine ao ?_
 refine ac ?_
 refine Tr.cn rfl ?_ ?_ <;> intro h1 q1
 refine ac ?_
 refine ac ?_
 · exact is_anyK _ _
 refine ac ?_
 refine ao ?_
 refine TO.re 13 (Cp.ex fun x : Int => Cp.ex fun y : Int => agg [int x, int y]) rfl (by exact agg_two) ?_
 refine TO.ex 13 rfl fun x13 => (TO.ex 13 rfl fun y13 => (tp rfl (kc1 (w_RStrength) rfl rfl) ?_))
 refine ao ?_
 refine wk1 2 rfl ?_
 refine ac ?_
 · exact is_anyK _ _
end Go.Proofs.YtppeeogffbpcbaaGreat
namespace Go.Proofs.YtppeeogffbpcbaaGreat
open Go Go.RowKit Cp
theorem w_R8Sort {l : List Int} (hl : l.length ≤ 1000) : Fun Tryz.prog 113 [ints l] (Cp.ex fun o : List Int => fact (o.length = l.length) (ints o)) := by
 refine fo Tryz.func113 rfl ⟨rfl, rfl⟩ fun M0 w0 => ?_
 refine ac ?_
 refine ac ?_
 refine ac ?_
 refine Tr.block (Tr.loopD2V0 [(0, _)] ⟨ke rfl, trivial⟩ (fun (i : Nat) (out : List Int) => [(4, int ((i : Nat) : Int)), (3, ints out)]) (fun (i : Nat) (out : List Int) => Hp M0 w0 noS ([])) (fun (i : Nat) (out : List Int) => i ≤ l.length ∧ out.length = i) (fun (i : Nat) (out : List Int) => l.length - i) (0) ([])  (⟨by omega, rfl⟩) ⟨ke rfl, ⟨_, rfl, nil_slice 1⟩, trivial⟩ (fun _ _ h => h) ?_)
 rintro i out  ⟨hi1, hi2⟩
 refine ac ?_
 refine Tr.cn rfl ?_ ?_ <;> intro h1 q1
 have hil : i < l.length := by have := Nrm.nrm h1; omega
 obtain ⟨x, hx⟩ := at_ (l := l) (k := i) hil
 refine ac ?_
 refine ac ?_
 refine Tr.seq (Tr.block (Tr.loopD1V0 [(0, _), (3, _), (4, _)] ⟨ke rfl, ke rfl, ke rfl, trivial⟩ (fun (j : Int) => [(5, int j)]) (fun (j : Int) => Hp M0 w0 noS ([])) (fun (j : Int) => 0 ≤ j ∧ j ≤ (out.length : Nat)) (fun (j : Int) => j.toNat) (_)  (⟨by omega, by omega⟩) ⟨ke rfl, trivial⟩ (fun _ _ h => h) ?_))
 rintro j  ⟨hj1, hj2⟩
 refine ac ?_
 refine Ch.cs 16 rfl ?_ ?_ <;> intro h2 q2
 have hj0 : j > 0 := of_decide_eq_true h2
 obtain ⟨y, hj3⟩ := at_ (l := out) (k := (j - 1).toNat) (by omega)
 refine ac ?_
 refine cy h2 rfl (ok_indexAddr rfl Tryz.underlying22 sz3 (vl rfl) (vl rfl) (by omega) (row_atI hj3)) (cy h2 rfl (kl1 rfl one3 rfl) (cy h2 rfl (kc1 (w_R8Strength) rfl rfl) ?_))
 refine ac ?_
 refine cy h2 rfl (ok_indexAddr rfl Tryz.underlying22 sz3 (vl rfl) (vl rfl) (by omega) (row_at hx)) (cy h2 rfl (kl1 rfl one3 rfl) (cy h2 rfl (kc1 (w_R8Strength) rfl rfl) (cy h2 rfl (ok_ltK rfl (vl rfl) (vl rfl)) ?_)))
 refine ac ?_
 refine wk5 0 3 4 5 29 rfl (Tr.ex 29 rfl fun b29x => ?_)
 refine Tr.cn rfl ?_ ?_ <;> intro h3 q3
 
 refine ac ?_
 refine ac ?_
 exact Fin.famD1V0 (j - 1)  (⟨⟨by omega, by omega⟩, by omega⟩) ⟨⟨_, rfl, int_eq (by omega)⟩, ke rfl, ke rfl, ke rfl, trivial⟩ (fun _ _ h => h)
 
 refine ac ?_
 refine Tr.pad (Tr.rx (xo rfl (fun _ => ok_buildSlice (xs := []) (rows := []) rfl rfl Tryz.underlying22 sz3 z3 rfl (by decide) trivial (by decide)) ?_))
 refine ay ?_
 refine xo rfl (fun _ => ok_sliceTo rfl Tryz.underlying22 sz3 (vl rfl) (vl rfl) (by omega) (by simp; omega)) ?_
 refine Cx.ef 0 rfl rfl (by decide) (ef_append rfl rfl (by decide) rfl Tryz.underlying22 sz3 by3 z3 rfl (by decide) ⟨_, rfl, full_le _ _⟩ (vl rfl) (by simp only [List.length_append, List.length_map, List.length_take, List.length_drop, List.length_cons, List.length_nil]; unfold maxLen; omega) (by simp only [List.length_append, List.length_map, List.length_take, List.length_drop, List.length_cons, List.length_nil]; omega) (appR_full (by exact List.Mem.head _) (vl rfl))) ?_
 refine ay ?_
 refine xo rfl (fun _ => ok_indexAddr rfl Tryz.underlying22 sz3 (vl rfl) (vl rfl) (by omega) (row_at hx)) (xo rfl (fun _ => kl1 rfl one3 rfl) (xo rfl (fun _ => ok_buildSlice (xs := [.tmp 40]) (rows := [[_]]) rfl rfl Tryz.underlying22 sz3 z3 rfl (by decide) ⟨⟨(by exact rfl), (VL.le (vl rfl) (one_cellsP _))⟩, trivial⟩ (by decide)) ?_))
 refine Cx.ef 0 rfl rfl (by decide) (ef_append rfl rfl (by decide) rfl Tryz.underlying22 sz3 by3 z3 rfl (by decide) (vl rfl) ⟨_, rfl, full_le _ _⟩ (by simp only [List.length_append, List.length_map, List.length_take, List.length_drop, List.length_cons, List.length_nil]; unfold maxLen; omega) (by simp only [List.length_append, List.length_map, List.length_take, List.length_drop, List.length_cons, List.length_nil]; omega) appR_slot) ?_
 refine ay ?_
 refine xo rfl (fun _ => ok_sliceFrom rfl Tryz.underlying22 sz3 (vl rfl) (vl rfl) (by omega) (by simp; omega)) ?_
 refine Cx.ef 0 rfl rfl (by decide) (ef_append rfl rfl (by decide) rfl Tryz.underlying22 sz3 by3 z3 rfl (by decide) (vl rfl) (vl rfl) (by simp only [List.length_append, List.length_map, List.length_take, List.length_drop, List.length_cons, List.length_nil]; unfold maxLen; omega) (by simp only [List.length_append, List.length_map, List.length_take, List.length_drop, List.length_cons, List.length_nil]; omega) appR_slot) ?_
 refine Cx.ef 0 rfl rfl (by decide) (ef_move rfl rfl (by decide) rfl (vl rfl)) ?_
 refine Cx.nil ⟨by kernel_rfl, ?_⟩
 refine FinX.open_ 0 3 rfl rfl (fun v1 => ?_)
 refine FinX.done al1 ?_
 refine ac ?_
 refine wk3 0 3 4 rfl ?_
 refine ac ?_
 refine Fin.drop 0 ?_
 exact Fin.famD2V0 (i + 1) ((out.take j.toNat ++ [x] ++ out.drop j.toNat))  (⟨⟨by omega, by simp [List.length_take]; omega⟩, by omega⟩) ⟨⟨_, rfl, int_succ i⟩, ⟨_, rfl, Pr.le_trans (andIs_le _ _) (Pr.le_of_eq (by show _ = slice 1 ((out.take j.toNat ++ [x] ++ out.drop j.toNat).map fun n => [int n]); simp [List.map_take, List.map_drop]))⟩, ke rfl, trivial⟩ (fun _ _ h => h)
 refine ac ?_
 refine wk5 0 3 4 5 29 rfl ?_
 refine ac ?_
 refine Tr.pad (Tr.rx (xo rfl (fun _ => ok_buildSlice (xs := []) (rows := []) rfl rfl Tryz.underlying22 sz3 z3 rfl (by decide) trivial (by decide)) ?_))
 refine ay ?_
 refine xo rfl (fun _ => ok_sliceTo rfl Tryz.underlying22 sz3 (vl rfl) (vl rfl) (by omega) (by omega)) ?_
 refine Cx.ef 0 rfl rfl (by decide) (ef_append rfl rfl (by decide) rfl Tryz.underlying22 sz3 by3 z3 rfl (by decide) ⟨_, rfl, full_le _ _⟩ (vl rfl) (by simp only [List.length_append, List.length_map, List.length_take, List.length_drop, List.length_cons, List.length_nil]; unfold maxLen; omega) (by simp only [List.length_append, List.length_map, List.length_take, List.length_drop, List.length_cons, List.length_nil]; omega) (appR_full (by exact List.Mem.head _) (vl rfl))) ?_
 refine ay ?_
 refine xo rfl (fun _ => ok_indexAddr rfl Tryz.underlying22 sz3 (vl rfl) (vl rfl) (by omega) (row_at hx)) (xo rfl (fun _ => kl1 rfl one3 rfl) (xo rfl (fun _ => ok_buildSlice (xs := [.tmp 40]) (rows := [[_]]) rfl rfl Tryz.underlying22 sz3 z3 rfl (by decide) ⟨⟨(by exact rfl), (VL.le (vl rfl) (one_cellsP _))⟩, trivial⟩ (by decide)) ?_))
 refine Cx.ef 0 rfl rfl (by decide) (ef_append rfl rfl (by decide) rfl Tryz.underlying22 sz3 by3 z3 rfl (by decide) (vl rfl) ⟨_, rfl, full_le _ _⟩ (by simp only [List.length_append, List.length_map, List.length_take, List.length_drop, List.length_cons, List.length_nil]; unfold maxLen; omega) (by simp only [List.length_append, List.length_map, List.length_take, List.length_drop, List.length_cons, List.length_nil]; omega) appR_slot) ?_
 refine ay ?_
 refine xo rfl (fun _ => ok_sliceFrom rfl Tryz.underlying22 sz3 (vl rfl) (vl rfl) (by omega) (by omega)) ?_
 refine Cx.ef 0 rfl rfl (by decide) (ef_append rfl rfl (by decide) rfl Tryz.underlying22 sz3 by3 z3 rfl (by decide) (vl rfl) (vl rfl) (by simp only [List.length_append, List.length_map, List.length_take, List.length_drop, List.length_cons, List.length_nil]; unfold maxLen; omega) (by simp only [List.length_append, List.length_map, List.length_take, List.length_drop, List.length_cons, List.length_nil]; omega) appR_slot) ?_
 refine Cx.ef 0 rfl rfl (by decide) (ef_move rfl rfl (by decide) rfl (vl rfl)) ?_
 refine Cx.nil ⟨by kernel_rfl, ?_⟩
 refine FinX.open_ 0 3 rfl rfl (fun v2 => ?_)
 refine FinX.done al1 ?_
 refine ac ?_
 refine wk3 0 3 4 rfl ?_
 refine ac ?_
 refine Fin.drop 0 ?_
 exact Fin.famD2V0 (i + 1) ((out.take j.toNat ++ [x] ++ out.drop j.toNat))  (⟨⟨by omega, by simp [List.length_take]; omega⟩, by omega⟩) ⟨⟨_, rfl, int_succ i⟩, ⟨_, rfl, Pr.le_trans (andIs_le _ _) (Pr.le_of_eq (by show _ = slice 1 ((out.take j.toNat ++ [x] ++ out.drop j.toNat).map fun n => [int n]); simp [List.map_take, List.map_drop]))⟩, ke rfl, trivial⟩ (fun _ _ h => h)
 
 refine ac ?_
 refine ac ?_
 refine Tr.ret (Fin.retX1 rfl (RVal.tmp rfl (Pr.le_refl _)) ?_)
 · exact ex_in out (fact_in (by omega) (Pr.le_refl _))
end Go.Proofs.YtppeeogffbpcbaaGreat
namespace Go.Proofs.YtppeeogffbpcbaaGreat
open Go Go.RowKit Cp
theorem w_mkSuites {b : Nat} {s : DS}  : FunM Tryz.prog 69 [ptr b 0] (Cp.ex fun l : List Int => fact (l.length ≤ 10) (ints l)) (diceS b s) (fun _ => diceEx 101 b) := by
 refine FunM.of Tryz.func69 rfl rfl (by exact Nat.le_of_ble_eq_true rfl) fun M0 w0 S rs M1 w1 => ?_
 have hv9 := s.val_in (n := 9) (by omega)
 refine ac ?_
 refine ac ?_
 refine ap ?_
 refine TO.efc 0 rfl rfl (by decide) (ef_callc rfl rfl (by decide) rfl (w_DNext (by omega) (by omega)) ⟨ke rfl, ke rfl, trivial⟩) ?_
 refine ap ?_
 refine Tr.block (Tr.addnil 3 1 ?_)
 refine Tr.loopD3V1 [(0, _)] ⟨ke rfl, trivial⟩ (fun (l : List Int) (k : Int) (s2 : DS) u => [(4, int k), (3, andIs u (ints l))]) (fun (l : List Int) (k : Int) (s2 : DS) u => Hp M0 w0 S (appRes 3 1 u :: diceS b s2 :: extRes M1 w1 :: rs)) (fun (l : List Int) (k : Int) (s2 : DS) => 0 ≤ k ∧ k + l.length ≤ 10) (fun (l : List Int) (k : Int) (s2 : DS) => k.toNat) ([]) (_) (_) (.slice none 0 0) (⟨by omega, by simp; omega⟩) ⟨ke rfl, ⟨_, rfl, own_nil rfl⟩, trivial⟩ (fun _ _ h => h) ?_
 rintro l k s2 u ⟨hk1, hk2⟩
 refine ac ?_
 refine Tr.cn rfl ?_ ?_ <;> intro h1 q1
 have hk0 : k > 0 := of_decide_eq_true h1
 have hv16 := s2.val_in (n := 16) (by omega)
 refine ac ?_
 refine ap ?_
 refine TO.efc 1 rfl rfl (by decide) (ef_callc rfl rfl (by decide) rfl (w_DNext (by omega) (by omega)) ⟨ke rfl, ke rfl, trivial⟩) ?_
 refine ap ?_
 refine ac ?_
 refine co rfl (ok_call rfl (w_R02Has) ⟨⟨_, rfl, andIs_le _ _⟩, ke rfl, trivial⟩) ?_
 refine ac ?_
 refine Tr.cn rfl ?_ ?_ <;> intro h2 q2
 refine ap ?_
 refine TO.efs 0 rfl rfl (by decide) (ef_append rfl rfl (by decide) rfl Tryz.underlying22 sz3 by3 z3 rfl (by decide) ⟨_, rfl, andIs_le _ _⟩ ⟨_, rfl, full_le _ _⟩ (by simp only [List.length_append, List.length_map, List.length_cons, List.length_nil]; unfold maxLen; omega) (by simp only [List.length_append, List.length_map, List.length_cons, List.length_nil]; omega) (appR_is (by exact List.Mem.head _) ⟨_, rfl, andIs_is _ _⟩)) (fun v1 => ?_)
 refine ap ?_
 refine wk3 0 3 4 rfl ?_
 refine ac ?_
 exact Fin.famD3V1 (l ++ [1 + s2.val 16]) (k - 1) (_) v1 (⟨⟨by omega, by simp; omega⟩, by omega⟩) ⟨⟨_, rfl, int_eq (by omega)⟩, ⟨_, rfl, own_le (by rw [List.map_append]; rfl)⟩, ke rfl, trivial⟩ (fun _ _ h => h)
 refine ac ?_
 refine ac ?_
 exact Fin.famD3V1 (l) (k - 1) (_) u (⟨⟨by omega, by omega⟩, by omega⟩) ⟨⟨_, rfl, int_eq (by omega)⟩, ⟨_, rfl, own_le (by simp)⟩, ke rfl, trivial⟩ (fun _ _ h => h)
 have hk0 : ¬ k > 0 := of_decide_eq_false h1
 refine ac ?_
 refine ap ?_
 refine TO.efc 1 rfl rfl (by decide) (ef_callc rfl rfl (by decide) rfl (w_DOne (by omega) (by omega)) ⟨ke rfl, ke rfl, trivial⟩) ?_
 refine ap ?_
 refine Tr.cn rfl ?_ ?_ <;> intro h3 q3
 refine ap ?_
 refine tp rfl (ok_call rfl (w_R8Sort (l := l) (by omega)) ⟨⟨_, rfl, andIs_le _ _⟩, trivial⟩) ?_
 refine TO.ex 27 rfl (fun x27 => TO.fact 27 rfl fun hx27 => ?_)
 refine ap ?_
 refine ac ?_
 refine Tr.ret (Fin.closeD 1 _ rfl rfl (Fin.retY1 [_] rfl (RVal.tmp rfl (Pr.le_refl _)) ?_ (fun _ _ _ _ => rfl)))
 · exact ex_in x27 (fact_in (by omega) (Pr.le_refl _))
 refine ac ?_
 refine ac ?_
 refine Tr.ret (Fin.closeD 1 _ rfl rfl (Fin.retY1 [_] rfl (RVal.tmp rfl (Pr.le_refl _)) ?_ (fun _ _ _ _ => rfl)))
 · exact ex_in l (fact_in (by omega) (andIs_le _ _))
end Go.Proofs.YtppeeogffbpcbaaGreat
namespace Go.Proofs.YtppeeogffbpcbaaGreat
open Go Go.RowKit Cp

def anL : List (List Int) := [[1, 2], [1, 2], [1], [2, 11], []]
def haL : List (List Int) := [[1, 2, 3, 4], [2, 3, 4], [3, 4]]
def atL (L : List (List Int)) (i : Int) : List Int := (L[i.toNat]?).getD []
theorem atL_row {L : List (List Int)} {i : Int} (h : 0 ≤ i ∧ i < (L.length : Nat)) : (L.map fun l => [ints l])[i.toNat]? = some [ints (atL L i)] := by
  have hl : i.toNat < L.length := by omega
  unfold atL; rw [List.getElem?_map, List.getElem?_eq_getElem hl]; rfl
theorem atL_len {L : List (List Int)} (h : ∀ l ∈ L, l.length ≤ 4) (i : Int) : (atL L i).length ≤ 4 := by
  unfold atL
  cases hx : L[i.toNat]? with
  | none => show 0 ≤ 4; omega
  | some l => exact h l (List.mem_of_getElem? hx)
theorem anL_len (i : Int) : (atL anL i).length ≤ 4 := atL_len (by decide) i
theorem haL_len (i : Int) : (atL haL i).length ≤ 4 := atL_len (by decide) i
theorem ids_snoc {l : List Idn} {y : Idn} (h : ∀ x ∈ l, x.fits ∧ x.small) (hy : y.fits ∧ y.small) : ∀ x ∈ l ++ [y], x.fits ∧ x.small := by
  intro x hx
  rcases List.mem_append.1 hx with hx | hx
  · exact h x hx
  · simp at hx; subst hx; exact hy

theorem w_mkEndpoint {b : Nat} {s : DS} {name : List UInt8} (hn : namesB [name, name ++ [120]] = true) : FunM Tryz.prog 14 [ptr b 0, str name] (Cp.ex fun x : Ept => fact (x.sz 2000) (agg (rowEp x))) (diceS b s) (fun _ => diceEx 101 b) := by
 refine FunM.of Tryz.func14 rfl rfl (by exact Nat.le_of_ble_eq_true rfl) fun M0 w0 S rs M1 w1 => ?_
 have hof := s.of_mem (l := [1, 1, 2, 3]) (by simp)
 simp at hof
 refine Tr.seq (Tr.regT ?_)
 refine TO.alloc rfl rfl (by decide) rfl z32 zo32 (fun b1 => ?_)
 refine TO.nil (Fin.go (Tr.seq (Tr.regT (tm rfl (tm rfl (tp rfl (ok_buildSlice (xs := [.const (.int .i64 (1)), .const (.int .i64 (1)), .const (.int .i64 (2)), .const (.int .i64 (3))]) (rows := [[_], [_], [_], [_]]) rfl rfl Tryz.underlying22 sz3 z3 rfl (by decide) ⟨⟨(by exact rfl), (VL.le (vl rfl) (one_cellsP _))⟩, ⟨⟨(by exact rfl), (VL.le (vl rfl) (one_cellsP _))⟩, ⟨⟨(by exact rfl), (VL.le (vl rfl) (one_cellsP _))⟩, ⟨⟨(by exact rfl), (VL.le (vl rfl) (one_cellsP _))⟩, trivial⟩⟩⟩⟩ (by decide)) ?_))))))
 refine TO.efc 1 rfl rfl (by decide) (ef_callc rfl rfl (by decide) rfl (w_DOf (l := [1, 1, 2, 3]) (by simp) (by simp)) ⟨ke rfl, ⟨_, rfl, full_le _ _⟩, trivial⟩) ?_
 refine tm rfl (TO.efc 1 rfl rfl (by decide) (ef_callc rfl rfl (by decide) rfl (w_mkSuites) ⟨ke rfl, trivial⟩) ?_)
 refine TO.ex 15 rfl (fun z1 => TO.fact 15 rfl fun hz1 => ?_)
 refine tm rfl ?_
 refine TO.openD 1 rfl (fun s1 => ?_)
 refine TO.efc 1 rfl rfl (by decide) (ef_callc rfl rfl (by decide) rfl (w_DOne (by omega) (by omega)) ⟨ke rfl, ke rfl, trivial⟩) (tm rfl (TO.efc 1 rfl rfl (by decide) (ef_callc rfl rfl (by decide) rfl (w_DOne (by omega) (by omega)) ⟨ke rfl, ke rfl, trivial⟩) (tp rfl (ok_build (rows := [(0, [_]), (1, [_]), (3, [_]), (4, [_]), (8, [_])]) rfl bl32 zo32 ⟨⟨rfl, (VL.le (vl rfl) (one_cellsP _))⟩, ⟨⟨rfl, (VL.le (vl rfl) (one_cellsP _))⟩, ⟨⟨rfl, (VL.le (vl rfl) (one_cellsP _))⟩, ⟨⟨rfl, (VL.le (vl rfl) (one_cellsP _))⟩, ⟨⟨rfl, (VL.le (vl rfl) (one_cellsP _))⟩, trivial⟩⟩⟩⟩⟩ rfl) ?_)))
 refine TO.alloc rfl rfl (by decide) rfl z32 zo32 (fun b2 => ?_)
 refine TO.store_all 0 rfl rfl rfl (vl rfl) (VL.le (vl rfl) (agg_cellsP _)) rfl sz32 rfl rfl (TO.nil (Fin.go (wk4 0 1 4 5 rfl (Tr.seq ?_))))
 have hva := s1.adv.adv.val_in (n := 5 - s.of [1, 1, 2, 3]) (by omega)
 refine Tr.eqC 0 [str name, int (s.of [1, 1, 2, 3]), int 0, ints z1, bool (s1.val 2 == 2 - 1), is (.slice none 0 0), is (.slice none 0 0), is (.slice none 0 0), bool (s1.adv.val 2 == 2 - 1)] rfl (by kernel_rfl) (Tr.regX mixed [none, some (0, 0, false, 0), none, none, some (0, 0, false, 0), none, some (0, 2, true, 0), none, none, some (0, 0, true, 0)] (by kernel_rfl) (xo rfl (fun _ => okp_fieldAddr rfl fo32_1 (vl rfl)) (xrd 0 rfl rfl (rd_load1 rfl one3 (vl rfl) rfl) (xm rfl (xo rfl (fun _ => okp_fieldAddr rfl fo32_1 (vl rfl)) (xrd 0 rfl rfl (rd_load1 rfl one3 (vl rfl) rfl) ?_))))))
 refine xo rfl (fun _ => ok_sub rfl (vl rfl) (vl rfl) ?hin) ?_; case hin => unfold InI; omega
 refine Cx.ef 2 rfl rfl (by decide) (ef_callc rfl rfl (by decide) rfl (w_DNext (by omega) (by omega)) ⟨ke rfl, ke rfl, trivial⟩) ?_
 refine xo rfl (fun _ => ok_add rfl (vl rfl) (vl rfl) ?hin) ?_; case hin => unfold InI; omega
 refine xo rfl (fun _ => okp_fieldAddr rfl fo32_2 (vl rfl)) (Cx.ef0 0 rfl rfl (ef_store rfl rfl (vl rfl) (VL.le (vl rfl) (one_cellsP _)) sz3 rfl (by exact Nat.le_of_ble_eq_true rfl) rfl) ?_)
 refine Cx.nil ⟨rfl, ?_⟩
 refine FinX.done (AllC.cons (AllC.cons (AllC.cons (AllC.cons (AllC.map _))))) (Fin.go (Tr.cutD3V0 [(0, _), (1, _), (4, _), (5, _)] ⟨ke rfl, ke rfl, ke rfl, ke rfl, trivial⟩ (fun (le : Int) (mo : Int) (s5 : DS) => []) (fun (le : Int) (mo : Int) (s5 : DS) => Hp M0 w0 S (cellsRes true b2 32 [str name, int le, int mo, ints z1, bool (s1.val 2 == 2 - 1), is (.slice none 0 0), is (.slice none 0 0), is (.slice none 0 0), bool (s1.adv.val 2 == 2 - 1)] :: cellsRes true b1 32 (([.string (ByteArray.mk #[]), .int .i64 0, .int .i64 0, .slice none 0 0, .bool false, .slice none 0 0, .slice none 0 0, .slice none 0 0, .bool false] : List Value).map is) :: diceS b s5 :: extRes M1 w1 :: rs)) (fun (le : Int) (mo : Int) (s5 : DS) => 0 ≤ le) ?_ ?_))
 refine Tr.seq (Tr.regT (tm rfl (TO.efc 2 rfl rfl (by decide) (ef_callc rfl rfl (by decide) rfl (w_DNext (by omega) (by omega)) ⟨ke rfl, ke rfl, trivial⟩) (tp rfl (ki rfl rfl rfl rfl) (TO.nil (Fin.go (wk5 0 1 4 5 32 rfl ?_)))))))
 refine Tr.cn rfl ?_ ?_ <;> intro h1 q1
 refine Tr.regT (tm rfl (tp rfl (ok_buildSlice (xs := [.const (.int .i64 (3)), .const (.int .i64 (4)), .const (.int .i64 (2))]) (rows := [[_], [_], [_]]) rfl rfl Tryz.underlying22 sz3 z3 rfl (by decide) ⟨⟨(by exact rfl), (VL.le (vl rfl) (one_cellsP _))⟩, ⟨⟨(by exact rfl), (VL.le (vl rfl) (one_cellsP _))⟩, ⟨⟨(by exact rfl), (VL.le (vl rfl) (one_cellsP _))⟩, trivial⟩⟩⟩ (by decide)) ?_))
 refine TO.efc 2 rfl rfl (by decide) (ef_callc rfl rfl (by decide) rfl (w_DOf (l := [3, 4, 2]) (by simp) (by simp)) ⟨ke rfl, ⟨_, rfl, full_le _ _⟩, trivial⟩) ?_
 refine tp rfl (okp_fieldAddr rfl fo32_1 (vl rfl)) (TO.ef0 0 rfl rfl (ef_store rfl rfl (vl rfl) (VL.le (vl rfl) (one_cellsP _)) sz3 rfl (by exact Nat.le_of_ble_eq_true rfl) rfl) (tp rfl (okp_fieldAddr rfl fo32_2 (vl rfl)) (TO.ef0 0 rfl rfl (ef_store rfl rfl (vl rfl) (VL.le (vl rfl) (one_cellsP _)) sz3 rfl (by exact Nat.le_of_ble_eq_true rfl) rfl) (TO.nil (Fin.eqC 0 [str name, int 1, int (s1.adv.adv.adv.adv.of [3, 4, 2]), ints z1, bool (s1.val 2 == 2 - 1), is (.slice none 0 0), is (.slice none 0 0), is (.slice none 0 0), bool (s1.adv.val 2 == 2 - 1)] rfl (by kernel_rfl) (Fin.famD3V0 (1) (_) (_)  ((by omega)) ⟨ke rfl, ke rfl, ke rfl, ke rfl, trivial⟩ (fun _ _ h => h)))))))
 refine Tr.skip (Fin.eqC 0 [str name, int (s.of [1, 1, 2, 3]), int (s.of [1, 1, 2, 3] + s1.adv.adv.val (5 - s.of [1, 1, 2, 3])), ints z1, bool (s1.val 2 == 2 - 1), is (.slice none 0 0), is (.slice none 0 0), is (.slice none 0 0), bool (s1.adv.val 2 == 2 - 1)] rfl (by kernel_rfl) (Fin.famD3V0 ((s.of [1, 1, 2, 3])) (_) (_)  ((by omega)) ⟨ke rfl, ke rfl, ke rfl, ke rfl, trivial⟩ (fun _ _ h => h)))
 rintro le mo s5  hle
 refine Tr.seq (Tr.seq ?_)
 have hof2 := s5.of_mem (l := [1, 2, 1, 3, 0]) (by simp)
 simp at hof2
 refine Tr.regT (tm rfl (tp rfl (ok_buildSlice (xs := [.const (.int .i64 (1)), .const (.int .i64 (2)), .const (.int .i64 (1)), .const (.int .i64 (3)), .const (.int .i64 (0))]) (rows := [[_], [_], [_], [_], [_]]) rfl rfl Tryz.underlying22 sz3 z3 rfl (by decide) ⟨⟨(by exact rfl), (VL.le (vl rfl) (one_cellsP _))⟩, ⟨⟨(by exact rfl), (VL.le (vl rfl) (one_cellsP _))⟩, ⟨⟨(by exact rfl), (VL.le (vl rfl) (one_cellsP _))⟩, ⟨⟨(by exact rfl), (VL.le (vl rfl) (one_cellsP _))⟩, ⟨⟨(by exact rfl), (VL.le (vl rfl) (one_cellsP _))⟩, trivial⟩⟩⟩⟩⟩ (by decide)) ?_))
 refine TO.efc 2 rfl rfl (by decide) (ef_callc rfl rfl (by decide) rfl (w_DOf (l := [1, 2, 1, 3, 0]) (by simp) (by simp)) ⟨ke rfl, ⟨_, rfl, full_le _ _⟩, trivial⟩) ?_
 refine tm rfl (TO.nil (Fin.go (Tr.block (Tr.reC 0 [str name, int le, int mo, ints z1, bool (s1.val 2 == 2 - 1), andIs (.slice none 0 0) (slice 4 (([] : List Idn).map rowId)), is (.slice none 0 0), is (.slice none 0 0), bool (s1.adv.val 2 == 2 - 1)] rfl ⟨Pr.le_refl _, Pr.le_refl _, Pr.le_refl _, Pr.le_refl _, Pr.le_refl _, own_nil rfl, Pr.le_refl _, Pr.le_refl _, Pr.le_refl _, trivial⟩ (Tr.addnil 27 4 ?_)))))
 refine Tr.loopD3V1 [(0, _), (1, _), (4, _), (5, _)] ⟨ke rfl, ke rfl, ke rfl, ke rfl, trivial⟩ (fun (ids : List Idn) (k : Int) (s2 : DS) v => [(6, int k)]) (fun (ids : List Idn) (k : Int) (s2 : DS) v => Hp M0 w0 S (appRes 27 4 v :: cellsRes true b2 32 [str name, int le, int mo, ints z1, bool (s1.val 2 == 2 - 1), andIs v (idns ids), is (.slice none 0 0), is (.slice none 0 0), bool (s1.adv.val 2 == 2 - 1)] :: cellsRes true b1 32 (([.string (ByteArray.mk #[]), .int .i64 0, .int .i64 0, .slice none 0 0, .bool false, .slice none 0 0, .slice none 0 0, .slice none 0 0, .bool false] : List Value).map is) :: diceS b s2 :: extRes M1 w1 :: rs)) (fun (ids : List Idn) (k : Int) (s2 : DS) => 0 ≤ k ∧ k + ids.length ≤ 3 ∧ ∀ y ∈ ids, y.fits ∧ y.small) (fun (ids : List Idn) (k : Int) (s2 : DS) => k.toNat) ([]) (_) (_) (.slice none 0 0) (⟨by omega, by simp; omega, fun y h => by simp at h⟩) ⟨ke rfl, trivial⟩ (fun _ _ h => h) ?_
 rintro ids k s2 v ⟨hk1, hk2, hk3⟩
 refine Tr.seq (Tr.seq (Tr.reg0 (cm rfl (co rfl (ki rfl rfl rfl rfl) (Ch.nil (Fin.go ?_))))))
 refine Tr.cn rfl ?_ ?_ <;> intro h2 q2
 have hk0 : k > 0 := of_decide_eq_true h2
 refine Tr.skip (Fin.go (Tr.seq (Tr.block (Tr.seq (Tr.regT (tm rfl (TO.efc 3 rfl rfl (by decide) (ef_callc rfl rfl (by decide) rfl (w_mkKey) ⟨ke rfl, trivial⟩) ?_)))))))
 refine TO.ex 46 rfl (fun z2 => TO.fact 46 rfl fun hz2 => ?_)
 refine TO.alloc rfl rfl (by decide) rfl z24 zo24 (fun b3 => ?_)
 refine TO.store_all 0 rfl rfl rfl (vl rfl) (VL.le (vl rfl) (agg_cellsP _)) rfl sz24 rfl rfl (TO.nil (Fin.openD 4 rfl (fun s2 => ?_)))
 refine Fin.go (Tr.cutD3V1 [(0, _), (1, _), (4, _), (5, _), (6, _), (7, _)] ⟨ke rfl, ke rfl, ke rfl, ke rfl, ke rfl, ke rfl, trivial⟩ (fun (ka : Int) (kb : Int) (s6 : DS) w => []) (fun (ka : Int) (kb : Int) (s6 : DS) w => Hp M0 w0 S (cellsRes true b3 24 [int ka, int kb] :: appRes 27 4 w :: cellsRes true b2 32 [str name, int le, int mo, ints z1, bool (s1.val 2 == 2 - 1), andIs w (idns ids), is (.slice none 0 0), is (.slice none 0 0), bool (s1.adv.val 2 == 2 - 1)] :: cellsRes true b1 32 (([.string (ByteArray.mk #[]), .int .i64 0, .int .i64 0, .slice none 0 0, .bool false, .slice none 0 0, .slice none 0 0, .slice none 0 0, .bool false] : List Value).map is) :: diceS b s6 :: extRes M1 w1 :: rs)) (fun (ka : Int) (kb : Int) (s6 : DS) => keyQ (ka, kb)) ?_ ?_)
 refine Tr.seq (Tr.regT (tm rfl (TO.efc 4 rfl rfl (by decide) (ef_callc rfl rfl (by decide) rfl (w_DNext (by omega) (by omega)) ⟨ke rfl, ke rfl, trivial⟩) (tp rfl (ki rfl rfl rfl rfl) (TO.nil (Fin.go (wk7 0 1 4 5 6 7 49 rfl ?_)))))))
 refine Tr.cn rfl ?_ ?_ <;> intro h3 q3
 refine Tr.seq (Tr.regT (tm rfl (tp rfl (ok_buildSlice (xs := [.const (.int .i64 (5)), .const (.int .i64 (7))]) (rows := [[_], [_]]) rfl rfl Tryz.underlying22 sz3 z3 rfl (by decide) ⟨⟨(by exact rfl), (VL.le (vl rfl) (one_cellsP _))⟩, ⟨⟨(by exact rfl), (VL.le (vl rfl) (one_cellsP _))⟩, trivial⟩⟩ (by decide)) ?_)))
 refine TO.efc 4 rfl rfl (by decide) (ef_callc rfl rfl (by decide) rfl (w_DOf (l := [5, 7]) (by simp) (by simp)) ⟨ke rfl, ⟨_, rfl, full_le _ _⟩, trivial⟩) ?_
 refine tp rfl (ok_build (rows := [(0, [_]), (1, [_])]) rfl bl24 zo24 ⟨⟨rfl, (VL.le (vl rfl) (one_cellsP _))⟩, ⟨⟨rfl, (VL.le (vl rfl) (one_cellsP _))⟩, trivial⟩⟩ rfl) (TO.store_all 0 rfl rfl rfl (vl rfl) (VL.le (vl rfl) (agg_cellsP _)) rfl sz24 rfl rfl (TO.nil (Fin.go (Tr.regT (tm rfl (tp rfl (okp_fieldAddr rfl fo24_0 (vl rfl)) (TO.rd 0 rfl rfl rfl (by decide) (rd_load1 rfl one3 (vl rfl) rfl) (TO.efc 4 rfl rfl (by decide) (ef_callc rfl rfl (by decide) rfl (w_mkSize) ⟨ke rfl, ke rfl, trivial⟩) ?_))))))))
 refine TO.ex 57 rfl (fun z3 => TO.fact 57 rfl fun hz3 => ?_)
 refine tp rfl (okp_fieldAddr rfl fo24_1 (vl rfl)) (TO.ef0 0 rfl rfl (ef_store rfl rfl (vl rfl) (VL.le (vl rfl) (one_cellsP _)) sz3 rfl (by exact Nat.le_of_ble_eq_true rfl) rfl) (TO.nil (Fin.openD 4 rfl (fun s3 => ?_))))
 refine Fin.eqC 0 [int (s2.adv.of [5, 7]), int z3] rfl (by kernel_rfl) ?_
 exact Fin.famD3V1 (_) (_) (_) v ((by exact key_in (by have := s2.adv.of_mem (l := [5, 7]) (by simp); simp at this ⊢; omega) hz3)) ⟨ke rfl, ke rfl, ke rfl, ke rfl, ke rfl, ke rfl, trivial⟩ (fun _ _ h => h)
 refine Tr.skip (Fin.eqC 0 [int z2.1, int z2.2] rfl (by kernel_rfl) (Fin.famD3V1 (_) (_) (_) v ((by exact hz2)) ⟨ke rfl, ke rfl, ke rfl, ke rfl, ke rfl, ke rfl, trivial⟩ (fun _ _ h => h)))
 rintro ka kb s6 w hkey
 refine Tr.seq ?_
 have hv20 := s6.val_in (n := 20) (by omega)
 refine Tr.regT (tm rfl (TO.efc 4 rfl rfl (by decide) (ef_callc rfl rfl (by decide) rfl (w_DNext (by omega) (by omega)) ⟨ke rfl, ke rfl, trivial⟩) ?_))
 refine tp rfl (ok_add rfl (vl rfl) (vl rfl) ?hin) ?_; case hin => unfold InI; omega
 refine tm rfl (TO.nil (Fin.go (Tr.seq (Tr.regT (TO.rd 0 rfl rfl rfl (by decide) (rd_loadA rfl agg24 sz24 (vl rfl) rfl rfl) (tm rfl (tp rfl (ok_build (rows := [(0, _), (1, [_])]) rfl bl27 zo27 ⟨⟨rfl, (VL.le (vl rfl) (agg_cellsP _))⟩, ⟨⟨rfl, (VL.le (vl rfl) (one_cellsP _))⟩, trivial⟩⟩ rfl) ?_)))))))
 refine TO.alloc rfl rfl (by decide) rfl z27 zo27 (fun b4 => ?_)
 refine TO.store_all 0 rfl rfl rfl (vl rfl) (VL.le (vl rfl) (agg_cellsP _)) rfl sz27 rfl rfl (TO.nil (Fin.go (wk8 0 1 4 5 6 7 8 9 rfl (Tr.seq (Tr.seq (Tr.regT (tm rfl (TO.efc 5 rfl rfl (by decide) (ef_callc rfl rfl (by decide) rfl (w_DOne (by omega) (by omega)) ⟨ke rfl, ke rfl, trivial⟩) (tp rfl (ok_not rfl (vl rfl)) (TO.nil (Fin.go ?_)))))))))))
 refine Tr.cn rfl ?_ ?_ <;> intro h4 q4
 refine Tr.regT (tm rfl (tm rfl (TO.rd 1 rfl rfl rfl (by decide) (rd_loadA rfl agg24 sz24 (vl rfl) rfl rfl) (tm rfl (TO.efc 5 rfl rfl (by decide) (ef_callc rfl rfl (by decide) rfl (w_mkChain hn hkey.1 hkey.2.1 hkey.2.2 (by omega)) ⟨ke rfl, ke rfl, ke rfl, ke rfl, trivial⟩) ?_)))))
 refine TO.ex 72 rfl (fun z4 => TO.fact 72 rfl fun hz4 => ?_)
 refine tp rfl (okp_fieldAddr rfl fo27_2 (vl rfl)) (TO.ef0 0 rfl rfl (ef_store rfl rfl (vl rfl) (VL.le (vl rfl) (one_cellsP _)) sz25 rfl (by exact Nat.le_of_ble_eq_true rfl) rfl) (TO.nil (Fin.openD 5 rfl (fun s4 => ?_))))
 refine Fin.go (Tr.drop 1 (wk6 0 1 4 5 6 9 rfl (Tr.regT (tp rfl (okp_fieldAddr rfl fo32_5 (vl rfl)) (TO.rd 2 rfl rfl rfl (by decide) (rd_load1 rfl one30 (vl rfl) rfl) (TO.rd 0 rfl rfl rfl (by decide) (rd_loadA rfl agg27 sz27 (vl rfl) rfl rfl) (tp rfl (ok_buildSlice (xs := [.tmp 76]) (rows := [rowId (⟨ka, kb, 100 + s6.val 20, z4⟩ : Idn)]) rfl rfl Tryz.underlying30 sz27 z27 rfl (by decide) ⟨⟨(by exact rfl), VL.le (vl rfl) (Pr.le_trans (agg_le (qs := rowId (⟨ka, kb, 100 + s6.val 20, z4⟩ : Idn)) ⟨Pr.le_refl _, Pr.le_refl _, Pr.le_refl _, Pr.le_refl _, trivial⟩) (agg_cellsP _))⟩, trivial⟩ (by decide)) ?_)))))))
 refine TO.efs 1 rfl rfl (by decide) (ef_append rfl rfl (by decide) rfl Tryz.underlying30 sz27 by27 z27 rfl (by decide) ⟨_, rfl, andIs_le _ _⟩ ⟨_, rfl, full_le _ _⟩ (by simp only [List.length_append, List.length_map, List.length_cons, List.length_nil]; unfold maxLen; omega) (by simp only [List.length_append, List.length_map, List.length_cons, List.length_nil]; omega) (appR_is (by exact List.Mem.head _) ⟨_, rfl, andIs_is _ _⟩)) (fun v1 => ?_)
 refine tp rfl (okp_fieldAddr rfl fo32_5 (vl rfl)) (TO.ef0 2 rfl rfl (ef_store rfl rfl (vl rfl) (VL.le (vl rfl) (one_cellsP _)) sz30 rfl (by exact Nat.le_of_ble_eq_true rfl) rfl) (TO.nil (Fin.block (Fin.go (Tr.drop 0 (Tr.reg0 (cm rfl (csu rfl rfl rfl rfl (by omega) (cm rfl (Ch.nil ?_))))))))))
 refine Fin.reC 1 [str name, int le, int mo, ints z1, bool (s1.val 2 == 2 - 1), andIs v1 (idns (ids ++ [(⟨ka, kb, 100 + s6.val 20, z4⟩ : Idn)])), is (.slice none 0 0), is (.slice none 0 0), bool (s1.adv.val 2 == 2 - 1)] rfl ⟨Pr.le_refl _, Pr.le_refl _, Pr.le_refl _, Pr.le_refl _, Pr.le_refl _, own_le (by rw [List.map_append]; rfl), Pr.le_refl _, Pr.le_refl _, Pr.le_refl _, trivial⟩ ?_
 exact Fin.famD3V1 (ids ++ [(⟨ka, kb, 100 + s6.val 20, z4⟩ : Idn)]) (k - 1) (_) v1 (⟨⟨by omega, by simp; omega, ids_snoc hk3 (chain_fs hz4)⟩, by omega⟩) ⟨⟨_, rfl, int_eq (by omega)⟩, ke rfl, ke rfl, ke rfl, ke rfl, trivial⟩ (fun _ _ h => h)
 refine Tr.skip (Fin.go (Tr.drop 1 (Tr.regT (tp rfl (okp_fieldAddr rfl fo32_5 (vl rfl)) (TO.rd 2 rfl rfl rfl (by decide) (rd_load1 rfl one30 (vl rfl) rfl) (TO.rd 0 rfl rfl rfl (by decide) (rd_loadA rfl agg27 sz27 (vl rfl) rfl rfl) (tp rfl (ok_buildSlice (xs := [.tmp 76]) (rows := [rowId (⟨ka, kb, 100 + s6.val 20, []⟩ : Idn)]) rfl rfl Tryz.underlying30 sz27 z27 rfl (by decide) ⟨⟨(by exact rfl), VL.le (vl rfl) (Pr.le_trans (agg_le (qs := rowId (⟨ka, kb, 100 + s6.val 20, []⟩ : Idn)) ⟨Pr.le_refl _, Pr.le_refl _, Pr.le_refl _, nil_slice 15, trivial⟩) (agg_cellsP _))⟩, trivial⟩ (by decide)) ?_)))))))
 refine TO.efs 1 rfl rfl (by decide) (ef_append rfl rfl (by decide) rfl Tryz.underlying30 sz27 by27 z27 rfl (by decide) ⟨_, rfl, andIs_le _ _⟩ ⟨_, rfl, full_le _ _⟩ (by simp only [List.length_append, List.length_map, List.length_cons, List.length_nil]; unfold maxLen; omega) (by simp only [List.length_append, List.length_map, List.length_cons, List.length_nil]; omega) (appR_is (by exact List.Mem.head _) ⟨_, rfl, andIs_is _ _⟩)) (fun v2 => ?_)
 refine tp rfl (okp_fieldAddr rfl fo32_5 (vl rfl)) (TO.ef0 2 rfl rfl (ef_store rfl rfl (vl rfl) (VL.le (vl rfl) (one_cellsP _)) sz30 rfl (by exact Nat.le_of_ble_eq_true rfl) rfl) (TO.nil (Fin.block (Fin.go (Tr.drop 0 (wk5 0 1 4 5 6 rfl (Tr.reg0 (cm rfl (csu rfl rfl rfl rfl (by omega) (cm rfl (Ch.nil ?_)))))))))))
 refine Fin.reC 1 [str name, int le, int mo, ints z1, bool (s1.val 2 == 2 - 1), andIs v2 (idns (ids ++ [(⟨ka, kb, 100 + s6.val 20, []⟩ : Idn)])), is (.slice none 0 0), is (.slice none 0 0), bool (s1.adv.val 2 == 2 - 1)] rfl ⟨Pr.le_refl _, Pr.le_refl _, Pr.le_refl _, Pr.le_refl _, Pr.le_refl _, own_le (by rw [List.map_append]; rfl), Pr.le_refl _, Pr.le_refl _, Pr.le_refl _, trivial⟩ ?_
 exact Fin.famD3V1 (ids ++ [(⟨ka, kb, 100 + s6.val 20, []⟩ : Idn)]) (k - 1) (_) v2 (⟨⟨by omega, by simp; omega, ids_snoc hk3 (chain_fs ⟨by simp, fun c h => by simp at h⟩)⟩, by omega⟩) ⟨⟨_, rfl, int_eq (by omega)⟩, ke rfl, ke rfl, ke rfl, ke rfl, trivial⟩ (fun _ _ h => h)
 have hk0 : ¬ k > 0 := of_decide_eq_false h2
 refine Tr.exit (Fin.then_exit (Fin.then_exit (Fin.block_here (Fin.go (Tr.seq ?_)))))
 have hv5 := s2.val_in (n := 5) (by omega)
 refine Tr.regT (tp rfl (ok_buildSlice (xs := [.const (.int .i64 (1)), .const (.int .i64 (2))]) (rows := [[_], [_]]) rfl rfl Tryz.underlying22 sz3 z3 rfl (by decide) ⟨⟨(by exact rfl), (VL.le (vl rfl) (one_cellsP _))⟩, ⟨⟨(by exact rfl), (VL.le (vl rfl) (one_cellsP _))⟩, trivial⟩⟩ (by decide)) ?_)
 refine tp rfl (ok_buildSlice (xs := [.const (.int .i64 (1)), .const (.int .i64 (2))]) (rows := [[_], [_]]) rfl rfl Tryz.underlying22 sz3 z3 rfl (by decide) ⟨⟨(by exact rfl), (VL.le (vl rfl) (one_cellsP _))⟩, ⟨⟨(by exact rfl), (VL.le (vl rfl) (one_cellsP _))⟩, trivial⟩⟩ (by decide)) ?_
 refine tp rfl (ok_buildSlice (xs := [.const (.int .i64 (1))]) (rows := [[_]]) rfl rfl Tryz.underlying22 sz3 z3 rfl (by decide) ⟨⟨(by exact rfl), (VL.le (vl rfl) (one_cellsP _))⟩, trivial⟩ (by decide)) ?_
 refine tp rfl (ok_buildSlice (xs := [.const (.int .i64 (2)), .const (.int .i64 (11))]) (rows := [[_], [_]]) rfl rfl Tryz.underlying22 sz3 z3 rfl (by decide) ⟨⟨(by exact rfl), (VL.le (vl rfl) (one_cellsP _))⟩, ⟨⟨(by exact rfl), (VL.le (vl rfl) (one_cellsP _))⟩, trivial⟩⟩ (by decide)) ?_
 refine tp rfl (ok_buildSlice (xs := [.tmp 80, .tmp 81, .tmp 82, .tmp 83, .const (.slice none 0 0)]) (rows := [[_], [_], [_], [_], [_]]) rfl rfl Tryz.underlying102 sz22 z22 rfl (by decide) ⟨⟨(by exact rfl), ⟨_, rfl, Pr.le_trans (full_le _ _) (one_cellsP _)⟩⟩, ⟨⟨(by exact rfl), ⟨_, rfl, Pr.le_trans (full_le _ _) (one_cellsP _)⟩⟩, ⟨⟨(by exact rfl), ⟨_, rfl, Pr.le_trans (full_le _ _) (one_cellsP _)⟩⟩, ⟨⟨(by exact rfl), ⟨_, rfl, Pr.le_trans (full_le _ _) (one_cellsP _)⟩⟩, ⟨⟨(by exact rfl), ⟨_, rfl, Pr.le_trans (nil_slice 1) (one_cellsP _)⟩⟩, trivial⟩⟩⟩⟩⟩ (by decide)) ?_
 refine tm rfl (TO.efc 3 rfl rfl (by decide) (ef_callc rfl rfl (by decide) rfl (w_DNext (by omega) (by omega)) ⟨ke rfl, ke rfl, trivial⟩) ?_)
 refine tp rfl (ok_indexAddr rfl Tryz.underlying102 sz22 ⟨_, rfl, full_le _ _⟩ (vl rfl) (by omega) (show (anL.map fun l => [ints l])[_]? = _ from atL_row (show 0 ≤ _ ∧ _ < ((5 : Nat) : Int) from hv5))) ?_
 refine tp rfl (kl1 rfl one22 rfl) (tp rfl (okp_fieldAddr rfl fo32_6 (vl rfl)) (TO.ef0 1 rfl rfl (ef_store rfl rfl (vl rfl) (VL.le (vl rfl) (one_cellsP _)) sz22 rfl (by exact Nat.le_of_ble_eq_true rfl) rfl) (TO.nil (Fin.go (wk3 0 4 5 rfl (Tr.seq ?_))))))
 have hv3 := s2.adv.val_in (n := 3) (by omega)
 refine Tr.regT (tp rfl (ok_buildSlice (xs := [.const (.int .i64 (1)), .const (.int .i64 (2)), .const (.int .i64 (3)), .const (.int .i64 (4))]) (rows := [[_], [_], [_], [_]]) rfl rfl Tryz.underlying22 sz3 z3 rfl (by decide) ⟨⟨(by exact rfl), (VL.le (vl rfl) (one_cellsP _))⟩, ⟨⟨(by exact rfl), (VL.le (vl rfl) (one_cellsP _))⟩, ⟨⟨(by exact rfl), (VL.le (vl rfl) (one_cellsP _))⟩, ⟨⟨(by exact rfl), (VL.le (vl rfl) (one_cellsP _))⟩, trivial⟩⟩⟩⟩ (by decide)) ?_)
 refine tp rfl (ok_buildSlice (xs := [.const (.int .i64 (2)), .const (.int .i64 (3)), .const (.int .i64 (4))]) (rows := [[_], [_], [_]]) rfl rfl Tryz.underlying22 sz3 z3 rfl (by decide) ⟨⟨(by exact rfl), (VL.le (vl rfl) (one_cellsP _))⟩, ⟨⟨(by exact rfl), (VL.le (vl rfl) (one_cellsP _))⟩, ⟨⟨(by exact rfl), (VL.le (vl rfl) (one_cellsP _))⟩, trivial⟩⟩⟩ (by decide)) ?_
 refine tp rfl (ok_buildSlice (xs := [.const (.int .i64 (3)), .const (.int .i64 (4))]) (rows := [[_], [_]]) rfl rfl Tryz.underlying22 sz3 z3 rfl (by decide) ⟨⟨(by exact rfl), (VL.le (vl rfl) (one_cellsP _))⟩, ⟨⟨(by exact rfl), (VL.le (vl rfl) (one_cellsP _))⟩, trivial⟩⟩ (by decide)) ?_
 refine tp rfl (ok_buildSlice (xs := [.tmp 90, .tmp 91, .tmp 92]) (rows := [[_], [_], [_]]) rfl rfl Tryz.underlying102 sz22 z22 rfl (by decide) ⟨⟨(by exact rfl), ⟨_, rfl, Pr.le_trans (full_le _ _) (one_cellsP _)⟩⟩, ⟨⟨(by exact rfl), ⟨_, rfl, Pr.le_trans (full_le _ _) (one_cellsP _)⟩⟩, ⟨⟨(by exact rfl), ⟨_, rfl, Pr.le_trans (full_le _ _) (one_cellsP _)⟩⟩, trivial⟩⟩⟩ (by decide)) ?_
 refine tm rfl (TO.efc 3 rfl rfl (by decide) (ef_callc rfl rfl (by decide) rfl (w_DNext (by omega) (by omega)) ⟨ke rfl, ke rfl, trivial⟩) ?_)
 refine tp rfl (ok_indexAddr rfl Tryz.underlying102 sz22 ⟨_, rfl, full_le _ _⟩ (vl rfl) (by omega) (show (haL.map fun l => [ints l])[_]? = _ from atL_row (show 0 ≤ _ ∧ _ < ((3 : Nat) : Int) from hv3))) ?_
 refine tp rfl (kl1 rfl one22 rfl) (tp rfl (okp_fieldAddr rfl fo32_7 (vl rfl)) (TO.ef0 1 rfl rfl (ef_store rfl rfl (vl rfl) (VL.le (vl rfl) (one_cellsP _)) sz22 rfl (by exact Nat.le_of_ble_eq_true rfl) rfl) (TO.nil (Fin.go (Tr.seq (Tr.regT (TO.rd 1 rfl rfl rfl (by decide) (rd_loadA rfl agg32 sz32 (vl rfl) rfl rfl) (TO.store_all 2 rfl rfl rfl (vl rfl) (VL.le (vl rfl) (agg_cellsP _)) rfl sz32 rfl rfl (TO.nil (Fin.go (Tr.ret (Fin.closeD 3 _ rfl rfl (Fin.retY1 [_, _, _] rfl (RVal.cell 2 rfl rfl agg32 sz32 rfl (Pr.le_refl _)) ?_ (fun _ _ _ _ => rfl))))))))))))))
 · exact ex_in ⟨name, le, mo, z1, (s1.val 2 == 2 - 1), ids, atL anL (s2.val 5), atL haL (s2.adv.val 3), (s1.adv.val 2 == 2 - 1)⟩ (fact_in ⟨by have := named_len (nmsB_two hn).1; show name.length ≤ _; unfold maxLen; omega, by show z1.length ≤ _; omega, by have := anL_len (s2.val 5); show (atL _ _).length ≤ _; omega, by have := haL_len (s2.adv.val 3); show (atL _ _).length ≤ _; omega, by show ids.length ≤ _; omega, hk3⟩ (agg_le ⟨Pr.le_refl _, Pr.le_refl _, Pr.le_refl _, Pr.le_refl _, Pr.le_refl _, andIs_le _ _, Pr.le_refl _, Pr.le_refl _, Pr.le_refl _, trivial⟩))
end Go.Proofs.YtppeeogffbpcbaaGreat
