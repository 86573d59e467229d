/-
  Part 4 of the texts that prove this claim, merged.
-/
import Derived.Test.YtppeeogffbpcbaaGreatElCP3
set_option linter.all false
set_option maxRecDepth 40000
set_option maxHeartbeats 16000000
namespace Go.Proofs.YtppeeogffbpcbaaGreat
open Go Go.RowKit Cp
theorem w_Shows {alg bits id : Int} {l : List Crt} (hf : ∀ c ∈ l, c.fits) : Fun Tryz.prog 145 [agg [int alg, int bits], int id, certs l] (bool (showsB alg bits id l)) := by
 refine fo Tryz.func145 rfl ⟨rfl, rfl⟩ fun M0 w0 => (Tr.lenm 2 rfl fun hlm_2 => ?_)
 refine ac ?_
 refine ac ?_
 refine co rfl (kc1 (w_Valid) rfl rfl) ?_
 refine ac ?_
 refine Ch.cs 12 rfl ?_ ?_ <;> intro h1 q1
 refine ac ?_
 refine wk4 1 2 3 27 rfl ?_
 refine ac ?_
 refine ac ?_
 · refine bool_eq ?_; rw [showsB_eq]; unfold ofB; simp_all; omega
 refine ac ?_
 refine cy h1 rfl (kc1 (w_Kind) rfl rfl) ?_
 refine ac ?_
 refine Ch.cs 18 rfl ?_ ?_ <;> intro h2 q2
 refine ac ?_
 refine wk4 1 2 3 27 rfl ?_
 refine ac ?_
 refine ac ?_
 · refine bool_eq ?_; rw [showsB_eq]; unfold ofB; simp_all
 refine cym h2 rfl (cy h2 rfl (kc1 (w_CKey) rfl rfl) ?_)
 refine ac ?_
 refine Ch.cs 23 rfl ?_ ?_ <;> intro h3 q3
 refine ac ?_
 refine wk4 1 2 3 27 rfl ?_
 refine ac ?_
 refine ac ?_
 · refine bool_eq ?_; rw [showsB_eq]; unfold ofB; simp_all
 refine ac ?_
 refine wk4 1 2 3 27 rfl ?_
 refine Tr.cn rfl ?_ ?_ <;> intro h4 q4
 refine ac ?_
 refine ac ?_
 · refine bool_eq ?_; rw [showsB_eq]; unfold ofB; simp_all; omega
 refine ac ?_
 refine ac ?_
 refine Tr.block (Tr.loopw [(1, _), (2, _), (3, _), (28, _), (29, _)] (kk5 rfl) (fun k : Nat => [(30, int ((k : Nat) : Int))]) (fun k : Nat => k ≤ (l).length ∧ (∀ j y, j < k → l[j]? = some y → (!validB y) = false)) (fun k : Nat => (l).length - k) 0 (⟨Nat.zero_le _, fun j y hj => absurd hj (by omega)⟩) ⟨ke rfl, trivial⟩ ?_)
 rintro k ⟨hle_k, hinv_k⟩
 refine ac ?_
 refine Tr.seq ?_
 refine Tr.cn rfl ?_ ?_ <;> intro h5 q5
 have hk_k : k < (l).length := lt_of_dec h5
 obtain ⟨c, hx_k⟩ := at_ hk_k
 have hcf := hf c (List.mem_of_getElem? hx_k)
 refine ac ?_
 refine Tr.seq (Tr.block (Tr.seq (Tr.regT (tp rfl (ok_indexAddr rfl Tryz.underlying25 sz131 (vl rfl) (vl rfl) (by omega) (by exact row_at (by assumption))) ?_))))
 refine tp rfl (ok_loadA rfl agg131 sz131 (vl rfl) rfl rfl) ?_
 refine TO.alloc rfl rfl (by decide) rfl z131 zo131 (fun b1 => ?_)
 refine sf 0 8 ⟨rfl, rfl, rfl⟩ rfl rfl rfl rfl ?_
 refine ao ?_
 refine ac ?_
 refine co rfl (kc1 (w_CCheck hcf) rfl rfl) ?_
 refine ac ?_
 refine wk7 1 2 3 28 29 30 36 rfl ?_
 refine Tr.cn rfl ?_ ?_ <;> intro h6 q6
 refine ac ?_
 refine ac ?_
 · refine bool_eq ?_; rw [showsB_eq]; unfold ofB; rw [all_hit (p := validB) hx_k (by simp_all)]; simp
 refine ac ?_
 refine ac ?_
 exact Fin.fam_same (k + 1) ⟨⟨hk_k, step_no (p := fun c => !validB c) hx_k (by simp_all) hinv_k⟩, by omega⟩ ⟨⟨_, rfl, int_succ k⟩, ke rfl, ke rfl, ke rfl, ke rfl, ke rfl, trivial⟩
 have he_k : k = (l).length := by have := ge_of_dec h5; omega
 subst he_k
 have hall := all_end hinv_k
 refine ac ?_
 refine ac ?_
 refine Ch.cs 41 rfl ?_ ?_ <;> intro h7 q7
 refine ac ?_
 refine wk1 6 rfl ?_
 refine ac ?_
 · refine bool_eq ?_; rw [showsB_eq]; unfold ofB; rw [hall, headB_nil (by simp_all)]; simp_all
 obtain ⟨c0, hc0⟩ := at_ (l := l) (k := 0) (by have := h7; simp at this; exact List.length_pos_iff.2 this)
 refine cym h7 rfl ?_
 refine cy h7 rfl (ok_indexAddr rfl Tryz.underlying25 sz131 (vl rfl) (vl rfl) (by omega) (row_at (k := 0) hc0)) ?_
 refine ac ?_
 refine cy h7 rfl (ok_eq24 rfl (vl rfl) (vl rfl)) (cym h7 rfl ?_)
 refine Ch.cs 48 rfl ?_ ?_ <;> intro h8 q8
 refine cym h8 rfl ?_
 refine cy h8 rfl (ok_indexAddr rfl Tryz.underlying25 sz131 (vl rfl) (vl rfl) (by omega) (row_at (k := 0) hc0)) ?_
 refine ac ?_
 refine wk1 6 rfl ?_
 refine ac ?_
 · refine bool_eq ?_; rw [showsB_eq]; unfold ofB; rw [hall, headB_at hc0]; clear hall hinv_k hf hc0; simp_all; omega
 refine ac ?_
 refine wk1 6 rfl ?_
 refine ac ?_
 · refine bool_eq ?_; rw [showsB_eq]; unfold ofB; rw [hall, headB_at hc0]; clear hall hinv_k hf hc0; simp_all
theorem w_ascends {l : List Int}  : Fun Tryz.prog 144 [ints l] (bool (ascB l)) := by
 refine fo Tryz.func144 rfl ⟨rfl, rfl⟩ fun M0 w0 => (Tr.lenm 0 rfl fun hlm_0 => ?_)
 refine ac ?_
 refine ac ?_
 refine Tr.block (Tr.loopw [(0, _), (5, _)] (kk2 rfl) (fun k : Nat => [(6, int ((k : Nat) : Int))]) (fun k : Nat => k ≤ (l).length ∧ (∀ j, j < k → ascAt l j = true)) (fun k : Nat => (l).length - k) 0 (⟨Nat.zero_le _, fun j hj => absurd hj (by omega)⟩) ⟨ke rfl, trivial⟩ ?_)
 rintro k ⟨hle_k, hinv_k⟩
 refine ac ?_
 refine Tr.seq ?_
 refine Tr.cn rfl ?_ ?_ <;> intro h1 q1
 have hk_k : k < (l).length := lt_of_dec h1
 obtain ⟨x, hx_k⟩ := at_ hk_k
 have hg := getD_at (d := (0 : Int)) hx_k
 refine ac ?_
 refine ac ?_
 refine ac ?_
 refine Ch.cs 11 rfl ?_ ?_ <;> intro h2 q2
 have hk0 : 0 < k := by simpa using h2
 obtain ⟨y, hy⟩ := at_ (l := l) (k := k - 1) (by omega)
 have hgy := getD_at (d := (0 : Int)) hy
 refine ac ?_
 refine cy h2 rfl (ok_indexAddr rfl Tryz.underlying22 sz3 (vl rfl) (vl rfl) (by omega) (by rw [show ((k : Nat) : Int) - 1 = ((k - 1 : Nat) : Int) by omega]; exact row_at hy)) ?_
 refine ac ?_
 refine cy h2 rfl (ok_indexAddr rfl Tryz.underlying22 sz3 (vl rfl) (vl rfl) (by omega) (row_at hx_k)) ?_
 refine ac ?_
 refine wk4 0 5 6 22 rfl ?_
 refine Tr.cn rfl ?_ ?_ <;> intro h3 q3
 refine ac ?_
 refine ac ?_
 · refine bool_eq ?_; unfold ascB; exact (allI_hit (p := ascAt l) (k := k) (by omega) (by unfold ascAt; rw [hg, hgy]; simp_all; omega)).symm
 refine ac ?_
 refine ac ?_
 exact Fin.fam_same (k + 1) ⟨⟨hk_k, allI_step hinv_k (by unfold ascAt; rw [hg, hgy]; simp_all)⟩, by omega⟩ ⟨⟨_, rfl, int_succ k⟩, ke rfl, ke rfl, trivial⟩
 refine ac ?_
 refine wk4 0 5 6 22 rfl ?_
 refine ac ?_
 refine ac ?_
 exact Fin.fam_same (k + 1) ⟨⟨hk_k, allI_step hinv_k (by unfold ascAt; rw [hg]; simp_all)⟩, by omega⟩ ⟨⟨_, rfl, int_succ k⟩, ke rfl, ke rfl, trivial⟩
 have he_k : k = (l).length := by have := ge_of_dec h1; omega
 subst he_k
 refine ac ?_
 refine ac ?_
 refine ac ?_
 · refine bool_eq ?_; unfold ascB; exact (allI_end hinv_k).symm
theorem w_hash {n : Int}  : Fun Tryz.prog 150 [int n] (bool (hashB n)) := by
 refine fo Tryz.func150 rfl ⟨rfl, rfl⟩ fun M0 w0 => ?_
 refine ac ?_
 refine ac ?_
 refine co rfl (kc1 (w_Kind) rfl rfl) ?_
 refine ac ?_
 refine ac ?_
 · exact Pr.le_refl _
theorem e_hash : Entry Tryz.prog 150 := ⟨_, Tryz.func150, rfl, rfl⟩
theorem w_suites {l : List Int}  : Fun Tryz.prog 143 [ints l] (bool (suitesB l)) := by
 refine fo Tryz.func143 rfl ⟨rfl, rfl⟩ fun M0 w0 => (Tr.lenm 0 rfl fun hlm_0 => ?_)
 refine ac ?_
 refine ac ?_
 refine Tr.block (Tr.loopw [(0, _), (7, _), (8, _)] (kk3 rfl) (fun k : Nat => [(9, int ((k : Nat) : Int))]) (fun k : Nat => k ≤ (l).length ∧ (∀ j, j < k → suiteAt l j = true)) (fun k : Nat => (l).length - k) 0 (⟨Nat.zero_le _, fun j hj => absurd hj (by omega)⟩) ⟨ke rfl, trivial⟩ ?_)
 rintro k ⟨hle_k, hinv_k⟩
 refine ac ?_
 refine Tr.seq ?_
 refine Tr.cn rfl ?_ ?_ <;> intro h1 q1
 have hk_k : k < (l).length := lt_of_dec h1
 obtain ⟨x, hx_k⟩ := at_ hk_k
 have hg := getD_at (d := (0 : Int)) hx_k
 refine ac ?_
 refine ac ?_
 refine co rfl (ok_indexAddr rfl Tryz.underlying22 sz3 (vl rfl) (vl rfl) (by omega) (by exact row_at (by assumption))) ?_
 refine ac ?_
 refine ao ?_
 refine tp rfl (kc1 (w_Suite) rfl rfl) ?_
 refine ao ?_
 refine TO.alloc rfl rfl (by decide) rfl z170 zo170 (fun b1 => ?_)
 refine sf 0 5 ⟨rfl, rfl, rfl⟩ rfl rfl rfl rfl ?_
 refine ao ?_
 refine wk7 0 3 4 6 7 8 9 rfl ?_
 refine ac ?_
 refine Ch.cs 21 rfl ?_ ?_ <;> intro h2 q2
 have hnin : ¬ (1 ≤ x ∧ x ≤ 16) := by intro hh; rw [if_pos hh] at h2; exact absurd h2 (by decide)
 refine ac ?_
 refine wk5 0 7 8 9 27 rfl ?_
 refine ac ?_
 refine ac ?_
 · refine bool_eq ?_; unfold suitesB; exact (allI_hit (p := suiteAt l) (k := k) (by omega) (by unfold suiteAt; rw [hg]; rw [decide_eq_false hnin]; rfl)).symm
 have hin : 1 ≤ x ∧ x ≤ 16 := by refine Decidable.byContradiction fun hh => ?_; rw [if_neg hh] at h2; exact absurd h2 (by decide)
 refine ac ?_
 refine cy h2 rfl (ok_sliceTo rfl Tryz.underlying22 sz3 (vl rfl) (vl rfl) (by omega) (by simp; omega)) ?_
 refine cym h2 rfl ?_
 refine cy h2 rfl (ok_call rfl (w_ContainsI (l := l.take k) (v := x)) ⟨⟨_, rfl, Pr.le_of_eq (by rw [← List.map_take, Int.toNat_natCast])⟩, ke rfl, trivial⟩) ?_
 refine ac ?_
 refine wk5 0 7 8 9 27 rfl ?_
 refine Tr.cn rfl ?_ ?_ <;> intro h3 q3
 refine ac ?_
 refine ac ?_
 · refine bool_eq ?_; unfold suitesB; exact (allI_hit (p := suiteAt l) (k := k) (by omega) (by unfold suiteAt; rw [hg]; rw [decide_eq_true hin]; simp_all)).symm
 refine ac ?_
 refine ac ?_
 exact Fin.fam_same (k + 1) ⟨⟨hk_k, allI_step hinv_k (by unfold suiteAt; rw [hg]; rw [decide_eq_true hin]; simp_all)⟩, by omega⟩ ⟨⟨_, rfl, int_succ k⟩, ke rfl, ke rfl, ke rfl, trivial⟩
 have he_k : k = (l).length := by have := ge_of_dec h1; omega
 subst he_k
 refine ac ?_
 refine ac ?_
 refine ac ?_
 · refine bool_eq ?_; unfold suitesB; exact (allI_end hinv_k).symm
theorem w_EC11 {p : Int → Bool} {n : Int}  : Fun Tryz.prog 147 [int n, ref [clo Tryz.prog (fun x : Int => [int x]) (fun x => bool (p x))]] (bool (!p n)) := by
 refine fo Tryz.func147 rfl ⟨rfl, rfl⟩ fun M0 w0 => ?_
 refine ac ?_
 refine ac ?_
 refine co rfl (ok_callc n rfl (vl rfl) ⟨ke rfl, trivial⟩) ?_
 refine ac ?_
 refine ac ?_
 · exact Pr.le_refl _
theorem e_EC11 : Entry Tryz.prog 147 := ⟨_, Tryz.func147, rfl, rfl⟩
theorem w_EC1 {p : Int → Bool}  : Fun Tryz.prog 146 [clo Tryz.prog (fun x : Int => [int x]) (fun x => bool (p x))] (clo Tryz.prog (fun x : Int => [int x]) (fun x => bool (!p x))) := by
 refine fo Tryz.func146 rfl ⟨rfl, rfl⟩ fun M0 w0 => ?_
 refine ac ?_
 refine ac ?_
 refine ac ?_
 · exact fn_le_clo e_EC11 (fun x => w_EC11 (p := p) (n := x))
theorem e_EC1 : Entry Tryz.prog 146 := ⟨_, Tryz.func146, rfl, rfl⟩
theorem w_ECheck {e : Ept} (hf : e.fits) : Fun Tryz.prog 102 [agg (rowEp e)] (int (if eptB e then 0 else 19)) := by
 refine fo Tryz.func102 rfl ⟨rfl, rfl⟩ fun M0 w0 => ?_
 refine ac ?_
 refine ac ?_
 refine co rfl (kc1 (w_Word hf.name) rfl rfl) ?_
 refine ac ?_
 refine Ch.cs 10 rfl ?_ ?_ <;> intro h1 q1
 refine ac ?_
 refine wk2 1 32 rfl ?_
 refine ac ?_
 refine ac ?_
 · refine int_eq ?_; unfold eptB; simp_all
 refine ac ?_
 refine Ch.cs 15 rfl ?_ ?_ <;> intro h2 q2
 refine ac ?_
 refine wk2 1 32 rfl ?_
 refine ac ?_
 refine ac ?_
 · refine int_eq ?_; unfold eptB; simp_all; omega
 refine ac ?_
 refine Ch.cs 22 rfl ?_ ?_ <;> intro h3 q3
 refine ac ?_
 refine wk2 1 32 rfl ?_
 refine ac ?_
 refine ac ?_
 · refine int_eq ?_; unfold eptB; simp_all; omega
 refine ac ?_
 refine Ch.cs 27 rfl ?_ ?_ <;> intro h4 q4
 refine ac ?_
 refine wk2 1 32 rfl ?_
 refine ac ?_
 refine ac ?_
 · refine int_eq ?_; unfold eptB; simp_all; omega
 refine ac ?_
 refine cy h4 rfl (kc1 (w_suites) rfl rfl) ?_
 refine ac ?_
 refine wk2 1 32 rfl ?_
 refine Tr.cn rfl ?_ ?_ <;> intro h5 q5
 refine ac ?_
 refine ac ?_
 · refine int_eq ?_; unfold eptB; simp_all
 refine ac ?_
 refine ac ?_
 refine Ch.cs 37 rfl ?_ ?_ <;> intro h6 q6
 refine ac ?_
 refine wk2 1 54 rfl ?_
 refine ac ?_
 refine ac ?_
 · refine int_eq ?_; unfold eptB; simp_all; omega
 refine ac ?_
 refine Ch.cs 43 rfl ?_ ?_ <;> intro h7 q7
 refine ac ?_
 refine wk2 1 54 rfl ?_
 refine ac ?_
 refine ac ?_
 · refine int_eq ?_; unfold eptB; simp_all; omega
 refine ac ?_
 refine cy h7 rfl (kc1 (w_ascends) rfl rfl) ?_
 refine ac ?_
 refine Ch.cs 49 rfl ?_ ?_ <;> intro h8 q8
 refine ac ?_
 refine wk2 1 54 rfl ?_
 refine ac ?_
 refine ac ?_
 · refine int_eq ?_; unfold eptB; simp_all
 refine ac ?_
 refine cy h8 rfl (kc1 (w_ascends) rfl rfl) ?_
 refine ac ?_
 refine wk2 1 54 rfl ?_
 refine Tr.cn rfl ?_ ?_ <;> intro h9 q9
 refine ac ?_
 refine ac ?_
 · refine int_eq ?_; unfold eptB; simp_all
 refine ac ?_
 refine ac ?_
 refine Tr.block (Tr.loopw [(1, _), (56, _), (57, _)] (kk3 rfl) (fun k : Nat => [(58, int ((k : Nat) : Int))]) (fun k : Nat => k ≤ (e.ids).length ∧ (∀ j y, j < k → e.ids[j]? = some y → (!idB y) = false)) (fun k : Nat => (e.ids).length - k) 0 (⟨Nat.zero_le _, fun j y hj => absurd hj (by omega)⟩) ⟨ke rfl, trivial⟩ ?_)
 rintro k ⟨hle_k, hinv_k⟩
 refine ac ?_
 refine Tr.seq ?_
 refine Tr.cn rfl ?_ ?_ <;> intro h10 q10
 have hk_k : k < (e.ids).length := lt_of_dec h10
 obtain ⟨x, hx_k⟩ := at_ hk_k
 have hxf := hf.ids x (List.mem_of_getElem? hx_k)
 refine ac ?_
 refine Tr.seq (Tr.block (Tr.seq (Tr.regT (tp rfl (ok_indexAddr rfl Tryz.underlying30 sz27 (vl rfl) (vl rfl) (by omega) (by exact row_at (by assumption))) ?_))))
 refine tp rfl (ok_loadA rfl agg27 sz27 (vl rfl) rfl rfl) ?_
 refine TO.alloc rfl rfl (by decide) rfl z27 zo27 (fun b1 => ?_)
 refine sf 0 4 ⟨rfl, rfl, rfl⟩ rfl rfl rfl rfl ?_
 refine ao ?_
 refine ac ?_
 refine co rfl (kc3 (w_Shows hxf) rfl rfl rfl rfl) ?_
 refine ac ?_
 refine wk5 1 56 57 58 69 rfl ?_
 refine Tr.cn rfl ?_ ?_ <;> intro h11 q11
 refine ac ?_
 refine ac ?_
 · refine int_eq ?_; unfold eptB; rw [all_hit (p := idB) hx_k (by unfold idB; simp_all)]; simp
 refine ac ?_
 refine ac ?_
 exact Fin.fam_same (k + 1) ⟨⟨hk_k, step_no (p := fun c => !idB c) hx_k (by unfold idB; simp_all) hinv_k⟩, by omega⟩ ⟨⟨_, rfl, int_succ k⟩, ke rfl, ke rfl, ke rfl, trivial⟩
 have he_k : k = (e.ids).length := by have := ge_of_dec h10; omega
 subst he_k
 have hall := all_end hinv_k
 refine ac ?_
 refine ac ?_
 refine Tr.seq (Tr.seq (Tr.re 5 rfl (fn_le_clo (dom := fun p : Int → Bool => [clo Tryz.prog (fun x : Int => [int x]) (fun x => bool (p x))]) (res := fun p => clo Tryz.prog (fun x : Int => [int x]) (fun x => bool (!p x))) e_EC1 (fun p => w_EC1 (p := p))) ?_))
 refine ac ?_
 refine co rfl (ok_callc keyB rfl (vl rfl) ⟨⟨_, rfl, fn_le_clo (dom := fun n : Int => [int n]) (res := fun n => bool (keyB n)) e_CKey (fun n => w_CKey (n := n))⟩, trivial⟩) ?_
 refine co rfl (kc2 (w_ContainsFuncI (l := e.anchors) (p := fun n => !keyB n)) rfl rfl rfl) ?_
 refine cm rfl ?_
 refine Ch.cs 76 rfl ?_ ?_ <;> intro h12 q12
 refine ac ?_
 refine wk1 82 rfl ?_
 refine ac ?_
 refine ac ?_
 · refine int_eq ?_; unfold eptB; rw [if_neg]; intro hh; simp only [Bool.and_eq_true] at hh; have g1 := hh.1.2; have g2 := hh.2; clear hh hinv_k hf hall; simp only [any_not, g1, g2, Bool.not_true, Bool.false_eq_true] at *
 refine ac ?_
 refine cy h12 rfl (ok_callc hashB rfl (vl rfl) ⟨⟨_, rfl, fn_le_clo (dom := fun n : Int => [int n]) (res := fun n => bool (hashB n)) e_hash (fun n => w_hash (n := n))⟩, trivial⟩) ?_
 refine cy h12 rfl (kc2 (w_ContainsFuncI (l := e.hashes) (p := fun n => !hashB n)) rfl rfl rfl) ?_
 refine ac ?_
 refine wk1 82 rfl ?_
 refine Tr.cn rfl ?_ ?_ <;> intro h13 q13
 refine ac ?_
 refine ac ?_
 · refine int_eq ?_; unfold eptB; rw [if_neg]; intro hh; simp only [Bool.and_eq_true] at hh; have g1 := hh.1.2; have g2 := hh.2; clear hh hinv_k hf hall; simp only [any_not, g1, g2, Bool.not_true, Bool.false_eq_true] at *
 refine ac ?_
 refine ac ?_
 refine ac ?_
 · refine int_eq ?_; unfold eptB; simp_all; omega
end Go.Proofs.YtppeeogffbpcbaaGreat
namespace Go.Proofs.YtppeeogffbpcbaaGreat
open Go Go.RowKit Cp
theorem len_pos' {β γ : Type} {f : β → γ} {l : List β} (h : l ≠ []) : 0 < (l.map f).length := by rw [List.length_map]; exact List.length_pos_iff.2 h
theorem w_CloneNi {l : List (Int)} (h0 : l ≠ []) (hl : l.length ≤ 1000000) : FunM Tryz.prog 164 [slice 1 (l.map (fun n : Int => [int n]))] (lens (l.map (fun n : Int => [int n])).length) (noRes) (fun v => mutRes 3 1 (l.map (fun n : Int => [int n])) v) := by
 refine FunM.of Tryz.func164 rfl rfl (by exact Nat.le_of_ble_eq_true rfl) fun M0 w0 S rs M1 w1 => ?_
 have hpos := len_pos' (f := (fun n : Int => [int n])) h0
 refine ac ?_
 refine ac ?_
 refine co rfl (ok_eqnil rfl Tryz.underlying22 (vl rfl)) ?_
 refine ac ?_
 refine Tr.ex 4 rfl (fun z1 => Tr.fact 4 rfl fun hz1 => ?_)
 refine Tr.cn rfl ?_ ?_ <;> intro h1 q1
 exfalso; have := hz1 h1; simp_all
 refine ac ?_
 refine ap ?_
 refine TO.pad ?_
 refine TO.efs 0 rfl rfl (by decide) (ef_appvoid rfl rfl (by decide) rfl Tryz.underlying22 sz3 by3 z3 rfl (by decide) (by decide) (vl rfl) (vl rfl) hpos (by rw [List.length_map]; unfold maxLen; omega) (by rw [List.length_map]; omega)) (fun v1 => ?_)
 refine ap ?_
 refine Tr.ret (Fin.drop 1 ?_)
 refine Fin.retM1 rfl rfl ?_ (by intro _ _ _ h; rw [h.1])
 · exact andIs_le _ _
theorem w_CloneEi   : Fun Tryz.prog 164 [slice 1 []] (full 1 []) := by
 refine fo Tryz.func164 rfl ⟨rfl, rfl⟩ fun M0 w0 => ?_
 refine ac ?_
 refine ac ?_
 refine co rfl (ok_eqnil rfl Tryz.underlying22 (vl rfl)) ?_
 refine ac ?_
 refine Tr.ex 4 rfl (fun z1 => Tr.fact 4 rfl fun hz1 => ?_)
 refine Tr.cn rfl ?_ ?_ <;> intro h1 q1
 refine ac ?_
 refine ac ?_
 · exact nil_full 1
 refine ac ?_
 refine ac ?_
 refine co rfl (ok_appEE rfl Tryz.underlying22 sz3 (vl rfl) (vl rfl)) ?_
 refine ac ?_
 refine ac ?_
 · exact Pr.le_refl _
theorem w_CloneFi {l : List (Int)} (hl : l.length ≤ 1000000) : Fun Tryz.prog 164 [slice 1 (l.map (fun n : Int => [int n]))] (slice 1 (l.map (fun n : Int => [int n]))) := by
  by_cases h0 : l = []
  · subst h0; exact Fun.le w_CloneEi (fun _ _ _ h => h) (full_le _ _)
  · exact (FunM.frzN (rows := (l.map (fun n : Int => [int n]))) (map_rows fun _ => rfl) (w_CloneNi h0 hl)).pure
theorem w_CloneWi {l : List (Int)} (hl : l.length ≤ 1000000) : FunM Tryz.prog 164 [slice 1 (l.map (fun n : Int => [int n]))] (lens l.length) noRes (fun v => oweRes 3 1 (l.map (fun n : Int => [int n])) v) := by
  by_cases h0 : l = []
  · subst h0; exact FunM.owe_void w_CloneEi
  · have := FunM.owe_of_mut (by intro h; exact h0 (by simpa using h)) (w_CloneNi h0 hl)
    rwa [List.length_map] at this

theorem w_CloneNn {l : List (Idn)} (h0 : l ≠ []) (hl : l.length ≤ 1000000) : FunM Tryz.prog 165 [slice 4 (l.map rowId)] (lens (l.map rowId).length) (noRes) (fun v => mutRes 27 4 (l.map rowId) v) := by
 refine FunM.of Tryz.func165 rfl rfl (by exact Nat.le_of_ble_eq_true rfl) fun M0 w0 S rs M1 w1 => ?_
 have hpos := len_pos' (f := rowId) h0
 refine ac ?_
 refine ac ?_
 refine co rfl (ok_eqnil rfl Tryz.underlying30 (vl rfl)) ?_
 refine ac ?_
 refine Tr.ex 4 rfl (fun z1 => Tr.fact 4 rfl fun hz1 => ?_)
 refine Tr.cn rfl ?_ ?_ <;> intro h1 q1
 exfalso; have := hz1 h1; simp_all
 refine ac ?_
 refine ap ?_
 refine TO.pad ?_
 refine TO.efs 0 rfl rfl (by decide) (ef_appvoid rfl rfl (by decide) rfl Tryz.underlying30 sz27 by27 z27 rfl (by decide) (by decide) (vl rfl) (vl rfl) hpos (by rw [List.length_map]; unfold maxLen; omega) (by rw [List.length_map]; omega)) (fun v1 => ?_)
 refine ap ?_
 refine Tr.ret (Fin.drop 1 ?_)
 refine Fin.retM1 rfl rfl ?_ (by intro _ _ _ h; rw [h.1])
 · exact andIs_le _ _
theorem w_CloneEn   : Fun Tryz.prog 165 [slice 4 []] (full 4 []) := by
 refine fo Tryz.func165 rfl ⟨rfl, rfl⟩ fun M0 w0 => ?_
 refine ac ?_
 refine ac ?_
 refine co rfl (ok_eqnil rfl Tryz.underlying30 (vl rfl)) ?_
 refine ac ?_
 refine Tr.ex 4 rfl (fun z1 => Tr.fact 4 rfl fun hz1 => ?_)
 refine Tr.cn rfl ?_ ?_ <;> intro h1 q1
 refine ac ?_
 refine ac ?_
 · exact nil_full 4
 refine ac ?_
 refine ac ?_
 refine co rfl (ok_appEE rfl Tryz.underlying30 sz27 (vl rfl) (vl rfl)) ?_
 refine ac ?_
 refine ac ?_
 · exact Pr.le_refl _
theorem w_CloneWn {l : List (Idn)} (hl : l.length ≤ 1000000) : FunM Tryz.prog 165 [slice 4 (l.map rowId)] (lens l.length) noRes (fun v => oweRes 27 4 (l.map rowId) v) := by
  by_cases h0 : l = []
  · subst h0; exact FunM.owe_void w_CloneEn
  · have := FunM.owe_of_mut (by intro h; exact h0 (by simpa using h)) (w_CloneNn h0 hl)
    rwa [List.length_map] at this

theorem w_CloneNc {l : List (Crt)} (h0 : l ≠ []) (hl : l.length ≤ 925904528640) : FunM Tryz.prog 204 [slice 15 (l.map rowCr)] (lens (l.map rowCr).length) (noRes) (fun v => mutRes 131 15 (l.map rowCr) v) := by
 refine FunM.of Tryz.func204 rfl rfl (by exact Nat.le_of_ble_eq_true rfl) fun M0 w0 S rs M1 w1 => ?_
 have hpos := len_pos' (f := rowCr) h0
 refine ac ?_
 refine ac ?_
 refine co rfl (ok_eqnil rfl Tryz.underlying25 (vl rfl)) ?_
 refine ac ?_
 refine Tr.ex 4 rfl (fun z1 => Tr.fact 4 rfl fun hz1 => ?_)
 refine Tr.cn rfl ?_ ?_ <;> intro h1 q1
 exfalso; have := hz1 h1; simp_all
 refine ac ?_
 refine ap ?_
 refine TO.pad ?_
 refine TO.efs 0 rfl rfl (by decide) (ef_appvoid rfl rfl (by decide) rfl Tryz.underlying25 sz131 by131 z131 rfl (by decide) (by decide) (vl rfl) (vl rfl) hpos (by rw [List.length_map]; unfold maxLen; omega) (by rw [List.length_map]; omega)) (fun v1 => ?_)
 refine ap ?_
 refine Tr.ret (Fin.drop 1 ?_)
 refine Fin.retM1 rfl rfl ?_ (by intro _ _ _ h; rw [h.1])
 · exact andIs_le _ _
theorem w_CloneEc   : Fun Tryz.prog 204 [slice 15 []] (full 15 []) := by
 refine fo Tryz.func204 rfl ⟨rfl, rfl⟩ fun M0 w0 => ?_
 refine ac ?_
 refine ac ?_
 refine co rfl (ok_eqnil rfl Tryz.underlying25 (vl rfl)) ?_
 refine ac ?_
 refine Tr.ex 4 rfl (fun z1 => Tr.fact 4 rfl fun hz1 => ?_)
 refine Tr.cn rfl ?_ ?_ <;> intro h1 q1
 refine ac ?_
 refine ac ?_
 · exact nil_full 15
 refine ac ?_
 refine ac ?_
 refine co rfl (ok_appEE rfl Tryz.underlying25 sz131 (vl rfl) (vl rfl)) ?_
 refine ac ?_
 refine ac ?_
 · exact Pr.le_refl _
theorem w_CloneWc {l : List (Crt)} (hl : l.length ≤ 925904528640) : FunM Tryz.prog 204 [slice 15 (l.map rowCr)] (lens l.length) noRes (fun v => oweRes 131 15 (l.map rowCr) v) := by
  by_cases h0 : l = []
  · subst h0; exact FunM.owe_void w_CloneEc
  · have := FunM.owe_of_mut (by intro h; exact h0 (by simpa using h)) (w_CloneNc h0 hl)
    rwa [List.length_map] at this

theorem w_CloneNs {l : List (List UInt8)} (h0 : l ≠ []) (hl : l.length ≤ 8796093022208) : FunM Tryz.prog 205 [slice 1 (l.map (fun t : List UInt8 => [str t]))] (lens (l.map (fun t : List UInt8 => [str t])).length) (noRes) (fun v => mutRes 9 1 (l.map (fun t : List UInt8 => [str t])) v) := by
 refine FunM.of Tryz.func205 rfl rfl (by exact Nat.le_of_ble_eq_true rfl) fun M0 w0 S rs M1 w1 => ?_
 have hpos := len_pos' (f := (fun t : List UInt8 => [str t])) h0
 refine ac ?_
 refine ac ?_
 refine co rfl (ok_eqnil rfl Tryz.underlying74 (vl rfl)) ?_
 refine ac ?_
 refine Tr.ex 4 rfl (fun z1 => Tr.fact 4 rfl fun hz1 => ?_)
 refine Tr.cn rfl ?_ ?_ <;> intro h1 q1
 exfalso; have := hz1 h1; simp_all
 refine ac ?_
 refine ap ?_
 refine TO.pad ?_
 refine TO.efs 0 rfl rfl (by decide) (ef_appvoid rfl rfl (by decide) rfl Tryz.underlying74 sz9 by9 z9 rfl (by decide) (by decide) (vl rfl) (vl rfl) hpos (by rw [List.length_map]; unfold maxLen; omega) (by rw [List.length_map]; omega)) (fun v1 => ?_)
 refine ap ?_
 refine Tr.ret (Fin.drop 1 ?_)
 refine Fin.retM1 rfl rfl ?_ (by intro _ _ _ h; rw [h.1])
 · exact andIs_le _ _
theorem w_CloneEs   : Fun Tryz.prog 205 [slice 1 []] (full 1 []) := by
 refine fo Tryz.func205 rfl ⟨rfl, rfl⟩ fun M0 w0 => ?_
 refine ac ?_
 refine ac ?_
 refine co rfl (ok_eqnil rfl Tryz.underlying74 (vl rfl)) ?_
 refine ac ?_
 refine Tr.ex 4 rfl (fun z1 => Tr.fact 4 rfl fun hz1 => ?_)
 refine Tr.cn rfl ?_ ?_ <;> intro h1 q1
 refine ac ?_
 refine ac ?_
 · exact nil_full 1
 refine ac ?_
 refine ac ?_
 refine co rfl (ok_appEE rfl Tryz.underlying74 sz9 (vl rfl) (vl rfl)) ?_
 refine ac ?_
 refine ac ?_
 · exact Pr.le_refl _
theorem w_CloneFs {l : List (List UInt8)} (hl : l.length ≤ 8796093022208) : Fun Tryz.prog 205 [slice 1 (l.map (fun t : List UInt8 => [str t]))] (slice 1 (l.map (fun t : List UInt8 => [str t]))) := by
  by_cases h0 : l = []
  · subst h0; exact Fun.le w_CloneEs (fun _ _ _ h => h) (full_le _ _)
  · exact (FunM.frzN (rows := (l.map (fun t : List UInt8 => [str t]))) (map_rows fun _ => rfl) (w_CloneNs h0 hl)).pure
theorem w_IdxN {l : List Idn} {p : Idn → Bool}  : Fun Tryz.prog 259 [idns l, clo Tryz.prog (fun x : Idn => [agg (rowId x)]) (fun x => bool (p x))] (int (idx p l)) := by
 refine fo Tryz.func259 rfl ⟨rfl, rfl⟩ fun M0 w0 => (Tr.lenm 0 rfl fun hlm_0 => ?_)
 refine ac ?_
 refine ac ?_
 refine Tr.block (Tr.loopw [(0, _), (1, _), (7, _)] (kk3 rfl) (fun k : Nat => [(8, int ((k : Nat) : Int))]) (fun k : Nat => k ≤ (l).length ∧ (∀ j y, j < k → l[j]? = some y → p y = false)) (fun k : Nat => (l).length - k) 0 (⟨Nat.zero_le _, fun j y hj => absurd hj (by omega)⟩) ⟨ke rfl, trivial⟩ ?_)
 rintro k ⟨hle_k, hinv_k⟩
 refine ac ?_
 refine Tr.seq ?_
 refine Tr.cn rfl ?_ ?_ <;> intro h1 q1
 have hk_k : k < (l).length := lt_of_dec h1
 obtain ⟨x, hx_k⟩ := at_ hk_k
 refine ac ?_
 refine ac ?_
 refine ac ?_
 refine co rfl (ok_indexAddr rfl Tryz.underlying30 sz27 (vl rfl) (vl rfl) (by omega) (by exact row_at (by assumption))) ?_
 refine co rfl (ok_loadA rfl agg27 sz27 (vl rfl) rfl rfl) (co rfl (ok_callc x rfl (vl rfl) ⟨ke rfl, trivial⟩) ?_)
 refine ac ?_
 refine Tr.cn rfl ?_ ?_ <;> intro h2 q2
 refine ac ?_
 refine wk1 4 rfl ?_
 refine ac ?_
 · exact int_eq (idx_found hx_k (by assumption) hinv_k)
 refine ac ?_
 refine ac ?_
 exact Fin.fam_same (k + 1) ⟨⟨hk_k, step_no hx_k (by assumption) hinv_k⟩, by omega⟩ ⟨⟨_, rfl, int_succ k⟩, ke rfl, ke rfl, ke rfl, trivial⟩
 have he_k : k = (l).length := by have := ge_of_dec h1; omega
 subst he_k
 refine ac ?_
 refine ac ?_
 refine ac ?_
 · exact int_eq (idx_none hinv_k)
theorem w_HasN {l : List Idn} {p : Idn → Bool}  : Fun Tryz.prog 212 [idns l, clo Tryz.prog (fun x : Idn => [agg (rowId x)]) (fun x => bool (p x))] (bool (l.any p)) := by
 refine fo Tryz.func212 rfl ⟨rfl, rfl⟩ fun M0 w0 => ?_
 refine ac ?_
 refine ac ?_
 refine co rfl (kc2 (w_IdxN) rfl rfl rfl) ?_
 refine ac ?_
 refine ac ?_
 · exact bool_eq (idx_any p l)
theorem w_DelBi {l : List (Int)} {b0 cap i : Nat} {sp : List Value} (hi : i < l.length) (hl : l.length ≤ 1000000) (hc : l.length ≤ cap) (hm : cap ≤ maxLen) (hq : sp.length = (cap - l.length) * 1) : FunM Tryz.prog 208 [andIs (.slice (some ⟨b0, 0, none⟩) l.length cap) (lens l.length), int ((i : Nat) : Int), int (((i : Nat) : Int) + 1)] (lens (l.length - 1)) (cellsRes true b0 3 ((l.map (fun n : Int => [int n])).flatten ++ sp.map is)) (fun v => ownRes 3 1 ((l.eraseIdx i).map (fun n : Int => [int n])) v) := by
 refine FunM.of Tryz.func208 rfl rfl (by exact Nat.le_of_ble_eq_true rfl) fun M0 w0 S rs M1 w1 => ?_
 have hAl : ((l.map (fun n : Int => [int n])).flatten).length = l.length * 1 := by rw [flat_len (sz := 1) (map_rows fun _ => rfl), List.length_map]
 have e1 : (((i : Nat) : Int) + (1 : Int)).toNat = i + 1 := by omega
 have e2 : ((i : Nat) : Int).toNat = i := by omega
 refine ac ?_
 refine ac ?_
 refine co rfl (okb_len rfl Tryz.underlying22 ⟨_, rfl, andIs_is _ _⟩) (co rfl (okb_sliceThree rfl Tryz.underlying22 sz3 ⟨_, rfl, andIs_is _ _⟩ (vl rfl) (vl rfl) (vl rfl) (by omega) (by omega) (by omega) (by omega)) ?_)
 refine ac ?_
 refine ac ?_
 refine Tr.cn rfl ?_ ?_ <;> intro h1 q1
 exfalso; have := q1; omega
 refine ac ?_
 refine ac ?_
 refine co rfl (okb_len rfl Tryz.underlying22 ⟨_, rfl, andIs_is _ _⟩) ?_
 refine ac ?_
 refine Tr.seq (Tr.regOne mixed 6 (by kernel_rfl) (ChOne.op rfl rfl (by decide) (ok_move rfl (vl rfl)) (ChOne.op rfl rfl (by decide) (ok_move rfl (vl rfl)) (ChOne.op rfl rfl (by decide) (okb_sliceTo rfl Tryz.underlying22 sz3 ⟨_, rfl, andIs_is _ _⟩ (vl rfl) (by omega) (by omega) (by omega) (by omega)) (ChOne.op rfl rfl (by decide) (ok_move rfl (vl rfl)) (ChOne.op rfl rfl (by decide) (ok_move rfl (vl rfl)) (ChOne.op rfl rfl (by decide) (okb_sliceTail rfl Tryz.underlying22 sz3 ⟨_, rfl, andIs_is _ _⟩ (vl rfl) (by omega) (by omega) (by omega)) ?_)))))))
 refine ChOne.turn _ rfl (by decide) (turn_ef 0 rfl (ef_appTail rfl rfl (by decide) rfl Tryz.underlying22 sz3 (vl rfl) (vl rfl) (by omega) (by rw [List.length_append, hAl]; omega) (by rw [List.length_append, hAl]; omega) rfl)) ?_
 refine ac ?_
 refine wk2 0 7 rfl ?_
 refine ap ?_
 refine tp rfl (okb_len rfl Tryz.underlying22 (vl rfl)) (tm rfl (tp rfl (okb_sliceTwo rfl Tryz.underlying22 sz3 (vl rfl) (vl rfl) (vl rfl) (by omega) (by omega) (by omega)) ?_))
 refine TO.ef0 0 rfl rfl (ef_clear rfl rfl Tryz.underlying22 sz3 z3 rfl (by decide) (by decide) (vl rfl) (by omega) (by simp only [List.length_append, List.length_take, List.length_drop, List.length_map, hAl]; omega) rfl) ?_
 refine ap ?_
 refine ac ?_
 refine Tr.ret ?_
 refine Fin.closeH (sz := 1) 0 rfl (rows := ((l.eraseIdx i).map (fun n : Int => [int n]))) (sp := [.int .i64 0] ++ sp) (m := i + (l.length - (i + 1))) ((del_place (N := l.length * 1) (a := i * 1) (z := 1) (S := sp.map is) hAl (by omega) (by omega) (by omega) (by omega) (by omega) (by omega) (by omega) (B := _) rfl).trans (by rw [List.map_append, ← flat_delN (f := (fun n : Int => [int n])) (sz := 1) (fun _ => rfl), Nat.succ_mul, rep1] <;> omega)) (by rw [List.length_map, List.length_eraseIdx, if_pos hi]; omega) (by omega) hm (by rw [List.length_append, hq]; simp only [List.length_cons, List.length_nil]; omega) ?_
 refine Fin.retM1 rfl rfl ?_ (by rintro _ _ _ rfl; rfl)
 · rintro _ _ _ rfl; exact ⟨_, _, by congr 1; omega⟩
theorem e_DelBi : Entry Tryz.prog 208 := ⟨_, Tryz.func208, rfl, rfl⟩
theorem w_DelBn {l : List (Idn)} {b0 cap i : Nat} {sp : List Value} (hi : i < l.length) (hl : l.length ≤ 1000000) (hc : l.length ≤ cap) (hm : cap ≤ maxLen) (hq : sp.length = (cap - l.length) * 4) : FunM Tryz.prog 214 [andIs (.slice (some ⟨b0, 0, none⟩) l.length cap) (lens l.length), int ((i : Nat) : Int), int (((i : Nat) : Int) + 1)] (lens (l.length - 1)) (cellsRes true b0 27 ((l.map rowId).flatten ++ sp.map is)) (fun v => ownRes 27 4 ((l.eraseIdx i).map rowId) v) := by
 refine FunM.of Tryz.func214 rfl rfl (by exact Nat.le_of_ble_eq_true rfl) fun M0 w0 S rs M1 w1 => ?_
 have hAl : ((l.map rowId).flatten).length = l.length * 4 := by rw [flat_len (sz := 4) (map_rows fun _ => rfl), List.length_map]
 have e1 : (((i : Nat) : Int) + (1 : Int)).toNat = i + 1 := by omega
 have e2 : ((i : Nat) : Int).toNat = i := by omega
 refine ac ?_
 refine ac ?_
 refine co rfl (okb_len rfl Tryz.underlying30 ⟨_, rfl, andIs_is _ _⟩) (co rfl (okb_sliceThree rfl Tryz.underlying30 sz27 ⟨_, rfl, andIs_is _ _⟩ (vl rfl) (vl rfl) (vl rfl) (by omega) (by omega) (by omega) (by omega)) ?_)
 refine ac ?_
 refine ac ?_
 refine Tr.cn rfl ?_ ?_ <;> intro h1 q1
 exfalso; have := q1; omega
 refine ac ?_
 refine ac ?_
 refine co rfl (okb_len rfl Tryz.underlying30 ⟨_, rfl, andIs_is _ _⟩) ?_
 refine ac ?_
 refine Tr.seq (Tr.regOne mixed 6 (by kernel_rfl) (ChOne.op rfl rfl (by decide) (ok_move rfl (vl rfl)) (ChOne.op rfl rfl (by decide) (ok_move rfl (vl rfl)) (ChOne.op rfl rfl (by decide) (okb_sliceTo rfl Tryz.underlying30 sz27 ⟨_, rfl, andIs_is _ _⟩ (vl rfl) (by omega) (by omega) (by omega) (by omega)) (ChOne.op rfl rfl (by decide) (ok_move rfl (vl rfl)) (ChOne.op rfl rfl (by decide) (ok_move rfl (vl rfl)) (ChOne.op rfl rfl (by decide) (okb_sliceTail rfl Tryz.underlying30 sz27 ⟨_, rfl, andIs_is _ _⟩ (vl rfl) (by omega) (by omega) (by omega)) ?_)))))))
 refine ChOne.turn _ rfl (by decide) (turn_ef 0 rfl (ef_appTail rfl rfl (by decide) rfl Tryz.underlying30 sz27 (vl rfl) (vl rfl) (by omega) (by rw [List.length_append, hAl]; omega) (by rw [List.length_append, hAl]; omega) rfl)) ?_
 refine ac ?_
 refine wk2 0 7 rfl ?_
 refine ap ?_
 refine tp rfl (okb_len rfl Tryz.underlying30 (vl rfl)) (tm rfl (tp rfl (okb_sliceTwo rfl Tryz.underlying30 sz27 (vl rfl) (vl rfl) (vl rfl) (by omega) (by omega) (by omega)) ?_))
 refine TO.ef0 0 rfl rfl (ef_clear rfl rfl Tryz.underlying30 sz27 z27 rfl (by decide) (by decide) (vl rfl) (by omega) (by simp only [List.length_append, List.length_take, List.length_drop, List.length_map, hAl]; omega) rfl) ?_
 refine ap ?_
 refine ac ?_
 refine Tr.ret ?_
 refine Fin.closeH (sz := 4) 0 rfl (rows := ((l.eraseIdx i).map rowId)) (sp := [.int .i64 0, .int .i64 0, .int .i64 0, .slice none 0 0] ++ sp) (m := i + (l.length - (i + 1))) ((del_place (N := l.length * 4) (a := i * 4) (z := 4) (S := sp.map is) hAl (by omega) (by omega) (by omega) (by omega) (by omega) (by omega) (by omega) (B := _) rfl).trans (by rw [List.map_append, ← flat_delN (f := rowId) (sz := 4) (fun _ => rfl), Nat.succ_mul, rep1] <;> omega)) (by rw [List.length_map, List.length_eraseIdx, if_pos hi]; omega) (by omega) hm (by rw [List.length_append, hq]; simp only [List.length_cons, List.length_nil]; omega) ?_
 refine Fin.retM1 rfl rfl ?_ (by rintro _ _ _ rfl; rfl)
 · rintro _ _ _ rfl; exact ⟨_, _, by congr 1; omega⟩
theorem e_DelBn : Entry Tryz.prog 214 := ⟨_, Tryz.func214, rfl, rfl⟩
end Go.Proofs.YtppeeogffbpcbaaGreat
namespace Go.Proofs.YtppeeogffbpcbaaGreat
open Go Go.RowKit Cp
theorem w_InsBi {l : List (Int)} {x : Int} {b0 cap i : Nat} {sp : List Value} (hi : i ≤ l.length) (hl : l.length ≤ 1000000) (hc : l.length ≤ cap) (hm : cap ≤ maxLen) (hq : sp.length = (cap - l.length) * 1) : FunM Tryz.prog 258 [andIs (.slice (some ⟨b0, 0, none⟩) l.length cap) (lens l.length), int ((i : Nat) : Int), slice 1 [[int x]]] (lens (l.length + 1)) (cellsRes true b0 3 ((l.map (fun n : Int => [int n])).flatten ++ sp.map is)) (fun v => ownRes 3 1 ((l.take i ++ [x] ++ l.drop i).map (fun n : Int => [int n])) v) := by
 refine FunM.of Tryz.func258 rfl rfl (by exact Nat.le_of_ble_eq_true rfl) fun M0 w0 S rs M1 w1 => ?_
 have hv2 : ([[int x]] : List (List Pr)).flatten.length = 1 := rfl
 have hv1 : ([[int x]] : List (List Pr)).length = 1 := rfl
 have hAl : ((l.map (fun n : Int => [int n])).flatten).length = l.length * 1 := by rw [flat_len (sz := 1) (map_rows fun _ => rfl), List.length_map]
 have e1 : (((i : Nat) : Int) + (1 : Int)).toNat = i + 1 := by omega
 have e2 : ((i : Nat) : Int).toNat = i := by omega
 refine ac ?_
 refine ac ?_
 refine co rfl (okb_sliceAny rfl Tryz.underlying22 sz3 ⟨_, rfl, andIs_is _ _⟩ (vl rfl) (by omega) (by omega) (by omega)) ?_
 refine ac ?_
 refine ac ?_
 refine co rfl (ok_len rfl Tryz.underlying22 (vl rfl)) ?_
 refine ac ?_
 refine ac ?_
 refine Tr.cn rfl ?_ ?_ <;> intro h1 q1
 simp at h1
 refine ac ?_
 refine ac ?_
 refine co rfl (okb_len rfl Tryz.underlying22 ⟨_, rfl, andIs_is _ _⟩) ?_
 refine ac ?_
 refine ac ?_
 refine wk6 0 1 2 7 8 22 rfl ?_
 refine Tr.cn rfl ?_ ?_ <;> intro h2 q2
 refine Tr.seq (Tr.closeG (sz := 1) 0 rfl (rows := l.map (fun n : Int => [int n])) (sp := sp) rfl (by simp) hc hm hq ?_)
 refine ap ?_
 refine TO.efs 0 rfl rfl (by decide) (ef_appmut rfl rfl (by decide) rfl Tryz.underlying22 sz3 by3 z3 rfl (by decide) (by decide) (vl rfl) (vl rfl) (map_rows fun _ => rfl) (Nat.zero_lt_succ _) (by simp only [List.length_map, List.length_cons, List.length_nil]; unfold maxLen; omega) (by simp only [List.length_map, List.length_cons, List.length_nil]; omega)) (fun v1 => ?_)
 refine ap ?_
 refine Tr.ret (Fin.then_ret ?_)
 refine Fin.retM1 rfl rfl ?_ (by rintro _ _ _ ⟨rfl, _⟩; rw [show i = l.length by omega, List.take_length, List.drop_length, List.append_nil, List.map_append]; rfl)
 · exact Pr.le_trans (andIs_le _ _) (Pr.le_of_eq (by simp))
 refine ac ?_
 refine ac ?_
 refine co rfl (okb_cap rfl Tryz.underlying22 ⟨_, rfl, andIs_is _ _⟩) ?_
 refine ac ?_
 refine Tr.cn rfl ?_ ?_ <;> intro h3 q3
 refine ap ?_
 refine tp rfl (okb_sliceTo rfl Tryz.underlying22 sz3 ⟨_, rfl, andIs_is _ _⟩ (vl rfl) (by omega) (by omega) (by omega) (by omega)) ?_
 refine ap ?_
 refine TO.pad ?_
 refine TO.appzs 0 1 rfl rfl rfl rfl (by decide) rfl Tryz.underlying22 Tryz.underlying3 sz3 by3 z3 rfl (by decide) (by decide) (vl rfl) (vl rfl) (i := i) (k := l.length + 1 - i) (by omega) (by simp only [List.length_append, List.length_take, List.length_drop, List.length_map, hAl, hv1, hv2]; omega) (by omega) (by omega) (by unfold maxLen; omega) (by omega) (fun b1 cap1 sp1 hg1 hm1 hs1 => ?_)
 refine ap ?_
 refine wk5 0 1 2 7 9 rfl (Tr.seq ?_)
 have hsz : sp1.length = (cap1 - i) * 1 := by have := hs1; rw [List.length_take, List.length_append, hAl] at this; omega
 refine Tr.frzS (sz := 1) (l.map (fun n : Int => [int n])) 1 0 rfl rfl (Pr.le_trans (andIs_is _ _) (Pr.le_of_eq (by simp))) (map_rows fun _ => rfl) (by rw [List.length_map]; exact hc) hm (by rw [List.length_map, List.length_map]; omega) ?_
 refine ap ?_
 refine tp rfl (okb_sliceFrom rfl Tryz.underlying22 sz3 (vl rfl) (vl rfl) (by omega) (by omega) (by omega)) (tm rfl ?_)
 refine TO.efc 0 rfl rfl (by decide) (ef_copyS rfl rfl rfl Tryz.underlying22 sz3 (by decide) (vl rfl) (vl rfl) (by omega) (by omega) (by simp only [List.length_append, List.length_take, List.length_drop, List.length_map, hAl, hv1, hv2]; omega) rfl) ?_
 refine ap ?_
 refine Tr.seq (Tr.rx ?_)
 refine ay ?_
 refine xo rfl (fun _ => okb_sliceFrom rfl Tryz.underlying22 sz3 (vl rfl) (vl rfl) (by omega) (by omega) (by omega)) ?_
 refine ay ?_
 refine xo rfl (fun _ => ok_sliceFrom rfl Tryz.underlying22 sz3 ⟨_, rfl, andIs_le _ _⟩ (vl rfl) (by omega) (by simp; omega)) ?_
 refine Cx.ef 0 rfl rfl (by decide) (ef_copyS rfl rfl rfl Tryz.underlying22 sz3 (by decide) (vl rfl) (vl rfl) (by simp only [List.length_append, List.length_take, List.length_drop, List.length_map, hAl, hv1, hv2]; omega) (by simp only [List.length_append, List.length_take, List.length_drop, List.length_map, hAl, hv1, hv2]; omega) (by simp only [List.length_append, List.length_take, List.length_drop, List.length_map, hAl, hv1, hv2]; omega) rfl) ?_
 refine Cx.nil ⟨by kernel_rfl, ?_⟩
 refine FinX.done al3 (Fin.go (wk1 9 rfl ?_))
 refine ac ?_
 refine Tr.ret (Fin.then_ret ?_)
 refine Fin.closeH (sz := 1) 0 rfl (rows := ((l.take i ++ [x] ++ l.drop i).map (fun n : Int => [int n]))) (sp := sp1.drop ((l.length + 1 - i) * 1)) (m := i + (l.length + 1 - i)) (ins_grownZ (a := i * 1) (z := 1) (Z := sp1.map is) (N := l.length * 1) hAl (by omega) rfl (by rw [List.length_map]; omega) (by omega) (by omega) (by omega) (by omega) (by rw [List.length_drop, List.length_map]; omega) (by rw [← List.map_drop, flat_dropN (f := (fun n : Int => [int n])) (sz := 1) (fun _ => rfl), e2]) (by rw [List.map_drop, show (l.length + 1 - i) * 1 = l.length * 1 + 1 - i * 1 by omega, ← flat_insN (f := (fun n : Int => [int n])) (sz := 1) (l := l) (i := i) (x := x) (fun _ => rfl)]; rfl)) (by simp only [List.length_map, List.length_append, List.length_take, List.length_drop, List.length_cons, List.length_nil]; omega) (by omega) hm1 (by rw [List.length_drop]; omega) ?_
 refine Fin.drop 1 ?_
 refine Fin.retM1 rfl rfl ?_ (by rintro _ _ _ rfl; rfl)
 · rintro _ _ _ rfl; exact ⟨_, _, by congr 1; omega⟩
 refine ac ?_
 refine ac ?_
 refine co rfl (okb_sliceCap rfl Tryz.underlying22 sz3 ⟨_, rfl, andIs_is _ _⟩ (vl rfl) (by omega) (by omega) (by omega)) ?_
 refine ac ?_
 refine wk5 0 1 2 7 8 rfl ?_
 refine ap ?_
 refine tp rfl (okb_sliceFrom rfl Tryz.underlying22 sz3 (vl rfl) (vl rfl) (by omega) (by omega) (by omega)) ?_
 refine TO.rd 0 rfl rfl rfl (by decide) (rd_overlaps (tR := 4) rfl Tryz.func287 (by kernel_rfl) (by kernel_rfl) (by kernel_rfl) (by kernel_rfl) Tryz.underlying22 sz3 (by decide) (vl rfl) (by exact Nat.zero_lt_succ _) (vl rfl) (by simp only [List.length_append, List.length_take, List.length_drop, List.length_map, hAl, hv1, hv2]; omega)) ?_
 refine ap ?_
 refine Tr.cn rfl ?_ ?_ <;> intro h4 q4
 refine Tr.seq (Tr.rx ?_)
 refine ay ?_
 refine xo rfl (fun _ => okb_sliceFrom rfl Tryz.underlying22 sz3 (vl rfl) (vl rfl) (by omega) (by omega) (by omega)) ?_
 refine ay ?_
 refine xo rfl (fun _ => okb_sliceFrom rfl Tryz.underlying22 sz3 (vl rfl) (vl rfl) (by omega) (by omega) (by omega)) ?_
 refine Cx.ef 0 rfl rfl (by decide) (ef_copyB (m := l.length - i) rfl rfl rfl Tryz.underlying22 sz3 (vl rfl) (vl rfl) (by show _ = min _ _; omega) (by simp only [List.length_append, List.length_take, List.length_drop, List.length_map, hAl, hv1, hv2]; omega) (by simp only [List.length_append, List.length_take, List.length_drop, List.length_map, hAl, hv1, hv2]; omega) rfl) ?_
 refine Cx.nil ⟨by kernel_rfl, ?_⟩
 refine FinX.done al2 (Fin.go (wk3 0 1 2 rfl ?_))
 refine ap ?_
 refine tp rfl (okb_sliceFrom rfl Tryz.underlying22 sz3 (vl rfl) (vl rfl) (by omega) (by omega) (by omega)) (tm rfl ?_)
 refine TO.efc 0 rfl rfl (by decide) (ef_copyS rfl rfl rfl Tryz.underlying22 sz3 (by decide) (vl rfl) (vl rfl) (by omega) (by omega) (by simp only [List.length_append, List.length_take, List.length_drop, List.length_map, hAl, hv1, hv2]; omega) rfl) ?_
 refine ap ?_
 refine ac ?_
 refine Tr.ret (Fin.then_ret ?_)
 refine Fin.closeH (sz := 1) 0 rfl (rows := ((l.take i ++ [x] ++ l.drop i).map (fun n : Int => [int n]))) (sp := sp.drop 1) (m := l.length + 1) (ins_placeZ (a := i * 1) (z := 1) (S := sp.map is) (N := l.length * 1) hAl (by omega) rfl (by rw [List.length_map]; omega) (by omega) (by omega) (by omega) (by omega) (by omega) (by omega) (by rw [List.map_drop, ← flat_insN (f := (fun n : Int => [int n])) (sz := 1) (l := l) (i := i) (x := x) (fun _ => rfl)]; rfl)) (by simp only [List.length_map, List.length_append, List.length_take, List.length_drop, List.length_cons, List.length_nil]; omega) (by omega) hm (by rw [List.length_drop]; omega) ?_
 refine Fin.retM1 rfl rfl ?_ (by rintro _ _ _ rfl; rfl)
 · rintro _ _ _ rfl; exact ⟨_, _, by rfl⟩
 exact absurd h4 (by decide)
theorem e_InsBi : Entry Tryz.prog 258 := ⟨_, Tryz.func258, rfl, rfl⟩
theorem w_InsEi {x : Int}  : FunM Tryz.prog 258 [full 1 [], int ((0 : Nat) : Int), slice 1 [[int x]]] (lens 1) (noRes) (fun v => mutRes 3 1 [[int x]] v) := by
 refine FunM.of Tryz.func258 rfl rfl (by exact Nat.le_of_ble_eq_true rfl) fun M0 w0 S rs M1 w1 => ?_
 have hv1 : ([[int x]] : List (List Pr)).length = 1 := rfl
 refine ac ?_
 refine ac ?_
 refine co rfl (ok_sliceFrom rfl Tryz.underlying22 sz3 ⟨_, rfl, full_le _ _⟩ (vl rfl) (by omega) (by omega)) ?_
 refine ac ?_
 refine ac ?_
 refine co rfl (ok_len rfl Tryz.underlying22 (vl rfl)) ?_
 refine ac ?_
 refine ac ?_
 refine Tr.cn rfl ?_ ?_ <;> intro h1 q1
 simp at h1
 refine ac ?_
 refine ac ?_
 refine co rfl (ok_len rfl Tryz.underlying22 ⟨_, rfl, full_le _ _⟩) ?_
 refine ac ?_
 refine ac ?_
 refine wk6 0 1 2 7 8 22 rfl ?_
 refine Tr.cn rfl ?_ ?_ <;> intro h2 q2
 refine ap ?_
 refine TO.pad ?_
 refine TO.efs 0 rfl rfl (by decide) (ef_appvoid rfl rfl (by decide) rfl Tryz.underlying22 sz3 by3 z3 rfl (by decide) (by decide) (vl rfl) (vl rfl) (by simp) (by simp; unfold maxLen; omega) (by simp)) (fun v1 => ?_)
 refine ap ?_
 refine Tr.ret (Fin.then_ret (Fin.drop 1 ?_))
 refine Fin.retM1 rfl rfl ?_ (by intro _ _ _ h; rw [h.1])
 · exact Pr.le_trans (andIs_le _ _) (Pr.le_refl _)
 exact absurd h2 (by decide)
theorem w_InsWi {l : List (Int)} {x : Int} {v : Value} {i : Nat} (hi : i ≤ l.length) (hl : l.length ≤ 1000000) : FunM Tryz.prog 258 [is v, int ((i : Nat) : Int), slice 1 [[int x]]] (slice 1 ((l.take i ++ [x] ++ l.drop i).map (fun n : Int => [int n]))) (oweRes 3 1 (l.map (fun n : Int => [int n])) v) (fun _ => noRes) := by
  refine FunM.frz (e := 3) (m := l.length + 1) (map_rows fun _ => rfl) (FunM.owe_cases e_InsBi (fun h0 => ?_) (fun b cap sp hc hm hq => ?_))
  · have hl0 : l = [] := by simpa using h0
    subst hl0
    have hi0 : i = 0 := by simpa using hi
    subst hi0
    exact FunM.own_of_mut w_InsEi
  · rw [List.length_map] at hc hq ⊢
    exact w_InsBi hi hl hc hm (by omega)
theorem w_DelWi {l : List (Int)} {v : Value} {i : Nat} (hi : i < l.length) (hl : l.length ≤ 1000000) : FunM Tryz.prog 208 [is v, int ((i : Nat) : Int), int (((i : Nat) : Int) + 1)] (slice 1 ((l.eraseIdx i).map (fun n : Int => [int n]))) (oweRes 3 1 (l.map (fun n : Int => [int n])) v) (fun _ => noRes) := by
  refine FunM.frz (e := 3) (m := l.length - 1) (map_rows fun _ => rfl) (FunM.owe_cases e_DelBi (fun h0 => ?_) (fun b cap sp hc hm hq => ?_))
  · have hl0 : l = [] := by simpa using h0
    subst hl0; simp at hi
  · rw [List.length_map] at hc hq ⊢
    exact w_DelBi hi hl hc hm (by omega)

theorem w_InsBn {l : List (Idn)} {x : Idn} {b0 cap i : Nat} {sp : List Value} (hi : i ≤ l.length) (hl : l.length ≤ 1000000) (hc : l.length ≤ cap) (hm : cap ≤ maxLen) (hq : sp.length = (cap - l.length) * 4) : FunM Tryz.prog 261 [andIs (.slice (some ⟨b0, 0, none⟩) l.length cap) (lens l.length), int ((i : Nat) : Int), slice 4 [rowId x]] (lens (l.length + 1)) (cellsRes true b0 27 ((l.map rowId).flatten ++ sp.map is)) (fun v => ownRes 27 4 ((l.take i ++ [x] ++ l.drop i).map rowId) v) := by
 refine FunM.of Tryz.func261 rfl rfl (by exact Nat.le_of_ble_eq_true rfl) fun M0 w0 S rs M1 w1 => ?_
 have hv2 : ([rowId x] : List (List Pr)).flatten.length = 4 := rfl
 have hv1 : ([rowId x] : List (List Pr)).length = 1 := rfl
 have hAl : ((l.map rowId).flatten).length = l.length * 4 := by rw [flat_len (sz := 4) (map_rows fun _ => rfl), List.length_map]
 have e1 : (((i : Nat) : Int) + (1 : Int)).toNat = i + 1 := by omega
 have e2 : ((i : Nat) : Int).toNat = i := by omega
 refine ac ?_
 refine ac ?_
 refine co rfl (okb_sliceAny rfl Tryz.underlying30 sz27 ⟨_, rfl, andIs_is _ _⟩ (vl rfl) (by omega) (by omega) (by omega)) ?_
 refine ac ?_
 refine ac ?_
 refine co rfl (ok_len rfl Tryz.underlying30 (vl rfl)) ?_
 refine ac ?_
 refine ac ?_
 refine Tr.cn rfl ?_ ?_ <;> intro h1 q1
 simp at h1
 refine ac ?_
 refine ac ?_
 refine co rfl (okb_len rfl Tryz.underlying30 ⟨_, rfl, andIs_is _ _⟩) ?_
 refine ac ?_
 refine ac ?_
 refine wk6 0 1 2 7 8 22 rfl ?_
 refine Tr.cn rfl ?_ ?_ <;> intro h2 q2
 refine Tr.seq (Tr.closeG (sz := 4) 0 rfl (rows := l.map rowId) (sp := sp) rfl (by simp) hc hm hq ?_)
 refine ap ?_
 refine TO.efs 0 rfl rfl (by decide) (ef_appmut rfl rfl (by decide) rfl Tryz.underlying30 sz27 by27 z27 rfl (by decide) (by decide) (vl rfl) (vl rfl) (map_rows fun _ => rfl) (Nat.zero_lt_succ _) (by simp only [List.length_map, List.length_cons, List.length_nil]; unfold maxLen; omega) (by simp only [List.length_map, List.length_cons, List.length_nil]; omega)) (fun v1 => ?_)
 refine ap ?_
 refine Tr.ret (Fin.then_ret ?_)
 refine Fin.retM1 rfl rfl ?_ (by rintro _ _ _ ⟨rfl, _⟩; rw [show i = l.length by omega, List.take_length, List.drop_length, List.append_nil, List.map_append]; rfl)
 · exact Pr.le_trans (andIs_le _ _) (Pr.le_of_eq (by simp))
 refine ac ?_
 refine ac ?_
 refine co rfl (okb_cap rfl Tryz.underlying30 ⟨_, rfl, andIs_is _ _⟩) ?_
 refine ac ?_
 refine Tr.cn rfl ?_ ?_ <;> intro h3 q3
 refine ap ?_
 refine tp rfl (okb_sliceTo rfl Tryz.underlying30 sz27 ⟨_, rfl, andIs_is _ _⟩ (vl rfl) (by omega) (by omega) (by omega) (by omega)) ?_
 refine ap ?_
 refine TO.pad ?_
 refine TO.appzs 0 1 rfl rfl rfl rfl (by decide) rfl Tryz.underlying30 Tryz.underlying3 sz27 by27 z27 rfl (by decide) (by decide) (vl rfl) (vl rfl) (i := i) (k := l.length + 1 - i) (by omega) (by simp only [List.length_append, List.length_take, List.length_drop, List.length_map, hAl, hv1, hv2]; omega) (by omega) (by omega) (by unfold maxLen; omega) (by omega) (fun b1 cap1 sp1 hg1 hm1 hs1 => ?_)
 refine ap ?_
 refine wk5 0 1 2 7 9 rfl (Tr.seq ?_)
 have hsz : sp1.length = (cap1 - i) * 4 := by have := hs1; rw [List.length_take, List.length_append, hAl] at this; omega
 refine Tr.frzS (sz := 4) (l.map rowId) 1 0 rfl rfl (Pr.le_trans (andIs_is _ _) (Pr.le_of_eq (by simp))) (map_rows fun _ => rfl) (by rw [List.length_map]; exact hc) hm (by rw [List.length_map, List.length_map]; omega) ?_
 refine ap ?_
 refine tp rfl (okb_sliceFrom rfl Tryz.underlying30 sz27 (vl rfl) (vl rfl) (by omega) (by omega) (by omega)) (tm rfl ?_)
 refine TO.efc 0 rfl rfl (by decide) (ef_copyS rfl rfl rfl Tryz.underlying30 sz27 (by decide) (vl rfl) (vl rfl) (by omega) (by omega) (by simp only [List.length_append, List.length_take, List.length_drop, List.length_map, hAl, hv1, hv2]; omega) rfl) ?_
 refine ap ?_
 refine Tr.seq (Tr.rx ?_)
 refine ay ?_
 refine xo rfl (fun _ => okb_sliceFrom rfl Tryz.underlying30 sz27 (vl rfl) (vl rfl) (by omega) (by omega) (by omega)) ?_
 refine ay ?_
 refine xo rfl (fun _ => ok_sliceFrom rfl Tryz.underlying30 sz27 ⟨_, rfl, andIs_le _ _⟩ (vl rfl) (by omega) (by simp; omega)) ?_
 refine Cx.ef 0 rfl rfl (by decide) (ef_copyS rfl rfl rfl Tryz.underlying30 sz27 (by decide) (vl rfl) (vl rfl) (by simp only [List.length_append, List.length_take, List.length_drop, List.length_map, hAl, hv1, hv2]; omega) (by simp only [List.length_append, List.length_take, List.length_drop, List.length_map, hAl, hv1, hv2]; omega) (by simp only [List.length_append, List.length_take, List.length_drop, List.length_map, hAl, hv1, hv2]; omega) rfl) ?_
 refine Cx.nil ⟨by kernel_rfl, ?_⟩
 refine FinX.done al3 (Fin.go (wk1 9 rfl ?_))
 refine ac ?_
 refine Tr.ret (Fin.then_ret ?_)
 refine Fin.closeH (sz := 4) 0 rfl (rows := ((l.take i ++ [x] ++ l.drop i).map rowId)) (sp := sp1.drop ((l.length + 1 - i) * 4)) (m := i + (l.length + 1 - i)) (ins_grownZ (a := i * 4) (z := 4) (Z := sp1.map is) (N := l.length * 4) hAl (by omega) rfl (by rw [List.length_map]; omega) (by omega) (by omega) (by omega) (by omega) (by rw [List.length_drop, List.length_map]; omega) (by rw [← List.map_drop, flat_dropN (f := rowId) (sz := 4) (fun _ => rfl), e2]) (by rw [List.map_drop, show (l.length + 1 - i) * 4 = l.length * 4 + 4 - i * 4 by omega, ← flat_insN (f := rowId) (sz := 4) (l := l) (i := i) (x := x) (fun _ => rfl)]; rfl)) (by simp only [List.length_map, List.length_append, List.length_take, List.length_drop, List.length_cons, List.length_nil]; omega) (by omega) hm1 (by rw [List.length_drop]; omega) ?_
 refine Fin.drop 1 ?_
 refine Fin.retM1 rfl rfl ?_ (by rintro _ _ _ rfl; rfl)
 · rintro _ _ _ rfl; exact ⟨_, _, by congr 1; omega⟩
 refine ac ?_
 refine ac ?_
 refine co rfl (okb_sliceCap rfl Tryz.underlying30 sz27 ⟨_, rfl, andIs_is _ _⟩ (vl rfl) (by omega) (by omega) (by omega)) ?_
 refine ac ?_
 refine wk5 0 1 2 7 8 rfl ?_
 refine ap ?_
 refine tp rfl (okb_sliceFrom rfl Tryz.underlying30 sz27 (vl rfl) (vl rfl) (by omega) (by omega) (by omega)) ?_
 refine TO.rd 0 rfl rfl rfl (by decide) (rd_overlaps (tR := 4) rfl Tryz.func289 (by kernel_rfl) (by kernel_rfl) (by kernel_rfl) (by kernel_rfl) Tryz.underlying30 sz27 (by decide) (vl rfl) (by exact Nat.zero_lt_succ _) (vl rfl) (by simp only [List.length_append, List.length_take, List.length_drop, List.length_map, hAl, hv1, hv2]; omega)) ?_
 refine ap ?_
 refine Tr.cn rfl ?_ ?_ <;> intro h4 q4
 refine Tr.seq (Tr.rx ?_)
 refine ay ?_
 refine xo rfl (fun _ => okb_sliceFrom rfl Tryz.underlying30 sz27 (vl rfl) (vl rfl) (by omega) (by omega) (by omega)) ?_
 refine ay ?_
 refine xo rfl (fun _ => okb_sliceFrom rfl Tryz.underlying30 sz27 (vl rfl) (vl rfl) (by omega) (by omega) (by omega)) ?_
 refine Cx.ef 0 rfl rfl (by decide) (ef_copyB (m := l.length - i) rfl rfl rfl Tryz.underlying30 sz27 (vl rfl) (vl rfl) (by show _ = min _ _; omega) (by simp only [List.length_append, List.length_take, List.length_drop, List.length_map, hAl, hv1, hv2]; omega) (by simp only [List.length_append, List.length_take, List.length_drop, List.length_map, hAl, hv1, hv2]; omega) rfl) ?_
 refine Cx.nil ⟨by kernel_rfl, ?_⟩
 refine FinX.done al2 (Fin.go (wk3 0 1 2 rfl ?_))
 refine ap ?_
 refine tp rfl (okb_sliceFrom rfl Tryz.underlying30 sz27 (vl rfl) (vl rfl) (by omega) (by omega) (by omega)) (tm rfl ?_)
 refine TO.efc 0 rfl rfl (by decide) (ef_copyS rfl rfl rfl Tryz.underlying30 sz27 (by decide) (vl rfl) (vl rfl) (by omega) (by omega) (by simp only [List.length_append, List.length_take, List.length_drop, List.length_map, hAl, hv1, hv2]; omega) rfl) ?_
 refine ap ?_
 refine ac ?_
 refine Tr.ret (Fin.then_ret ?_)
 refine Fin.closeH (sz := 4) 0 rfl (rows := ((l.take i ++ [x] ++ l.drop i).map rowId)) (sp := sp.drop 4) (m := l.length + 1) (ins_placeZ (a := i * 4) (z := 4) (S := sp.map is) (N := l.length * 4) hAl (by omega) rfl (by rw [List.length_map]; omega) (by omega) (by omega) (by omega) (by omega) (by omega) (by omega) (by rw [List.map_drop, ← flat_insN (f := rowId) (sz := 4) (l := l) (i := i) (x := x) (fun _ => rfl)]; rfl)) (by simp only [List.length_map, List.length_append, List.length_take, List.length_drop, List.length_cons, List.length_nil]; omega) (by omega) hm (by rw [List.length_drop]; omega) ?_
 refine Fin.retM1 rfl rfl ?_ (by rintro _ _ _ rfl; rfl)
 · rintro _ _ _ rfl; exact ⟨_, _, by rfl⟩
 exact absurd h4 (by decide)
theorem e_InsBn : Entry Tryz.prog 261 := ⟨_, Tryz.func261, rfl, rfl⟩
theorem w_InsEn {x : Idn}  : FunM Tryz.prog 261 [full 4 [], int ((0 : Nat) : Int), slice 4 [rowId x]] (lens 1) (noRes) (fun v => mutRes 27 4 [rowId x] v) := by
 refine FunM.of Tryz.func261 rfl rfl (by exact Nat.le_of_ble_eq_true rfl) fun M0 w0 S rs M1 w1 => ?_
 have hv1 : ([rowId x] : List (List Pr)).length = 1 := rfl
 refine ac ?_
 refine ac ?_
 refine co rfl (ok_sliceFrom rfl Tryz.underlying30 sz27 ⟨_, rfl, full_le _ _⟩ (vl rfl) (by omega) (by omega)) ?_
 refine ac ?_
 refine ac ?_
 refine co rfl (ok_len rfl Tryz.underlying30 (vl rfl)) ?_
 refine ac ?_
 refine ac ?_
 refine Tr.cn rfl ?_ ?_ <;> intro h1 q1
 simp at h1
 refine ac ?_
 refine ac ?_
 refine co rfl (ok_len rfl Tryz.underlying30 ⟨_, rfl, full_le _ _⟩) ?_
 refine ac ?_
 refine ac ?_
 refine wk6 0 1 2 7 8 22 rfl ?_
 refine Tr.cn rfl ?_ ?_ <;> intro h2 q2
 refine ap ?_
 refine TO.pad ?_
 refine TO.efs 0 rfl rfl (by decide) (ef_appvoid rfl rfl (by decide) rfl Tryz.underlying30 sz27 by27 z27 rfl (by decide) (by decide) (vl rfl) (vl rfl) (by simp) (by simp; unfold maxLen; omega) (by simp)) (fun v1 => ?_)
 refine ap ?_
 refine Tr.ret (Fin.then_ret (Fin.drop 1 ?_))
 refine Fin.retM1 rfl rfl ?_ (by intro _ _ _ h; rw [h.1])
 · exact Pr.le_trans (andIs_le _ _) (Pr.le_refl _)
 exact absurd h2 (by decide)
theorem w_InsWn {l : List (Idn)} {x : Idn} {v : Value} {i : Nat} (hi : i ≤ l.length) (hl : l.length ≤ 1000000) : FunM Tryz.prog 261 [is v, int ((i : Nat) : Int), slice 4 [rowId x]] (slice 4 ((l.take i ++ [x] ++ l.drop i).map rowId)) (oweRes 27 4 (l.map rowId) v) (fun _ => noRes) := by
  refine FunM.frz (e := 27) (m := l.length + 1) (map_rows fun _ => rfl) (FunM.owe_cases e_InsBn (fun h0 => ?_) (fun b cap sp hc hm hq => ?_))
  · have hl0 : l = [] := by simpa using h0
    subst hl0
    have hi0 : i = 0 := by simpa using hi
    subst hi0
    exact FunM.own_of_mut w_InsEn
  · rw [List.length_map] at hc hq ⊢
    exact w_InsBn hi hl hc hm (by omega)
theorem w_DelWn {l : List (Idn)} {v : Value} {i : Nat} (hi : i < l.length) (hl : l.length ≤ 1000000) : FunM Tryz.prog 214 [is v, int ((i : Nat) : Int), int (((i : Nat) : Int) + 1)] (slice 4 ((l.eraseIdx i).map rowId)) (oweRes 27 4 (l.map rowId) v) (fun _ => noRes) := by
  refine FunM.frz (e := 27) (m := l.length - 1) (map_rows fun _ => rfl) (FunM.owe_cases e_DelBn (fun h0 => ?_) (fun b cap sp hc hm hq => ?_))
  · have hl0 : l = [] := by simpa using h0
    subst hl0; simp at hi
  · rw [List.length_map] at hc hq ⊢
    exact w_DelBn hi hl hc hm (by omega)


theorem w_IdxWi {l : List Int} {x : Int} {v : Value} : FunM Tryz.prog 207 [is v, int x] (int (idx (fun y => x == y) l)) (oweRes 3 1 (l.map fun n => [int n]) v) (fun _ => oweRes 3 1 (l.map fun n => [int n]) v) := FunM.owe_pure (map_rows fun _ => rfl) w_IndexI
theorem w_HasWi {l : List Int} {x : Int} {v : Value} : FunM Tryz.prog 190 [is v, int x] (bool (l.any fun y => x == y)) (oweRes 3 1 (l.map fun n => [int n]) v) (fun _ => oweRes 3 1 (l.map fun n => [int n]) v) := FunM.owe_pure (map_rows fun _ => rfl) w_ContainsI

end Go.Proofs.YtppeeogffbpcbaaGreat
namespace Go.Proofs.YtppeeogffbpcbaaGreat
open Go Go.RowKit Cp

/-- Its lists are of some length. -/
structure Idn.small (x : Idn) : Prop where
  chain : x.chain.length ≤ 925904528640
  names : ∀ c ∈ x.chain, c.names.length ≤ 8796093022208

theorem w_copyId {x : Idn} (hx : x.small) : Fun Tryz.prog 166 [agg (rowId x)] (agg (rowId x)) := by
 refine fo Tryz.func166 rfl ⟨rfl, rfl⟩ fun M0 w0 => ?_
 have hch := hx.chain
 refine Tr.seq (Tr.regT ?_)
 refine TO.boxm rfl rfl (by decide) rfl (VL.le (vl rfl) (agg_cellsP _)) (fun b1 => ?_)
 refine TO.alloc rfl rfl (by decide) rfl z27 zo27 (fun b2 => ?_)
 refine ao ?_
 refine ao ?_
 refine TO.pad ?_
 refine TO.efs 0 rfl rfl (by decide) (ef_call rfl rfl (by decide) rfl (w_CloneWc (l := x.chain) (by omega)) ⟨ke rfl, trivial⟩) (fun v1 => ?_)
 refine tp rfl (okp_fieldAddr rfl fo27_2 (vl rfl)) (TO.ef0 2 rfl rfl (ef_store rfl rfl (vl rfl) (VL.le (vl rfl) (one_cellsP _)) sz25 rfl (by exact Nat.le_of_ble_eq_true rfl) rfl) ?_)
 refine ao ?_
 refine ac ?_
 refine co rfl (ok_rd 0 rfl (rd_lenW rfl Tryz.underlying25 ⟨_, rfl, andIs_is _ _⟩)) ?_
 refine ac ?_
 refine Tr.block (Tr.re 11 rfl (int_eq (by rw [List.length_map])) (Tr.loopw [(1, _), (2, _), (10, _), (11, _)] (kk4 rfl) (fun k : Nat => [(12, int ((k : Nat) : Int))]) (fun k : Nat => k ≤ (x.chain).length) (fun k : Nat => (x.chain).length - k) 0 (Nat.zero_le _) ⟨ke rfl, trivial⟩ ?_))
 rintro k hle_k
 refine ac ?_
 refine Tr.seq ?_
 refine Tr.cn rfl ?_ ?_ <;> intro h1 q1
 have hk_k : k < (x.chain).length := lt_of_dec h1
 obtain ⟨c, hx_k⟩ := at_ hk_k
 have hcn := hx.names c (List.mem_of_getElem? hx_k)
 refine ac ?_
 refine ao ?_
 refine tp rfl (ok_rd 0 rfl (rd_elp rfl Tryz.underlying25 sz131 ⟨_, rfl, andIs_is _ _⟩ (vl rfl) (by omega) (by rw [List.length_map]; omega))) ?_
 refine tp rfl (ok_rd 0 rfl (rd_elload rfl agg131 sz131 (vl rfl) (map_rows fun _ => rfl) (by rw [Int.toNat_natCast, List.getElem?_map, hx_k]; rfl))) ?_
 refine TO.alloc rfl rfl (by decide) rfl z131 zo131 (fun b3 => ?_)
 refine tm rfl ?_
 refine sf 0 4 ⟨rfl, rfl, rfl⟩ rfl rfl rfl rfl ?_
 refine ao ?_
 refine Tr.rx ?_
 refine ax ?_
 refine xo rfl (fun _ => kc1 (w_CloneFs hcn) rfl rfl) ?_
 refine xrd 0 rfl rfl (rd_elp rfl Tryz.underlying25 sz131 ⟨_, rfl, andIs_is _ _⟩ (vl rfl) (by omega) (by rw [List.length_map]; omega)) ?_
 refine xo rfl (fun _ => ok_elfield rfl fo131_10 (vl rfl)) ?_
 refine Cx.ef0 0 rfl rfl (ef_elstore rfl rfl (vl rfl) (VL.le (vl rfl) (one_cellsP _)) sz74 rfl (map_rows fun _ => rfl) (by rw [Int.toNat_natCast, List.getElem?_map, hx_k]; rfl) (by decide) (row_setI (f := rowCr) hx_k rfl)) ?_
 refine Cx.nil ⟨by kernel_rfl, ?_⟩
 refine FinX.done al3 ?_
 refine ac ?_
 refine wk5 1 2 10 11 12 rfl ?_
 refine ac ?_
 exact Fin.fam_same (k + 1) ⟨hk_k, by omega⟩ ⟨⟨_, rfl, int_succ k⟩, ke rfl, ke rfl, ke rfl, ke rfl, trivial⟩
 have he_k : k = (x.chain).length := by have := ge_of_dec h1; omega
 subst he_k
 refine ac ?_
 refine Tr.seq (Tr.frzWC 2 0 3 rfl rfl (by decide) rfl (andIs_is _ _) (map_rows fun _ => rfl) ?_)
 refine ao ?_
 refine TO.store_all 1 rfl rfl rfl (vl rfl) (VL.le (vl rfl) (agg_cellsP _)) rfl sz27 rfl rfl ?_
 refine ao ?_
 refine Tr.drop 0 (Tr.drop 1 (Tr.ret (Fin.retX1 rfl (RVal.cell 0 rfl rfl agg27 sz27 rfl (Pr.le_refl _)) ?_)))
 · exact Pr.le_refl _
end Go.Proofs.YtppeeogffbpcbaaGreat
namespace Go.Proofs.YtppeeogffbpcbaaGreat
open Go Go.RowKit Cp

/-- A change. -/
structure Chg where
  endpoint : Int
  kind : Int
  number : Int
  at_ : Int
  idn : Idn
abbrev rowChg (c : Chg) : List Pr := [int c.endpoint, int c.kind, int c.number, int c.at_, int c.idn.alg, int c.idn.bits, int c.idn.keyId, certs c.idn.chain]
abbrev rowWt (c b : Chg) : List Pr := [int c.endpoint, int c.kind, int c.number, int c.at_, int c.idn.alg, int c.idn.bits, int c.idn.keyId, certs c.idn.chain, int b.endpoint, int b.kind, int b.number, int b.at_, int b.idn.alg, int b.idn.bits, int b.idn.keyId, certs b.idn.chain]
abbrev rowO (e : Ept) (p3 p5 p6 p7 : Pr) : List Pr := [str e.name, int e.least, int e.most, p3, bool e.own, p5, p6, p7, bool e.fall]
abbrev resW (wb ob : Nat) (c b : Chg) : Res := cellsRes true wb 159 (ptr ob 0 :: rowWt c b)
abbrev resO (ob : Nat) (e : Ept) (p3 p5 p6 p7 : Pr) : Res := cellsRes true ob 32 (rowO e p3 p5 p6 p7)
def keyIdx (key : Int) (l : List Idn) : Int := idx (fun x => x.keyId == key) l
theorem idx_hit {β : Type} {p : β → Bool} {l : List β} (h : 0 ≤ idx p l) : ∃ x, l[(idx p l).toNat]? = some x ∧ p x = true ∧ (idx p l).toNat < l.length := by
  unfold idx at *
  cases hf : l.findIdx? p with
  | none => rw [hf] at h; simp at h
  | some i =>
    rw [List.findIdx?_eq_some_iff_getElem] at hf
    obtain ⟨h1, h2, _⟩ := hf
    refine ⟨l[i], ?_, h2, by simpa using h1⟩
    simp

theorem w_idn1 {key : Int} {x : Idn}  : Fun Tryz.prog 260 [agg (rowId x), ref [int key]] (bool (x.keyId == key)) := by
 refine fo Tryz.func260 rfl ⟨rfl, rfl⟩ fun M0 w0 => ?_
 refine ac ?_
 refine ac ?_
 refine ac ?_
 · exact Pr.le_refl _
theorem e_idn1 : Entry Tryz.prog 260 := ⟨_, Tryz.func260, rfl, rfl⟩
theorem w_idn0 {e : Ept} {key : Int} {wps : List Pr}  : Fun Tryz.prog 210 [ref (ref (rowEp e) :: wps), int key] (int (keyIdx key e.ids)) := by
 refine fo Tryz.func210 rfl ⟨rfl, rfl⟩ fun M0 w0 => ?_
 refine ac ?_
 refine ac ?_
 refine co rfl (ok_call rfl (w_IdxN (l := e.ids) (p := fun x => x.keyId == key)) ⟨ke rfl, ⟨_, rfl, fn_le_clo (dom := fun x : Idn => [agg (rowId x)]) (res := fun x => bool (x.keyId == key)) e_idn1 (fun x => w_idn1 (key := key) (x := x))⟩, trivial⟩) ?_
 refine ac ?_
 refine ac ?_
 · exact Pr.le_refl _
theorem w_drop1 {c b : Chg} {x : Idn} {q : Pr}  : Fun Tryz.prog 213 [agg (rowId x), ref [ref (q :: rowWt c b)]] (bool (x.keyId == c.number)) := by
 refine fo Tryz.func213 rfl ⟨rfl, rfl⟩ fun M0 w0 => ?_
 refine ac ?_
 refine ac ?_
 refine ac ?_
 · exact Pr.le_refl _
theorem e_drop1 : Entry Tryz.prog 213 := ⟨_, Tryz.func213, rfl, rfl⟩

theorem w_idn {e : Ept} {c b : Chg} {wb ob : Nat} {p3 p6 p7 : Pr} {v : Value} {key : Int} (h3 : p3 = ints e.suites) (h6 : p6 = ints e.anchors) (h7 : p7 = ints e.hashes) : FunD Tryz.prog 210 [ptr wb 0, int key] [resW wb ob c b, resO ob e p3 (is v) p6 p7, oweRes 27 4 (e.ids.map rowId) v] (int (keyIdx key e.ids)) [resW wb ob c b, resO ob e p3 (is v) p6 p7, oweRes 27 4 (e.ids.map rowId) v] := by
  subst h3; subst h6; subst h7
  exact FunD.look (k := 5) (rows := rowEp e) (sz := 4) rfl (map_rows fun _ => rfl) rfl w_idn0
theorem w_twice {l : List Idn} {c b : Chg} {wb ob : Nat} {v : Value} {k : Nat} : FunD Tryz.prog 212 [Cp.part 4 v k, fn (.func 213) [ref [ptr wb 0]]] [resW wb ob c b, oweRes 27 4 (l.map rowId) v] (bool ((l.drop k).any fun x => x.keyId == c.number)) [resW wb ob c b, oweRes 27 4 (l.map rowId) v] := by
 refine FunD.lookPart (map_rows fun _ => rfl) ?_
 refine Fun.le (w_HasN (l := l.drop k) (p := fun x => x.keyId == c.number)) ?_ (Pr.le_refl _)
 intro M w vs hv
 match vs, hv with
 | [u0, u1], hv1 =>
  exact ⟨by have := hv1.1; rw [← List.map_drop] at this; exact this, fn_le_clo (dom := fun x : Idn => [agg (rowId x)]) (res := fun x => bool (x.keyId == c.number)) e_drop1 (fun x => w_drop1 (c := c) (b := b) (x := x)) _ _ _ hv1.2.1, trivial⟩

theorem w_dropSuiteN {e : Ept} {c b : Chg} {wb ob : Nat} {v : Value} {p5 p6 p7 : Pr}  (h : (idx (fun y => c.number == y) e.suites) < 0) : FunD Tryz.prog 168 [ptr wb 0] [resW wb ob c b, resO ob e (is v) p5 p6 p7, oweRes 3 1 (e.suites.map fun n => [int n]) v] (int 41) [] := by
 refine FunD.of Tryz.func168 rfl rfl (by exact Nat.le_of_ble_eq_true rfl) fun M0 w0 S rs M1 w1 => ?_
 refine ac ?_
 refine Tr.seq (Tr.rx ?_)
 refine ay ?_
 refine Cx.ef 2 rfl rfl (by decide) (ef_callc rfl rfl (by decide) rfl (w_IdxWi) ⟨ke rfl, ke rfl, trivial⟩) (xm rfl ?_)
 refine Cx.nil ⟨by kernel_rfl, ?_⟩
 refine FinX.done al4 (Fin.go (wk2 0 3 rfl ?_))
 refine ac ?_
 refine Tr.cn rfl ?_ ?_ <;> intro h1 q1
 refine ac ?_
 refine Tr.ret (Fin.then_ret (Fin.drop 0 (Fin.drop 0 (Fin.drop 0 (Fin.retD rfl (RVal.tmp rfl (Pr.le_refl _)) ?_ (List.Perm.refl _))))))
 · exact Pr.le_refl _
 exfalso; have := q1; omega
theorem w_dropSuiteY {e : Ept} {c b : Chg} {wb ob : Nat} {v : Value} {p5 p6 p7 : Pr}  (h : 0 ≤ (idx (fun y => c.number == y) e.suites)) (hs : e.suites.length ≤ 1000000) : FunD Tryz.prog 168 [ptr wb 0] [resW wb ob c b, resO ob e (is v) p5 p6 p7, oweRes 3 1 (e.suites.map fun n => [int n]) v] (int 0) [resW wb ob c ⟨b.endpoint, 1, c.number, (idx (fun y => c.number == y) e.suites), b.idn⟩, resO ob e (ints (e.suites.eraseIdx (idx (fun y => c.number == y) e.suites).toNat)) p5 p6 p7] := by
 refine FunD.of Tryz.func168 rfl rfl (by exact Nat.le_of_ble_eq_true rfl) fun M0 w0 S rs M1 w1 => ?_
 obtain ⟨x_, hx_, _, hlt_⟩ := idx_hit h
 refine ac ?_
 refine Tr.seq (Tr.rx ?_)
 refine ay ?_
 refine Cx.ef 2 rfl rfl (by decide) (ef_callc rfl rfl (by decide) rfl (w_IdxWi) ⟨ke rfl, ke rfl, trivial⟩) (xm rfl ?_)
 refine Cx.nil ⟨by kernel_rfl, ?_⟩
 refine FinX.done al4 (Fin.go (wk2 0 3 rfl ?_))
 refine ac ?_
 refine Tr.cn rfl ?_ ?_ <;> intro h1 q1
 exfalso; have := q1; omega
 refine ac ?_
 refine Tr.seq (Tr.rx ?_)
 refine ay ?_
 refine Cx.ef 2 rfl rfl (by decide) (ef_callc rfl rfl (by decide) rfl (w_DelWi (l := e.suites) (i := (idx (fun y => c.number == y) e.suites).toNat) (by omega) hs) ⟨ke rfl, ⟨_, rfl, int_eq (by omega)⟩, ⟨_, rfl, int_eq (by omega)⟩, trivial⟩) ?_
 refine ay ?_
 refine Cx.nil ⟨by kernel_rfl, ?_⟩
 refine FinX.done al4 (Fin.go (wk2 0 3 rfl ?_))
 refine ap ?_
 refine Tr.weak [] trivial ?_
 refine ac ?_
 refine Tr.ret (Fin.drop 2 (Fin.retD rfl (RVal.tmp rfl (Pr.le_refl _)) ?_ (List.Perm.refl _)))
 · exact Pr.le_refl _
theorem w_insNBad {e : Ept} {x : Idn} {at_ : Int} {ob : Nat} {v : Value} {p3 p6 p7 : Pr}  (hr : ¬ (0 ≤ at_ ∧ at_ ≤ (e.ids.length : Nat))) : FunD Tryz.prog 211 [ptr ob 5, int at_, agg (rowId x)] [resO ob e p3 (is v) p6 p7, oweRes 27 4 (e.ids.map rowId) v] (int 2) [] := by
 refine FunD.of Tryz.func211 rfl rfl (by exact Nat.le_of_ble_eq_true rfl) fun M0 w0 S rs M1 w1 => (Tr.seq ?_)
 have hml : (e.ids.map rowId).length = e.ids.length := List.length_map _
 refine ac ?_
 refine ac ?_
 refine Ch.cs 9 rfl ?_ ?_ <;> intro h1 q1
 have hq9 := q1
 refine ac ?_
 refine ac ?_
 refine Tr.ret (Fin.then_ret (Fin.drop 0 (Fin.drop 0 (Fin.retD rfl (RVal.tmp rfl (Pr.le_refl _)) ?_ (List.Perm.refl _)))))
 · exact Pr.le_refl _
 refine ac ?_
 refine cy h1 rfl (ok_rd 1 rfl (rd_lenW rfl Tryz.underlying30 (vl rfl))) ?_
 refine ac ?_
 refine Tr.cn rfl ?_ ?_ <;> intro h2 q2
 refine ac ?_
 refine Tr.ret (Fin.then_ret (Fin.drop 0 (Fin.drop 0 (Fin.retD rfl (RVal.tmp rfl (Pr.le_refl _)) ?_ (List.Perm.refl _)))))
 · exact Pr.le_refl _
 exfalso; simp_all
theorem w_insNOk {e : Ept} {x : Idn} {at_ : Int} {ob : Nat} {v : Value} {p3 p6 p7 : Pr}  (hr : 0 ≤ at_ ∧ at_ ≤ (e.ids.length : Nat)) (hl : e.ids.length ≤ 1000000) : FunD Tryz.prog 211 [ptr ob 5, int at_, agg (rowId x)] [resO ob e p3 (is v) p6 p7, oweRes 27 4 (e.ids.map rowId) v] (int 0) [resO ob e p3 (idns (e.ids.take at_.toNat ++ [x] ++ e.ids.drop at_.toNat)) p6 p7] := by
 refine FunD.of Tryz.func211 rfl rfl (by exact Nat.le_of_ble_eq_true rfl) fun M0 w0 S rs M1 w1 => (Tr.seq ?_)
 have hml : (e.ids.map rowId).length = e.ids.length := List.length_map _
 refine ac ?_
 refine ac ?_
 refine Ch.cs 9 rfl ?_ ?_ <;> intro h1 q1
 exfalso; have := q1; omega
 refine ac ?_
 refine cy h1 rfl (ok_rd 1 rfl (rd_lenW rfl Tryz.underlying30 (vl rfl))) ?_
 refine ac ?_
 refine Tr.cn rfl ?_ ?_ <;> intro h2 q2
 exfalso; simp_all; omega
 refine ac ?_
 refine Tr.seq (Tr.rx ?_)
 refine ay ?_
 refine xo rfl (fun _ => ok_buildSlice (xs := [.tmp 22]) (rows := [_]) rfl rfl Tryz.underlying30 sz27 z27 rfl (by decide) ⟨⟨(by exact rfl), (VL.le (vl rfl) (agg_cellsP _))⟩, trivial⟩ (by decide)) ?_
 refine Cx.ef 1 rfl rfl (by decide) (ef_callc rfl rfl (by decide) rfl (w_InsWn (l := e.ids) (x := x) (i := at_.toNat) (by omega) hl) ⟨ke rfl, ⟨_, rfl, int_eq (by omega)⟩, ⟨_, rfl, full_le _ _⟩, trivial⟩) ?_
 refine ay ?_
 refine Cx.nil ⟨by kernel_rfl, ?_⟩
 refine FinX.done al3 (Fin.go (Tr.weak [] trivial ?_))
 refine ac ?_
 refine Tr.ret (Fin.drop 1 (Fin.retD rfl (RVal.tmp rfl (Pr.le_refl _)) ?_ (List.Perm.refl _)))
 · exact Pr.le_refl _
theorem FunD.perm {P : Program} {f : FuncId} {args : List Pr} {pre post post' : List Res} {res : Pr} (h : FunD P f args pre res post) (hp : post.Perm post') : FunD P f args pre res post' :=
  ⟨h.1, fun M0 w0 S rs M w vs hI hv => (h.2 M0 w0 S rs M w vs hI hv).mono fun _e _w' ⟨v, M', x, h1, h2, h3, h4, h5⟩ => ⟨v, M', x, h1, h2, h3, h4, HpH.perm (hp.append_right rs) h5⟩⟩

theorem w_addIdnR {e : Ept} {c b : Chg} {wb ob : Nat} {v : Value}  (hx : c.idn.small) (hr : ¬ (0 ≤ c.at_ ∧ c.at_ ≤ (e.ids.length : Nat))) : FunD Tryz.prog 171 [ptr wb 0] [resW wb ob c b, resO ob e (ints e.suites) (is v) (ints e.anchors) (ints e.hashes), oweRes 27 4 (e.ids.map rowId) v] (int 2) [] := by
 refine FunD.of Tryz.func171 rfl rfl (by exact Nat.le_of_ble_eq_true rfl) fun M0 w0 S rs M1 w1 => ?_
 refine ac ?_
 refine ap ?_
 refine TO.callD _ rfl rfl (by decide) rfl (w_idn (e := e) (c := c) (b := b) (key := c.idn.keyId) rfl rfl rfl) ⟨ke rfl, ke rfl, trivial⟩ ((perm_at (j := 0) rfl).trans (List.Perm.cons _ ((perm_at (j := 0) rfl).trans (List.Perm.cons _ ((perm_at (j := 0) rfl).trans (List.Perm.cons _ (List.Perm.refl _))))))) ?_
 refine ap ?_
 refine Tr.seq (Tr.seq (Tr.regOne mixed 17 (by kernel_rfl) (ChOne.op rfl rfl (by decide) (ok_move rfl (vl rfl)) (ChOne.op rfl rfl (by decide) (okp_nilCheck rfl (vl rfl)) (ChOne.op rfl rfl (by decide) (okp_fieldAddr rfl fo159_0 (vl rfl)) (ChOne.op rfl rfl (by decide) (ok_rd 0 rfl (rd_load1 rfl one157 (vl rfl) rfl)) (ChOne.op rfl rfl (by decide) (okp_nilCheck rfl (vl rfl)) (ChOne.op rfl rfl (by decide) (okp_fieldAddr rfl fo32_5 (vl rfl)) (ChOne.op rfl rfl (by decide) (ok_move rfl (vl rfl)) (ChOne.op rfl rfl (by decide) (okp_nilCheck rfl (vl rfl)) (ChOne.op rfl rfl (by decide) (okp_fieldAddr rfl fo159_1 (vl rfl)) (ChOne.op rfl rfl (by decide) (okp_fieldAddr rfl fo29_3 (vl rfl)) (ChOne.op rfl rfl (by decide) (ok_rd 0 rfl (rd_load1 rfl one3 (vl rfl) rfl)) ?_)))))))))))))
 refine ChOne.op rfl rfl (by decide) (ok_move rfl (vl rfl)) (ChOne.op rfl rfl (by decide) (okp_nilCheck rfl (vl rfl)) (ChOne.op rfl rfl (by decide) (okp_fieldAddr rfl fo159_1 (vl rfl)) (ChOne.op rfl rfl (by decide) (okp_fieldAddr rfl fo29_4 (vl rfl)) (ChOne.op rfl rfl (by decide) (ok_rd 0 rfl (rd_loadA rfl agg27 sz27 (vl rfl) rfl rfl)) ?_))))
 refine ChOne.op rfl rfl (by decide) (kc1 (w_copyId (x := c.idn) hx) rfl rfl) ?_
 refine ChOne.turn _ rfl (by decide) (turn_call _ rfl rfl (w_insNBad (e := e) (x := c.idn) (at_ := c.at_) hr) ⟨ke rfl, ke rfl, ke rfl, trivial⟩ ((perm_at (j := 1) rfl).trans (List.Perm.cons _ ((perm_at (j := 1) rfl).trans (List.Perm.cons _ (List.Perm.refl _)))))) ?_
 refine ac ?_
 refine wk3 0 3 4 rfl ?_
 refine ac ?_
 refine Tr.cn rfl ?_ ?_ <;> intro h1 q1
 refine ac ?_
 refine Tr.ret (Fin.then_ret (Fin.drop 0 (Fin.retD rfl (RVal.tmp rfl (Pr.le_refl _)) ?_ (List.Perm.refl _))))
 · exact Pr.le_refl _
 exact absurd h1 (by decide)
theorem w_addIdnT {e : Ept} {c b : Chg} {wb ob : Nat} {v : Value}  (hx : c.idn.small) (hr : 0 ≤ c.at_ ∧ c.at_ ≤ (e.ids.length : Nat)) (hl : e.ids.length ≤ 1000000) (h : 0 ≤ keyIdx c.idn.keyId e.ids) : FunD Tryz.prog 171 [ptr wb 0] [resW wb ob c b, resO ob e (ints e.suites) (is v) (ints e.anchors) (ints e.hashes), oweRes 27 4 (e.ids.map rowId) v] (int 41) [] := by
 refine FunD.of Tryz.func171 rfl rfl (by exact Nat.le_of_ble_eq_true rfl) fun M0 w0 S rs M1 w1 => ?_
 refine ac ?_
 refine ap ?_
 refine TO.callD _ rfl rfl (by decide) rfl (w_idn (e := e) (c := c) (b := b) (key := c.idn.keyId) rfl rfl rfl) ⟨ke rfl, ke rfl, trivial⟩ ((perm_at (j := 0) rfl).trans (List.Perm.cons _ ((perm_at (j := 0) rfl).trans (List.Perm.cons _ ((perm_at (j := 0) rfl).trans (List.Perm.cons _ (List.Perm.refl _))))))) ?_
 refine ap ?_
 refine Tr.seq (Tr.seq (Tr.regOne mixed 17 (by kernel_rfl) (ChOne.op rfl rfl (by decide) (ok_move rfl (vl rfl)) (ChOne.op rfl rfl (by decide) (okp_nilCheck rfl (vl rfl)) (ChOne.op rfl rfl (by decide) (okp_fieldAddr rfl fo159_0 (vl rfl)) (ChOne.op rfl rfl (by decide) (ok_rd 0 rfl (rd_load1 rfl one157 (vl rfl) rfl)) (ChOne.op rfl rfl (by decide) (okp_nilCheck rfl (vl rfl)) (ChOne.op rfl rfl (by decide) (okp_fieldAddr rfl fo32_5 (vl rfl)) (ChOne.op rfl rfl (by decide) (ok_move rfl (vl rfl)) (ChOne.op rfl rfl (by decide) (okp_nilCheck rfl (vl rfl)) (ChOne.op rfl rfl (by decide) (okp_fieldAddr rfl fo159_1 (vl rfl)) (ChOne.op rfl rfl (by decide) (okp_fieldAddr rfl fo29_3 (vl rfl)) (ChOne.op rfl rfl (by decide) (ok_rd 0 rfl (rd_load1 rfl one3 (vl rfl) rfl)) ?_)))))))))))))
 refine ChOne.op rfl rfl (by decide) (ok_move rfl (vl rfl)) (ChOne.op rfl rfl (by decide) (okp_nilCheck rfl (vl rfl)) (ChOne.op rfl rfl (by decide) (okp_fieldAddr rfl fo159_1 (vl rfl)) (ChOne.op rfl rfl (by decide) (okp_fieldAddr rfl fo29_4 (vl rfl)) (ChOne.op rfl rfl (by decide) (ok_rd 0 rfl (rd_loadA rfl agg27 sz27 (vl rfl) rfl rfl)) ?_))))
 refine ChOne.op rfl rfl (by decide) (kc1 (w_copyId (x := c.idn) hx) rfl rfl) ?_
 refine ChOne.turn _ rfl (by decide) (turn_call _ rfl rfl (w_insNOk (e := e) (x := c.idn) (at_ := c.at_) hr hl) ⟨ke rfl, ke rfl, ke rfl, trivial⟩ ((perm_at (j := 1) rfl).trans (List.Perm.cons _ ((perm_at (j := 1) rfl).trans (List.Perm.cons _ (List.Perm.refl _)))))) ?_
 refine ac ?_
 refine wk3 0 3 4 rfl ?_
 refine ac ?_
 refine Tr.cn rfl ?_ ?_ <;> intro h1 q1
 exact absurd h1 (by decide)
 refine ac ?_
 refine ac ?_
 refine Tr.cn rfl ?_ ?_ <;> intro h2 q2
 refine ac ?_
 refine Tr.ret (Fin.then_ret (Fin.drop 0 (Fin.drop 0 (Fin.retD rfl (RVal.tmp rfl (Pr.le_refl _)) ?_ (List.Perm.refl _)))))
 · exact Pr.le_refl _
 exfalso; have := q2; omega
theorem w_addIdnY {e : Ept} {c b : Chg} {wb ob : Nat} {v : Value}  (hx : c.idn.small) (hr : 0 ≤ c.at_ ∧ c.at_ ≤ (e.ids.length : Nat)) (hl : e.ids.length ≤ 1000000) (h : keyIdx c.idn.keyId e.ids < 0) : FunD Tryz.prog 171 [ptr wb 0] [resW wb ob c b, resO ob e (ints e.suites) (is v) (ints e.anchors) (ints e.hashes), oweRes 27 4 (e.ids.map rowId) v] (int 0) [resO ob e (ints e.suites) (idns (e.ids.take c.at_.toNat ++ [c.idn] ++ e.ids.drop c.at_.toNat)) (ints e.anchors) (ints e.hashes), resW wb ob c ⟨b.endpoint, 6, c.idn.keyId, b.at_, b.idn⟩] := by
 refine FunD.of Tryz.func171 rfl rfl (by exact Nat.le_of_ble_eq_true rfl) fun M0 w0 S rs M1 w1 => ?_
 refine ac ?_
 refine ap ?_
 refine TO.callD _ rfl rfl (by decide) rfl (w_idn (e := e) (c := c) (b := b) (key := c.idn.keyId) rfl rfl rfl) ⟨ke rfl, ke rfl, trivial⟩ ((perm_at (j := 0) rfl).trans (List.Perm.cons _ ((perm_at (j := 0) rfl).trans (List.Perm.cons _ ((perm_at (j := 0) rfl).trans (List.Perm.cons _ (List.Perm.refl _))))))) ?_
 refine ap ?_
 refine Tr.seq (Tr.seq (Tr.regOne mixed 17 (by kernel_rfl) (ChOne.op rfl rfl (by decide) (ok_move rfl (vl rfl)) (ChOne.op rfl rfl (by decide) (okp_nilCheck rfl (vl rfl)) (ChOne.op rfl rfl (by decide) (okp_fieldAddr rfl fo159_0 (vl rfl)) (ChOne.op rfl rfl (by decide) (ok_rd 0 rfl (rd_load1 rfl one157 (vl rfl) rfl)) (ChOne.op rfl rfl (by decide) (okp_nilCheck rfl (vl rfl)) (ChOne.op rfl rfl (by decide) (okp_fieldAddr rfl fo32_5 (vl rfl)) (ChOne.op rfl rfl (by decide) (ok_move rfl (vl rfl)) (ChOne.op rfl rfl (by decide) (okp_nilCheck rfl (vl rfl)) (ChOne.op rfl rfl (by decide) (okp_fieldAddr rfl fo159_1 (vl rfl)) (ChOne.op rfl rfl (by decide) (okp_fieldAddr rfl fo29_3 (vl rfl)) (ChOne.op rfl rfl (by decide) (ok_rd 0 rfl (rd_load1 rfl one3 (vl rfl) rfl)) ?_)))))))))))))
 refine ChOne.op rfl rfl (by decide) (ok_move rfl (vl rfl)) (ChOne.op rfl rfl (by decide) (okp_nilCheck rfl (vl rfl)) (ChOne.op rfl rfl (by decide) (okp_fieldAddr rfl fo159_1 (vl rfl)) (ChOne.op rfl rfl (by decide) (okp_fieldAddr rfl fo29_4 (vl rfl)) (ChOne.op rfl rfl (by decide) (ok_rd 0 rfl (rd_loadA rfl agg27 sz27 (vl rfl) rfl rfl)) ?_))))
 refine ChOne.op rfl rfl (by decide) (kc1 (w_copyId (x := c.idn) hx) rfl rfl) ?_
 refine ChOne.turn _ rfl (by decide) (turn_call _ rfl rfl (w_insNOk (e := e) (x := c.idn) (at_ := c.at_) hr hl) ⟨ke rfl, ke rfl, ke rfl, trivial⟩ ((perm_at (j := 1) rfl).trans (List.Perm.cons _ ((perm_at (j := 1) rfl).trans (List.Perm.cons _ (List.Perm.refl _)))))) ?_
 refine ac ?_
 refine wk3 0 3 4 rfl ?_
 refine ac ?_
 refine Tr.cn rfl ?_ ?_ <;> intro h1 q1
 exact absurd h1 (by decide)
 refine ac ?_
 refine ac ?_
 refine Tr.cn rfl ?_ ?_ <;> intro h2 q2
 exfalso; have := q2; omega
 refine ac ?_
 refine ap ?_
 refine Tr.weak [] trivial ?_
 refine ac ?_
 refine Tr.ret (Fin.retD rfl (RVal.tmp rfl (Pr.le_refl _)) ?_ (List.Perm.refl _))
 · exact Pr.le_refl _
theorem w_dropIdnN {e : Ept} {c b : Chg} {wb ob : Nat} {v : Value} {x : Idn}  (h : keyIdx c.number e.ids < 0) : FunD Tryz.prog 172 [ptr wb 0] [resW wb ob c b, resO ob e (ints e.suites) (is v) (ints e.anchors) (ints e.hashes), oweRes 27 4 (e.ids.map rowId) v] (int 41) [] := by
 refine FunD.of Tryz.func172 rfl rfl (by exact Nat.le_of_ble_eq_true rfl) fun M0 w0 S rs M1 w1 => ?_
 refine ac ?_
 refine Tr.seq (Tr.regOne mixed 6 (by kernel_rfl) (ChOne.op rfl rfl (by decide) (kl1 rfl one156 rfl) (ChOne.op rfl rfl (by decide) (kl1 rfl one156 rfl) (ChOne.op rfl rfl (by decide) (okp_nilCheck rfl (vl rfl)) (ChOne.op rfl rfl (by decide) (okp_fieldAddr rfl fo159_1 (vl rfl)) (ChOne.op rfl rfl (by decide) (okp_fieldAddr rfl fo29_2 (vl rfl)) (ChOne.op rfl rfl (by decide) (ok_rd 0 rfl (rd_load1 rfl one3 (vl rfl) rfl)) ?_)))))))
 refine ChOne.turn _ rfl (by decide) (turn_call _ rfl rfl (w_idn (e := e) (c := c) (b := b) (key := c.number) rfl rfl rfl) ⟨ke rfl, ke rfl, trivial⟩ ((perm_at (j := 0) rfl).trans (List.Perm.cons _ ((perm_at (j := 0) rfl).trans (List.Perm.cons _ ((perm_at (j := 0) rfl).trans (List.Perm.cons _ (List.Perm.refl _)))))))) ?_
 refine ac ?_
 refine ac ?_
 refine Tr.cn rfl ?_ ?_ <;> intro h1 q1
 refine ac ?_
 refine Tr.ret (Fin.then_ret (Fin.drop 0 (Fin.drop 0 (Fin.drop 0 (Fin.retD rfl (RVal.tmp rfl (Pr.le_refl _)) ?_ (List.Perm.refl _))))))
 · exact Pr.le_refl _
 exfalso; have := q1; omega
theorem w_dropIdnT {e : Ept} {c b : Chg} {wb ob : Nat} {v : Value} {x : Idn}  (h : 0 ≤ keyIdx c.number e.ids) (hx : e.ids[(keyIdx c.number e.ids).toNat]? = some x) (ht : ((e.ids.drop (keyIdx c.number e.ids + 1).toNat).any fun x => x.keyId == c.number) = true) (hl : e.ids.length ≤ 1000000) : FunD Tryz.prog 172 [ptr wb 0] [resW wb ob c b, resO ob e (ints e.suites) (is v) (ints e.anchors) (ints e.hashes), oweRes 27 4 (e.ids.map rowId) v] (int 5) [] := by
 refine FunD.of Tryz.func172 rfl rfl (by exact Nat.le_of_ble_eq_true rfl) fun M0 w0 S rs M1 w1 => ?_
 have hlt := lt_of_at hx
 refine ac ?_
 refine Tr.seq (Tr.regOne mixed 6 (by kernel_rfl) (ChOne.op rfl rfl (by decide) (kl1 rfl one156 rfl) (ChOne.op rfl rfl (by decide) (kl1 rfl one156 rfl) (ChOne.op rfl rfl (by decide) (okp_nilCheck rfl (vl rfl)) (ChOne.op rfl rfl (by decide) (okp_fieldAddr rfl fo159_1 (vl rfl)) (ChOne.op rfl rfl (by decide) (okp_fieldAddr rfl fo29_2 (vl rfl)) (ChOne.op rfl rfl (by decide) (ok_rd 0 rfl (rd_load1 rfl one3 (vl rfl) rfl)) ?_)))))))
 refine ChOne.turn _ rfl (by decide) (turn_call _ rfl rfl (w_idn (e := e) (c := c) (b := b) (key := c.number) rfl rfl rfl) ⟨ke rfl, ke rfl, trivial⟩ ((perm_at (j := 0) rfl).trans (List.Perm.cons _ ((perm_at (j := 0) rfl).trans (List.Perm.cons _ ((perm_at (j := 0) rfl).trans (List.Perm.cons _ (List.Perm.refl _)))))))) ?_
 refine ac ?_
 refine ac ?_
 refine Tr.cn rfl ?_ ?_ <;> intro h1 q1
 exfalso; have := q1; omega
 refine ac ?_
 refine ap ?_
 refine tp rfl (ok_rd 2 rfl (rd_part rfl Tryz.underlying30 sz27 (vl rfl) (vl rfl) (by omega) (by rw [List.length_map]; omega))) ?_
 refine tp rfl (ok_makeFunc rfl rfl) ?_
 refine TO.callD _ rfl rfl (by decide) rfl (w_twice (l := e.ids) (c := c) (b := b) (k := (keyIdx c.number e.ids + 1).toNat)) ⟨ke rfl, ke rfl, trivial⟩ ((perm_at (j := 0) rfl).trans (List.Perm.cons _ ((perm_at (j := 1) rfl).trans (List.Perm.cons _ (List.Perm.refl _))))) ?_
 refine ap ?_
 refine wk3 1 3 24 rfl ?_
 refine Tr.cn rfl ?_ ?_ <;> intro h2 q2
 refine ac ?_
 refine Tr.ret (Fin.then_ret (Fin.drop 0 (Fin.drop 0 (Fin.drop 0 (Fin.retD rfl (RVal.tmp rfl (Pr.le_refl _)) ?_ (List.Perm.refl _))))))
 · exact Pr.le_refl _
 rw [ht] at h2; exact absurd h2 (by decide)
theorem w_dropIdnY {e : Ept} {c b : Chg} {wb ob : Nat} {v : Value} {x : Idn}  (h : 0 ≤ keyIdx c.number e.ids) (hx : e.ids[(keyIdx c.number e.ids).toNat]? = some x) (ht : ((e.ids.drop (keyIdx c.number e.ids + 1).toNat).any fun x => x.keyId == c.number) = false) (hl : e.ids.length ≤ 1000000) : FunD Tryz.prog 172 [ptr wb 0] [resW wb ob c b, resO ob e (ints e.suites) (is v) (ints e.anchors) (ints e.hashes), oweRes 27 4 (e.ids.map rowId) v] (int 0) [resW wb ob c ⟨b.endpoint, 5, b.number, keyIdx c.number e.ids, x⟩, resO ob e (ints e.suites) (idns (e.ids.eraseIdx (keyIdx c.number e.ids).toNat)) (ints e.anchors) (ints e.hashes)] := by
 refine FunD.of Tryz.func172 rfl rfl (by exact Nat.le_of_ble_eq_true rfl) fun M0 w0 S rs M1 w1 => ?_
 have hlt := lt_of_at hx
 refine ac ?_
 refine Tr.seq (Tr.regOne mixed 6 (by kernel_rfl) (ChOne.op rfl rfl (by decide) (kl1 rfl one156 rfl) (ChOne.op rfl rfl (by decide) (kl1 rfl one156 rfl) (ChOne.op rfl rfl (by decide) (okp_nilCheck rfl (vl rfl)) (ChOne.op rfl rfl (by decide) (okp_fieldAddr rfl fo159_1 (vl rfl)) (ChOne.op rfl rfl (by decide) (okp_fieldAddr rfl fo29_2 (vl rfl)) (ChOne.op rfl rfl (by decide) (ok_rd 0 rfl (rd_load1 rfl one3 (vl rfl) rfl)) ?_)))))))
 refine ChOne.turn _ rfl (by decide) (turn_call _ rfl rfl (w_idn (e := e) (c := c) (b := b) (key := c.number) rfl rfl rfl) ⟨ke rfl, ke rfl, trivial⟩ ((perm_at (j := 0) rfl).trans (List.Perm.cons _ ((perm_at (j := 0) rfl).trans (List.Perm.cons _ ((perm_at (j := 0) rfl).trans (List.Perm.cons _ (List.Perm.refl _)))))))) ?_
 refine ac ?_
 refine ac ?_
 refine Tr.cn rfl ?_ ?_ <;> intro h1 q1
 exfalso; have := q1; omega
 refine ac ?_
 refine ap ?_
 refine tp rfl (ok_rd 2 rfl (rd_part rfl Tryz.underlying30 sz27 (vl rfl) (vl rfl) (by omega) (by rw [List.length_map]; omega))) ?_
 refine tp rfl (ok_makeFunc rfl rfl) ?_
 refine TO.callD _ rfl rfl (by decide) rfl (w_twice (l := e.ids) (c := c) (b := b) (k := (keyIdx c.number e.ids + 1).toNat)) ⟨ke rfl, ke rfl, trivial⟩ ((perm_at (j := 0) rfl).trans (List.Perm.cons _ ((perm_at (j := 1) rfl).trans (List.Perm.cons _ (List.Perm.refl _))))) ?_
 refine ap ?_
 refine wk3 1 3 24 rfl ?_
 refine Tr.cn rfl ?_ ?_ <;> intro h2 q2
 rw [ht] at h2; exact absurd h2 (by decide)
 refine ac ?_
 refine Tr.seq (Tr.rx ?_)
 refine ay ?_
 refine xrd 1 rfl rfl (rd_elp rfl Tryz.underlying30 sz27 (vl rfl) (vl rfl) (by omega) (by rw [List.length_map]; omega)) ?_
 refine xrd 1 rfl rfl (rd_elload rfl agg27 sz27 (vl rfl) (map_rows fun _ => rfl) (by rw [List.getElem?_map, hx]; rfl)) ?_
 refine ay ?_
 refine Cx.nil ⟨by kernel_rfl, ?_⟩
 refine FinX.done al4 (Fin.go (wk2 1 3 rfl (Tr.seq (Tr.rx ?_))))
 refine ay ?_
 refine Cx.ef 1 rfl rfl (by decide) (ef_callc rfl rfl (by decide) rfl (w_DelWn (l := e.ids) (i := (keyIdx c.number e.ids).toNat) hlt hl) ⟨ke rfl, ⟨_, rfl, int_eq (by omega)⟩, ⟨_, rfl, int_eq (by omega)⟩, trivial⟩) ?_
 refine ay ?_
 refine Cx.nil ⟨by kernel_rfl, ?_⟩
 refine FinX.done al4 (Fin.go (Tr.weak [] trivial ?_))
 refine ac ?_
 refine Tr.ret (Fin.drop 1 (Fin.retD rfl (RVal.tmp rfl (Pr.le_refl _)) ?_ (List.Perm.refl _)))
 · exact Pr.le_refl _
end Go.Proofs.YtppeeogffbpcbaaGreat
namespace Go.Proofs.YtppeeogffbpcbaaGreat
open Go Go.RowKit Cp

def kindsP : List Pr := [is .nilFunc, fn (.func 167) [], fn (.func 168) [], fn (.func 169) [], fn (.func 170) [], fn (.func 171) [], fn (.func 172) [], fn (.func 173) [], fn (.func 174) [], fn (.func 175) [], fn (.func 176) [], fn (.func 177) [], fn (.func 178) []]
def noneB (x : Idn) : Bool := decide (x.alg = 0 ∧ x.bits = 0) && x.keyId == 0 && (((x.chain.length : Nat) : Int) == 0)
def leanB (c : Chg) : Bool := if c.kind = 1 then noneB c.idn else if c.kind = 5 then c.number == 0 else c.at_ == 0 && noneB c.idn
/-- Its lists are of some length. -/
structure Ept.small (e : Ept) : Prop where
  suites : e.suites.length ≤ 1000000
  anchors : e.anchors.length ≤ 1000000
  hashes : e.hashes.length ≤ 1000000
  idl : e.ids.length ≤ 1000000
  ids : ∀ x ∈ e.ids, x.small

theorem w_CopyC {c : Chg} (hx : c.idn.small) : Fun Tryz.prog 118 [agg (rowChg c)] (agg (rowChg c)) := by
 refine fo Tryz.func118 rfl ⟨rfl, rfl⟩ fun M0 w0 => (Tr.seq (Tr.regT ?_))
 refine TO.boxm rfl rfl (by decide) rfl (VL.le (vl rfl) (agg_cellsP _)) (fun b1 => ?_)
 refine TO.alloc rfl rfl (by decide) rfl z29 zo29 (fun b2 => ?_)
 refine ap ?_
 refine ap ?_
 refine tp rfl (kc1 (w_copyId (x := c.idn) hx) rfl rfl) ?_
 refine ap ?_
 refine ap ?_
 refine Tr.drop 1 (Tr.ret (Fin.retX1 rfl (RVal.cell 0 rfl rfl agg29 sz29 rfl (Pr.le_refl _)) ?_))
 · exact Pr.le_refl _
theorem w_none {x : Idn}  : Fun Tryz.prog 163 [agg (rowId x)] (bool (noneB x)) := by
 refine fo Tryz.func163 rfl ⟨rfl, rfl⟩ fun M0 w0 => ?_
 refine ac ?_
 refine ac ?_
 refine co rfl (ok_eq24 rfl (vl rfl) (vl rfl)) (cm rfl ?_)
 refine Ch.cs 7 rfl ?_ ?_ <;> intro h1 q1
 refine ac ?_
 refine Ch.cs 12 rfl ?_ ?_ <;> intro h2 q2
 refine ac ?_
 refine wk1 2 rfl ?_
 refine ac ?_
 · refine bool_eq ?_; unfold noneB; simp_all
 refine ac ?_
 refine wk1 2 rfl ?_
 refine ac ?_
 · refine bool_eq ?_; unfold noneB; simp_all
 refine ac ?_
 refine wk1 2 rfl ?_
 refine ac ?_
 · refine bool_eq ?_; unfold noneB; simp_all
theorem w_lean {c : Chg}  : Fun Tryz.prog 115 [agg (rowChg c)] (bool (leanB c)) := by
 refine fo Tryz.func115 rfl ⟨rfl, rfl⟩ fun M0 w0 => ?_
 refine ac ?_
 refine ac ?_
 refine ac ?_
 refine Tr.cn rfl ?_ ?_ <;> intro h1 q1
 refine ac ?_
 refine co rfl (kc1 (w_none (x := c.idn)) rfl rfl) ?_
 refine ac ?_
 refine ac ?_
 · refine bool_eq ?_; unfold leanB; simp_all
 refine ac ?_
 refine Tr.cn rfl ?_ ?_ <;> intro h2 q2
 refine ac ?_
 refine ac ?_
 · refine bool_eq ?_; unfold leanB; simp_all
 refine ac ?_
 refine ac ?_
 refine Ch.cs 18 rfl ?_ ?_ <;> intro h3 q3
 refine ac ?_
 refine cy h3 rfl (kc1 (w_none (x := c.idn)) rfl rfl) ?_
 refine ac ?_
 refine wk1 2 rfl ?_
 refine ac ?_
 · refine bool_eq ?_; unfold leanB; simp_all
 refine ac ?_
 refine wk1 2 rfl ?_
 refine ac ?_
 · refine bool_eq ?_; unfold leanB; simp_all
theorem w_kinds   : Fun Tryz.prog 117 [] (agg kindsP) := by
 refine fo Tryz.func117 rfl ⟨rfl, rfl⟩ fun M0 w0 => (Tr.seq (Tr.regT ?_))
 refine TO.alloc rfl rfl (by decide) rfl z161 zo161 (fun b1 => ?_)
 refine ap ?_
 refine ap ?_
 refine Tr.ret (Fin.retX1 rfl (RVal.cell 0 rfl rfl agg161 sz161 rfl (Pr.le_refl _)) ?_)
 · exact Pr.le_refl _
theorem w_CopyEn {e : Ept} (hsm : e.small) : FunV Tryz.prog 116 [agg (rowEp e)] (fun x => agg (rowO e (ints e.suites) (is x) (ints e.anchors) (ints e.hashes))) (fun x => [oweRes 27 4 (e.ids.map rowId) x]) := by
 refine FunV.of Tryz.func116 rfl rfl (by exact Nat.le_of_ble_eq_true rfl) fun M0 w0 S rs M1 w1 => ?_
 have hs1 := hsm.suites
 have hs2 := hsm.anchors
 have hs3 := hsm.hashes
 have hs4 := hsm.idl
 refine Tr.seq (Tr.regT ?_)
 refine TO.boxm rfl rfl (by decide) rfl (VL.le (vl rfl) (agg_cellsP _)) (fun b1 => ?_)
 refine TO.alloc rfl rfl (by decide) rfl z32 zo32 (fun b2 => ?_)
 refine ao ?_
 refine Tr.seq (Tr.pad (Tr.rx ?_))
 refine ax ?_
 refine xo rfl (fun _ => kc1 (w_CloneFi (l := e.suites) hs1) rfl rfl) ?_
 refine ax ?_
 refine xo rfl (fun _ => kc1 (w_CloneFi (l := e.anchors) hs2) rfl rfl) ?_
 refine ax ?_
 refine xo rfl (fun _ => kc1 (w_CloneFi (l := e.hashes) hs3) rfl rfl) ?_
 refine ax ?_
 refine Cx.ef 0 rfl rfl (by decide) (ef_call rfl rfl (by decide) rfl (w_CloneWn (l := e.ids) hs4) ⟨ke rfl, trivial⟩) ?_
 refine xo rfl (fun _ => okp_fieldAddr rfl fo32_3 (vl rfl)) (Cx.ef0 2 rfl rfl (ef_store rfl rfl (vl rfl) (VL.le (vl rfl) (one_cellsP _)) sz22 rfl (by exact Nat.le_of_ble_eq_true rfl) rfl) (xo rfl (fun _ => okp_fieldAddr rfl fo32_6 (vl rfl)) (Cx.ef0 2 rfl rfl (ef_store rfl rfl (vl rfl) (VL.le (vl rfl) (one_cellsP _)) sz22 rfl (by exact Nat.le_of_ble_eq_true rfl) rfl) (xo rfl (fun _ => okp_fieldAddr rfl fo32_7 (vl rfl)) (Cx.ef0 2 rfl rfl (ef_store rfl rfl (vl rfl) (VL.le (vl rfl) (one_cellsP _)) sz22 rfl (by exact Nat.le_of_ble_eq_true rfl) rfl) (xo rfl (fun _ => okp_fieldAddr rfl fo32_5 (vl rfl)) (Cx.ef0 2 rfl rfl (ef_storeS rfl rfl rfl (vl rfl) rfl sz30 (by exact Nat.le_of_ble_eq_true rfl)) ?_)))))))
 refine Cx.nil ⟨by kernel_rfl, ?_⟩
 refine FinX.open2 0 2 16 rfl rfl (by decide) rfl (fun v1 => ?_)
 refine FinX.done al4 (Fin.go (wk2 1 2 rfl ?_))
 refine ac ?_
 refine co rfl (ok_rd 0 rfl (rd_lenW rfl Tryz.underlying30 ⟨_, rfl, andIs_is _ _⟩)) ?_
 refine ac ?_
 refine Tr.block (Tr.re 23 rfl (int_eq (by rw [List.length_map])) (Tr.loopw [(1, _), (2, _), (22, _), (23, _)] (kk4 rfl) (fun k : Nat => [(24, int ((k : Nat) : Int))]) (fun k : Nat => k ≤ (e.ids).length) (fun k : Nat => (e.ids).length - k) 0 (Nat.zero_le _) ⟨ke rfl, trivial⟩ ?_))
 rintro k hle_k
 refine ac ?_
 refine Tr.seq ?_
 refine Tr.cn rfl ?_ ?_ <;> intro h1 q1
 have hk_k : k < (e.ids).length := lt_of_dec h1
 obtain ⟨x, hx_k⟩ := at_ hk_k
 have hxs := hsm.ids x (List.mem_of_getElem? hx_k)
 refine ac ?_
 refine ao ?_
 refine tp rfl (ok_rd 0 rfl (rd_elp rfl Tryz.underlying30 sz27 ⟨_, rfl, andIs_is _ _⟩ (vl rfl) (by omega) (by rw [List.length_map]; omega))) ?_
 refine tp rfl (ok_rd 0 rfl (rd_elload rfl agg27 sz27 (vl rfl) (map_rows fun _ => rfl) (by rw [Int.toNat_natCast, List.getElem?_map, hx_k]; rfl))) ?_
 refine TO.alloc rfl rfl (by decide) rfl z27 zo27 (fun b3 => ?_)
 refine tm rfl ?_
 refine sf 0 4 ⟨rfl, rfl, rfl⟩ rfl rfl rfl rfl ?_
 refine ao ?_
 refine Tr.rx ?_
 refine ax ?_
 refine xo rfl (fun _ => kc1 (w_copyId hxs) rfl rfl) ?_
 refine xrd 0 rfl rfl (rd_elp rfl Tryz.underlying30 sz27 ⟨_, rfl, andIs_is _ _⟩ (vl rfl) (by omega) (by rw [List.length_map]; omega)) ?_
 refine Cx.ef0 0 rfl rfl (ef_elstore rfl rfl (vl rfl) (VL.le (vl rfl) (agg_cellsP _)) sz27 rfl (map_rows fun _ => rfl) (by rw [Int.toNat_natCast, List.getElem?_map, hx_k]; rfl) (by decide) (row_setI (f := rowId) (q := 0) (m := 4) hx_k rfl)) ?_
 refine Cx.nil ⟨by kernel_rfl, ?_⟩
 refine FinX.done al4 ?_
 refine ac ?_
 refine wk5 1 2 22 23 24 rfl ?_
 refine ac ?_
 exact Fin.fam_same (k + 1) ⟨hk_k, by omega⟩ ⟨⟨_, rfl, int_succ k⟩, ke rfl, ke rfl, ke rfl, ke rfl, trivial⟩
 have he_k : k = (e.ids).length := by have := ge_of_dec h1; omega
 subst he_k
 refine ac ?_
 refine ao ?_
 refine TO.store_all 1 rfl rfl rfl (vl rfl) (VL.le (vl rfl) (agg_cellsP _)) rfl sz32 rfl rfl ?_
 refine ao ?_
 refine Tr.drop 2 (Tr.ret (Fin.swap01 (Fin.retV v1 [_] rfl (RVal.cell 0 rfl rfl agg32 sz32 rfl (Pr.le_refl _)) ?_ (List.Perm.refl _))))
 · exact agg_le ⟨Pr.le_refl _, Pr.le_refl _, Pr.le_refl _, Pr.le_refl _, Pr.le_refl _, andIs_is _ _, Pr.le_refl _, Pr.le_refl _, Pr.le_refl _, trivial⟩
theorem w_CopyEs {e : Ept} (hsm : e.small) : FunV Tryz.prog 116 [agg (rowEp e)] (fun x => agg (rowO e (is x) (idns e.ids) (ints e.anchors) (ints e.hashes))) (fun x => [oweRes 3 1 (e.suites.map fun n => [int n]) x]) := by
 refine FunV.of Tryz.func116 rfl rfl (by exact Nat.le_of_ble_eq_true rfl) fun M0 w0 S rs M1 w1 => ?_
 have hs1 := hsm.suites
 have hs2 := hsm.anchors
 have hs3 := hsm.hashes
 have hs4 := hsm.idl
 refine Tr.seq (Tr.regT ?_)
 refine TO.boxm rfl rfl (by decide) rfl (VL.le (vl rfl) (agg_cellsP _)) (fun b1 => ?_)
 refine TO.alloc rfl rfl (by decide) rfl z32 zo32 (fun b2 => ?_)
 refine ao ?_
 refine Tr.seq (Tr.pad (Tr.pad (Tr.rx ?_)))
 refine ax ?_
 refine Cx.ef 0 rfl rfl (by decide) (ef_call rfl rfl (by decide) rfl (w_CloneWi (l := e.suites) hs1) ⟨ke rfl, trivial⟩) ?_
 refine ax ?_
 refine xo rfl (fun _ => kc1 (w_CloneFi (l := e.anchors) hs2) rfl rfl) ?_
 refine ax ?_
 refine xo rfl (fun _ => kc1 (w_CloneFi (l := e.hashes) hs3) rfl rfl) ?_
 refine ax ?_
 refine Cx.ef 1 rfl rfl (by decide) (ef_call rfl rfl (by decide) rfl (w_CloneWn (l := e.ids) hs4) ⟨ke rfl, trivial⟩) ?_
 refine xo rfl (fun _ => okp_fieldAddr rfl fo32_3 (vl rfl)) (Cx.ef0 3 rfl rfl (ef_storeS rfl rfl rfl (vl rfl) rfl sz22 (by exact Nat.le_of_ble_eq_true rfl)) (xo rfl (fun _ => okp_fieldAddr rfl fo32_6 (vl rfl)) (Cx.ef0 3 rfl rfl (ef_storeW rfl rfl rfl (vl rfl) (VL.le (vl rfl) (one_cellsP _)) sz22 rfl (fun _ => by exact Nat.le_of_ble_eq_true rfl)) (xo rfl (fun _ => okp_fieldAddr rfl fo32_7 (vl rfl)) (Cx.ef0 3 rfl rfl (ef_storeW rfl rfl rfl (vl rfl) (VL.le (vl rfl) (one_cellsP _)) sz22 rfl (fun _ => by exact Nat.le_of_ble_eq_true rfl)) (xo rfl (fun _ => okp_fieldAddr rfl fo32_5 (vl rfl)) (Cx.ef0 3 rfl rfl (ef_storeT rfl rfl rfl (vl rfl) rfl sz30 (fun _ => by exact Nat.le_of_ble_eq_true rfl)) ?_)))))))
 refine Cx.nil ⟨by kernel_rfl, ?_⟩
 refine FinX.open3 0 1 3 7 16 rfl rfl rfl (by decide) (by decide) (by decide) (by decide) rfl rfl (fun v1 v2 => ?_)
 refine FinX.done al5 (Fin.go (wk2 1 2 rfl ?_))
 refine ac ?_
 refine co rfl (ok_rd 1 rfl (rd_lenW rfl Tryz.underlying30 ⟨_, rfl, andIs_is _ _⟩)) ?_
 refine ac ?_
 refine Tr.block (Tr.re 23 rfl (int_eq (by rw [List.length_map])) (Tr.loopw [(1, _), (2, _), (22, _), (23, _)] (kk4 rfl) (fun k : Nat => [(24, int ((k : Nat) : Int))]) (fun k : Nat => k ≤ (e.ids).length) (fun k : Nat => (e.ids).length - k) 0 (Nat.zero_le _) ⟨ke rfl, trivial⟩ ?_))
 rintro k hle_k
 refine ac ?_
 refine Tr.seq ?_
 refine Tr.cn rfl ?_ ?_ <;> intro h1 q1
 have hk_k : k < (e.ids).length := lt_of_dec h1
 obtain ⟨x, hx_k⟩ := at_ hk_k
 have hxs := hsm.ids x (List.mem_of_getElem? hx_k)
 refine ac ?_
 refine ao ?_
 refine tp rfl (ok_rd 1 rfl (rd_elp rfl Tryz.underlying30 sz27 ⟨_, rfl, andIs_is _ _⟩ (vl rfl) (by omega) (by rw [List.length_map]; omega))) ?_
 refine tp rfl (ok_rd 1 rfl (rd_elload rfl agg27 sz27 (vl rfl) (map_rows fun _ => rfl) (by rw [Int.toNat_natCast, List.getElem?_map, hx_k]; rfl))) ?_
 refine TO.alloc rfl rfl (by decide) rfl z27 zo27 (fun b3 => ?_)
 refine tm rfl ?_
 refine sf 0 4 ⟨rfl, rfl, rfl⟩ rfl rfl rfl rfl ?_
 refine ao ?_
 refine Tr.rx ?_
 refine ax ?_
 refine xo rfl (fun _ => kc1 (w_copyId hxs) rfl rfl) ?_
 refine xrd 1 rfl rfl (rd_elp rfl Tryz.underlying30 sz27 ⟨_, rfl, andIs_is _ _⟩ (vl rfl) (by omega) (by rw [List.length_map]; omega)) ?_
 refine Cx.ef0 1 rfl rfl (ef_elstore rfl rfl (vl rfl) (VL.le (vl rfl) (agg_cellsP _)) sz27 rfl (map_rows fun _ => rfl) (by rw [Int.toNat_natCast, List.getElem?_map, hx_k]; rfl) (by decide) (row_setI (f := rowId) (q := 0) (m := 4) hx_k rfl)) ?_
 refine Cx.nil ⟨by kernel_rfl, ?_⟩
 refine FinX.done al5 ?_
 refine ac ?_
 refine wk5 1 2 22 23 24 rfl ?_
 refine ac ?_
 exact Fin.fam_same (k + 1) ⟨hk_k, by omega⟩ ⟨⟨_, rfl, int_succ k⟩, ke rfl, ke rfl, ke rfl, ke rfl, trivial⟩
 have he_k : k = (e.ids).length := by have := ge_of_dec h1; omega
 subst he_k
 refine ac ?_
 refine Tr.seq (Tr.frzWC 3 1 5 rfl rfl (by decide) rfl (andIs_is _ _) (map_rows fun _ => rfl) ?_)
 refine ao ?_
 refine TO.store_all 2 rfl rfl rfl (vl rfl) (VL.le (vl rfl) (agg_cellsP _)) rfl sz32 rfl rfl ?_
 refine ao ?_
 refine Tr.drop 1 (Tr.drop 2 (Tr.ret (Fin.swap01 (Fin.retV v1 [_] rfl (RVal.cell 0 rfl rfl agg32 sz32 rfl (Pr.le_refl _)) ?_ (List.Perm.refl _)))))
 · exact agg_le ⟨Pr.le_refl _, Pr.le_refl _, Pr.le_refl _, andIs_is _ _, Pr.le_refl _, Pr.le_refl _, Pr.le_refl _, Pr.le_refl _, Pr.le_refl _, trivial⟩
end Go.Proofs.YtppeeogffbpcbaaGreat
namespace Go.Proofs.YtppeeogffbpcbaaGreat
open Go Go.RowKit Cp

def zeroEp : Ept := ⟨[], 0, 0, [], false, [], [], [], false⟩
def zeroId : Idn := ⟨0, 0, 0, []⟩
def zeroChg : Chg := ⟨0, 0, 0, 0, zeroId⟩
abbrev back0 (c : Chg) : Chg := ⟨c.endpoint, 0, 0, 0, zeroId⟩

theorem w_donenE {e e2 : Ept} {c b : Chg} {fk : Nat} {err : Int} (hf : e.fits) (hsm : e.small) (hce : eptB e = true) (hk : 1 ≤ c.kind ∧ c.kind ≤ 12) (hlean : leanB c = true) (hkp : kindsP[c.kind.toNat]? = some (fn (.func fk) [])) (he : err ≠ 0) (hm : ∀ (wb ob : Nat) (v : Value), FunD Tryz.prog fk [ptr wb 0] [resW wb ob c (back0 c), resO ob e (ints e.suites) (is v) (ints e.anchors) (ints e.hashes), oweRes 27 4 (e.ids.map rowId) v] (int err) []) : Fun Tryz.prog 74 [agg (rowEp e), agg (rowChg c)] (tup [agg (rowEp zeroEp), agg (rowChg zeroChg), int err]) := by
 refine fo Tryz.func74 rfl ⟨rfl, rfl⟩ fun M0 w0 => (Tr.seq (Tr.regT (tp rfl (ok_box rfl (VL.le (vl rfl) (agg_cellsP _))) (tp rfl (ok_box rfl (VL.le (vl rfl) (agg_cellsP _))) ?_))))
 refine TO.alloc rfl rfl (by decide) rfl z32 zo32 (fun b1 => ?_)
 refine TO.alloc rfl rfl (by decide) rfl z29 zo29 (fun b2 => ?_)
 refine ap ?_
 refine ac ?_
 refine co rfl (kc1 (w_ECheck hf) rfl rfl) ?_
 refine ac ?_
 refine Tr.cn rfl ?_ ?_ <;> intro h1 q1
 exfalso; rw [if_pos hce] at h1; exact absurd h1 (by decide)
 refine ac ?_
 refine ac ?_
 refine Ch.cs 18 rfl ?_ ?_ <;> intro h2 q2
 exfalso; have := q2; omega
 refine ac ?_
 refine Ch.cs 23 rfl ?_ ?_ <;> intro h3 q3
 exfalso; have := q3; omega
 refine cy h3 rfl (ok_loadA rfl agg29 sz29 (vl rfl) rfl rfl) ?_
 refine cy h3 rfl (kc1 (w_lean (c := c)) rfl rfl) ?_
 refine ac ?_
 refine wk5 2 3 4 5 27 rfl ?_
 refine Tr.cn rfl ?_ ?_ <;> intro h4 q4
 rw [hlean] at h4; exact absurd h4 (by decide)
 refine ac ?_
 refine ap ?_
 refine TO.callV rfl rfl (by decide) rfl (w_CopyEn hsm) ⟨ke rfl, trivial⟩ (fun v1 => ?_)
 refine TO.alloc rfl rfl (by decide) rfl z32 zo32 (fun b3 => ?_)
 refine ap ?_
 refine ap ?_
 refine TO.boxm rfl rfl (by decide) rfl (VL.le (vl rfl) (agg_cellsP _)) (fun b4 => ?_)
 refine ap ?_
 refine wk5 3 4 5 7 8 rfl (Tr.seq (Tr.seq (Tr.leC 0 (ptr b3 0 :: rowWt c (back0 c)) rfl ⟨Pr.le_refl _, Pr.le_refl _, Pr.le_refl _, Pr.le_refl _, Pr.le_refl _, Pr.le_refl _, Pr.le_refl _, Pr.le_refl _, Pr.le_refl _, Pr.le_refl _, Pr.le_refl _, Pr.le_refl _, Pr.le_refl _, Pr.le_refl _, Pr.le_refl _, Pr.le_refl _, nil_slice 15, trivial⟩ (Tr.regOne mixed 5 (by kernel_rfl) (ChOne.op rfl rfl (by decide) (kc0 (w_kinds) rfl) (ChOne.op rfl rfl (by decide) (kfa rfl fo29_1 rfl rfl) (ChOne.op rfl rfl (by decide) (kl1 rfl one3 rfl) (ChOne.op rfl rfl (by decide) (ok_index1 rfl Tryz.underlying161 one160 sz160 (vl rfl) (vl rfl) (by omega) (by omega) hkp) (ChOne.op rfl rfl (by decide) (ok_move rfl (vl rfl)) ?_)))))))))
 refine ChOne.turn _ rfl (by decide) (turn_callv _ rfl rfl (vl rfl) (hm _ _ _) ⟨ke rfl, trivial⟩ ((perm_at (j := 0) rfl).trans (List.Perm.cons _ ((perm_at (j := 0) rfl).trans (List.Perm.cons _ ((perm_at (j := 0) rfl).trans (List.Perm.cons _ (List.Perm.refl _)))))))) ?_
 refine ac ?_
 refine ac ?_
 refine wk6 4 5 7 8 9 45 rfl ?_
 refine Tr.cn rfl ?_ ?_ <;> intro h5 q5
 refine ap ?_
 refine Tr.ret (Fin.then_ret (Fin.retX3 rfl (RVal.cell 1 rfl rfl agg32 sz32 rfl (Pr.le_refl _)) (RVal.cell 0 rfl rfl agg29 sz29 rfl (Pr.le_refl _)) (RVal.tmp rfl (Pr.le_refl _)) ?_))
 refine tup_le ⟨?_, ?_, ?_, trivial⟩
 · exact agg_le ⟨Pr.le_refl _, Pr.le_refl _, Pr.le_refl _, nil_slice 1, Pr.le_refl _, nil_slice 4, nil_slice 1, nil_slice 1, Pr.le_refl _, trivial⟩
 · exact agg_le ⟨Pr.le_refl _, Pr.le_refl _, Pr.le_refl _, Pr.le_refl _, Pr.le_refl _, Pr.le_refl _, Pr.le_refl _, nil_slice 15, trivial⟩
 · exact Pr.le_refl _
 exfalso; have := q5; omega
theorem w_donenY {e e2 : Ept} {c b : Chg} {fk : Nat} {err : Int} (hf : e.fits) (hsm : e.small) (hce : eptB e = true) (hk : 1 ≤ c.kind ∧ c.kind ≤ 12) (hlean : leanB c = true) (hkp : kindsP[c.kind.toNat]? = some (fn (.func fk) [])) (hbk : b.idn.small) (hf2 : e2.fits) (hce2 : eptB e2 = true) (hm : ∀ (wb ob : Nat) (v : Value), FunD Tryz.prog fk [ptr wb 0] [resW wb ob c (back0 c), resO ob e (ints e.suites) (is v) (ints e.anchors) (ints e.hashes), oweRes 27 4 (e.ids.map rowId) v] (int 0) [resW wb ob c b, cellsRes true ob 32 (rowEp e2)]) : Fun Tryz.prog 74 [agg (rowEp e), agg (rowChg c)] (tup [agg (rowEp e2), agg (rowChg b), int 0]) := by
 refine fo Tryz.func74 rfl ⟨rfl, rfl⟩ fun M0 w0 => (Tr.seq (Tr.regT (tp rfl (ok_box rfl (VL.le (vl rfl) (agg_cellsP _))) (tp rfl (ok_box rfl (VL.le (vl rfl) (agg_cellsP _))) ?_))))
 refine TO.alloc rfl rfl (by decide) rfl z32 zo32 (fun b1 => ?_)
 refine TO.alloc rfl rfl (by decide) rfl z29 zo29 (fun b2 => ?_)
 refine ap ?_
 refine ac ?_
 refine co rfl (kc1 (w_ECheck hf) rfl rfl) ?_
 refine ac ?_
 refine Tr.cn rfl ?_ ?_ <;> intro h1 q1
 exfalso; rw [if_pos hce] at h1; exact absurd h1 (by decide)
 refine ac ?_
 refine ac ?_
 refine Ch.cs 18 rfl ?_ ?_ <;> intro h2 q2
 exfalso; have := q2; omega
 refine ac ?_
 refine Ch.cs 23 rfl ?_ ?_ <;> intro h3 q3
 exfalso; have := q3; omega
 refine cy h3 rfl (ok_loadA rfl agg29 sz29 (vl rfl) rfl rfl) ?_
 refine cy h3 rfl (kc1 (w_lean (c := c)) rfl rfl) ?_
 refine ac ?_
 refine wk5 2 3 4 5 27 rfl ?_
 refine Tr.cn rfl ?_ ?_ <;> intro h4 q4
 rw [hlean] at h4; exact absurd h4 (by decide)
 refine ac ?_
 refine ap ?_
 refine TO.callV rfl rfl (by decide) rfl (w_CopyEn hsm) ⟨ke rfl, trivial⟩ (fun v1 => ?_)
 refine TO.alloc rfl rfl (by decide) rfl z32 zo32 (fun b3 => ?_)
 refine ap ?_
 refine ap ?_
 refine TO.boxm rfl rfl (by decide) rfl (VL.le (vl rfl) (agg_cellsP _)) (fun b4 => ?_)
 refine ap ?_
 refine wk5 3 4 5 7 8 rfl (Tr.seq (Tr.seq (Tr.leC 0 (ptr b3 0 :: rowWt c (back0 c)) rfl ⟨Pr.le_refl _, Pr.le_refl _, Pr.le_refl _, Pr.le_refl _, Pr.le_refl _, Pr.le_refl _, Pr.le_refl _, Pr.le_refl _, Pr.le_refl _, Pr.le_refl _, Pr.le_refl _, Pr.le_refl _, Pr.le_refl _, Pr.le_refl _, Pr.le_refl _, Pr.le_refl _, nil_slice 15, trivial⟩ (Tr.regOne mixed 5 (by kernel_rfl) (ChOne.op rfl rfl (by decide) (kc0 (w_kinds) rfl) (ChOne.op rfl rfl (by decide) (kfa rfl fo29_1 rfl rfl) (ChOne.op rfl rfl (by decide) (kl1 rfl one3 rfl) (ChOne.op rfl rfl (by decide) (ok_index1 rfl Tryz.underlying161 one160 sz160 (vl rfl) (vl rfl) (by omega) (by omega) hkp) (ChOne.op rfl rfl (by decide) (ok_move rfl (vl rfl)) ?_)))))))))
 refine ChOne.turn _ rfl (by decide) (turn_callv _ rfl rfl (vl rfl) (hm _ _ _) ⟨ke rfl, trivial⟩ ((perm_at (j := 0) rfl).trans (List.Perm.cons _ ((perm_at (j := 0) rfl).trans (List.Perm.cons _ ((perm_at (j := 0) rfl).trans (List.Perm.cons _ (List.Perm.refl _)))))))) ?_
 refine ac ?_
 refine ac ?_
 refine wk6 4 5 7 8 9 45 rfl ?_
 refine Tr.cn rfl ?_ ?_ <;> intro h5 q5
 exact absurd h5 (by decide)
 refine ac ?_
 refine ac ?_
 refine co rfl (kc1 (w_ECheck (e := e2) hf2) rfl rfl) ?_
 refine ac ?_
 refine Tr.cn rfl ?_ ?_ <;> intro h6 q6
 exfalso; rw [if_pos hce2] at h6; exact absurd h6 (by decide)
 refine ac ?_
 refine Tr.seq (Tr.rx ?_)
 refine ay ?_
 refine xo rfl (fun _ => kc1 (w_CopyC (c := b) hbk) rfl rfl) ?_
 refine ay ?_
 refine Cx.nil ⟨by kernel_rfl, ?_⟩
 refine FinX.done al4 (Fin.go (wk3 4 5 6 rfl (Tr.ret (Fin.retX3 rfl (RVal.cell 3 rfl rfl agg32 sz32 rfl (Pr.le_refl _)) (RVal.cell 2 rfl rfl agg29 sz29 rfl (Pr.le_refl _)) (RVal.tmp rfl (Pr.le_refl _)) ?_))))
 refine tup_le ⟨?_, ?_, ?_, trivial⟩
 · exact Pr.le_refl _
 · exact Pr.le_refl _
 · exact Pr.le_refl _
theorem w_donesE {e e2 : Ept} {c b : Chg} {fk : Nat} {err : Int} (hf : e.fits) (hsm : e.small) (hce : eptB e = true) (hk : 1 ≤ c.kind ∧ c.kind ≤ 12) (hlean : leanB c = true) (hkp : kindsP[c.kind.toNat]? = some (fn (.func fk) [])) (he : err ≠ 0) (hm : ∀ (wb ob : Nat) (v : Value), FunD Tryz.prog fk [ptr wb 0] [resW wb ob c (back0 c), resO ob e (is v) (idns e.ids) (ints e.anchors) (ints e.hashes), oweRes 3 1 (e.suites.map fun n => [int n]) v] (int err) []) : Fun Tryz.prog 74 [agg (rowEp e), agg (rowChg c)] (tup [agg (rowEp zeroEp), agg (rowChg zeroChg), int err]) := by
 refine fo Tryz.func74 rfl ⟨rfl, rfl⟩ fun M0 w0 => (Tr.seq (Tr.regT (tp rfl (ok_box rfl (VL.le (vl rfl) (agg_cellsP _))) (tp rfl (ok_box rfl (VL.le (vl rfl) (agg_cellsP _))) ?_))))
 refine TO.alloc rfl rfl (by decide) rfl z32 zo32 (fun b1 => ?_)
 refine TO.alloc rfl rfl (by decide) rfl z29 zo29 (fun b2 => ?_)
 refine ap ?_
 refine ac ?_
 refine co rfl (kc1 (w_ECheck hf) rfl rfl) ?_
 refine ac ?_
 refine Tr.cn rfl ?_ ?_ <;> intro h1 q1
 exfalso; rw [if_pos hce] at h1; exact absurd h1 (by decide)
 refine ac ?_
 refine ac ?_
 refine Ch.cs 18 rfl ?_ ?_ <;> intro h2 q2
 exfalso; have := q2; omega
 refine ac ?_
 refine Ch.cs 23 rfl ?_ ?_ <;> intro h3 q3
 exfalso; have := q3; omega
 refine cy h3 rfl (ok_loadA rfl agg29 sz29 (vl rfl) rfl rfl) ?_
 refine cy h3 rfl (kc1 (w_lean (c := c)) rfl rfl) ?_
 refine ac ?_
 refine wk5 2 3 4 5 27 rfl ?_
 refine Tr.cn rfl ?_ ?_ <;> intro h4 q4
 rw [hlean] at h4; exact absurd h4 (by decide)
 refine ac ?_
 refine ap ?_
 refine TO.callV rfl rfl (by decide) rfl (w_CopyEs hsm) ⟨ke rfl, trivial⟩ (fun v1 => ?_)
 refine TO.alloc rfl rfl (by decide) rfl z32 zo32 (fun b3 => ?_)
 refine ap ?_
 refine ap ?_
 refine TO.boxm rfl rfl (by decide) rfl (VL.le (vl rfl) (agg_cellsP _)) (fun b4 => ?_)
 refine ap ?_
 refine wk5 3 4 5 7 8 rfl (Tr.seq (Tr.seq (Tr.leC 0 (ptr b3 0 :: rowWt c (back0 c)) rfl ⟨Pr.le_refl _, Pr.le_refl _, Pr.le_refl _, Pr.le_refl _, Pr.le_refl _, Pr.le_refl _, Pr.le_refl _, Pr.le_refl _, Pr.le_refl _, Pr.le_refl _, Pr.le_refl _, Pr.le_refl _, Pr.le_refl _, Pr.le_refl _, Pr.le_refl _, Pr.le_refl _, nil_slice 15, trivial⟩ (Tr.regOne mixed 5 (by kernel_rfl) (ChOne.op rfl rfl (by decide) (kc0 (w_kinds) rfl) (ChOne.op rfl rfl (by decide) (kfa rfl fo29_1 rfl rfl) (ChOne.op rfl rfl (by decide) (kl1 rfl one3 rfl) (ChOne.op rfl rfl (by decide) (ok_index1 rfl Tryz.underlying161 one160 sz160 (vl rfl) (vl rfl) (by omega) (by omega) hkp) (ChOne.op rfl rfl (by decide) (ok_move rfl (vl rfl)) ?_)))))))))
 refine ChOne.turn _ rfl (by decide) (turn_callv _ rfl rfl (vl rfl) (hm _ _ _) ⟨ke rfl, trivial⟩ ((perm_at (j := 0) rfl).trans (List.Perm.cons _ ((perm_at (j := 0) rfl).trans (List.Perm.cons _ ((perm_at (j := 0) rfl).trans (List.Perm.cons _ (List.Perm.refl _)))))))) ?_
 refine ac ?_
 refine ac ?_
 refine wk6 4 5 7 8 9 45 rfl ?_
 refine Tr.cn rfl ?_ ?_ <;> intro h5 q5
 refine ap ?_
 refine Tr.ret (Fin.then_ret (Fin.retX3 rfl (RVal.cell 1 rfl rfl agg32 sz32 rfl (Pr.le_refl _)) (RVal.cell 0 rfl rfl agg29 sz29 rfl (Pr.le_refl _)) (RVal.tmp rfl (Pr.le_refl _)) ?_))
 refine tup_le ⟨?_, ?_, ?_, trivial⟩
 · exact agg_le ⟨Pr.le_refl _, Pr.le_refl _, Pr.le_refl _, nil_slice 1, Pr.le_refl _, nil_slice 4, nil_slice 1, nil_slice 1, Pr.le_refl _, trivial⟩
 · exact agg_le ⟨Pr.le_refl _, Pr.le_refl _, Pr.le_refl _, Pr.le_refl _, Pr.le_refl _, Pr.le_refl _, Pr.le_refl _, nil_slice 15, trivial⟩
 · exact Pr.le_refl _
 exfalso; have := q5; omega
theorem w_donesY {e e2 : Ept} {c b : Chg} {fk : Nat} {err : Int} (hf : e.fits) (hsm : e.small) (hce : eptB e = true) (hk : 1 ≤ c.kind ∧ c.kind ≤ 12) (hlean : leanB c = true) (hkp : kindsP[c.kind.toNat]? = some (fn (.func fk) [])) (hbk : b.idn.small) (hf2 : e2.fits) (hce2 : eptB e2 = true) (hm : ∀ (wb ob : Nat) (v : Value), FunD Tryz.prog fk [ptr wb 0] [resW wb ob c (back0 c), resO ob e (is v) (idns e.ids) (ints e.anchors) (ints e.hashes), oweRes 3 1 (e.suites.map fun n => [int n]) v] (int 0) [resW wb ob c b, cellsRes true ob 32 (rowEp e2)]) : Fun Tryz.prog 74 [agg (rowEp e), agg (rowChg c)] (tup [agg (rowEp e2), agg (rowChg b), int 0]) := by
 refine fo Tryz.func74 rfl ⟨rfl, rfl⟩ fun M0 w0 => (Tr.seq (Tr.regT (tp rfl (ok_box rfl (VL.le (vl rfl) (agg_cellsP _))) (tp rfl (ok_box rfl (VL.le (vl rfl) (agg_cellsP _))) ?_))))
 refine TO.alloc rfl rfl (by decide) rfl z32 zo32 (fun b1 => ?_)
 refine TO.alloc rfl rfl (by decide) rfl z29 zo29 (fun b2 => ?_)
 refine ap ?_
 refine ac ?_
 refine co rfl (kc1 (w_ECheck hf) rfl rfl) ?_
 refine ac ?_
 refine Tr.cn rfl ?_ ?_ <;> intro h1 q1
 exfalso; rw [if_pos hce] at h1; exact absurd h1 (by decide)
 refine ac ?_
 refine ac ?_
 refine Ch.cs 18 rfl ?_ ?_ <;> intro h2 q2
 exfalso; have := q2; omega
 refine ac ?_
 refine Ch.cs 23 rfl ?_ ?_ <;> intro h3 q3
 exfalso; have := q3; omega
 refine cy h3 rfl (ok_loadA rfl agg29 sz29 (vl rfl) rfl rfl) ?_
 refine cy h3 rfl (kc1 (w_lean (c := c)) rfl rfl) ?_
 refine ac ?_
 refine wk5 2 3 4 5 27 rfl ?_
 refine Tr.cn rfl ?_ ?_ <;> intro h4 q4
 rw [hlean] at h4; exact absurd h4 (by decide)
 refine ac ?_
 refine ap ?_
 refine TO.callV rfl rfl (by decide) rfl (w_CopyEs hsm) ⟨ke rfl, trivial⟩ (fun v1 => ?_)
 refine TO.alloc rfl rfl (by decide) rfl z32 zo32 (fun b3 => ?_)
 refine ap ?_
 refine ap ?_
 refine TO.boxm rfl rfl (by decide) rfl (VL.le (vl rfl) (agg_cellsP _)) (fun b4 => ?_)
 refine ap ?_
 refine wk5 3 4 5 7 8 rfl (Tr.seq (Tr.seq (Tr.leC 0 (ptr b3 0 :: rowWt c (back0 c)) rfl ⟨Pr.le_refl _, Pr.le_refl _, Pr.le_refl _, Pr.le_refl _, Pr.le_refl _, Pr.le_refl _, Pr.le_refl _, Pr.le_refl _, Pr.le_refl _, Pr.le_refl _, Pr.le_refl _, Pr.le_refl _, Pr.le_refl _, Pr.le_refl _, Pr.le_refl _, Pr.le_refl _, nil_slice 15, trivial⟩ (Tr.regOne mixed 5 (by kernel_rfl) (ChOne.op rfl rfl (by decide) (kc0 (w_kinds) rfl) (ChOne.op rfl rfl (by decide) (kfa rfl fo29_1 rfl rfl) (ChOne.op rfl rfl (by decide) (kl1 rfl one3 rfl) (ChOne.op rfl rfl (by decide) (ok_index1 rfl Tryz.underlying161 one160 sz160 (vl rfl) (vl rfl) (by omega) (by omega) hkp) (ChOne.op rfl rfl (by decide) (ok_move rfl (vl rfl)) ?_)))))))))
 refine ChOne.turn _ rfl (by decide) (turn_callv _ rfl rfl (vl rfl) (hm _ _ _) ⟨ke rfl, trivial⟩ ((perm_at (j := 0) rfl).trans (List.Perm.cons _ ((perm_at (j := 0) rfl).trans (List.Perm.cons _ ((perm_at (j := 0) rfl).trans (List.Perm.cons _ (List.Perm.refl _)))))))) ?_
 refine ac ?_
 refine ac ?_
 refine wk6 4 5 7 8 9 45 rfl ?_
 refine Tr.cn rfl ?_ ?_ <;> intro h5 q5
 exact absurd h5 (by decide)
 refine ac ?_
 refine ac ?_
 refine co rfl (kc1 (w_ECheck (e := e2) hf2) rfl rfl) ?_
 refine ac ?_
 refine Tr.cn rfl ?_ ?_ <;> intro h6 q6
 exfalso; rw [if_pos hce2] at h6; exact absurd h6 (by decide)
 refine ac ?_
 refine Tr.seq (Tr.rx ?_)
 refine ay ?_
 refine xo rfl (fun _ => kc1 (w_CopyC (c := b) hbk) rfl rfl) ?_
 refine ay ?_
 refine Cx.nil ⟨by kernel_rfl, ?_⟩
 refine FinX.done al4 (Fin.go (wk3 4 5 6 rfl (Tr.ret (Fin.retX3 rfl (RVal.cell 3 rfl rfl agg32 sz32 rfl (Pr.le_refl _)) (RVal.cell 2 rfl rfl agg29 sz29 rfl (Pr.le_refl _)) (RVal.tmp rfl (Pr.le_refl _)) ?_))))
 refine tup_le ⟨?_, ?_, ?_, trivial⟩
 · exact Pr.le_refl _
 · exact Pr.le_refl _
 · exact Pr.le_refl _
end Go.Proofs.YtppeeogffbpcbaaGreat
namespace Go.Proofs.YtppeeogffbpcbaaGreat
open Go Go.RowKit Cp

abbrev AscI (l : List Int) : Prop := l.Pairwise (· < ·)
/-- How many are before x. -/
def posI (l : List Int) (x : Int) : Nat := (l.takeWhile fun y => decide (y < x)).length
theorem posI_le (l : List Int) (x : Int) : posI l x ≤ l.length := by
  unfold posI
  have h := List.takeWhile_append_dropWhile (p := fun y => decide (y < x)) (l := l)
  have := congrArg List.length h
  rw [List.length_append] at this; omega
theorem posI_eq {x : Int} : ∀ {l : List Int} {k : Nat}, k ≤ l.length → (∀ (j : Nat) y, j < k → l[j]? = some y → y < x) → (∀ y, l[k]? = some y → ¬ y < x) → posI l x = k
  | [], k, hk, _, _ => by have : k = 0 := by simpa using hk
                          subst this; rfl
  | y :: r, 0, _, _, h2 => by unfold posI; rw [List.takeWhile_cons_of_neg (by simpa using h2 y rfl)]; rfl
  | y :: r, k + 1, hk, h1, h2 => by
    have ih := posI_eq (l := r) (k := k) (by simpa using hk) (fun j z hj hz => h1 (j + 1) z (by omega) (by simpa using hz)) (fun z hz => h2 z (by simpa using hz))
    unfold posI at ih ⊢
    rw [List.takeWhile_cons_of_pos (by simpa using h1 0 y (by omega) rfl), List.length_cons, ih]
theorem posI_lt {x : Int} : ∀ {l : List Int} {j : Nat} {y : Int}, j < posI l x → l[j]? = some y → y < x
  | [], j, y, h, _ => by unfold posI at h; simp at h
  | z :: r, j, y, h, hy => by
    by_cases hz : z < x
    · cases j with
      | zero => simp at hy; subst hy; exact hz
      | succ j =>
        refine posI_lt (l := r) (j := j) ?_ (by simpa using hy)
        unfold posI at h ⊢
        rw [List.takeWhile_cons_of_pos (by simpa using hz), List.length_cons] at h; omega
    · unfold posI at h; rw [List.takeWhile_cons_of_neg (by simpa using hz)] at h; simp at h
theorem posI_ge {x : Int} : ∀ {l : List Int} {y : Int}, l[posI l x]? = some y → ¬ y < x
  | [], y, h => by simp at h
  | z :: r, y, h => by
    by_cases hz : z < x
    · unfold posI at h
      rw [List.takeWhile_cons_of_pos (by simpa using hz), List.length_cons, List.getElem?_cons_succ] at h
      exact posI_ge (l := r) h
    · unfold posI at h; rw [List.takeWhile_cons_of_neg (by simpa using hz)] at h; simp at h; subst h; exact hz
abbrev hasX (l : List Int) (x : Int) : Bool := (l[posI l x]?).any (fun y => decide (y = x))
abbrev insX (l : List Int) (x : Int) : List Int := l.take (posI l x) ++ [x] ++ l.drop (posI l x)
theorem ascI_lt {l : List Int} (hs : AscI l) {j k : Nat} {y z : Int} (hjk : j < k) (hy : l[j]? = some y) (hz : l[k]? = some z) : y < z := by
  have h1 := lt_of_at hy; have h2 := lt_of_at hz
  have := List.pairwise_iff_getElem.1 hs j k h1 h2 hjk
  rw [List.getElem?_eq_getElem h1] at hy; rw [List.getElem?_eq_getElem h2] at hz
  cases hy; cases hz; exact this
theorem bsI_lt {l : List Int} {x : Int} (hs : AscI l) {h : Nat} {y : Int} (hy : l[h]? = some y) (hyx : y < x) : ∀ (k : Nat) z, k < h + 1 → l[k]? = some z → z < x := by
  intro k z hk hz
  rcases Nat.lt_or_eq_of_le (Nat.le_of_lt_succ hk) with h1 | h1
  · have := ascI_lt hs h1 hz hy; omega
  · subst h1; rw [hy] at hz; cases hz; exact hyx
theorem bsI_ge {l : List Int} {x : Int} (hs : AscI l) {h : Nat} {y : Int} (hy : l[h]? = some y) (hyx : ¬ y < x) : ∀ (k : Nat) z, h ≤ k → l[k]? = some z → ¬ z < x := by
  intro k z hk hz hzx
  rcases Nat.lt_or_eq_of_le hk with h1 | h1
  · have := ascI_lt hs h1 hy hz; omega
  · subst h1; rw [hy] at hz; cases hz; exact hyx hzx
theorem hasX_end {l : List Int} {x : Int} {i : Nat} (hp : posI l x = i) (hi : l.length ≤ i) : hasX l x = false := by
  unfold hasX; rw [hp, List.getElem?_eq_none hi]; rfl
theorem hasX_at {l : List Int} {x : Int} {i : Nat} {y : Int} (hp : posI l x = i) (hy : l[i]? = some y) : hasX l x = decide (y = x) := by
  unfold hasX; rw [hp, hy]; rfl
theorem ascI_of {l : List Int} (h : ascB l = true) : AscI l := by
  unfold ascB at h; rw [allI_iff] at h
  have h1 : ∀ (d i : Nat) y z, l[i]? = some y → l[i + d + 1]? = some z → y < z := by
    intro d
    induction d with
    | zero =>
      intro i y z hy hz
      have := h (i + 1) (lt_of_at hz)
      unfold ascAt at this
      rw [getD_at (show l[i + 1]? = some z from hz), getD_at (show l[i + 1 - 1]? = some y from hy)] at this
      simpa using this
    | succ d ih =>
      intro i y z hy hz
      obtain ⟨m, hm⟩ := at_ (l := l) (k := i + d + 1) (by have := lt_of_at hz; omega)
      have a1 := ih i y m hy hm
      have := h (i + (d + 1) + 1) (lt_of_at hz)
      unfold ascAt at this
      rw [getD_at hz, getD_at (show l[i + (d + 1) + 1 - 1]? = some m from hm)] at this
      have : m < z := by simpa using this
      omega
  refine List.pairwise_iff_getElem.2 fun i j hi hj hij => ?_
  refine h1 (j - i - 1) i _ _ (List.getElem?_eq_getElem hi) ?_
  rw [show i + (j - i - 1) + 1 = j by omega]; exact List.getElem?_eq_getElem hj

theorem w_isNaNi {a : Int}  : Fun Tryz.prog 280 [int a] (bool false) := by
 refine fo Tryz.func280 rfl ⟨rfl, rfl⟩ fun M0 w0 => ?_
 refine ac ?_
 refine ac ?_
 refine ac ?_
 · refine bool_eq ?_; simp_all
theorem w_SisNaNi {a : Int}  : Fun Tryz.prog 292 [int a] (bool false) := by
 refine fo Tryz.func292 rfl ⟨rfl, rfl⟩ fun M0 w0 => ?_
 refine ac ?_
 refine ac ?_
 refine ac ?_
 · refine bool_eq ?_; simp_all
theorem w_lessI {a b : Int}  : Fun Tryz.prog 291 [int a, int b] (bool (decide (a < b))) := by
 refine fo Tryz.func291 rfl ⟨rfl, rfl⟩ fun M0 w0 => ?_
 refine ac ?_
 refine ac ?_
 refine co rfl (kc1 (w_isNaNi) rfl rfl) (cm rfl ?_)
 refine Ch.cs 7 rfl ?_ ?_ <;> intro h1 q1
 exact absurd h1 (by decide)
 refine ac ?_
 refine wk1 4 rfl ?_
 refine ac ?_
 · exact Pr.le_refl _
theorem w_BSP {l : List Int} {x : Int} (hs : AscI l) (hl : l.length ≤ 1000000) : Fun Tryz.prog 262 [ints l, int x] (tup [int ((posI l x : Nat) : Int), bool (hasX l x)]) := by
 refine fo Tryz.func262 rfl ⟨rfl, rfl⟩ fun M0 w0 => (Tr.lenm 0 rfl fun hlm_0 => ?_)
 refine ac ?_
 refine ac ?_
 refine ac ?_
 refine Tr.seq (Tr.block ?_)
 refine Tr.loopD2V0 [(0, _), (1, _), (6, _)] ⟨ke rfl, ke rfl, ke rfl, trivial⟩ (fun (i : Nat) (j : Nat) => [(7, int ((i : Nat) : Int)), (8, int ((j : Nat) : Int))]) (fun (i : Nat) (j : Nat) => Hp M0 w0 noS ([])) (fun (i : Nat) (j : Nat) => i ≤ j ∧ j ≤ l.length ∧ (∀ (k : Nat) y, k < i → l[k]? = some y → y < x) ∧ (∀ (k : Nat) y, j ≤ k → l[k]? = some y → ¬ y < x)) (fun (i : Nat) (j : Nat) => j - i) (0) (l.length)  (⟨Nat.zero_le _, Nat.le_refl _, fun k y h => absurd h (Nat.not_lt_zero _), fun k y h1 h2 => by rw [List.getElem?_eq_none h1] at h2; cases h2⟩) ⟨ke rfl, ke rfl, trivial⟩ (fun _ _ h => h) ?_
 rintro i j  ⟨hi1, hi2, hi3, hi4⟩
 refine ac ?_
 refine Tr.cn rfl ?_ ?_ <;> intro h1 q1
 have hij : i < j := by have := of_decide_eq_true h1; omega
 obtain ⟨y, hyn⟩ := at_ (l := l) (k := (i + j) / 2) (by omega)
 have hy : l[((((i : Nat) : Int) + ((j : Nat) : Int)) / 2).toNat]? = some y := by rw [show ((((i : Nat) : Int) + ((j : Nat) : Int)) / 2).toNat = (i + j) / 2 by omega]; exact hyn
 refine ac ?_
 refine ac ?_
 refine co rfl (ok_convU rfl Tryz.underlying3 Tryz.underlying251 (vl rfl) (by omega) (by omega)) (co rfl (ok_half rfl (vl rfl) (vl rfl) (by omega)) ?_)
 refine co rfl (ok_convI rfl Tryz.underlying251 Tryz.underlying3 (vl rfl) (by unfold InI; omega)) ?_
 refine ac ?_
 refine wk6 0 1 6 7 8 9 rfl ?_
 refine ac ?_
 refine co rfl (ok_indexAddr rfl Tryz.underlying22 sz3 (vl rfl) (vl rfl) (by omega) (row_atI (f := fun n : Int => [int n]) hy)) ?_
 refine ac ?_
 refine co rfl (kc2 (w_lessI) rfl rfl rfl) ?_
 refine ac ?_
 refine Tr.cn rfl ?_ ?_ <;> intro h2 q2
 have hlt := of_decide_eq_true h2
 refine ac ?_
 exact Fin.famD2V0 ((i + j) / 2 + 1) (j)  (⟨⟨by omega, by omega, bsI_lt hs hyn hlt, hi4⟩, by omega⟩) ⟨⟨_, rfl, int_eq (by omega)⟩, ⟨_, rfl, int_eq (by omega)⟩, ke rfl, ke rfl, ke rfl, trivial⟩ (fun _ _ h => h)
 have hlt := of_decide_eq_false h2
 refine ac ?_
 exact Fin.famD2V0 (i) ((i + j) / 2)  (⟨⟨by omega, by omega, hi3, bsI_ge hs hyn hlt⟩, by omega⟩) ⟨⟨_, rfl, int_eq (by omega)⟩, ⟨_, rfl, int_eq (by omega)⟩, ke rfl, ke rfl, ke rfl, trivial⟩ (fun _ _ h => h)
 obtain rfl : i = j := (by have := of_decide_eq_false h1; omega)
 have hp : posI l x = i := posI_eq (by omega) hi3 (fun y hy => hi4 i y (by omega) hy)
 refine ac ?_
 refine ac ?_
 refine Ch.cs 35 rfl ?_ ?_ <;> intro h3 q3
 obtain ⟨y, hyi⟩ := at_ (l := l) (k := i) (by have := q3; simp at this; omega)
 refine ac ?_
 refine cy h3 rfl (ok_indexAddr rfl Tryz.underlying22 sz3 (vl rfl) (vl rfl) (by omega) (row_atI (f := fun n : Int => [int n]) (by rw [Int.toNat_natCast]; exact hyi))) ?_
 refine ac ?_
 refine Ch.cs 42 rfl ?_ ?_ <;> intro h4 q4
 refine ac ?_
 refine wk2 4 5 rfl (Tr.ret (Fin.ret2 rfl (OutW.bse _ _) rfl ?_ rfl ?_))
 · exact int_eq (by rw [hp])
 · refine bool_eq ?_; rw [hasX_at hp hyi]; symm; rw [decide_eq_true_eq]; simp_all
 refine ac ?_
 refine cy h4 rfl (ok_indexAddr rfl Tryz.underlying22 sz3 (vl rfl) (vl rfl) (by omega) (row_atI (f := fun n : Int => [int n]) (by rw [Int.toNat_natCast]; exact hyi))) ?_
 refine cy h4 rfl (kl1 rfl one3 rfl) (cy h4 rfl (kc1 (w_SisNaNi) rfl rfl) (cym h4 rfl ?_))
 refine Ch.cs 48 rfl ?_ ?_ <;> intro h5 q5
 exact absurd h5 (by decide)
 refine ac ?_
 refine wk2 4 5 rfl (Tr.ret (Fin.ret2 rfl (OutW.bse _ _) rfl ?_ rfl ?_))
 · exact int_eq (by rw [hp])
 · refine bool_eq ?_; rw [hasX_at hp hyi]; symm; rw [decide_eq_false_iff_not]; simp_all
 refine ac ?_
 refine wk2 4 5 rfl (Tr.ret (Fin.ret2 rfl (OutW.bse _ _) rfl ?_ rfl ?_))
 · exact int_eq (by rw [hp])
 · refine bool_eq ?_; rw [hasX_end hp (by omega)]
theorem w_BSWi {l : List Int} {x : Int} {v : Value} (hs : AscI l) (hl : l.length ≤ 1000000) : FunM Tryz.prog 262 [is v, int x] (tup [int ((posI l x : Nat) : Int), bool (hasX l x)]) (oweRes 3 1 (l.map fun n => [int n]) v) (fun _ => oweRes 3 1 (l.map fun n => [int n]) v) := FunM.owe_pure (map_rows fun _ => rfl) (w_BSP hs hl)

end Go.Proofs.YtppeeogffbpcbaaGreat
namespace Go.Proofs.YtppeeogffbpcbaaGreat
open Go Go.RowKit Cp
theorem w_insIBad {e : Ept} {x at_ : Int} {ob : Nat} {v : Value} {p5 p6 p7 : Pr}  (hr : ¬ (0 ≤ at_ ∧ at_ ≤ (e.suites.length : Nat))) : FunD Tryz.prog 206 [ptr ob 3, int at_, int x] [resO ob e (is v) p5 p6 p7, oweRes 3 1 (e.suites.map fun n => [int n]) v] (int 2) [] := by
 refine FunD.of Tryz.func206 rfl rfl (by exact Nat.le_of_ble_eq_true rfl) fun M0 w0 S rs M1 w1 => (Tr.seq ?_)
 have hml : (e.suites.map fun n => [int n]).length = e.suites.length := List.length_map _
 refine ac ?_
 refine ac ?_
 refine Ch.cs 9 rfl ?_ ?_ <;> intro h1 q1
 have hq9 := q1
 refine ac ?_
 refine ac ?_
 refine Tr.ret (Fin.then_ret (Fin.drop 0 (Fin.drop 0 (Fin.retD rfl (RVal.tmp rfl (Pr.le_refl _)) ?_ (List.Perm.refl _)))))
 · exact Pr.le_refl _
 refine ac ?_
 refine cy h1 rfl (ok_rd 1 rfl (rd_lenW rfl Tryz.underlying22 (vl rfl))) ?_
 refine ac ?_
 refine Tr.cn rfl ?_ ?_ <;> intro h2 q2
 refine ac ?_
 refine Tr.ret (Fin.then_ret (Fin.drop 0 (Fin.drop 0 (Fin.retD rfl (RVal.tmp rfl (Pr.le_refl _)) ?_ (List.Perm.refl _)))))
 · exact Pr.le_refl _
 exfalso; simp_all
theorem w_insIOk {e : Ept} {x at_ : Int} {ob : Nat} {v : Value} {p5 p6 p7 : Pr}  (hr : 0 ≤ at_ ∧ at_ ≤ (e.suites.length : Nat)) (hl : e.suites.length ≤ 1000000) : FunD Tryz.prog 206 [ptr ob 3, int at_, int x] [resO ob e (is v) p5 p6 p7, oweRes 3 1 (e.suites.map fun n => [int n]) v] (int 0) [resO ob e (ints (e.suites.take at_.toNat ++ [x] ++ e.suites.drop at_.toNat)) p5 p6 p7] := by
 refine FunD.of Tryz.func206 rfl rfl (by exact Nat.le_of_ble_eq_true rfl) fun M0 w0 S rs M1 w1 => (Tr.seq ?_)
 have hml : (e.suites.map fun n => [int n]).length = e.suites.length := List.length_map _
 refine ac ?_
 refine ac ?_
 refine Ch.cs 9 rfl ?_ ?_ <;> intro h1 q1
 exfalso; have := q1; omega
 refine ac ?_
 refine cy h1 rfl (ok_rd 1 rfl (rd_lenW rfl Tryz.underlying22 (vl rfl))) ?_
 refine ac ?_
 refine Tr.cn rfl ?_ ?_ <;> intro h2 q2
 exfalso; simp_all; omega
 refine ac ?_
 refine ap ?_
 refine TO.efc 1 rfl rfl (by decide) (ef_callc rfl rfl (by decide) rfl (w_InsWi (l := e.suites) (x := x) (i := at_.toNat) (by omega) hl) ⟨ke rfl, ⟨_, rfl, int_eq (by omega)⟩, ⟨_, rfl, full_le _ _⟩, trivial⟩) ?_
 refine ap ?_
 refine Tr.weak [] trivial ?_
 refine ac ?_
 refine Tr.ret (Fin.drop 1 (Fin.retD rfl (RVal.tmp rfl (Pr.le_refl _)) ?_ (List.Perm.refl _)))
 · exact Pr.le_refl _
theorem w_addSuiteR {e : Ept} {c b : Chg} {wb ob : Nat} {v : Value} {p5 p6 p7 : Pr}  (hr : ¬ (0 ≤ c.at_ ∧ c.at_ ≤ (e.suites.length : Nat))) : FunD Tryz.prog 167 [ptr wb 0] [resW wb ob c b, resO ob e (is v) p5 p6 p7, oweRes 3 1 (e.suites.map fun n => [int n]) v] (int 2) [] := by
 refine FunD.of Tryz.func167 rfl rfl (by exact Nat.le_of_ble_eq_true rfl) fun M0 w0 S rs M1 w1 => ?_
 refine ac ?_
 refine Tr.seq (Tr.rx ?_)
 refine ay ?_
 refine Cx.ef 2 rfl rfl (by decide) (ef_callc rfl rfl (by decide) rfl (w_HasWi (l := e.suites)) ⟨ke rfl, ke rfl, trivial⟩) ?_
 refine xm rfl ?_
 refine Cx.nil ⟨by kernel_rfl, ?_⟩
 refine FinX.done al4 (Fin.go (wk2 0 3 rfl (Tr.seq (Tr.seq (Tr.regOne mixed 16 (by kernel_rfl) (ChOne.op rfl rfl (by decide) (ok_move rfl (vl rfl)) (ChOne.op rfl rfl (by decide) (okp_nilCheck rfl (vl rfl)) (ChOne.op rfl rfl (by decide) (okp_fieldAddr rfl fo159_0 (vl rfl)) (ChOne.op rfl rfl (by decide) (ok_rd 0 rfl (rd_load1 rfl one157 (vl rfl) rfl)) (ChOne.op rfl rfl (by decide) (okp_nilCheck rfl (vl rfl)) (ChOne.op rfl rfl (by decide) (okp_fieldAddr rfl fo32_3 (vl rfl)) (ChOne.op rfl rfl (by decide) (ok_move rfl (vl rfl)) (ChOne.op rfl rfl (by decide) (okp_nilCheck rfl (vl rfl)) ?_)))))))))))))
 refine ChOne.op rfl rfl (by decide) (okp_fieldAddr rfl fo159_1 (vl rfl)) (ChOne.op rfl rfl (by decide) (okp_fieldAddr rfl fo29_3 (vl rfl)) (ChOne.op rfl rfl (by decide) (ok_rd 0 rfl (rd_load1 rfl one3 (vl rfl) rfl)) (ChOne.op rfl rfl (by decide) (ok_move rfl (vl rfl)) (ChOne.op rfl rfl (by decide) (okp_nilCheck rfl (vl rfl)) (ChOne.op rfl rfl (by decide) (okp_fieldAddr rfl fo159_1 (vl rfl)) (ChOne.op rfl rfl (by decide) (okp_fieldAddr rfl fo29_2 (vl rfl)) (ChOne.op rfl rfl (by decide) (ok_rd 0 rfl (rd_load1 rfl one3 (vl rfl) rfl)) ?_)))))))
 refine ChOne.turn _ rfl (by decide) (turn_call _ rfl rfl (w_insIBad (e := e) (x := c.number) (at_ := c.at_) hr) ⟨ke rfl, ke rfl, ke rfl, trivial⟩ ((perm_at (j := 1) rfl).trans (List.Perm.cons _ ((perm_at (j := 1) rfl).trans (List.Perm.cons _ (List.Perm.refl _)))))) ?_
 refine ac ?_
 refine wk3 0 3 4 rfl ?_
 refine ac ?_
 refine Tr.cn rfl ?_ ?_ <;> intro h1 q1
 refine ac ?_
 refine Tr.ret (Fin.then_ret (Fin.drop 0 (Fin.retD rfl (RVal.tmp rfl (Pr.le_refl _)) ?_ (List.Perm.refl _))))
 · exact Pr.le_refl _
 exact absurd h1 (by decide)
theorem w_addSuiteT {e : Ept} {c b : Chg} {wb ob : Nat} {v : Value} {p5 p6 p7 : Pr}  (hr : 0 ≤ c.at_ ∧ c.at_ ≤ (e.suites.length : Nat)) (hl : e.suites.length ≤ 1000000) (h : (e.suites.any fun y => c.number == y) = true) : FunD Tryz.prog 167 [ptr wb 0] [resW wb ob c b, resO ob e (is v) p5 p6 p7, oweRes 3 1 (e.suites.map fun n => [int n]) v] (int 41) [] := by
 refine FunD.of Tryz.func167 rfl rfl (by exact Nat.le_of_ble_eq_true rfl) fun M0 w0 S rs M1 w1 => ?_
 refine ac ?_
 refine Tr.seq (Tr.rx ?_)
 refine ay ?_
 refine Cx.ef 2 rfl rfl (by decide) (ef_callc rfl rfl (by decide) rfl (w_HasWi (l := e.suites)) ⟨ke rfl, ke rfl, trivial⟩) ?_
 refine xm rfl ?_
 refine Cx.nil ⟨by kernel_rfl, ?_⟩
 refine FinX.done al4 (Fin.go (wk2 0 3 rfl (Tr.seq (Tr.seq (Tr.regOne mixed 16 (by kernel_rfl) (ChOne.op rfl rfl (by decide) (ok_move rfl (vl rfl)) (ChOne.op rfl rfl (by decide) (okp_nilCheck rfl (vl rfl)) (ChOne.op rfl rfl (by decide) (okp_fieldAddr rfl fo159_0 (vl rfl)) (ChOne.op rfl rfl (by decide) (ok_rd 0 rfl (rd_load1 rfl one157 (vl rfl) rfl)) (ChOne.op rfl rfl (by decide) (okp_nilCheck rfl (vl rfl)) (ChOne.op rfl rfl (by decide) (okp_fieldAddr rfl fo32_3 (vl rfl)) (ChOne.op rfl rfl (by decide) (ok_move rfl (vl rfl)) (ChOne.op rfl rfl (by decide) (okp_nilCheck rfl (vl rfl)) ?_)))))))))))))
 refine ChOne.op rfl rfl (by decide) (okp_fieldAddr rfl fo159_1 (vl rfl)) (ChOne.op rfl rfl (by decide) (okp_fieldAddr rfl fo29_3 (vl rfl)) (ChOne.op rfl rfl (by decide) (ok_rd 0 rfl (rd_load1 rfl one3 (vl rfl) rfl)) (ChOne.op rfl rfl (by decide) (ok_move rfl (vl rfl)) (ChOne.op rfl rfl (by decide) (okp_nilCheck rfl (vl rfl)) (ChOne.op rfl rfl (by decide) (okp_fieldAddr rfl fo159_1 (vl rfl)) (ChOne.op rfl rfl (by decide) (okp_fieldAddr rfl fo29_2 (vl rfl)) (ChOne.op rfl rfl (by decide) (ok_rd 0 rfl (rd_load1 rfl one3 (vl rfl) rfl)) ?_)))))))
 refine ChOne.turn _ rfl (by decide) (turn_call _ rfl rfl (w_insIOk (e := e) (x := c.number) (at_ := c.at_) hr hl) ⟨ke rfl, ke rfl, ke rfl, trivial⟩ ((perm_at (j := 1) rfl).trans (List.Perm.cons _ ((perm_at (j := 1) rfl).trans (List.Perm.cons _ (List.Perm.refl _)))))) ?_
 refine ac ?_
 refine wk3 0 3 4 rfl ?_
 refine ac ?_
 refine Tr.cn rfl ?_ ?_ <;> intro h1 q1
 exact absurd h1 (by decide)
 refine ac ?_
 refine ac ?_
 refine Tr.cn rfl ?_ ?_ <;> intro h2 q2
 refine ac ?_
 refine Tr.ret (Fin.then_ret (Fin.drop 0 (Fin.drop 0 (Fin.retD rfl (RVal.tmp rfl (Pr.le_refl _)) ?_ (List.Perm.refl _)))))
 · exact Pr.le_refl _
 rw [h] at h2; exact absurd h2 (by decide)
theorem w_addSuiteY {e : Ept} {c b : Chg} {wb ob : Nat} {v : Value} {p5 p6 p7 : Pr}  (hr : 0 ≤ c.at_ ∧ c.at_ ≤ (e.suites.length : Nat)) (hl : e.suites.length ≤ 1000000) (h : (e.suites.any fun y => c.number == y) = false) : FunD Tryz.prog 167 [ptr wb 0] [resW wb ob c b, resO ob e (is v) p5 p6 p7, oweRes 3 1 (e.suites.map fun n => [int n]) v] (int 0) [resO ob e (ints (e.suites.take c.at_.toNat ++ [c.number] ++ e.suites.drop c.at_.toNat)) p5 p6 p7, resW wb ob c ⟨b.endpoint, 2, c.number, b.at_, b.idn⟩] := by
 refine FunD.of Tryz.func167 rfl rfl (by exact Nat.le_of_ble_eq_true rfl) fun M0 w0 S rs M1 w1 => ?_
 refine ac ?_
 refine Tr.seq (Tr.rx ?_)
 refine ay ?_
 refine Cx.ef 2 rfl rfl (by decide) (ef_callc rfl rfl (by decide) rfl (w_HasWi (l := e.suites)) ⟨ke rfl, ke rfl, trivial⟩) ?_
 refine xm rfl ?_
 refine Cx.nil ⟨by kernel_rfl, ?_⟩
 refine FinX.done al4 (Fin.go (wk2 0 3 rfl (Tr.seq (Tr.seq (Tr.regOne mixed 16 (by kernel_rfl) (ChOne.op rfl rfl (by decide) (ok_move rfl (vl rfl)) (ChOne.op rfl rfl (by decide) (okp_nilCheck rfl (vl rfl)) (ChOne.op rfl rfl (by decide) (okp_fieldAddr rfl fo159_0 (vl rfl)) (ChOne.op rfl rfl (by decide) (ok_rd 0 rfl (rd_load1 rfl one157 (vl rfl) rfl)) (ChOne.op rfl rfl (by decide) (okp_nilCheck rfl (vl rfl)) (ChOne.op rfl rfl (by decide) (okp_fieldAddr rfl fo32_3 (vl rfl)) (ChOne.op rfl rfl (by decide) (ok_move rfl (vl rfl)) (ChOne.op rfl rfl (by decide) (okp_nilCheck rfl (vl rfl)) ?_)))))))))))))
 refine ChOne.op rfl rfl (by decide) (okp_fieldAddr rfl fo159_1 (vl rfl)) (ChOne.op rfl rfl (by decide) (okp_fieldAddr rfl fo29_3 (vl rfl)) (ChOne.op rfl rfl (by decide) (ok_rd 0 rfl (rd_load1 rfl one3 (vl rfl) rfl)) (ChOne.op rfl rfl (by decide) (ok_move rfl (vl rfl)) (ChOne.op rfl rfl (by decide) (okp_nilCheck rfl (vl rfl)) (ChOne.op rfl rfl (by decide) (okp_fieldAddr rfl fo159_1 (vl rfl)) (ChOne.op rfl rfl (by decide) (okp_fieldAddr rfl fo29_2 (vl rfl)) (ChOne.op rfl rfl (by decide) (ok_rd 0 rfl (rd_load1 rfl one3 (vl rfl) rfl)) ?_)))))))
 refine ChOne.turn _ rfl (by decide) (turn_call _ rfl rfl (w_insIOk (e := e) (x := c.number) (at_ := c.at_) hr hl) ⟨ke rfl, ke rfl, ke rfl, trivial⟩ ((perm_at (j := 1) rfl).trans (List.Perm.cons _ ((perm_at (j := 1) rfl).trans (List.Perm.cons _ (List.Perm.refl _)))))) ?_
 refine ac ?_
 refine wk3 0 3 4 rfl ?_
 refine ac ?_
 refine Tr.cn rfl ?_ ?_ <;> intro h1 q1
 exact absurd h1 (by decide)
 refine ac ?_
 refine ac ?_
 refine Tr.cn rfl ?_ ?_ <;> intro h2 q2
 rw [h] at h2; exact absurd h2 (by decide)
 refine ac ?_
 refine ap ?_
 refine Tr.weak [] trivial ?_
 refine ac ?_
 refine Tr.ret (Fin.retD rfl (RVal.tmp rfl (Pr.le_refl _)) ?_ (List.Perm.refl _))
 · exact Pr.le_refl _
theorem hasX_lt {l : List Int} {x : Int} (h : hasX l x = true) : posI l x < l.length := by
  by_cases hp : posI l x < l.length
  · exact hp
  · unfold hasX at h; rw [List.getElem?_eq_none (by omega)] at h; cases h
theorem w_add6T {e : Ept} {c b : Chg} {wb ob : Nat} {v : Value} {p3 p5 p7 : Pr} {bk : Int}  (hs : AscI e.anchors) (hl : e.anchors.length ≤ 1000000) (h : hasX e.anchors c.number = true) : FunD Tryz.prog 215 [ptr wb 0, ptr ob 6, int bk] [resW wb ob c b, resO ob e p3 p5 (is v) p7, oweRes 3 1 (e.anchors.map fun n => [int n]) v] (int 41) [] := by
 refine FunD.of Tryz.func215 rfl rfl (by exact Nat.le_of_ble_eq_true rfl) fun M0 w0 S rs M1 w1 => ?_
 refine ac ?_
 refine Tr.seq (Tr.rx ?_)
 refine ay ?_
 refine Cx.ef 2 rfl rfl (by decide) (ef_callc rfl rfl (by decide) rfl (w_BSWi (l := e.anchors) hs hl) ⟨ke rfl, ke rfl, trivial⟩) ?_
 refine ay ?_
 refine Cx.nil ⟨by kernel_rfl, ?_⟩
 refine FinX.done al4 (Fin.go (wk5 0 1 2 7 8 rfl ?_))
 refine ac ?_
 refine Tr.cn rfl ?_ ?_ <;> intro h1 q1
 refine ac ?_
 refine Tr.ret (Fin.then_ret (Fin.drop 0 (Fin.drop 0 (Fin.drop 0 (Fin.retD rfl (RVal.tmp rfl (Pr.le_refl _)) ?_ (List.Perm.refl _))))))
 · exact Pr.le_refl _
 rw [h] at h1; exact absurd h1 (by decide)
theorem w_addAnchorT {e : Ept} {c b : Chg} {wb ob : Nat} {v : Value} {p3 p5 p7 : Pr}  (hs : AscI e.anchors) (hl : e.anchors.length ≤ 1000000) (h : hasX e.anchors c.number = true) : FunD Tryz.prog 173 [ptr wb 0] [resW wb ob c b, resO ob e p3 p5 (is v) p7, oweRes 3 1 (e.anchors.map fun n => [int n]) v] (int 41) [] := by
 refine FunD.of Tryz.func173 rfl rfl (by exact Nat.le_of_ble_eq_true rfl) fun M0 w0 S rs M1 w1 => ?_
 refine ac ?_
 refine ap ?_
 refine TO.callD _ rfl rfl (by decide) rfl (w_add6T (e := e) (c := c) (b := b) hs hl h) ⟨ke rfl, ke rfl, ke rfl, trivial⟩ ((perm_at (j := 0) rfl).trans (List.Perm.cons _ ((perm_at (j := 0) rfl).trans (List.Perm.cons _ ((perm_at (j := 0) rfl).trans (List.Perm.cons _ (List.Perm.refl _))))))) ?_
 refine ap ?_
 refine Tr.ret (Fin.retD rfl (RVal.tmp rfl (Pr.le_refl _)) ?_ (List.Perm.refl _))
 · exact Pr.le_refl _
theorem w_add6Y {e : Ept} {c b : Chg} {wb ob : Nat} {v : Value} {p3 p5 p7 : Pr} {bk : Int}  (hs : AscI e.anchors) (hl : e.anchors.length ≤ 1000000) (h : hasX e.anchors c.number = false) : FunD Tryz.prog 215 [ptr wb 0, ptr ob 6, int bk] [resW wb ob c b, resO ob e p3 p5 (is v) p7, oweRes 3 1 (e.anchors.map fun n => [int n]) v] (int 0) [resW wb ob c ⟨b.endpoint, bk, c.number, b.at_, b.idn⟩, resO ob e p3 p5 (ints (insX e.anchors c.number)) p7] := by
 refine FunD.of Tryz.func215 rfl rfl (by exact Nat.le_of_ble_eq_true rfl) fun M0 w0 S rs M1 w1 => ?_
 refine ac ?_
 refine Tr.seq (Tr.rx ?_)
 refine ay ?_
 refine Cx.ef 2 rfl rfl (by decide) (ef_callc rfl rfl (by decide) rfl (w_BSWi (l := e.anchors) hs hl) ⟨ke rfl, ke rfl, trivial⟩) ?_
 refine ay ?_
 refine Cx.nil ⟨by kernel_rfl, ?_⟩
 refine FinX.done al4 (Fin.go (wk5 0 1 2 7 8 rfl ?_))
 refine ac ?_
 refine Tr.cn rfl ?_ ?_ <;> intro h1 q1
 rw [h] at h1; exact absurd h1 (by decide)
 refine ac ?_
 refine Tr.seq (Tr.rx ?_)
 refine ay ?_
 refine xo rfl (fun _ => ok_buildSlice (xs := [.tmp 31]) (rows := [[_]]) rfl rfl Tryz.underlying22 sz3 z3 rfl (by decide) ⟨⟨(by exact rfl), (VL.le (vl rfl) (one_cellsP _))⟩, trivial⟩ (by decide)) ?_
 refine Cx.ef 2 rfl rfl (by decide) (ef_callc rfl rfl (by decide) rfl (w_InsWi (l := e.anchors) (x := c.number) (i := posI e.anchors c.number) (posI_le _ _) hl) ⟨ke rfl, ke rfl, ⟨_, rfl, full_le _ _⟩, trivial⟩) ?_
 refine ay ?_
 refine Cx.nil ⟨by kernel_rfl, ?_⟩
 refine FinX.done al4 (Fin.go (wk2 0 2 rfl ?_))
 refine ap ?_
 refine Tr.weak [] trivial ?_
 refine ac ?_
 refine Tr.ret (Fin.drop 2 (Fin.retD rfl (RVal.tmp rfl (Pr.le_refl _)) ?_ (List.Perm.refl _)))
 · exact Pr.le_refl _
theorem w_addAnchorY {e : Ept} {c b : Chg} {wb ob : Nat} {v : Value} {p3 p5 p7 : Pr}  (hs : AscI e.anchors) (hl : e.anchors.length ≤ 1000000) (h : hasX e.anchors c.number = false) : FunD Tryz.prog 173 [ptr wb 0] [resW wb ob c b, resO ob e p3 p5 (is v) p7, oweRes 3 1 (e.anchors.map fun n => [int n]) v] (int 0) [resW wb ob c ⟨b.endpoint, 8, c.number, b.at_, b.idn⟩, resO ob e p3 p5 (ints (insX e.anchors c.number)) p7] := by
 refine FunD.of Tryz.func173 rfl rfl (by exact Nat.le_of_ble_eq_true rfl) fun M0 w0 S rs M1 w1 => ?_
 refine ac ?_
 refine ap ?_
 refine TO.callD _ rfl rfl (by decide) rfl (w_add6Y (e := e) (c := c) (b := b) hs hl h) ⟨ke rfl, ke rfl, ke rfl, trivial⟩ ((perm_at (j := 0) rfl).trans (List.Perm.cons _ ((perm_at (j := 0) rfl).trans (List.Perm.cons _ ((perm_at (j := 0) rfl).trans (List.Perm.cons _ (List.Perm.refl _))))))) ?_
 refine ap ?_
 refine Tr.ret (Fin.retD rfl (RVal.tmp rfl (Pr.le_refl _)) ?_ (List.Perm.refl _))
 · exact Pr.le_refl _
theorem w_drop6T {e : Ept} {c b : Chg} {wb ob : Nat} {v : Value} {p3 p5 p7 : Pr} {bk : Int}  (hs : AscI e.anchors) (hl : e.anchors.length ≤ 1000000) (h : hasX e.anchors c.number = false) : FunD Tryz.prog 216 [ptr wb 0, ptr ob 6, int bk] [resW wb ob c b, resO ob e p3 p5 (is v) p7, oweRes 3 1 (e.anchors.map fun n => [int n]) v] (int 41) [] := by
 refine FunD.of Tryz.func216 rfl rfl (by exact Nat.le_of_ble_eq_true rfl) fun M0 w0 S rs M1 w1 => ?_
 refine ac ?_
 refine Tr.seq (Tr.rx ?_)
 refine ay ?_
 refine Cx.ef 2 rfl rfl (by decide) (ef_callc rfl rfl (by decide) rfl (w_BSWi (l := e.anchors) hs hl) ⟨ke rfl, ke rfl, trivial⟩) ?_
 refine ay ?_
 refine Cx.nil ⟨by kernel_rfl, ?_⟩
 refine FinX.done al4 (Fin.go (wk5 0 1 2 7 8 rfl ?_))
 refine ac ?_
 refine Tr.cn rfl ?_ ?_ <;> intro h1 q1
 refine ac ?_
 refine Tr.ret (Fin.then_ret (Fin.drop 0 (Fin.drop 0 (Fin.drop 0 (Fin.retD rfl (RVal.tmp rfl (Pr.le_refl _)) ?_ (List.Perm.refl _))))))
 · exact Pr.le_refl _
 rw [h] at h1; exact absurd h1 (by decide)
theorem w_dropAnchorT {e : Ept} {c b : Chg} {wb ob : Nat} {v : Value} {p3 p5 p7 : Pr}  (hs : AscI e.anchors) (hl : e.anchors.length ≤ 1000000) (h : hasX e.anchors c.number = false) : FunD Tryz.prog 174 [ptr wb 0] [resW wb ob c b, resO ob e p3 p5 (is v) p7, oweRes 3 1 (e.anchors.map fun n => [int n]) v] (int 41) [] := by
 refine FunD.of Tryz.func174 rfl rfl (by exact Nat.le_of_ble_eq_true rfl) fun M0 w0 S rs M1 w1 => ?_
 refine ac ?_
 refine ap ?_
 refine TO.callD _ rfl rfl (by decide) rfl (w_drop6T (e := e) (c := c) (b := b) hs hl h) ⟨ke rfl, ke rfl, ke rfl, trivial⟩ ((perm_at (j := 0) rfl).trans (List.Perm.cons _ ((perm_at (j := 0) rfl).trans (List.Perm.cons _ ((perm_at (j := 0) rfl).trans (List.Perm.cons _ (List.Perm.refl _))))))) ?_
 refine ap ?_
 refine Tr.ret (Fin.retD rfl (RVal.tmp rfl (Pr.le_refl _)) ?_ (List.Perm.refl _))
 · exact Pr.le_refl _
theorem w_drop6Y {e : Ept} {c b : Chg} {wb ob : Nat} {v : Value} {p3 p5 p7 : Pr} {bk : Int}  (hs : AscI e.anchors) (hl : e.anchors.length ≤ 1000000) (h : hasX e.anchors c.number = true) : FunD Tryz.prog 216 [ptr wb 0, ptr ob 6, int bk] [resW wb ob c b, resO ob e p3 p5 (is v) p7, oweRes 3 1 (e.anchors.map fun n => [int n]) v] (int 0) [resW wb ob c ⟨b.endpoint, bk, c.number, b.at_, b.idn⟩, resO ob e p3 p5 (ints (e.anchors.eraseIdx (posI e.anchors c.number))) p7] := by
 refine FunD.of Tryz.func216 rfl rfl (by exact Nat.le_of_ble_eq_true rfl) fun M0 w0 S rs M1 w1 => ?_
 have hlt_ := hasX_lt h
 refine ac ?_
 refine Tr.seq (Tr.rx ?_)
 refine ay ?_
 refine Cx.ef 2 rfl rfl (by decide) (ef_callc rfl rfl (by decide) rfl (w_BSWi (l := e.anchors) hs hl) ⟨ke rfl, ke rfl, trivial⟩) ?_
 refine ay ?_
 refine Cx.nil ⟨by kernel_rfl, ?_⟩
 refine FinX.done al4 (Fin.go (wk5 0 1 2 7 8 rfl ?_))
 refine ac ?_
 refine Tr.cn rfl ?_ ?_ <;> intro h1 q1
 rw [h] at h1; exact absurd h1 (by decide)
 refine ac ?_
 refine ap ?_
 refine TO.efc 2 rfl rfl (by decide) (ef_callc rfl rfl (by decide) rfl (w_DelWi (l := e.anchors) (i := posI e.anchors c.number) (hasX_lt h) hl) ⟨ke rfl, ⟨_, rfl, int_eq (by omega)⟩, ⟨_, rfl, int_eq (by omega)⟩, trivial⟩) ?_
 refine ap ?_
 refine wk2 0 2 rfl ?_
 refine ap ?_
 refine Tr.weak [] trivial ?_
 refine ac ?_
 refine Tr.ret (Fin.drop 2 (Fin.retD rfl (RVal.tmp rfl (Pr.le_refl _)) ?_ (List.Perm.refl _)))
 · exact Pr.le_refl _
theorem w_dropAnchorY {e : Ept} {c b : Chg} {wb ob : Nat} {v : Value} {p3 p5 p7 : Pr}  (hs : AscI e.anchors) (hl : e.anchors.length ≤ 1000000) (h : hasX e.anchors c.number = true) : FunD Tryz.prog 174 [ptr wb 0] [resW wb ob c b, resO ob e p3 p5 (is v) p7, oweRes 3 1 (e.anchors.map fun n => [int n]) v] (int 0) [resW wb ob c ⟨b.endpoint, 7, c.number, b.at_, b.idn⟩, resO ob e p3 p5 (ints (e.anchors.eraseIdx (posI e.anchors c.number))) p7] := by
 refine FunD.of Tryz.func174 rfl rfl (by exact Nat.le_of_ble_eq_true rfl) fun M0 w0 S rs M1 w1 => ?_
 refine ac ?_
 refine ap ?_
 refine TO.callD _ rfl rfl (by decide) rfl (w_drop6Y (e := e) (c := c) (b := b) hs hl h) ⟨ke rfl, ke rfl, ke rfl, trivial⟩ ((perm_at (j := 0) rfl).trans (List.Perm.cons _ ((perm_at (j := 0) rfl).trans (List.Perm.cons _ ((perm_at (j := 0) rfl).trans (List.Perm.cons _ (List.Perm.refl _))))))) ?_
 refine ap ?_
 refine Tr.ret (Fin.retD rfl (RVal.tmp rfl (Pr.le_refl _)) ?_ (List.Perm.refl _))
 · exact Pr.le_refl _
theorem w_add7T {e : Ept} {c b : Chg} {wb ob : Nat} {v : Value} {p3 p5 p6 : Pr} {bk : Int}  (hs : AscI e.hashes) (hl : e.hashes.length ≤ 1000000) (h : hasX e.hashes c.number = true) : FunD Tryz.prog 215 [ptr wb 0, ptr ob 7, int bk] [resW wb ob c b, resO ob e p3 p5 p6 (is v), oweRes 3 1 (e.hashes.map fun n => [int n]) v] (int 41) [] := by
 refine FunD.of Tryz.func215 rfl rfl (by exact Nat.le_of_ble_eq_true rfl) fun M0 w0 S rs M1 w1 => ?_
 refine ac ?_
 refine Tr.seq (Tr.rx ?_)
 refine ay ?_
 refine Cx.ef 2 rfl rfl (by decide) (ef_callc rfl rfl (by decide) rfl (w_BSWi (l := e.hashes) hs hl) ⟨ke rfl, ke rfl, trivial⟩) ?_
 refine ay ?_
 refine Cx.nil ⟨by kernel_rfl, ?_⟩
 refine FinX.done al4 (Fin.go (wk5 0 1 2 7 8 rfl ?_))
 refine ac ?_
 refine Tr.cn rfl ?_ ?_ <;> intro h1 q1
 refine ac ?_
 refine Tr.ret (Fin.then_ret (Fin.drop 0 (Fin.drop 0 (Fin.drop 0 (Fin.retD rfl (RVal.tmp rfl (Pr.le_refl _)) ?_ (List.Perm.refl _))))))
 · exact Pr.le_refl _
 rw [h] at h1; exact absurd h1 (by decide)
theorem w_addHashT {e : Ept} {c b : Chg} {wb ob : Nat} {v : Value} {p3 p5 p6 : Pr}  (hs : AscI e.hashes) (hl : e.hashes.length ≤ 1000000) (h : hasX e.hashes c.number = true) : FunD Tryz.prog 175 [ptr wb 0] [resW wb ob c b, resO ob e p3 p5 p6 (is v), oweRes 3 1 (e.hashes.map fun n => [int n]) v] (int 41) [] := by
 refine FunD.of Tryz.func175 rfl rfl (by exact Nat.le_of_ble_eq_true rfl) fun M0 w0 S rs M1 w1 => ?_
 refine ac ?_
 refine ap ?_
 refine TO.callD _ rfl rfl (by decide) rfl (w_add7T (e := e) (c := c) (b := b) hs hl h) ⟨ke rfl, ke rfl, ke rfl, trivial⟩ ((perm_at (j := 0) rfl).trans (List.Perm.cons _ ((perm_at (j := 0) rfl).trans (List.Perm.cons _ ((perm_at (j := 0) rfl).trans (List.Perm.cons _ (List.Perm.refl _))))))) ?_
 refine ap ?_
 refine Tr.ret (Fin.retD rfl (RVal.tmp rfl (Pr.le_refl _)) ?_ (List.Perm.refl _))
 · exact Pr.le_refl _
theorem w_add7Y {e : Ept} {c b : Chg} {wb ob : Nat} {v : Value} {p3 p5 p6 : Pr} {bk : Int}  (hs : AscI e.hashes) (hl : e.hashes.length ≤ 1000000) (h : hasX e.hashes c.number = false) : FunD Tryz.prog 215 [ptr wb 0, ptr ob 7, int bk] [resW wb ob c b, resO ob e p3 p5 p6 (is v), oweRes 3 1 (e.hashes.map fun n => [int n]) v] (int 0) [resW wb ob c ⟨b.endpoint, bk, c.number, b.at_, b.idn⟩, resO ob e p3 p5 p6 (ints (insX e.hashes c.number))] := by
 refine FunD.of Tryz.func215 rfl rfl (by exact Nat.le_of_ble_eq_true rfl) fun M0 w0 S rs M1 w1 => ?_
 refine ac ?_
 refine Tr.seq (Tr.rx ?_)
 refine ay ?_
 refine Cx.ef 2 rfl rfl (by decide) (ef_callc rfl rfl (by decide) rfl (w_BSWi (l := e.hashes) hs hl) ⟨ke rfl, ke rfl, trivial⟩) ?_
 refine ay ?_
 refine Cx.nil ⟨by kernel_rfl, ?_⟩
 refine FinX.done al4 (Fin.go (wk5 0 1 2 7 8 rfl ?_))
 refine ac ?_
 refine Tr.cn rfl ?_ ?_ <;> intro h1 q1
 rw [h] at h1; exact absurd h1 (by decide)
 refine ac ?_
 refine Tr.seq (Tr.rx ?_)
 refine ay ?_
 refine xo rfl (fun _ => ok_buildSlice (xs := [.tmp 31]) (rows := [[_]]) rfl rfl Tryz.underlying22 sz3 z3 rfl (by decide) ⟨⟨(by exact rfl), (VL.le (vl rfl) (one_cellsP _))⟩, trivial⟩ (by decide)) ?_
 refine Cx.ef 2 rfl rfl (by decide) (ef_callc rfl rfl (by decide) rfl (w_InsWi (l := e.hashes) (x := c.number) (i := posI e.hashes c.number) (posI_le _ _) hl) ⟨ke rfl, ke rfl, ⟨_, rfl, full_le _ _⟩, trivial⟩) ?_
 refine ay ?_
 refine Cx.nil ⟨by kernel_rfl, ?_⟩
 refine FinX.done al4 (Fin.go (wk2 0 2 rfl ?_))
 refine ap ?_
 refine Tr.weak [] trivial ?_
 refine ac ?_
 refine Tr.ret (Fin.drop 2 (Fin.retD rfl (RVal.tmp rfl (Pr.le_refl _)) ?_ (List.Perm.refl _)))
 · exact Pr.le_refl _
theorem w_addHashY {e : Ept} {c b : Chg} {wb ob : Nat} {v : Value} {p3 p5 p6 : Pr}  (hs : AscI e.hashes) (hl : e.hashes.length ≤ 1000000) (h : hasX e.hashes c.number = false) : FunD Tryz.prog 175 [ptr wb 0] [resW wb ob c b, resO ob e p3 p5 p6 (is v), oweRes 3 1 (e.hashes.map fun n => [int n]) v] (int 0) [resW wb ob c ⟨b.endpoint, 10, c.number, b.at_, b.idn⟩, resO ob e p3 p5 p6 (ints (insX e.hashes c.number))] := by
 refine FunD.of Tryz.func175 rfl rfl (by exact Nat.le_of_ble_eq_true rfl) fun M0 w0 S rs M1 w1 => ?_
 refine ac ?_
 refine ap ?_
 refine TO.callD _ rfl rfl (by decide) rfl (w_add7Y (e := e) (c := c) (b := b) hs hl h) ⟨ke rfl, ke rfl, ke rfl, trivial⟩ ((perm_at (j := 0) rfl).trans (List.Perm.cons _ ((perm_at (j := 0) rfl).trans (List.Perm.cons _ ((perm_at (j := 0) rfl).trans (List.Perm.cons _ (List.Perm.refl _))))))) ?_
 refine ap ?_
 refine Tr.ret (Fin.retD rfl (RVal.tmp rfl (Pr.le_refl _)) ?_ (List.Perm.refl _))
 · exact Pr.le_refl _
theorem w_drop7T {e : Ept} {c b : Chg} {wb ob : Nat} {v : Value} {p3 p5 p6 : Pr} {bk : Int}  (hs : AscI e.hashes) (hl : e.hashes.length ≤ 1000000) (h : hasX e.hashes c.number = false) : FunD Tryz.prog 216 [ptr wb 0, ptr ob 7, int bk] [resW wb ob c b, resO ob e p3 p5 p6 (is v), oweRes 3 1 (e.hashes.map fun n => [int n]) v] (int 41) [] := by
 refine FunD.of Tryz.func216 rfl rfl (by exact Nat.le_of_ble_eq_true rfl) fun M0 w0 S rs M1 w1 => ?_
 refine ac ?_
 refine Tr.seq (Tr.rx ?_)
 refine ay ?_
 refine Cx.ef 2 rfl rfl (by decide) (ef_callc rfl rfl (by decide) rfl (w_BSWi (l := e.hashes) hs hl) ⟨ke rfl, ke rfl, trivial⟩) ?_
 refine ay ?_
 refine Cx.nil ⟨by kernel_rfl, ?_⟩
 refine FinX.done al4 (Fin.go (wk5 0 1 2 7 8 rfl ?_))
 refine ac ?_
 refine Tr.cn rfl ?_ ?_ <;> intro h1 q1
 refine ac ?_
 refine Tr.ret (Fin.then_ret (Fin.drop 0 (Fin.drop 0 (Fin.drop 0 (Fin.retD rfl (RVal.tmp rfl (Pr.le_refl _)) ?_ (List.Perm.refl _))))))
 · exact Pr.le_refl _
 rw [h] at h1; exact absurd h1 (by decide)
theorem w_dropHashT {e : Ept} {c b : Chg} {wb ob : Nat} {v : Value} {p3 p5 p6 : Pr}  (hs : AscI e.hashes) (hl : e.hashes.length ≤ 1000000) (h : hasX e.hashes c.number = false) : FunD Tryz.prog 176 [ptr wb 0] [resW wb ob c b, resO ob e p3 p5 p6 (is v), oweRes 3 1 (e.hashes.map fun n => [int n]) v] (int 41) [] := by
 refine FunD.of Tryz.func176 rfl rfl (by exact Nat.le_of_ble_eq_true rfl) fun M0 w0 S rs M1 w1 => ?_
 refine ac ?_
 refine ap ?_
 refine TO.callD _ rfl rfl (by decide) rfl (w_drop7T (e := e) (c := c) (b := b) hs hl h) ⟨ke rfl, ke rfl, ke rfl, trivial⟩ ((perm_at (j := 0) rfl).trans (List.Perm.cons _ ((perm_at (j := 0) rfl).trans (List.Perm.cons _ ((perm_at (j := 0) rfl).trans (List.Perm.cons _ (List.Perm.refl _))))))) ?_
 refine ap ?_
 refine Tr.ret (Fin.retD rfl (RVal.tmp rfl (Pr.le_refl _)) ?_ (List.Perm.refl _))
 · exact Pr.le_refl _
theorem w_drop7Y {e : Ept} {c b : Chg} {wb ob : Nat} {v : Value} {p3 p5 p6 : Pr} {bk : Int}  (hs : AscI e.hashes) (hl : e.hashes.length ≤ 1000000) (h : hasX e.hashes c.number = true) : FunD Tryz.prog 216 [ptr wb 0, ptr ob 7, int bk] [resW wb ob c b, resO ob e p3 p5 p6 (is v), oweRes 3 1 (e.hashes.map fun n => [int n]) v] (int 0) [resW wb ob c ⟨b.endpoint, bk, c.number, b.at_, b.idn⟩, resO ob e p3 p5 p6 (ints (e.hashes.eraseIdx (posI e.hashes c.number)))] := by
 refine FunD.of Tryz.func216 rfl rfl (by exact Nat.le_of_ble_eq_true rfl) fun M0 w0 S rs M1 w1 => ?_
 have hlt_ := hasX_lt h
 refine ac ?_
 refine Tr.seq (Tr.rx ?_)
 refine ay ?_
 refine Cx.ef 2 rfl rfl (by decide) (ef_callc rfl rfl (by decide) rfl (w_BSWi (l := e.hashes) hs hl) ⟨ke rfl, ke rfl, trivial⟩) ?_
 refine ay ?_
 refine Cx.nil ⟨by kernel_rfl, ?_⟩
 refine FinX.done al4 (Fin.go (wk5 0 1 2 7 8 rfl ?_))
 refine ac ?_
 refine Tr.cn rfl ?_ ?_ <;> intro h1 q1
 rw [h] at h1; exact absurd h1 (by decide)
 refine ac ?_
 refine ap ?_
 refine TO.efc 2 rfl rfl (by decide) (ef_callc rfl rfl (by decide) rfl (w_DelWi (l := e.hashes) (i := posI e.hashes c.number) (hasX_lt h) hl) ⟨ke rfl, ⟨_, rfl, int_eq (by omega)⟩, ⟨_, rfl, int_eq (by omega)⟩, trivial⟩) ?_
 refine ap ?_
 refine wk2 0 2 rfl ?_
 refine ap ?_
 refine Tr.weak [] trivial ?_
 refine ac ?_
 refine Tr.ret (Fin.drop 2 (Fin.retD rfl (RVal.tmp rfl (Pr.le_refl _)) ?_ (List.Perm.refl _)))
 · exact Pr.le_refl _
theorem w_dropHashY {e : Ept} {c b : Chg} {wb ob : Nat} {v : Value} {p3 p5 p6 : Pr}  (hs : AscI e.hashes) (hl : e.hashes.length ≤ 1000000) (h : hasX e.hashes c.number = true) : FunD Tryz.prog 176 [ptr wb 0] [resW wb ob c b, resO ob e p3 p5 p6 (is v), oweRes 3 1 (e.hashes.map fun n => [int n]) v] (int 0) [resW wb ob c ⟨b.endpoint, 9, c.number, b.at_, b.idn⟩, resO ob e p3 p5 p6 (ints (e.hashes.eraseIdx (posI e.hashes c.number)))] := by
 refine FunD.of Tryz.func176 rfl rfl (by exact Nat.le_of_ble_eq_true rfl) fun M0 w0 S rs M1 w1 => ?_
 refine ac ?_
 refine ap ?_
 refine TO.callD _ rfl rfl (by decide) rfl (w_drop7Y (e := e) (c := c) (b := b) hs hl h) ⟨ke rfl, ke rfl, ke rfl, trivial⟩ ((perm_at (j := 0) rfl).trans (List.Perm.cons _ ((perm_at (j := 0) rfl).trans (List.Perm.cons _ ((perm_at (j := 0) rfl).trans (List.Perm.cons _ (List.Perm.refl _))))))) ?_
 refine ap ?_
 refine Tr.ret (Fin.retD rfl (RVal.tmp rfl (Pr.le_refl _)) ?_ (List.Perm.refl _))
 · exact Pr.le_refl _
theorem w_setNT {c b : Chg} {wb ob cb : Nat} {n : Int}  (h : n = c.number) : FunD Tryz.prog 209 [ptr wb 0, ptr cb 0] [resW wb ob c b, cellsRes true cb 3 [int n]] (int 41) [resW wb ob c b, cellsRes true cb 3 [int n]] := by
 refine FunD.of Tryz.func209 rfl rfl (by exact Nat.le_of_ble_eq_true rfl) fun M0 w0 S rs M1 w1 => ?_
 refine ac ?_
 refine ac ?_
 refine Tr.cn rfl ?_ ?_ <;> intro h1 q1
 refine ac ?_
 refine Tr.ret (Fin.then_ret (Fin.retD rfl (RVal.tmp rfl (Pr.le_refl _)) ?_ (List.Perm.refl _)))
 · exact Pr.le_refl _
 exfalso; have := q1; omega
theorem w_setNY {c b : Chg} {wb ob cb : Nat} {n : Int}  (h : n ≠ c.number) : FunD Tryz.prog 209 [ptr wb 0, ptr cb 0] [resW wb ob c b, cellsRes true cb 3 [int n]] (int 0) [resW wb ob c ⟨b.endpoint, c.kind, n, b.at_, b.idn⟩, cellsRes true cb 3 [int c.number]] := by
 refine FunD.of Tryz.func209 rfl rfl (by exact Nat.le_of_ble_eq_true rfl) fun M0 w0 S rs M1 w1 => ?_
 refine ac ?_
 refine ac ?_
 refine Tr.cn rfl ?_ ?_ <;> intro h1 q1
 exfalso; have := q1; omega
 refine ac ?_
 refine Tr.seq (Tr.rx ?_)
 refine ay ?_
 refine Cx.nil ⟨by kernel_rfl, ?_⟩
 refine FinX.done al3 (Fin.go (wk2 0 1 rfl ?_))
 refine ap ?_
 refine ac ?_
 refine Tr.ret (Fin.retD rfl (RVal.tmp rfl (Pr.le_refl _)) ?_ (List.Perm.refl _))
 · exact Pr.le_refl _
theorem w_setMostT {e : Ept} {c b : Chg} {wb ob : Nat} {p3 p5 p6 p7 : Pr}  (h : e.most = c.number) : FunD Tryz.prog 209 [ptr wb 0, ptr ob 2] [resW wb ob c b, resO ob e p3 p5 p6 p7] (int 41) [resW wb ob c b, resO ob e p3 p5 p6 p7] := by
 refine FunD.of Tryz.func209 rfl rfl (by exact Nat.le_of_ble_eq_true rfl) fun M0 w0 S rs M1 w1 => ?_
 refine ac ?_
 refine ac ?_
 refine Tr.cn rfl ?_ ?_ <;> intro h1 q1
 refine ac ?_
 refine Tr.ret (Fin.then_ret (Fin.retD rfl (RVal.tmp rfl (Pr.le_refl _)) ?_ (List.Perm.refl _)))
 · exact Pr.le_refl _
 exfalso; have := q1; omega
theorem w_setMostY {e : Ept} {c b : Chg} {wb ob : Nat} {p3 p5 p6 p7 : Pr}  (h : e.most ≠ c.number) : FunD Tryz.prog 209 [ptr wb 0, ptr ob 2] [resW wb ob c b, resO ob e p3 p5 p6 p7] (int 0) [resW wb ob c ⟨b.endpoint, c.kind, e.most, b.at_, b.idn⟩, resO ob { e with most := c.number } p3 p5 p6 p7] := by
 refine FunD.of Tryz.func209 rfl rfl (by exact Nat.le_of_ble_eq_true rfl) fun M0 w0 S rs M1 w1 => ?_
 refine ac ?_
 refine ac ?_
 refine Tr.cn rfl ?_ ?_ <;> intro h1 q1
 exfalso; have := q1; omega
 refine ac ?_
 refine Tr.seq (Tr.rx ?_)
 refine ay ?_
 refine Cx.nil ⟨by kernel_rfl, ?_⟩
 refine FinX.done al3 (Fin.go (wk2 0 1 rfl ?_))
 refine ap ?_
 refine ac ?_
 refine Tr.ret (Fin.retD rfl (RVal.tmp rfl (Pr.le_refl _)) ?_ (List.Perm.refl _))
 · exact Pr.le_refl _
theorem w_fsetMostT {e : Ept} {c b : Chg} {wb ob : Nat} {p3 p5 p6 p7 : Pr}  (h : e.most = c.number) : FunD Tryz.prog 169 [ptr wb 0] [resW wb ob c b, resO ob e p3 p5 p6 p7] (int 41) [] := by
 refine FunD.of Tryz.func169 rfl rfl (by exact Nat.le_of_ble_eq_true rfl) fun M0 w0 S rs M1 w1 => ?_
 refine ac ?_
 refine ap ?_
 refine TO.callD _ rfl rfl (by decide) rfl (w_setMostT (e := e) (c := c) (b := b) h) ⟨ke rfl, ke rfl, trivial⟩ ((perm_at (j := 0) rfl).trans (List.Perm.cons _ ((perm_at (j := 0) rfl).trans (List.Perm.cons _ (List.Perm.refl _))))) ?_
 refine ap ?_
 refine Tr.ret (Fin.drop 0 (Fin.drop 0 (Fin.retD rfl (RVal.tmp rfl (Pr.le_refl _)) ?_ (List.Perm.refl _))))
 · exact Pr.le_refl _
theorem w_fsetMostY {e : Ept} {c b : Chg} {wb ob : Nat} {p3 p5 p6 p7 : Pr}  (h : e.most ≠ c.number) : FunD Tryz.prog 169 [ptr wb 0] [resW wb ob c b, resO ob e p3 p5 p6 p7] (int 0) [resW wb ob c ⟨b.endpoint, c.kind, e.most, b.at_, b.idn⟩, resO ob { e with most := c.number } p3 p5 p6 p7] := by
 refine FunD.of Tryz.func169 rfl rfl (by exact Nat.le_of_ble_eq_true rfl) fun M0 w0 S rs M1 w1 => ?_
 refine ac ?_
 refine ap ?_
 refine TO.callD _ rfl rfl (by decide) rfl (w_setMostY (e := e) (c := c) (b := b) h) ⟨ke rfl, ke rfl, trivial⟩ ((perm_at (j := 0) rfl).trans (List.Perm.cons _ ((perm_at (j := 0) rfl).trans (List.Perm.cons _ (List.Perm.refl _))))) ?_
 refine ap ?_
 refine Tr.ret (Fin.retD rfl (RVal.tmp rfl (Pr.le_refl _)) ?_ (List.Perm.refl _))
 · exact Pr.le_refl _
theorem w_setLeastT {e : Ept} {c b : Chg} {wb ob : Nat} {p3 p5 p6 p7 : Pr}  (h : e.least = c.number) : FunD Tryz.prog 209 [ptr wb 0, ptr ob 1] [resW wb ob c b, resO ob e p3 p5 p6 p7] (int 41) [resW wb ob c b, resO ob e p3 p5 p6 p7] := by
 refine FunD.of Tryz.func209 rfl rfl (by exact Nat.le_of_ble_eq_true rfl) fun M0 w0 S rs M1 w1 => ?_
 refine ac ?_
 refine ac ?_
 refine Tr.cn rfl ?_ ?_ <;> intro h1 q1
 refine ac ?_
 refine Tr.ret (Fin.then_ret (Fin.retD rfl (RVal.tmp rfl (Pr.le_refl _)) ?_ (List.Perm.refl _)))
 · exact Pr.le_refl _
 exfalso; have := q1; omega
theorem w_setLeastY {e : Ept} {c b : Chg} {wb ob : Nat} {p3 p5 p6 p7 : Pr}  (h : e.least ≠ c.number) : FunD Tryz.prog 209 [ptr wb 0, ptr ob 1] [resW wb ob c b, resO ob e p3 p5 p6 p7] (int 0) [resW wb ob c ⟨b.endpoint, c.kind, e.least, b.at_, b.idn⟩, resO ob { e with least := c.number } p3 p5 p6 p7] := by
 refine FunD.of Tryz.func209 rfl rfl (by exact Nat.le_of_ble_eq_true rfl) fun M0 w0 S rs M1 w1 => ?_
 refine ac ?_
 refine ac ?_
 refine Tr.cn rfl ?_ ?_ <;> intro h1 q1
 exfalso; have := q1; omega
 refine ac ?_
 refine Tr.seq (Tr.rx ?_)
 refine ay ?_
 refine Cx.nil ⟨by kernel_rfl, ?_⟩
 refine FinX.done al3 (Fin.go (wk2 0 1 rfl ?_))
 refine ap ?_
 refine ac ?_
 refine Tr.ret (Fin.retD rfl (RVal.tmp rfl (Pr.le_refl _)) ?_ (List.Perm.refl _))
 · exact Pr.le_refl _
theorem w_fsetLeastT {e : Ept} {c b : Chg} {wb ob : Nat} {p3 p5 p6 p7 : Pr}  (h : e.least = c.number) : FunD Tryz.prog 170 [ptr wb 0] [resW wb ob c b, resO ob e p3 p5 p6 p7] (int 41) [] := by
 refine FunD.of Tryz.func170 rfl rfl (by exact Nat.le_of_ble_eq_true rfl) fun M0 w0 S rs M1 w1 => ?_
 refine ac ?_
 refine ap ?_
 refine TO.callD _ rfl rfl (by decide) rfl (w_setLeastT (e := e) (c := c) (b := b) h) ⟨ke rfl, ke rfl, trivial⟩ ((perm_at (j := 0) rfl).trans (List.Perm.cons _ ((perm_at (j := 0) rfl).trans (List.Perm.cons _ (List.Perm.refl _))))) ?_
 refine ap ?_
 refine Tr.ret (Fin.drop 0 (Fin.drop 0 (Fin.retD rfl (RVal.tmp rfl (Pr.le_refl _)) ?_ (List.Perm.refl _))))
 · exact Pr.le_refl _
theorem w_fsetLeastY {e : Ept} {c b : Chg} {wb ob : Nat} {p3 p5 p6 p7 : Pr}  (h : e.least ≠ c.number) : FunD Tryz.prog 170 [ptr wb 0] [resW wb ob c b, resO ob e p3 p5 p6 p7] (int 0) [resW wb ob c ⟨b.endpoint, c.kind, e.least, b.at_, b.idn⟩, resO ob { e with least := c.number } p3 p5 p6 p7] := by
 refine FunD.of Tryz.func170 rfl rfl (by exact Nat.le_of_ble_eq_true rfl) fun M0 w0 S rs M1 w1 => ?_
 refine ac ?_
 refine ap ?_
 refine TO.callD _ rfl rfl (by decide) rfl (w_setLeastY (e := e) (c := c) (b := b) h) ⟨ke rfl, ke rfl, trivial⟩ ((perm_at (j := 0) rfl).trans (List.Perm.cons _ ((perm_at (j := 0) rfl).trans (List.Perm.cons _ (List.Perm.refl _))))) ?_
 refine ap ?_
 refine Tr.ret (Fin.retD rfl (RVal.tmp rfl (Pr.le_refl _)) ?_ (List.Perm.refl _))
 · exact Pr.le_refl _
abbrev bitI (b : Bool) : Int := if b then 1 else 0
theorem w_flagFallbackR {e : Ept} {c b : Chg} {wb ob : Nat} {p3 p5 p6 p7 : Pr}  (hr : ¬ (0 ≤ c.number ∧ c.number ≤ 1)) : FunD Tryz.prog 217 [ptr wb 0, ptr ob 8] [resW wb ob c b, resO ob e p3 p5 p6 p7] (int 2) [] := by
 refine FunD.of Tryz.func217 rfl rfl (by exact Nat.le_of_ble_eq_true rfl) fun M0 w0 S rs M1 w1 => ?_
 refine ac ?_
 refine ac ?_
 refine Ch.cs 13 rfl ?_ ?_ <;> intro h1 q1
 have hq13 := q1
 refine ac ?_
 refine wk3 0 1 20 rfl ?_
 refine ac ?_
 refine Tr.ret (Fin.then_ret (Fin.drop 0 (Fin.drop 0 (Fin.retD rfl (RVal.tmp rfl (Pr.le_refl _)) ?_ (List.Perm.refl _)))))
 · exact Pr.le_refl _
 refine ac ?_
 refine wk3 0 1 20 rfl ?_
 refine Tr.cn rfl ?_ ?_ <;> intro h2 q2
 refine ac ?_
 refine Tr.ret (Fin.then_ret (Fin.drop 0 (Fin.drop 0 (Fin.retD rfl (RVal.tmp rfl (Pr.le_refl _)) ?_ (List.Perm.refl _)))))
 · exact Pr.le_refl _
 exfalso; simp_all
theorem w_fsetFallbackR {e : Ept} {c b : Chg} {wb ob : Nat} {p3 p5 p6 p7 : Pr}  (hr : ¬ (0 ≤ c.number ∧ c.number ≤ 1)) : FunD Tryz.prog 177 [ptr wb 0] [resW wb ob c b, resO ob e p3 p5 p6 p7] (int 2) [] := by
 refine FunD.of Tryz.func177 rfl rfl (by exact Nat.le_of_ble_eq_true rfl) fun M0 w0 S rs M1 w1 => ?_
 refine ac ?_
 refine ap ?_
 refine TO.callD _ rfl rfl (by decide) rfl (w_flagFallbackR (e := e) (c := c) (b := b) hr) ⟨ke rfl, ke rfl, trivial⟩ ((perm_at (j := 0) rfl).trans (List.Perm.cons _ ((perm_at (j := 0) rfl).trans (List.Perm.cons _ (List.Perm.refl _))))) ?_
 refine ap ?_
 refine Tr.ret (Fin.retD rfl (RVal.tmp rfl (Pr.le_refl _)) ?_ (List.Perm.refl _))
 · exact Pr.le_refl _
theorem w_flagFallbackT {e : Ept} {c b : Chg} {wb ob : Nat} {p3 p5 p6 p7 : Pr} {k : Int}  (hr : 0 ≤ c.number ∧ c.number ≤ 1) (hk : bitI e.fall = k) (h : k = c.number) : FunD Tryz.prog 217 [ptr wb 0, ptr ob 8] [resW wb ob c b, resO ob e p3 p5 p6 p7] (int 41) [] := by
 refine FunD.of Tryz.func217 rfl rfl (by exact Nat.le_of_ble_eq_true rfl) fun M0 w0 S rs M1 w1 => ?_
 refine ac ?_
 refine ac ?_
 refine Ch.cs 13 rfl ?_ ?_ <;> intro h1 q1
 exfalso; have := q1; omega
 refine ac ?_
 refine wk3 0 1 20 rfl ?_
 refine Tr.cn rfl ?_ ?_ <;> intro h2 q2
 exfalso; simp_all; omega
 refine ac ?_
 refine Tr.seq (Tr.regT ?_)
 refine TO.alloc rfl rfl (by decide) rfl z3 zo3 (fun b1 => ?_)
 refine ap ?_
 refine ac ?_
 refine Tr.cn rfl ?_ ?_ <;> intro h3 q3
 obtain rfl : k = 1 := by rw [← hk]; unfold bitI; simp_all
 refine ap ?_
 refine ap ?_
 refine TO.callD _ rfl rfl (by decide) rfl (w_setNT (c := c) (b := b) h) ⟨ke rfl, ke rfl, trivial⟩ ((perm_at (j := 1) rfl).trans (List.Perm.cons _ ((perm_at (j := 0) rfl).trans (List.Perm.cons _ (List.Perm.refl _))))) ?_
 refine ap ?_
 refine ap ?_
 refine Tr.drop 1 (wk1 6 rfl ?_)
 refine ac ?_
 refine Tr.ret (Fin.drop 0 (Fin.drop 0 (Fin.retD rfl (RVal.tmp rfl (Pr.le_refl _)) ?_ (List.Perm.refl _))))
 · exact Pr.le_refl _
 obtain rfl : k = 0 := by rw [← hk]; unfold bitI; simp_all
 refine ac ?_
 refine ap ?_
 refine TO.callD _ rfl rfl (by decide) rfl (w_setNT (c := c) (b := b) h) ⟨ke rfl, ke rfl, trivial⟩ ((perm_at (j := 1) rfl).trans (List.Perm.cons _ ((perm_at (j := 0) rfl).trans (List.Perm.cons _ (List.Perm.refl _))))) ?_
 refine ap ?_
 refine ap ?_
 refine Tr.drop 1 (wk1 6 rfl ?_)
 refine ac ?_
 refine Tr.ret (Fin.drop 0 (Fin.drop 0 (Fin.retD rfl (RVal.tmp rfl (Pr.le_refl _)) ?_ (List.Perm.refl _))))
 · exact Pr.le_refl _
theorem w_fsetFallbackT {e : Ept} {c b : Chg} {wb ob : Nat} {p3 p5 p6 p7 : Pr} {k : Int}  (hr : 0 ≤ c.number ∧ c.number ≤ 1) (hk : bitI e.fall = k) (h : k = c.number) : FunD Tryz.prog 177 [ptr wb 0] [resW wb ob c b, resO ob e p3 p5 p6 p7] (int 41) [] := by
 refine FunD.of Tryz.func177 rfl rfl (by exact Nat.le_of_ble_eq_true rfl) fun M0 w0 S rs M1 w1 => ?_
 refine ac ?_
 refine ap ?_
 refine TO.callD _ rfl rfl (by decide) rfl (w_flagFallbackT (e := e) (c := c) (b := b) hr hk h) ⟨ke rfl, ke rfl, trivial⟩ ((perm_at (j := 0) rfl).trans (List.Perm.cons _ ((perm_at (j := 0) rfl).trans (List.Perm.cons _ (List.Perm.refl _))))) ?_
 refine ap ?_
 refine Tr.ret (Fin.retD rfl (RVal.tmp rfl (Pr.le_refl _)) ?_ (List.Perm.refl _))
 · exact Pr.le_refl _
theorem w_flagFallbackY {e : Ept} {c b : Chg} {wb ob : Nat} {p3 p5 p6 p7 : Pr} {k : Int}  (hr : 0 ≤ c.number ∧ c.number ≤ 1) (hk : bitI e.fall = k) (h : k ≠ c.number) : FunD Tryz.prog 217 [ptr wb 0, ptr ob 8] [resW wb ob c b, resO ob e p3 p5 p6 p7] (int 0) [resW wb ob c ⟨b.endpoint, c.kind, k, b.at_, b.idn⟩, resO ob { e with fall := (c.number == 1) } p3 p5 p6 p7] := by
 refine FunD.of Tryz.func217 rfl rfl (by exact Nat.le_of_ble_eq_true rfl) fun M0 w0 S rs M1 w1 => ?_
 refine ac ?_
 refine ac ?_
 refine Ch.cs 13 rfl ?_ ?_ <;> intro h1 q1
 exfalso; have := q1; omega
 refine ac ?_
 refine wk3 0 1 20 rfl ?_
 refine Tr.cn rfl ?_ ?_ <;> intro h2 q2
 exfalso; simp_all; omega
 refine ac ?_
 refine Tr.seq (Tr.regT ?_)
 refine TO.alloc rfl rfl (by decide) rfl z3 zo3 (fun b1 => ?_)
 refine ap ?_
 refine ac ?_
 refine Tr.cn rfl ?_ ?_ <;> intro h3 q3
 obtain rfl : k = 1 := by rw [← hk]; unfold bitI; simp_all
 refine ap ?_
 refine ap ?_
 refine TO.callD _ rfl rfl (by decide) rfl (w_setNY (c := c) (b := b) h) ⟨ke rfl, ke rfl, trivial⟩ ((perm_at (j := 1) rfl).trans (List.Perm.cons _ ((perm_at (j := 0) rfl).trans (List.Perm.cons _ (List.Perm.refl _))))) ?_
 refine ap ?_
 refine ap ?_
 refine Tr.drop 1 (wk1 6 rfl ?_)
 refine ac ?_
 refine Tr.ret (Fin.retD rfl (RVal.tmp rfl (Pr.le_refl _)) ?_ (List.Perm.refl _))
 · exact Pr.le_refl _
 obtain rfl : k = 0 := by rw [← hk]; unfold bitI; simp_all
 refine ac ?_
 refine ap ?_
 refine TO.callD _ rfl rfl (by decide) rfl (w_setNY (c := c) (b := b) h) ⟨ke rfl, ke rfl, trivial⟩ ((perm_at (j := 1) rfl).trans (List.Perm.cons _ ((perm_at (j := 0) rfl).trans (List.Perm.cons _ (List.Perm.refl _))))) ?_
 refine ap ?_
 refine ap ?_
 refine Tr.drop 1 (wk1 6 rfl ?_)
 refine ac ?_
 refine Tr.ret (Fin.retD rfl (RVal.tmp rfl (Pr.le_refl _)) ?_ (List.Perm.refl _))
 · exact Pr.le_refl _
theorem w_fsetFallbackY {e : Ept} {c b : Chg} {wb ob : Nat} {p3 p5 p6 p7 : Pr} {k : Int}  (hr : 0 ≤ c.number ∧ c.number ≤ 1) (hk : bitI e.fall = k) (h : k ≠ c.number) : FunD Tryz.prog 177 [ptr wb 0] [resW wb ob c b, resO ob e p3 p5 p6 p7] (int 0) [resW wb ob c ⟨b.endpoint, c.kind, k, b.at_, b.idn⟩, resO ob { e with fall := (c.number == 1) } p3 p5 p6 p7] := by
 refine FunD.of Tryz.func177 rfl rfl (by exact Nat.le_of_ble_eq_true rfl) fun M0 w0 S rs M1 w1 => ?_
 refine ac ?_
 refine ap ?_
 refine TO.callD _ rfl rfl (by decide) rfl (w_flagFallbackY (e := e) (c := c) (b := b) hr hk h) ⟨ke rfl, ke rfl, trivial⟩ ((perm_at (j := 0) rfl).trans (List.Perm.cons _ ((perm_at (j := 0) rfl).trans (List.Perm.cons _ (List.Perm.refl _))))) ?_
 refine ap ?_
 refine Tr.ret (Fin.retD rfl (RVal.tmp rfl (Pr.le_refl _)) ?_ (List.Perm.refl _))
 · exact Pr.le_refl _
theorem w_flagOrderR {e : Ept} {c b : Chg} {wb ob : Nat} {p3 p5 p6 p7 : Pr}  (hr : ¬ (0 ≤ c.number ∧ c.number ≤ 1)) : FunD Tryz.prog 217 [ptr wb 0, ptr ob 4] [resW wb ob c b, resO ob e p3 p5 p6 p7] (int 2) [] := by
 refine FunD.of Tryz.func217 rfl rfl (by exact Nat.le_of_ble_eq_true rfl) fun M0 w0 S rs M1 w1 => ?_
 refine ac ?_
 refine ac ?_
 refine Ch.cs 13 rfl ?_ ?_ <;> intro h1 q1
 have hq13 := q1
 refine ac ?_
 refine wk3 0 1 20 rfl ?_
 refine ac ?_
 refine Tr.ret (Fin.then_ret (Fin.drop 0 (Fin.drop 0 (Fin.retD rfl (RVal.tmp rfl (Pr.le_refl _)) ?_ (List.Perm.refl _)))))
 · exact Pr.le_refl _
 refine ac ?_
 refine wk3 0 1 20 rfl ?_
 refine Tr.cn rfl ?_ ?_ <;> intro h2 q2
 refine ac ?_
 refine Tr.ret (Fin.then_ret (Fin.drop 0 (Fin.drop 0 (Fin.retD rfl (RVal.tmp rfl (Pr.le_refl _)) ?_ (List.Perm.refl _)))))
 · exact Pr.le_refl _
 exfalso; simp_all
theorem w_fsetOrderR {e : Ept} {c b : Chg} {wb ob : Nat} {p3 p5 p6 p7 : Pr}  (hr : ¬ (0 ≤ c.number ∧ c.number ≤ 1)) : FunD Tryz.prog 178 [ptr wb 0] [resW wb ob c b, resO ob e p3 p5 p6 p7] (int 2) [] := by
 refine FunD.of Tryz.func178 rfl rfl (by exact Nat.le_of_ble_eq_true rfl) fun M0 w0 S rs M1 w1 => ?_
 refine ac ?_
 refine ap ?_
 refine TO.callD _ rfl rfl (by decide) rfl (w_flagOrderR (e := e) (c := c) (b := b) hr) ⟨ke rfl, ke rfl, trivial⟩ ((perm_at (j := 0) rfl).trans (List.Perm.cons _ ((perm_at (j := 0) rfl).trans (List.Perm.cons _ (List.Perm.refl _))))) ?_
 refine ap ?_
 refine Tr.ret (Fin.retD rfl (RVal.tmp rfl (Pr.le_refl _)) ?_ (List.Perm.refl _))
 · exact Pr.le_refl _
theorem w_flagOrderT {e : Ept} {c b : Chg} {wb ob : Nat} {p3 p5 p6 p7 : Pr} {k : Int}  (hr : 0 ≤ c.number ∧ c.number ≤ 1) (hk : bitI e.own = k) (h : k = c.number) : FunD Tryz.prog 217 [ptr wb 0, ptr ob 4] [resW wb ob c b, resO ob e p3 p5 p6 p7] (int 41) [] := by
 refine FunD.of Tryz.func217 rfl rfl (by exact Nat.le_of_ble_eq_true rfl) fun M0 w0 S rs M1 w1 => ?_
 refine ac ?_
 refine ac ?_
 refine Ch.cs 13 rfl ?_ ?_ <;> intro h1 q1
 exfalso; have := q1; omega
 refine ac ?_
 refine wk3 0 1 20 rfl ?_
 refine Tr.cn rfl ?_ ?_ <;> intro h2 q2
 exfalso; simp_all; omega
 refine ac ?_
 refine Tr.seq (Tr.regT ?_)
 refine TO.alloc rfl rfl (by decide) rfl z3 zo3 (fun b1 => ?_)
 refine ap ?_
 refine ac ?_
 refine Tr.cn rfl ?_ ?_ <;> intro h3 q3
 obtain rfl : k = 1 := by rw [← hk]; unfold bitI; simp_all
 refine ap ?_
 refine ap ?_
 refine TO.callD _ rfl rfl (by decide) rfl (w_setNT (c := c) (b := b) h) ⟨ke rfl, ke rfl, trivial⟩ ((perm_at (j := 1) rfl).trans (List.Perm.cons _ ((perm_at (j := 0) rfl).trans (List.Perm.cons _ (List.Perm.refl _))))) ?_
 refine ap ?_
 refine ap ?_
 refine Tr.drop 1 (wk1 6 rfl ?_)
 refine ac ?_
 refine Tr.ret (Fin.drop 0 (Fin.drop 0 (Fin.retD rfl (RVal.tmp rfl (Pr.le_refl _)) ?_ (List.Perm.refl _))))
 · exact Pr.le_refl _
 obtain rfl : k = 0 := by rw [← hk]; unfold bitI; simp_all
 refine ac ?_
 refine ap ?_
 refine TO.callD _ rfl rfl (by decide) rfl (w_setNT (c := c) (b := b) h) ⟨ke rfl, ke rfl, trivial⟩ ((perm_at (j := 1) rfl).trans (List.Perm.cons _ ((perm_at (j := 0) rfl).trans (List.Perm.cons _ (List.Perm.refl _))))) ?_
 refine ap ?_
 refine ap ?_
 refine Tr.drop 1 (wk1 6 rfl ?_)
 refine ac ?_
 refine Tr.ret (Fin.drop 0 (Fin.drop 0 (Fin.retD rfl (RVal.tmp rfl (Pr.le_refl _)) ?_ (List.Perm.refl _))))
 · exact Pr.le_refl _
theorem w_fsetOrderT {e : Ept} {c b : Chg} {wb ob : Nat} {p3 p5 p6 p7 : Pr} {k : Int}  (hr : 0 ≤ c.number ∧ c.number ≤ 1) (hk : bitI e.own = k) (h : k = c.number) : FunD Tryz.prog 178 [ptr wb 0] [resW wb ob c b, resO ob e p3 p5 p6 p7] (int 41) [] := by
 refine FunD.of Tryz.func178 rfl rfl (by exact Nat.le_of_ble_eq_true rfl) fun M0 w0 S rs M1 w1 => ?_
 refine ac ?_
 refine ap ?_
 refine TO.callD _ rfl rfl (by decide) rfl (w_flagOrderT (e := e) (c := c) (b := b) hr hk h) ⟨ke rfl, ke rfl, trivial⟩ ((perm_at (j := 0) rfl).trans (List.Perm.cons _ ((perm_at (j := 0) rfl).trans (List.Perm.cons _ (List.Perm.refl _))))) ?_
 refine ap ?_
 refine Tr.ret (Fin.retD rfl (RVal.tmp rfl (Pr.le_refl _)) ?_ (List.Perm.refl _))
 · exact Pr.le_refl _
theorem w_flagOrderY {e : Ept} {c b : Chg} {wb ob : Nat} {p3 p5 p6 p7 : Pr} {k : Int}  (hr : 0 ≤ c.number ∧ c.number ≤ 1) (hk : bitI e.own = k) (h : k ≠ c.number) : FunD Tryz.prog 217 [ptr wb 0, ptr ob 4] [resW wb ob c b, resO ob e p3 p5 p6 p7] (int 0) [resW wb ob c ⟨b.endpoint, c.kind, k, b.at_, b.idn⟩, resO ob { e with own := (c.number == 1) } p3 p5 p6 p7] := by
 refine FunD.of Tryz.func217 rfl rfl (by exact Nat.le_of_ble_eq_true rfl) fun M0 w0 S rs M1 w1 => ?_
 refine ac ?_
 refine ac ?_
 refine Ch.cs 13 rfl ?_ ?_ <;> intro h1 q1
 exfalso; have := q1; omega
 refine ac ?_
 refine wk3 0 1 20 rfl ?_
 refine Tr.cn rfl ?_ ?_ <;> intro h2 q2
 exfalso; simp_all; omega
 refine ac ?_
 refine Tr.seq (Tr.regT ?_)
 refine TO.alloc rfl rfl (by decide) rfl z3 zo3 (fun b1 => ?_)
 refine ap ?_
 refine ac ?_
 refine Tr.cn rfl ?_ ?_ <;> intro h3 q3
 obtain rfl : k = 1 := by rw [← hk]; unfold bitI; simp_all
 refine ap ?_
 refine ap ?_
 refine TO.callD _ rfl rfl (by decide) rfl (w_setNY (c := c) (b := b) h) ⟨ke rfl, ke rfl, trivial⟩ ((perm_at (j := 1) rfl).trans (List.Perm.cons _ ((perm_at (j := 0) rfl).trans (List.Perm.cons _ (List.Perm.refl _))))) ?_
 refine ap ?_
 refine ap ?_
 refine Tr.drop 1 (wk1 6 rfl ?_)
 refine ac ?_
 refine Tr.ret (Fin.retD rfl (RVal.tmp rfl (Pr.le_refl _)) ?_ (List.Perm.refl _))
 · exact Pr.le_refl _
 obtain rfl : k = 0 := by rw [← hk]; unfold bitI; simp_all
 refine ac ?_
 refine ap ?_
 refine TO.callD _ rfl rfl (by decide) rfl (w_setNY (c := c) (b := b) h) ⟨ke rfl, ke rfl, trivial⟩ ((perm_at (j := 1) rfl).trans (List.Perm.cons _ ((perm_at (j := 0) rfl).trans (List.Perm.cons _ (List.Perm.refl _))))) ?_
 refine ap ?_
 refine ap ?_
 refine Tr.drop 1 (wk1 6 rfl ?_)
 refine ac ?_
 refine Tr.ret (Fin.retD rfl (RVal.tmp rfl (Pr.le_refl _)) ?_ (List.Perm.refl _))
 · exact Pr.le_refl _
theorem w_fsetOrderY {e : Ept} {c b : Chg} {wb ob : Nat} {p3 p5 p6 p7 : Pr} {k : Int}  (hr : 0 ≤ c.number ∧ c.number ≤ 1) (hk : bitI e.own = k) (h : k ≠ c.number) : FunD Tryz.prog 178 [ptr wb 0] [resW wb ob c b, resO ob e p3 p5 p6 p7] (int 0) [resW wb ob c ⟨b.endpoint, c.kind, k, b.at_, b.idn⟩, resO ob { e with own := (c.number == 1) } p3 p5 p6 p7] := by
 refine FunD.of Tryz.func178 rfl rfl (by exact Nat.le_of_ble_eq_true rfl) fun M0 w0 S rs M1 w1 => ?_
 refine ac ?_
 refine ap ?_
 refine TO.callD _ rfl rfl (by decide) rfl (w_flagOrderY (e := e) (c := c) (b := b) hr hk h) ⟨ke rfl, ke rfl, trivial⟩ ((perm_at (j := 0) rfl).trans (List.Perm.cons _ ((perm_at (j := 0) rfl).trans (List.Perm.cons _ (List.Perm.refl _))))) ?_
 refine ap ?_
 refine Tr.ret (Fin.retD rfl (RVal.tmp rfl (Pr.le_refl _)) ?_ (List.Perm.refl _))
 · exact Pr.le_refl _
end Go.Proofs.YtppeeogffbpcbaaGreat
namespace Go.Proofs.YtppeeogffbpcbaaGreat
open Go Go.RowKit Cp
theorem w_CopyEa {e : Ept} (hsm : e.small) : FunV Tryz.prog 116 [agg (rowEp e)] (fun x => agg (rowO e (ints e.suites) (idns e.ids) (is x) (ints e.hashes))) (fun x => [oweRes 3 1 (e.anchors.map fun n => [int n]) x]) := by
 refine FunV.of Tryz.func116 rfl rfl (by exact Nat.le_of_ble_eq_true rfl) fun M0 w0 S rs M1 w1 => ?_
 have hs1 := hsm.suites
 have hs2 := hsm.anchors
 have hs3 := hsm.hashes
 have hs4 := hsm.idl
 refine Tr.seq (Tr.regT ?_)
 refine TO.boxm rfl rfl (by decide) rfl (VL.le (vl rfl) (agg_cellsP _)) (fun b1 => ?_)
 refine TO.alloc rfl rfl (by decide) rfl z32 zo32 (fun b2 => ?_)
 refine ao ?_
 refine Tr.seq (Tr.pad (Tr.pad (Tr.rx ?_)))
 refine ax ?_
 refine xo rfl (fun _ => kc1 (w_CloneFi (l := e.suites) hs1) rfl rfl) ?_
 refine ax ?_
 refine Cx.ef 0 rfl rfl (by decide) (ef_call rfl rfl (by decide) rfl (w_CloneWi (l := e.anchors) hs2) ⟨ke rfl, trivial⟩) ?_
 refine ax ?_
 refine xo rfl (fun _ => kc1 (w_CloneFi (l := e.hashes) hs3) rfl rfl) ?_
 refine ax ?_
 refine Cx.ef 1 rfl rfl (by decide) (ef_call rfl rfl (by decide) rfl (w_CloneWn (l := e.ids) hs4) ⟨ke rfl, trivial⟩) ?_
 refine xo rfl (fun _ => okp_fieldAddr rfl fo32_3 (vl rfl)) (Cx.ef0 3 rfl rfl (ef_store rfl rfl (vl rfl) (VL.le (vl rfl) (one_cellsP _)) sz22 rfl (by exact Nat.le_of_ble_eq_true rfl) rfl) (xo rfl (fun _ => okp_fieldAddr rfl fo32_6 (vl rfl)) (Cx.ef0 3 rfl rfl (ef_storeS rfl rfl rfl (vl rfl) rfl sz22 (by exact Nat.le_of_ble_eq_true rfl)) (xo rfl (fun _ => okp_fieldAddr rfl fo32_7 (vl rfl)) (Cx.ef0 3 rfl rfl (ef_storeW rfl rfl rfl (vl rfl) (VL.le (vl rfl) (one_cellsP _)) sz22 rfl (fun _ => by exact Nat.le_of_ble_eq_true rfl)) (xo rfl (fun _ => okp_fieldAddr rfl fo32_5 (vl rfl)) (Cx.ef0 3 rfl rfl (ef_storeT rfl rfl rfl (vl rfl) rfl sz30 (fun _ => by exact Nat.le_of_ble_eq_true rfl)) ?_)))))))
 refine Cx.nil ⟨by kernel_rfl, ?_⟩
 refine FinX.open3 0 1 3 10 16 rfl rfl rfl (by decide) (by decide) (by decide) (by decide) rfl rfl (fun v1 v2 => ?_)
 refine FinX.done al5 (Fin.go (wk2 1 2 rfl ?_))
 refine ac ?_
 refine co rfl (ok_rd 1 rfl (rd_lenW rfl Tryz.underlying30 ⟨_, rfl, andIs_is _ _⟩)) ?_
 refine ac ?_
 refine Tr.block (Tr.re 23 rfl (int_eq (by rw [List.length_map])) (Tr.loopw [(1, _), (2, _), (22, _), (23, _)] (kk4 rfl) (fun k : Nat => [(24, int ((k : Nat) : Int))]) (fun k : Nat => k ≤ (e.ids).length) (fun k : Nat => (e.ids).length - k) 0 (Nat.zero_le _) ⟨ke rfl, trivial⟩ ?_))
 rintro k hle_k
 refine ac ?_
 refine Tr.seq ?_
 refine Tr.cn rfl ?_ ?_ <;> intro h1 q1
 have hk_k : k < (e.ids).length := lt_of_dec h1
 obtain ⟨x, hx_k⟩ := at_ hk_k
 have hxs := hsm.ids x (List.mem_of_getElem? hx_k)
 refine ac ?_
 refine ao ?_
 refine tp rfl (ok_rd 1 rfl (rd_elp rfl Tryz.underlying30 sz27 ⟨_, rfl, andIs_is _ _⟩ (vl rfl) (by omega) (by rw [List.length_map]; omega))) ?_
 refine tp rfl (ok_rd 1 rfl (rd_elload rfl agg27 sz27 (vl rfl) (map_rows fun _ => rfl) (by rw [Int.toNat_natCast, List.getElem?_map, hx_k]; rfl))) ?_
 refine TO.alloc rfl rfl (by decide) rfl z27 zo27 (fun b3 => ?_)
 refine tm rfl ?_
 refine sf 0 4 ⟨rfl, rfl, rfl⟩ rfl rfl rfl rfl ?_
 refine ao ?_
 refine Tr.rx ?_
 refine ax ?_
 refine xo rfl (fun _ => kc1 (w_copyId hxs) rfl rfl) ?_
 refine xrd 1 rfl rfl (rd_elp rfl Tryz.underlying30 sz27 ⟨_, rfl, andIs_is _ _⟩ (vl rfl) (by omega) (by rw [List.length_map]; omega)) ?_
 refine Cx.ef0 1 rfl rfl (ef_elstore rfl rfl (vl rfl) (VL.le (vl rfl) (agg_cellsP _)) sz27 rfl (map_rows fun _ => rfl) (by rw [Int.toNat_natCast, List.getElem?_map, hx_k]; rfl) (by decide) (row_setI (f := rowId) (q := 0) (m := 4) hx_k rfl)) ?_
 refine Cx.nil ⟨by kernel_rfl, ?_⟩
 refine FinX.done al5 ?_
 refine ac ?_
 refine wk5 1 2 22 23 24 rfl ?_
 refine ac ?_
 exact Fin.fam_same (k + 1) ⟨hk_k, by omega⟩ ⟨⟨_, rfl, int_succ k⟩, ke rfl, ke rfl, ke rfl, ke rfl, trivial⟩
 have he_k : k = (e.ids).length := by have := ge_of_dec h1; omega
 subst he_k
 refine ac ?_
 refine Tr.seq (Tr.frzWC 3 1 5 rfl rfl (by decide) rfl (andIs_is _ _) (map_rows fun _ => rfl) ?_)
 refine ao ?_
 refine TO.store_all 2 rfl rfl rfl (vl rfl) (VL.le (vl rfl) (agg_cellsP _)) rfl sz32 rfl rfl ?_
 refine ao ?_
 refine Tr.drop 1 (Tr.drop 2 (Tr.ret (Fin.swap01 (Fin.retV v1 [_] rfl (RVal.cell 0 rfl rfl agg32 sz32 rfl (Pr.le_refl _)) ?_ (List.Perm.refl _)))))
 · exact agg_le ⟨Pr.le_refl _, Pr.le_refl _, Pr.le_refl _, Pr.le_refl _, Pr.le_refl _, Pr.le_refl _, andIs_is _ _, Pr.le_refl _, Pr.le_refl _, trivial⟩
theorem w_CopyEh {e : Ept} (hsm : e.small) : FunV Tryz.prog 116 [agg (rowEp e)] (fun x => agg (rowO e (ints e.suites) (idns e.ids) (ints e.anchors) (is x))) (fun x => [oweRes 3 1 (e.hashes.map fun n => [int n]) x]) := by
 refine FunV.of Tryz.func116 rfl rfl (by exact Nat.le_of_ble_eq_true rfl) fun M0 w0 S rs M1 w1 => ?_
 have hs1 := hsm.suites
 have hs2 := hsm.anchors
 have hs3 := hsm.hashes
 have hs4 := hsm.idl
 refine Tr.seq (Tr.regT ?_)
 refine TO.boxm rfl rfl (by decide) rfl (VL.le (vl rfl) (agg_cellsP _)) (fun b1 => ?_)
 refine TO.alloc rfl rfl (by decide) rfl z32 zo32 (fun b2 => ?_)
 refine ao ?_
 refine Tr.seq (Tr.pad (Tr.pad (Tr.rx ?_)))
 refine ax ?_
 refine xo rfl (fun _ => kc1 (w_CloneFi (l := e.suites) hs1) rfl rfl) ?_
 refine ax ?_
 refine xo rfl (fun _ => kc1 (w_CloneFi (l := e.anchors) hs2) rfl rfl) ?_
 refine ax ?_
 refine Cx.ef 0 rfl rfl (by decide) (ef_call rfl rfl (by decide) rfl (w_CloneWi (l := e.hashes) hs3) ⟨ke rfl, trivial⟩) ?_
 refine ax ?_
 refine Cx.ef 1 rfl rfl (by decide) (ef_call rfl rfl (by decide) rfl (w_CloneWn (l := e.ids) hs4) ⟨ke rfl, trivial⟩) ?_
 refine xo rfl (fun _ => okp_fieldAddr rfl fo32_3 (vl rfl)) (Cx.ef0 3 rfl rfl (ef_store rfl rfl (vl rfl) (VL.le (vl rfl) (one_cellsP _)) sz22 rfl (by exact Nat.le_of_ble_eq_true rfl) rfl) (xo rfl (fun _ => okp_fieldAddr rfl fo32_6 (vl rfl)) (Cx.ef0 3 rfl rfl (ef_store rfl rfl (vl rfl) (VL.le (vl rfl) (one_cellsP _)) sz22 rfl (by exact Nat.le_of_ble_eq_true rfl) rfl) (xo rfl (fun _ => okp_fieldAddr rfl fo32_7 (vl rfl)) (Cx.ef0 3 rfl rfl (ef_storeS rfl rfl rfl (vl rfl) rfl sz22 (by exact Nat.le_of_ble_eq_true rfl)) (xo rfl (fun _ => okp_fieldAddr rfl fo32_5 (vl rfl)) (Cx.ef0 3 rfl rfl (ef_storeT rfl rfl rfl (vl rfl) rfl sz30 (fun _ => by exact Nat.le_of_ble_eq_true rfl)) ?_)))))))
 refine Cx.nil ⟨by kernel_rfl, ?_⟩
 refine FinX.open3 0 1 3 13 16 rfl rfl rfl (by decide) (by decide) (by decide) (by decide) rfl rfl (fun v1 v2 => ?_)
 refine FinX.done al5 (Fin.go (wk2 1 2 rfl ?_))
 refine ac ?_
 refine co rfl (ok_rd 1 rfl (rd_lenW rfl Tryz.underlying30 ⟨_, rfl, andIs_is _ _⟩)) ?_
 refine ac ?_
 refine Tr.block (Tr.re 23 rfl (int_eq (by rw [List.length_map])) (Tr.loopw [(1, _), (2, _), (22, _), (23, _)] (kk4 rfl) (fun k : Nat => [(24, int ((k : Nat) : Int))]) (fun k : Nat => k ≤ (e.ids).length) (fun k : Nat => (e.ids).length - k) 0 (Nat.zero_le _) ⟨ke rfl, trivial⟩ ?_))
 rintro k hle_k
 refine ac ?_
 refine Tr.seq ?_
 refine Tr.cn rfl ?_ ?_ <;> intro h1 q1
 have hk_k : k < (e.ids).length := lt_of_dec h1
 obtain ⟨x, hx_k⟩ := at_ hk_k
 have hxs := hsm.ids x (List.mem_of_getElem? hx_k)
 refine ac ?_
 refine ao ?_
 refine tp rfl (ok_rd 1 rfl (rd_elp rfl Tryz.underlying30 sz27 ⟨_, rfl, andIs_is _ _⟩ (vl rfl) (by omega) (by rw [List.length_map]; omega))) ?_
 refine tp rfl (ok_rd 1 rfl (rd_elload rfl agg27 sz27 (vl rfl) (map_rows fun _ => rfl) (by rw [Int.toNat_natCast, List.getElem?_map, hx_k]; rfl))) ?_
 refine TO.alloc rfl rfl (by decide) rfl z27 zo27 (fun b3 => ?_)
 refine tm rfl ?_
 refine sf 0 4 ⟨rfl, rfl, rfl⟩ rfl rfl rfl rfl ?_
 refine ao ?_
 refine Tr.rx ?_
 refine ax ?_
 refine xo rfl (fun _ => kc1 (w_copyId hxs) rfl rfl) ?_
 refine xrd 1 rfl rfl (rd_elp rfl Tryz.underlying30 sz27 ⟨_, rfl, andIs_is _ _⟩ (vl rfl) (by omega) (by rw [List.length_map]; omega)) ?_
 refine Cx.ef0 1 rfl rfl (ef_elstore rfl rfl (vl rfl) (VL.le (vl rfl) (agg_cellsP _)) sz27 rfl (map_rows fun _ => rfl) (by rw [Int.toNat_natCast, List.getElem?_map, hx_k]; rfl) (by decide) (row_setI (f := rowId) (q := 0) (m := 4) hx_k rfl)) ?_
 refine Cx.nil ⟨by kernel_rfl, ?_⟩
 refine FinX.done al5 ?_
 refine ac ?_
 refine wk5 1 2 22 23 24 rfl ?_
 refine ac ?_
 exact Fin.fam_same (k + 1) ⟨hk_k, by omega⟩ ⟨⟨_, rfl, int_succ k⟩, ke rfl, ke rfl, ke rfl, ke rfl, trivial⟩
 have he_k : k = (e.ids).length := by have := ge_of_dec h1; omega
 subst he_k
 refine ac ?_
 refine Tr.seq (Tr.frzWC 3 1 5 rfl rfl (by decide) rfl (andIs_is _ _) (map_rows fun _ => rfl) ?_)
 refine ao ?_
 refine TO.store_all 2 rfl rfl rfl (vl rfl) (VL.le (vl rfl) (agg_cellsP _)) rfl sz32 rfl rfl ?_
 refine ao ?_
 refine Tr.drop 1 (Tr.drop 2 (Tr.ret (Fin.swap01 (Fin.retV v1 [_] rfl (RVal.cell 0 rfl rfl agg32 sz32 rfl (Pr.le_refl _)) ?_ (List.Perm.refl _)))))
 · exact agg_le ⟨Pr.le_refl _, Pr.le_refl _, Pr.le_refl _, Pr.le_refl _, Pr.le_refl _, Pr.le_refl _, Pr.le_refl _, andIs_is _ _, Pr.le_refl _, trivial⟩
theorem w_CopyEz {e : Ept} (hsm : e.small) : Fun Tryz.prog 116 [agg (rowEp e)] (agg (rowEp e)) := by
 refine fo Tryz.func116 rfl ⟨rfl, rfl⟩ fun M0 w0 => ?_
 have hs1 := hsm.suites
 have hs2 := hsm.anchors
 have hs3 := hsm.hashes
 have hs4 := hsm.idl
 refine Tr.seq (Tr.regT ?_)
 refine TO.boxm rfl rfl (by decide) rfl (VL.le (vl rfl) (agg_cellsP _)) (fun b1 => ?_)
 refine TO.alloc rfl rfl (by decide) rfl z32 zo32 (fun b2 => ?_)
 refine ao ?_
 refine Tr.seq (Tr.pad (Tr.rx ?_))
 refine ax ?_
 refine xo rfl (fun _ => kc1 (w_CloneFi (l := e.suites) hs1) rfl rfl) ?_
 refine ax ?_
 refine xo rfl (fun _ => kc1 (w_CloneFi (l := e.anchors) hs2) rfl rfl) ?_
 refine ax ?_
 refine xo rfl (fun _ => kc1 (w_CloneFi (l := e.hashes) hs3) rfl rfl) ?_
 refine ax ?_
 refine Cx.ef 0 rfl rfl (by decide) (ef_call rfl rfl (by decide) rfl (w_CloneWn (l := e.ids) hs4) ⟨ke rfl, trivial⟩) ?_
 refine xo rfl (fun _ => okp_fieldAddr rfl fo32_3 (vl rfl)) (Cx.ef0 2 rfl rfl (ef_store rfl rfl (vl rfl) (VL.le (vl rfl) (one_cellsP _)) sz22 rfl (by exact Nat.le_of_ble_eq_true rfl) rfl) (xo rfl (fun _ => okp_fieldAddr rfl fo32_6 (vl rfl)) (Cx.ef0 2 rfl rfl (ef_store rfl rfl (vl rfl) (VL.le (vl rfl) (one_cellsP _)) sz22 rfl (by exact Nat.le_of_ble_eq_true rfl) rfl) (xo rfl (fun _ => okp_fieldAddr rfl fo32_7 (vl rfl)) (Cx.ef0 2 rfl rfl (ef_store rfl rfl (vl rfl) (VL.le (vl rfl) (one_cellsP _)) sz22 rfl (by exact Nat.le_of_ble_eq_true rfl) rfl) (xo rfl (fun _ => okp_fieldAddr rfl fo32_5 (vl rfl)) (Cx.ef0 2 rfl rfl (ef_storeS rfl rfl rfl (vl rfl) rfl sz30 (by exact Nat.le_of_ble_eq_true rfl)) ?_)))))))
 refine Cx.nil ⟨by kernel_rfl, ?_⟩
 refine FinX.open2 0 2 16 rfl rfl (by decide) rfl (fun v1 => ?_)
 refine FinX.done al3 (Fin.go (wk2 1 2 rfl ?_))
 refine ac ?_
 refine co rfl (ok_rd 0 rfl (rd_lenW rfl Tryz.underlying30 ⟨_, rfl, andIs_is _ _⟩)) ?_
 refine ac ?_
 refine Tr.block (Tr.re 23 rfl (int_eq (by rw [List.length_map])) (Tr.loopw [(1, _), (2, _), (22, _), (23, _)] (kk4 rfl) (fun k : Nat => [(24, int ((k : Nat) : Int))]) (fun k : Nat => k ≤ (e.ids).length) (fun k : Nat => (e.ids).length - k) 0 (Nat.zero_le _) ⟨ke rfl, trivial⟩ ?_))
 rintro k hle_k
 refine ac ?_
 refine Tr.seq ?_
 refine Tr.cn rfl ?_ ?_ <;> intro h1 q1
 have hk_k : k < (e.ids).length := lt_of_dec h1
 obtain ⟨x, hx_k⟩ := at_ hk_k
 have hxs := hsm.ids x (List.mem_of_getElem? hx_k)
 refine ac ?_
 refine ao ?_
 refine tp rfl (ok_rd 0 rfl (rd_elp rfl Tryz.underlying30 sz27 ⟨_, rfl, andIs_is _ _⟩ (vl rfl) (by omega) (by rw [List.length_map]; omega))) ?_
 refine tp rfl (ok_rd 0 rfl (rd_elload rfl agg27 sz27 (vl rfl) (map_rows fun _ => rfl) (by rw [Int.toNat_natCast, List.getElem?_map, hx_k]; rfl))) ?_
 refine TO.alloc rfl rfl (by decide) rfl z27 zo27 (fun b3 => ?_)
 refine tm rfl ?_
 refine sf 0 4 ⟨rfl, rfl, rfl⟩ rfl rfl rfl rfl ?_
 refine ao ?_
 refine Tr.rx ?_
 refine ax ?_
 refine xo rfl (fun _ => kc1 (w_copyId hxs) rfl rfl) ?_
 refine xrd 0 rfl rfl (rd_elp rfl Tryz.underlying30 sz27 ⟨_, rfl, andIs_is _ _⟩ (vl rfl) (by omega) (by rw [List.length_map]; omega)) ?_
 refine Cx.ef0 0 rfl rfl (ef_elstore rfl rfl (vl rfl) (VL.le (vl rfl) (agg_cellsP _)) sz27 rfl (map_rows fun _ => rfl) (by rw [Int.toNat_natCast, List.getElem?_map, hx_k]; rfl) (by decide) (row_setI (f := rowId) (q := 0) (m := 4) hx_k rfl)) ?_
 refine Cx.nil ⟨by kernel_rfl, ?_⟩
 refine FinX.done al3 ?_
 refine ac ?_
 refine wk5 1 2 22 23 24 rfl ?_
 refine ac ?_
 exact Fin.fam_same (k + 1) ⟨hk_k, by omega⟩ ⟨⟨_, rfl, int_succ k⟩, ke rfl, ke rfl, ke rfl, ke rfl, trivial⟩
 have he_k : k = (e.ids).length := by have := ge_of_dec h1; omega
 subst he_k
 refine ac ?_
 refine Tr.seq (Tr.frzWC 2 0 5 rfl rfl (by decide) rfl (andIs_is _ _) (map_rows fun _ => rfl) ?_)
 refine ao ?_
 refine TO.store_all 1 rfl rfl rfl (vl rfl) (VL.le (vl rfl) (agg_cellsP _)) rfl sz32 rfl rfl ?_
 refine ao ?_
 refine Tr.drop 0 (Tr.drop 1 (Tr.ret (Fin.retX1 rfl (RVal.cell 0 rfl rfl agg32 sz32 rfl (Pr.le_refl _)) ?_)))
 · exact Pr.le_refl _
end Go.Proofs.YtppeeogffbpcbaaGreat
namespace Go.Proofs.YtppeeogffbpcbaaGreat
open Go Go.RowKit Cp
theorem w_donenV {e e2 : Ept} {c b : Chg} {fk : Nat} {err : Int} (hf : e.fits) (hsm : e.small) (hce : eptB e = true) (hk : 1 ≤ c.kind ∧ c.kind ≤ 12) (hlean : leanB c = true) (hkp : kindsP[c.kind.toNat]? = some (fn (.func fk) [])) (hbk : b.idn.small) (hf2 : e2.fits) (hce2 : eptB e2 = false) (hm : ∀ (wb ob : Nat) (v : Value), FunD Tryz.prog fk [ptr wb 0] [resW wb ob c (back0 c), resO ob e (ints e.suites) (is v) (ints e.anchors) (ints e.hashes), oweRes 27 4 (e.ids.map rowId) v] (int 0) [resW wb ob c b, cellsRes true ob 32 (rowEp e2)]) : Fun Tryz.prog 74 [agg (rowEp e), agg (rowChg c)] (tup [agg (rowEp zeroEp), agg (rowChg zeroChg), int 18]) := by
 refine fo Tryz.func74 rfl ⟨rfl, rfl⟩ fun M0 w0 => (Tr.seq (Tr.regT (tp rfl (ok_box rfl (VL.le (vl rfl) (agg_cellsP _))) (tp rfl (ok_box rfl (VL.le (vl rfl) (agg_cellsP _))) ?_))))
 refine TO.alloc rfl rfl (by decide) rfl z32 zo32 (fun b1 => ?_)
 refine TO.alloc rfl rfl (by decide) rfl z29 zo29 (fun b2 => ?_)
 refine ap ?_
 refine ac ?_
 refine co rfl (kc1 (w_ECheck hf) rfl rfl) ?_
 refine ac ?_
 refine Tr.cn rfl ?_ ?_ <;> intro h1 q1
 exfalso; rw [if_pos hce] at h1; exact absurd h1 (by decide)
 refine ac ?_
 refine ac ?_
 refine Ch.cs 18 rfl ?_ ?_ <;> intro h2 q2
 exfalso; have := q2; omega
 refine ac ?_
 refine Ch.cs 23 rfl ?_ ?_ <;> intro h3 q3
 exfalso; have := q3; omega
 refine cy h3 rfl (ok_loadA rfl agg29 sz29 (vl rfl) rfl rfl) ?_
 refine cy h3 rfl (kc1 (w_lean (c := c)) rfl rfl) ?_
 refine ac ?_
 refine wk5 2 3 4 5 27 rfl ?_
 refine Tr.cn rfl ?_ ?_ <;> intro h4 q4
 rw [hlean] at h4; exact absurd h4 (by decide)
 refine ac ?_
 refine ap ?_
 refine TO.callV rfl rfl (by decide) rfl (w_CopyEn hsm) ⟨ke rfl, trivial⟩ (fun v1 => ?_)
 refine TO.alloc rfl rfl (by decide) rfl z32 zo32 (fun b3 => ?_)
 refine ap ?_
 refine ap ?_
 refine TO.boxm rfl rfl (by decide) rfl (VL.le (vl rfl) (agg_cellsP _)) (fun b4 => ?_)
 refine ap ?_
 refine wk5 3 4 5 7 8 rfl (Tr.seq (Tr.seq (Tr.leC 0 (ptr b3 0 :: rowWt c (back0 c)) rfl ⟨Pr.le_refl _, Pr.le_refl _, Pr.le_refl _, Pr.le_refl _, Pr.le_refl _, Pr.le_refl _, Pr.le_refl _, Pr.le_refl _, Pr.le_refl _, Pr.le_refl _, Pr.le_refl _, Pr.le_refl _, Pr.le_refl _, Pr.le_refl _, Pr.le_refl _, Pr.le_refl _, nil_slice 15, trivial⟩ (Tr.regOne mixed 5 (by kernel_rfl) (ChOne.op rfl rfl (by decide) (kc0 (w_kinds) rfl) (ChOne.op rfl rfl (by decide) (kfa rfl fo29_1 rfl rfl) (ChOne.op rfl rfl (by decide) (kl1 rfl one3 rfl) (ChOne.op rfl rfl (by decide) (ok_index1 rfl Tryz.underlying161 one160 sz160 (vl rfl) (vl rfl) (by omega) (by omega) hkp) (ChOne.op rfl rfl (by decide) (ok_move rfl (vl rfl)) ?_)))))))))
 refine ChOne.turn _ rfl (by decide) (turn_callv _ rfl rfl (vl rfl) (hm _ _ _) ⟨ke rfl, trivial⟩ ((perm_at (j := 0) rfl).trans (List.Perm.cons _ ((perm_at (j := 0) rfl).trans (List.Perm.cons _ ((perm_at (j := 0) rfl).trans (List.Perm.cons _ (List.Perm.refl _)))))))) ?_
 refine ac ?_
 refine ac ?_
 refine wk6 4 5 7 8 9 45 rfl ?_
 refine Tr.cn rfl ?_ ?_ <;> intro h5 q5
 exact absurd h5 (by decide)
 refine ac ?_
 refine ac ?_
 refine co rfl (kc1 (w_ECheck (e := e2) hf2) rfl rfl) ?_
 refine ac ?_
 refine Tr.cn rfl ?_ ?_ <;> intro h6 q6
 refine ap ?_
 refine Tr.ret (Fin.then_ret (Fin.retX3 rfl (RVal.cell 3 rfl rfl agg32 sz32 rfl (Pr.le_refl _)) (RVal.cell 2 rfl rfl agg29 sz29 rfl (Pr.le_refl _)) (RVal.tmp rfl (Pr.le_refl _)) ?_))
 refine tup_le ⟨?_, ?_, ?_, trivial⟩
 · exact agg_le ⟨Pr.le_refl _, Pr.le_refl _, Pr.le_refl _, nil_slice 1, Pr.le_refl _, nil_slice 4, nil_slice 1, nil_slice 1, Pr.le_refl _, trivial⟩
 · exact agg_le ⟨Pr.le_refl _, Pr.le_refl _, Pr.le_refl _, Pr.le_refl _, Pr.le_refl _, Pr.le_refl _, Pr.le_refl _, nil_slice 15, trivial⟩
 · exact Pr.le_refl _
 exfalso; rw [if_neg (by rw [hce2]; decide)] at h6; exact absurd h6 (by decide)
theorem w_donesV {e e2 : Ept} {c b : Chg} {fk : Nat} {err : Int} (hf : e.fits) (hsm : e.small) (hce : eptB e = true) (hk : 1 ≤ c.kind ∧ c.kind ≤ 12) (hlean : leanB c = true) (hkp : kindsP[c.kind.toNat]? = some (fn (.func fk) [])) (hbk : b.idn.small) (hf2 : e2.fits) (hce2 : eptB e2 = false) (hm : ∀ (wb ob : Nat) (v : Value), FunD Tryz.prog fk [ptr wb 0] [resW wb ob c (back0 c), resO ob e (is v) (idns e.ids) (ints e.anchors) (ints e.hashes), oweRes 3 1 (e.suites.map fun n => [int n]) v] (int 0) [resW wb ob c b, cellsRes true ob 32 (rowEp e2)]) : Fun Tryz.prog 74 [agg (rowEp e), agg (rowChg c)] (tup [agg (rowEp zeroEp), agg (rowChg zeroChg), int 18]) := by
 refine fo Tryz.func74 rfl ⟨rfl, rfl⟩ fun M0 w0 => (Tr.seq (Tr.regT (tp rfl (ok_box rfl (VL.le (vl rfl) (agg_cellsP _))) (tp rfl (ok_box rfl (VL.le (vl rfl) (agg_cellsP _))) ?_))))
 refine TO.alloc rfl rfl (by decide) rfl z32 zo32 (fun b1 => ?_)
 refine TO.alloc rfl rfl (by decide) rfl z29 zo29 (fun b2 => ?_)
 refine ap ?_
 refine ac ?_
 refine co rfl (kc1 (w_ECheck hf) rfl rfl) ?_
 refine ac ?_
 refine Tr.cn rfl ?_ ?_ <;> intro h1 q1
 exfalso; rw [if_pos hce] at h1; exact absurd h1 (by decide)
 refine ac ?_
 refine ac ?_
 refine Ch.cs 18 rfl ?_ ?_ <;> intro h2 q2
 exfalso; have := q2; omega
 refine ac ?_
 refine Ch.cs 23 rfl ?_ ?_ <;> intro h3 q3
 exfalso; have := q3; omega
 refine cy h3 rfl (ok_loadA rfl agg29 sz29 (vl rfl) rfl rfl) ?_
 refine cy h3 rfl (kc1 (w_lean (c := c)) rfl rfl) ?_
 refine ac ?_
 refine wk5 2 3 4 5 27 rfl ?_
 refine Tr.cn rfl ?_ ?_ <;> intro h4 q4
 rw [hlean] at h4; exact absurd h4 (by decide)
 refine ac ?_
 refine ap ?_
 refine TO.callV rfl rfl (by decide) rfl (w_CopyEs hsm) ⟨ke rfl, trivial⟩ (fun v1 => ?_)
 refine TO.alloc rfl rfl (by decide) rfl z32 zo32 (fun b3 => ?_)
 refine ap ?_
 refine ap ?_
 refine TO.boxm rfl rfl (by decide) rfl (VL.le (vl rfl) (agg_cellsP _)) (fun b4 => ?_)
 refine ap ?_
 refine wk5 3 4 5 7 8 rfl (Tr.seq (Tr.seq (Tr.leC 0 (ptr b3 0 :: rowWt c (back0 c)) rfl ⟨Pr.le_refl _, Pr.le_refl _, Pr.le_refl _, Pr.le_refl _, Pr.le_refl _, Pr.le_refl _, Pr.le_refl _, Pr.le_refl _, Pr.le_refl _, Pr.le_refl _, Pr.le_refl _, Pr.le_refl _, Pr.le_refl _, Pr.le_refl _, Pr.le_refl _, Pr.le_refl _, nil_slice 15, trivial⟩ (Tr.regOne mixed 5 (by kernel_rfl) (ChOne.op rfl rfl (by decide) (kc0 (w_kinds) rfl) (ChOne.op rfl rfl (by decide) (kfa rfl fo29_1 rfl rfl) (ChOne.op rfl rfl (by decide) (kl1 rfl one3 rfl) (ChOne.op rfl rfl (by decide) (ok_index1 rfl Tryz.underlying161 one160 sz160 (vl rfl) (vl rfl) (by omega) (by omega) hkp) (ChOne.op rfl rfl (by decide) (ok_move rfl (vl rfl)) ?_)))))))))
 refine ChOne.turn _ rfl (by decide) (turn_callv _ rfl rfl (vl rfl) (hm _ _ _) ⟨ke rfl, trivial⟩ ((perm_at (j := 0) rfl).trans (List.Perm.cons _ ((perm_at (j := 0) rfl).trans (List.Perm.cons _ ((perm_at (j := 0) rfl).trans (List.Perm.cons _ (List.Perm.refl _)))))))) ?_
 refine ac ?_
 refine ac ?_
 refine wk6 4 5 7 8 9 45 rfl ?_
 refine Tr.cn rfl ?_ ?_ <;> intro h5 q5
 exact absurd h5 (by decide)
 refine ac ?_
 refine ac ?_
 refine co rfl (kc1 (w_ECheck (e := e2) hf2) rfl rfl) ?_
 refine ac ?_
 refine Tr.cn rfl ?_ ?_ <;> intro h6 q6
 refine ap ?_
 refine Tr.ret (Fin.then_ret (Fin.retX3 rfl (RVal.cell 3 rfl rfl agg32 sz32 rfl (Pr.le_refl _)) (RVal.cell 2 rfl rfl agg29 sz29 rfl (Pr.le_refl _)) (RVal.tmp rfl (Pr.le_refl _)) ?_))
 refine tup_le ⟨?_, ?_, ?_, trivial⟩
 · exact agg_le ⟨Pr.le_refl _, Pr.le_refl _, Pr.le_refl _, nil_slice 1, Pr.le_refl _, nil_slice 4, nil_slice 1, nil_slice 1, Pr.le_refl _, trivial⟩
 · exact agg_le ⟨Pr.le_refl _, Pr.le_refl _, Pr.le_refl _, Pr.le_refl _, Pr.le_refl _, Pr.le_refl _, Pr.le_refl _, nil_slice 15, trivial⟩
 · exact Pr.le_refl _
 exfalso; rw [if_neg (by rw [hce2]; decide)] at h6; exact absurd h6 (by decide)
theorem w_doneaE {e e2 : Ept} {c b : Chg} {fk : Nat} {err : Int} (hf : e.fits) (hsm : e.small) (hce : eptB e = true) (hk : 1 ≤ c.kind ∧ c.kind ≤ 12) (hlean : leanB c = true) (hkp : kindsP[c.kind.toNat]? = some (fn (.func fk) [])) (he : err ≠ 0) (hm : ∀ (wb ob : Nat) (v : Value), FunD Tryz.prog fk [ptr wb 0] [resW wb ob c (back0 c), resO ob e (ints e.suites) (idns e.ids) (is v) (ints e.hashes), oweRes 3 1 (e.anchors.map fun n => [int n]) v] (int err) []) : Fun Tryz.prog 74 [agg (rowEp e), agg (rowChg c)] (tup [agg (rowEp zeroEp), agg (rowChg zeroChg), int err]) := by
 refine fo Tryz.func74 rfl ⟨rfl, rfl⟩ fun M0 w0 => (Tr.seq (Tr.regT (tp rfl (ok_box rfl (VL.le (vl rfl) (agg_cellsP _))) (tp rfl (ok_box rfl (VL.le (vl rfl) (agg_cellsP _))) ?_))))
 refine TO.alloc rfl rfl (by decide) rfl z32 zo32 (fun b1 => ?_)
 refine TO.alloc rfl rfl (by decide) rfl z29 zo29 (fun b2 => ?_)
 refine ap ?_
 refine ac ?_
 refine co rfl (kc1 (w_ECheck hf) rfl rfl) ?_
 refine ac ?_
 refine Tr.cn rfl ?_ ?_ <;> intro h1 q1
 exfalso; rw [if_pos hce] at h1; exact absurd h1 (by decide)
 refine ac ?_
 refine ac ?_
 refine Ch.cs 18 rfl ?_ ?_ <;> intro h2 q2
 exfalso; have := q2; omega
 refine ac ?_
 refine Ch.cs 23 rfl ?_ ?_ <;> intro h3 q3
 exfalso; have := q3; omega
 refine cy h3 rfl (ok_loadA rfl agg29 sz29 (vl rfl) rfl rfl) ?_
 refine cy h3 rfl (kc1 (w_lean (c := c)) rfl rfl) ?_
 refine ac ?_
 refine wk5 2 3 4 5 27 rfl ?_
 refine Tr.cn rfl ?_ ?_ <;> intro h4 q4
 rw [hlean] at h4; exact absurd h4 (by decide)
 refine ac ?_
 refine ap ?_
 refine TO.callV rfl rfl (by decide) rfl (w_CopyEa hsm) ⟨ke rfl, trivial⟩ (fun v1 => ?_)
 refine TO.alloc rfl rfl (by decide) rfl z32 zo32 (fun b3 => ?_)
 refine ap ?_
 refine ap ?_
 refine TO.boxm rfl rfl (by decide) rfl (VL.le (vl rfl) (agg_cellsP _)) (fun b4 => ?_)
 refine ap ?_
 refine wk5 3 4 5 7 8 rfl (Tr.seq (Tr.seq (Tr.leC 0 (ptr b3 0 :: rowWt c (back0 c)) rfl ⟨Pr.le_refl _, Pr.le_refl _, Pr.le_refl _, Pr.le_refl _, Pr.le_refl _, Pr.le_refl _, Pr.le_refl _, Pr.le_refl _, Pr.le_refl _, Pr.le_refl _, Pr.le_refl _, Pr.le_refl _, Pr.le_refl _, Pr.le_refl _, Pr.le_refl _, Pr.le_refl _, nil_slice 15, trivial⟩ (Tr.regOne mixed 5 (by kernel_rfl) (ChOne.op rfl rfl (by decide) (kc0 (w_kinds) rfl) (ChOne.op rfl rfl (by decide) (kfa rfl fo29_1 rfl rfl) (ChOne.op rfl rfl (by decide) (kl1 rfl one3 rfl) (ChOne.op rfl rfl (by decide) (ok_index1 rfl Tryz.underlying161 one160 sz160 (vl rfl) (vl rfl) (by omega) (by omega) hkp) (ChOne.op rfl rfl (by decide) (ok_move rfl (vl rfl)) ?_)))))))))
 refine ChOne.turn _ rfl (by decide) (turn_callv _ rfl rfl (vl rfl) (hm _ _ _) ⟨ke rfl, trivial⟩ ((perm_at (j := 0) rfl).trans (List.Perm.cons _ ((perm_at (j := 0) rfl).trans (List.Perm.cons _ ((perm_at (j := 0) rfl).trans (List.Perm.cons _ (List.Perm.refl _)))))))) ?_
 refine ac ?_
 refine ac ?_
 refine wk6 4 5 7 8 9 45 rfl ?_
 refine Tr.cn rfl ?_ ?_ <;> intro h5 q5
 refine ap ?_
 refine Tr.ret (Fin.then_ret (Fin.retX3 rfl (RVal.cell 1 rfl rfl agg32 sz32 rfl (Pr.le_refl _)) (RVal.cell 0 rfl rfl agg29 sz29 rfl (Pr.le_refl _)) (RVal.tmp rfl (Pr.le_refl _)) ?_))
 refine tup_le ⟨?_, ?_, ?_, trivial⟩
 · exact agg_le ⟨Pr.le_refl _, Pr.le_refl _, Pr.le_refl _, nil_slice 1, Pr.le_refl _, nil_slice 4, nil_slice 1, nil_slice 1, Pr.le_refl _, trivial⟩
 · exact agg_le ⟨Pr.le_refl _, Pr.le_refl _, Pr.le_refl _, Pr.le_refl _, Pr.le_refl _, Pr.le_refl _, Pr.le_refl _, nil_slice 15, trivial⟩
 · exact Pr.le_refl _
 exfalso; have := q5; omega
theorem w_doneaY {e e2 : Ept} {c b : Chg} {fk : Nat} {err : Int} (hf : e.fits) (hsm : e.small) (hce : eptB e = true) (hk : 1 ≤ c.kind ∧ c.kind ≤ 12) (hlean : leanB c = true) (hkp : kindsP[c.kind.toNat]? = some (fn (.func fk) [])) (hbk : b.idn.small) (hf2 : e2.fits) (hce2 : eptB e2 = true) (hm : ∀ (wb ob : Nat) (v : Value), FunD Tryz.prog fk [ptr wb 0] [resW wb ob c (back0 c), resO ob e (ints e.suites) (idns e.ids) (is v) (ints e.hashes), oweRes 3 1 (e.anchors.map fun n => [int n]) v] (int 0) [resW wb ob c b, cellsRes true ob 32 (rowEp e2)]) : Fun Tryz.prog 74 [agg (rowEp e), agg (rowChg c)] (tup [agg (rowEp e2), agg (rowChg b), int 0]) := by
 refine fo Tryz.func74 rfl ⟨rfl, rfl⟩ fun M0 w0 => (Tr.seq (Tr.regT (tp rfl (ok_box rfl (VL.le (vl rfl) (agg_cellsP _))) (tp rfl (ok_box rfl (VL.le (vl rfl) (agg_cellsP _))) ?_))))
 refine TO.alloc rfl rfl (by decide) rfl z32 zo32 (fun b1 => ?_)
 refine TO.alloc rfl rfl (by decide) rfl z29 zo29 (fun b2 => ?_)
 refine ap ?_
 refine ac ?_
 refine co rfl (kc1 (w_ECheck hf) rfl rfl) ?_
 refine ac ?_
 refine Tr.cn rfl ?_ ?_ <;> intro h1 q1
 exfalso; rw [if_pos hce] at h1; exact absurd h1 (by decide)
 refine ac ?_
 refine ac ?_
 refine Ch.cs 18 rfl ?_ ?_ <;> intro h2 q2
 exfalso; have := q2; omega
 refine ac ?_
 refine Ch.cs 23 rfl ?_ ?_ <;> intro h3 q3
 exfalso; have := q3; omega
 refine cy h3 rfl (ok_loadA rfl agg29 sz29 (vl rfl) rfl rfl) ?_
 refine cy h3 rfl (kc1 (w_lean (c := c)) rfl rfl) ?_
 refine ac ?_
 refine wk5 2 3 4 5 27 rfl ?_
 refine Tr.cn rfl ?_ ?_ <;> intro h4 q4
 rw [hlean] at h4; exact absurd h4 (by decide)
 refine ac ?_
 refine ap ?_
 refine TO.callV rfl rfl (by decide) rfl (w_CopyEa hsm) ⟨ke rfl, trivial⟩ (fun v1 => ?_)
 refine TO.alloc rfl rfl (by decide) rfl z32 zo32 (fun b3 => ?_)
 refine ap ?_
 refine ap ?_
 refine TO.boxm rfl rfl (by decide) rfl (VL.le (vl rfl) (agg_cellsP _)) (fun b4 => ?_)
 refine ap ?_
 refine wk5 3 4 5 7 8 rfl (Tr.seq (Tr.seq (Tr.leC 0 (ptr b3 0 :: rowWt c (back0 c)) rfl ⟨Pr.le_refl _, Pr.le_refl _, Pr.le_refl _, Pr.le_refl _, Pr.le_refl _, Pr.le_refl _, Pr.le_refl _, Pr.le_refl _, Pr.le_refl _, Pr.le_refl _, Pr.le_refl _, Pr.le_refl _, Pr.le_refl _, Pr.le_refl _, Pr.le_refl _, Pr.le_refl _, nil_slice 15, trivial⟩ (Tr.regOne mixed 5 (by kernel_rfl) (ChOne.op rfl rfl (by decide) (kc0 (w_kinds) rfl) (ChOne.op rfl rfl (by decide) (kfa rfl fo29_1 rfl rfl) (ChOne.op rfl rfl (by decide) (kl1 rfl one3 rfl) (ChOne.op rfl rfl (by decide) (ok_index1 rfl Tryz.underlying161 one160 sz160 (vl rfl) (vl rfl) (by omega) (by omega) hkp) (ChOne.op rfl rfl (by decide) (ok_move rfl (vl rfl)) ?_)))))))))
 refine ChOne.turn _ rfl (by decide) (turn_callv _ rfl rfl (vl rfl) (hm _ _ _) ⟨ke rfl, trivial⟩ ((perm_at (j := 0) rfl).trans (List.Perm.cons _ ((perm_at (j := 0) rfl).trans (List.Perm.cons _ ((perm_at (j := 0) rfl).trans (List.Perm.cons _ (List.Perm.refl _)))))))) ?_
 refine ac ?_
 refine ac ?_
 refine wk6 4 5 7 8 9 45 rfl ?_
 refine Tr.cn rfl ?_ ?_ <;> intro h5 q5
 exact absurd h5 (by decide)
 refine ac ?_
 refine ac ?_
 refine co rfl (kc1 (w_ECheck (e := e2) hf2) rfl rfl) ?_
 refine ac ?_
 refine Tr.cn rfl ?_ ?_ <;> intro h6 q6
 exfalso; rw [if_pos hce2] at h6; exact absurd h6 (by decide)
 refine ac ?_
 refine Tr.seq (Tr.rx ?_)
 refine ay ?_
 refine xo rfl (fun _ => kc1 (w_CopyC (c := b) hbk) rfl rfl) ?_
 refine ay ?_
 refine Cx.nil ⟨by kernel_rfl, ?_⟩
 refine FinX.done al4 (Fin.go (wk3 4 5 6 rfl (Tr.ret (Fin.retX3 rfl (RVal.cell 3 rfl rfl agg32 sz32 rfl (Pr.le_refl _)) (RVal.cell 2 rfl rfl agg29 sz29 rfl (Pr.le_refl _)) (RVal.tmp rfl (Pr.le_refl _)) ?_))))
 refine tup_le ⟨?_, ?_, ?_, trivial⟩
 · exact Pr.le_refl _
 · exact Pr.le_refl _
 · exact Pr.le_refl _
theorem w_doneaV {e e2 : Ept} {c b : Chg} {fk : Nat} {err : Int} (hf : e.fits) (hsm : e.small) (hce : eptB e = true) (hk : 1 ≤ c.kind ∧ c.kind ≤ 12) (hlean : leanB c = true) (hkp : kindsP[c.kind.toNat]? = some (fn (.func fk) [])) (hbk : b.idn.small) (hf2 : e2.fits) (hce2 : eptB e2 = false) (hm : ∀ (wb ob : Nat) (v : Value), FunD Tryz.prog fk [ptr wb 0] [resW wb ob c (back0 c), resO ob e (ints e.suites) (idns e.ids) (is v) (ints e.hashes), oweRes 3 1 (e.anchors.map fun n => [int n]) v] (int 0) [resW wb ob c b, cellsRes true ob 32 (rowEp e2)]) : Fun Tryz.prog 74 [agg (rowEp e), agg (rowChg c)] (tup [agg (rowEp zeroEp), agg (rowChg zeroChg), int 18]) := by
 refine fo Tryz.func74 rfl ⟨rfl, rfl⟩ fun M0 w0 => (Tr.seq (Tr.regT (tp rfl (ok_box rfl (VL.le (vl rfl) (agg_cellsP _))) (tp rfl (ok_box rfl (VL.le (vl rfl) (agg_cellsP _))) ?_))))
 refine TO.alloc rfl rfl (by decide) rfl z32 zo32 (fun b1 => ?_)
 refine TO.alloc rfl rfl (by decide) rfl z29 zo29 (fun b2 => ?_)
 refine ap ?_
 refine ac ?_
 refine co rfl (kc1 (w_ECheck hf) rfl rfl) ?_
 refine ac ?_
 refine Tr.cn rfl ?_ ?_ <;> intro h1 q1
 exfalso; rw [if_pos hce] at h1; exact absurd h1 (by decide)
 refine ac ?_
 refine ac ?_
 refine Ch.cs 18 rfl ?_ ?_ <;> intro h2 q2
 exfalso; have := q2; omega
 refine ac ?_
 refine Ch.cs 23 rfl ?_ ?_ <;> intro h3 q3
 exfalso; have := q3; omega
 refine cy h3 rfl (ok_loadA rfl agg29 sz29 (vl rfl) rfl rfl) ?_
 refine cy h3 rfl (kc1 (w_lean (c := c)) rfl rfl) ?_
 refine ac ?_
 refine wk5 2 3 4 5 27 rfl ?_
 refine Tr.cn rfl ?_ ?_ <;> intro h4 q4
 rw [hlean] at h4; exact absurd h4 (by decide)
 refine ac ?_
 refine ap ?_
 refine TO.callV rfl rfl (by decide) rfl (w_CopyEa hsm) ⟨ke rfl, trivial⟩ (fun v1 => ?_)
 refine TO.alloc rfl rfl (by decide) rfl z32 zo32 (fun b3 => ?_)
 refine ap ?_
 refine ap ?_
 refine TO.boxm rfl rfl (by decide) rfl (VL.le (vl rfl) (agg_cellsP _)) (fun b4 => ?_)
 refine ap ?_
 refine wk5 3 4 5 7 8 rfl (Tr.seq (Tr.seq (Tr.leC 0 (ptr b3 0 :: rowWt c (back0 c)) rfl ⟨Pr.le_refl _, Pr.le_refl _, Pr.le_refl _, Pr.le_refl _, Pr.le_refl _, Pr.le_refl _, Pr.le_refl _, Pr.le_refl _, Pr.le_refl _, Pr.le_refl _, Pr.le_refl _, Pr.le_refl _, Pr.le_refl _, Pr.le_refl _, Pr.le_refl _, Pr.le_refl _, nil_slice 15, trivial⟩ (Tr.regOne mixed 5 (by kernel_rfl) (ChOne.op rfl rfl (by decide) (kc0 (w_kinds) rfl) (ChOne.op rfl rfl (by decide) (kfa rfl fo29_1 rfl rfl) (ChOne.op rfl rfl (by decide) (kl1 rfl one3 rfl) (ChOne.op rfl rfl (by decide) (ok_index1 rfl Tryz.underlying161 one160 sz160 (vl rfl) (vl rfl) (by omega) (by omega) hkp) (ChOne.op rfl rfl (by decide) (ok_move rfl (vl rfl)) ?_)))))))))
 refine ChOne.turn _ rfl (by decide) (turn_callv _ rfl rfl (vl rfl) (hm _ _ _) ⟨ke rfl, trivial⟩ ((perm_at (j := 0) rfl).trans (List.Perm.cons _ ((perm_at (j := 0) rfl).trans (List.Perm.cons _ ((perm_at (j := 0) rfl).trans (List.Perm.cons _ (List.Perm.refl _)))))))) ?_
 refine ac ?_
 refine ac ?_
 refine wk6 4 5 7 8 9 45 rfl ?_
 refine Tr.cn rfl ?_ ?_ <;> intro h5 q5
 exact absurd h5 (by decide)
 refine ac ?_
 refine ac ?_
 refine co rfl (kc1 (w_ECheck (e := e2) hf2) rfl rfl) ?_
 refine ac ?_
 refine Tr.cn rfl ?_ ?_ <;> intro h6 q6
 refine ap ?_
 refine Tr.ret (Fin.then_ret (Fin.retX3 rfl (RVal.cell 3 rfl rfl agg32 sz32 rfl (Pr.le_refl _)) (RVal.cell 2 rfl rfl agg29 sz29 rfl (Pr.le_refl _)) (RVal.tmp rfl (Pr.le_refl _)) ?_))
 refine tup_le ⟨?_, ?_, ?_, trivial⟩
 · exact agg_le ⟨Pr.le_refl _, Pr.le_refl _, Pr.le_refl _, nil_slice 1, Pr.le_refl _, nil_slice 4, nil_slice 1, nil_slice 1, Pr.le_refl _, trivial⟩
 · exact agg_le ⟨Pr.le_refl _, Pr.le_refl _, Pr.le_refl _, Pr.le_refl _, Pr.le_refl _, Pr.le_refl _, Pr.le_refl _, nil_slice 15, trivial⟩
 · exact Pr.le_refl _
 exfalso; rw [if_neg (by rw [hce2]; decide)] at h6; exact absurd h6 (by decide)
theorem w_donehE {e e2 : Ept} {c b : Chg} {fk : Nat} {err : Int} (hf : e.fits) (hsm : e.small) (hce : eptB e = true) (hk : 1 ≤ c.kind ∧ c.kind ≤ 12) (hlean : leanB c = true) (hkp : kindsP[c.kind.toNat]? = some (fn (.func fk) [])) (he : err ≠ 0) (hm : ∀ (wb ob : Nat) (v : Value), FunD Tryz.prog fk [ptr wb 0] [resW wb ob c (back0 c), resO ob e (ints e.suites) (idns e.ids) (ints e.anchors) (is v), oweRes 3 1 (e.hashes.map fun n => [int n]) v] (int err) []) : Fun Tryz.prog 74 [agg (rowEp e), agg (rowChg c)] (tup [agg (rowEp zeroEp), agg (rowChg zeroChg), int err]) := by
 refine fo Tryz.func74 rfl ⟨rfl, rfl⟩ fun M0 w0 => (Tr.seq (Tr.regT (tp rfl (ok_box rfl (VL.le (vl rfl) (agg_cellsP _))) (tp rfl (ok_box rfl (VL.le (vl rfl) (agg_cellsP _))) ?_))))
 refine TO.alloc rfl rfl (by decide) rfl z32 zo32 (fun b1 => ?_)
 refine TO.alloc rfl rfl (by decide) rfl z29 zo29 (fun b2 => ?_)
 refine ap ?_
 refine ac ?_
 refine co rfl (kc1 (w_ECheck hf) rfl rfl) ?_
 refine ac ?_
 refine Tr.cn rfl ?_ ?_ <;> intro h1 q1
 exfalso; rw [if_pos hce] at h1; exact absurd h1 (by decide)
 refine ac ?_
 refine ac ?_
 refine Ch.cs 18 rfl ?_ ?_ <;> intro h2 q2
 exfalso; have := q2; omega
 refine ac ?_
 refine Ch.cs 23 rfl ?_ ?_ <;> intro h3 q3
 exfalso; have := q3; omega
 refine cy h3 rfl (ok_loadA rfl agg29 sz29 (vl rfl) rfl rfl) ?_
 refine cy h3 rfl (kc1 (w_lean (c := c)) rfl rfl) ?_
 refine ac ?_
 refine wk5 2 3 4 5 27 rfl ?_
 refine Tr.cn rfl ?_ ?_ <;> intro h4 q4
 rw [hlean] at h4; exact absurd h4 (by decide)
 refine ac ?_
 refine ap ?_
 refine TO.callV rfl rfl (by decide) rfl (w_CopyEh hsm) ⟨ke rfl, trivial⟩ (fun v1 => ?_)
 refine TO.alloc rfl rfl (by decide) rfl z32 zo32 (fun b3 => ?_)
 refine ap ?_
 refine ap ?_
 refine TO.boxm rfl rfl (by decide) rfl (VL.le (vl rfl) (agg_cellsP _)) (fun b4 => ?_)
 refine ap ?_
 refine wk5 3 4 5 7 8 rfl (Tr.seq (Tr.seq (Tr.leC 0 (ptr b3 0 :: rowWt c (back0 c)) rfl ⟨Pr.le_refl _, Pr.le_refl _, Pr.le_refl _, Pr.le_refl _, Pr.le_refl _, Pr.le_refl _, Pr.le_refl _, Pr.le_refl _, Pr.le_refl _, Pr.le_refl _, Pr.le_refl _, Pr.le_refl _, Pr.le_refl _, Pr.le_refl _, Pr.le_refl _, Pr.le_refl _, nil_slice 15, trivial⟩ (Tr.regOne mixed 5 (by kernel_rfl) (ChOne.op rfl rfl (by decide) (kc0 (w_kinds) rfl) (ChOne.op rfl rfl (by decide) (kfa rfl fo29_1 rfl rfl) (ChOne.op rfl rfl (by decide) (kl1 rfl one3 rfl) (ChOne.op rfl rfl (by decide) (ok_index1 rfl Tryz.underlying161 one160 sz160 (vl rfl) (vl rfl) (by omega) (by omega) hkp) (ChOne.op rfl rfl (by decide) (ok_move rfl (vl rfl)) ?_)))))))))
 refine ChOne.turn _ rfl (by decide) (turn_callv _ rfl rfl (vl rfl) (hm _ _ _) ⟨ke rfl, trivial⟩ ((perm_at (j := 0) rfl).trans (List.Perm.cons _ ((perm_at (j := 0) rfl).trans (List.Perm.cons _ ((perm_at (j := 0) rfl).trans (List.Perm.cons _ (List.Perm.refl _)))))))) ?_
 refine ac ?_
 refine ac ?_
 refine wk6 4 5 7 8 9 45 rfl ?_
 refine Tr.cn rfl ?_ ?_ <;> intro h5 q5
 refine ap ?_
 refine Tr.ret (Fin.then_ret (Fin.retX3 rfl (RVal.cell 1 rfl rfl agg32 sz32 rfl (Pr.le_refl _)) (RVal.cell 0 rfl rfl agg29 sz29 rfl (Pr.le_refl _)) (RVal.tmp rfl (Pr.le_refl _)) ?_))
 refine tup_le ⟨?_, ?_, ?_, trivial⟩
 · exact agg_le ⟨Pr.le_refl _, Pr.le_refl _, Pr.le_refl _, nil_slice 1, Pr.le_refl _, nil_slice 4, nil_slice 1, nil_slice 1, Pr.le_refl _, trivial⟩
 · exact agg_le ⟨Pr.le_refl _, Pr.le_refl _, Pr.le_refl _, Pr.le_refl _, Pr.le_refl _, Pr.le_refl _, Pr.le_refl _, nil_slice 15, trivial⟩
 · exact Pr.le_refl _
 exfalso; have := q5; omega
theorem w_donehY {e e2 : Ept} {c b : Chg} {fk : Nat} {err : Int} (hf : e.fits) (hsm : e.small) (hce : eptB e = true) (hk : 1 ≤ c.kind ∧ c.kind ≤ 12) (hlean : leanB c = true) (hkp : kindsP[c.kind.toNat]? = some (fn (.func fk) [])) (hbk : b.idn.small) (hf2 : e2.fits) (hce2 : eptB e2 = true) (hm : ∀ (wb ob : Nat) (v : Value), FunD Tryz.prog fk [ptr wb 0] [resW wb ob c (back0 c), resO ob e (ints e.suites) (idns e.ids) (ints e.anchors) (is v), oweRes 3 1 (e.hashes.map fun n => [int n]) v] (int 0) [resW wb ob c b, cellsRes true ob 32 (rowEp e2)]) : Fun Tryz.prog 74 [agg (rowEp e), agg (rowChg c)] (tup [agg (rowEp e2), agg (rowChg b), int 0]) := by
 refine fo Tryz.func74 rfl ⟨rfl, rfl⟩ fun M0 w0 => (Tr.seq (Tr.regT (tp rfl (ok_box rfl (VL.le (vl rfl) (agg_cellsP _))) (tp rfl (ok_box rfl (VL.le (vl rfl) (agg_cellsP _))) ?_))))
 refine TO.alloc rfl rfl (by decide) rfl z32 zo32 (fun b1 => ?_)
 refine TO.alloc rfl rfl (by decide) rfl z29 zo29 (fun b2 => ?_)
 refine ap ?_
 refine ac ?_
 refine co rfl (kc1 (w_ECheck hf) rfl rfl) ?_
 refine ac ?_
 refine Tr.cn rfl ?_ ?_ <;> intro h1 q1
 exfalso; rw [if_pos hce] at h1; exact absurd h1 (by decide)
 refine ac ?_
 refine ac ?_
 refine Ch.cs 18 rfl ?_ ?_ <;> intro h2 q2
 exfalso; have := q2; omega
 refine ac ?_
 refine Ch.cs 23 rfl ?_ ?_ <;> intro h3 q3
 exfalso; have := q3; omega
 refine cy h3 rfl (ok_loadA rfl agg29 sz29 (vl rfl) rfl rfl) ?_
 refine cy h3 rfl (kc1 (w_lean (c := c)) rfl rfl) ?_
 refine ac ?_
 refine wk5 2 3 4 5 27 rfl ?_
 refine Tr.cn rfl ?_ ?_ <;> intro h4 q4
 rw [hlean] at h4; exact absurd h4 (by decide)
 refine ac ?_
 refine ap ?_
 refine TO.callV rfl rfl (by decide) rfl (w_CopyEh hsm) ⟨ke rfl, trivial⟩ (fun v1 => ?_)
 refine TO.alloc rfl rfl (by decide) rfl z32 zo32 (fun b3 => ?_)
 refine ap ?_
 refine ap ?_
 refine TO.boxm rfl rfl (by decide) rfl (VL.le (vl rfl) (agg_cellsP _)) (fun b4 => ?_)
 refine ap ?_
 refine wk5 3 4 5 7 8 rfl (Tr.seq (Tr.seq (Tr.leC 0 (ptr b3 0 :: rowWt c (back0 c)) rfl ⟨Pr.le_refl _, Pr.le_refl _, Pr.le_refl _, Pr.le_refl _, Pr.le_refl _, Pr.le_refl _, Pr.le_refl _, Pr.le_refl _, Pr.le_refl _, Pr.le_refl _, Pr.le_refl _, Pr.le_refl _, Pr.le_refl _, Pr.le_refl _, Pr.le_refl _, Pr.le_refl _, nil_slice 15, trivial⟩ (Tr.regOne mixed 5 (by kernel_rfl) (ChOne.op rfl rfl (by decide) (kc0 (w_kinds) rfl) (ChOne.op rfl rfl (by decide) (kfa rfl fo29_1 rfl rfl) (ChOne.op rfl rfl (by decide) (kl1 rfl one3 rfl) (ChOne.op rfl rfl (by decide) (ok_index1 rfl Tryz.underlying161 one160 sz160 (vl rfl) (vl rfl) (by omega) (by omega) hkp) (ChOne.op rfl rfl (by decide) (ok_move rfl (vl rfl)) ?_)))))))))
 refine ChOne.turn _ rfl (by decide) (turn_callv _ rfl rfl (vl rfl) (hm _ _ _) ⟨ke rfl, trivial⟩ ((perm_at (j := 0) rfl).trans (List.Perm.cons _ ((perm_at (j := 0) rfl).trans (List.Perm.cons _ ((perm_at (j := 0) rfl).trans (List.Perm.cons _ (List.Perm.refl _)))))))) ?_
 refine ac ?_
 refine ac ?_
 refine wk6 4 5 7 8 9 45 rfl ?_
 refine Tr.cn rfl ?_ ?_ <;> intro h5 q5
 exact absurd h5 (by decide)
 refine ac ?_
 refine ac ?_
 refine co rfl (kc1 (w_ECheck (e := e2) hf2) rfl rfl) ?_
 refine ac ?_
 refine Tr.cn rfl ?_ ?_ <;> intro h6 q6
 exfalso; rw [if_pos hce2] at h6; exact absurd h6 (by decide)
 refine ac ?_
 refine Tr.seq (Tr.rx ?_)
 refine ay ?_
 refine xo rfl (fun _ => kc1 (w_CopyC (c := b) hbk) rfl rfl) ?_
 refine ay ?_
 refine Cx.nil ⟨by kernel_rfl, ?_⟩
 refine FinX.done al4 (Fin.go (wk3 4 5 6 rfl (Tr.ret (Fin.retX3 rfl (RVal.cell 3 rfl rfl agg32 sz32 rfl (Pr.le_refl _)) (RVal.cell 2 rfl rfl agg29 sz29 rfl (Pr.le_refl _)) (RVal.tmp rfl (Pr.le_refl _)) ?_))))
 refine tup_le ⟨?_, ?_, ?_, trivial⟩
 · exact Pr.le_refl _
 · exact Pr.le_refl _
 · exact Pr.le_refl _
theorem w_donehV {e e2 : Ept} {c b : Chg} {fk : Nat} {err : Int} (hf : e.fits) (hsm : e.small) (hce : eptB e = true) (hk : 1 ≤ c.kind ∧ c.kind ≤ 12) (hlean : leanB c = true) (hkp : kindsP[c.kind.toNat]? = some (fn (.func fk) [])) (hbk : b.idn.small) (hf2 : e2.fits) (hce2 : eptB e2 = false) (hm : ∀ (wb ob : Nat) (v : Value), FunD Tryz.prog fk [ptr wb 0] [resW wb ob c (back0 c), resO ob e (ints e.suites) (idns e.ids) (ints e.anchors) (is v), oweRes 3 1 (e.hashes.map fun n => [int n]) v] (int 0) [resW wb ob c b, cellsRes true ob 32 (rowEp e2)]) : Fun Tryz.prog 74 [agg (rowEp e), agg (rowChg c)] (tup [agg (rowEp zeroEp), agg (rowChg zeroChg), int 18]) := by
 refine fo Tryz.func74 rfl ⟨rfl, rfl⟩ fun M0 w0 => (Tr.seq (Tr.regT (tp rfl (ok_box rfl (VL.le (vl rfl) (agg_cellsP _))) (tp rfl (ok_box rfl (VL.le (vl rfl) (agg_cellsP _))) ?_))))
 refine TO.alloc rfl rfl (by decide) rfl z32 zo32 (fun b1 => ?_)
 refine TO.alloc rfl rfl (by decide) rfl z29 zo29 (fun b2 => ?_)
 refine ap ?_
 refine ac ?_
 refine co rfl (kc1 (w_ECheck hf) rfl rfl) ?_
 refine ac ?_
 refine Tr.cn rfl ?_ ?_ <;> intro h1 q1
 exfalso; rw [if_pos hce] at h1; exact absurd h1 (by decide)
 refine ac ?_
 refine ac ?_
 refine Ch.cs 18 rfl ?_ ?_ <;> intro h2 q2
 exfalso; have := q2; omega
 refine ac ?_
 refine Ch.cs 23 rfl ?_ ?_ <;> intro h3 q3
 exfalso; have := q3; omega
 refine cy h3 rfl (ok_loadA rfl agg29 sz29 (vl rfl) rfl rfl) ?_
 refine cy h3 rfl (kc1 (w_lean (c := c)) rfl rfl) ?_
 refine ac ?_
 refine wk5 2 3 4 5 27 rfl ?_
 refine Tr.cn rfl ?_ ?_ <;> intro h4 q4
 rw [hlean] at h4; exact absurd h4 (by decide)
 refine ac ?_
 refine ap ?_
 refine TO.callV rfl rfl (by decide) rfl (w_CopyEh hsm) ⟨ke rfl, trivial⟩ (fun v1 => ?_)
 refine TO.alloc rfl rfl (by decide) rfl z32 zo32 (fun b3 => ?_)
 refine ap ?_
 refine ap ?_
 refine TO.boxm rfl rfl (by decide) rfl (VL.le (vl rfl) (agg_cellsP _)) (fun b4 => ?_)
 refine ap ?_
 refine wk5 3 4 5 7 8 rfl (Tr.seq (Tr.seq (Tr.leC 0 (ptr b3 0 :: rowWt c (back0 c)) rfl ⟨Pr.le_refl _, Pr.le_refl _, Pr.le_refl _, Pr.le_refl _, Pr.le_refl _, Pr.le_refl _, Pr.le_refl _, Pr.le_refl _, Pr.le_refl _, Pr.le_refl _, Pr.le_refl _, Pr.le_refl _, Pr.le_refl _, Pr.le_refl _, Pr.le_refl _, Pr.le_refl _, nil_slice 15, trivial⟩ (Tr.regOne mixed 5 (by kernel_rfl) (ChOne.op rfl rfl (by decide) (kc0 (w_kinds) rfl) (ChOne.op rfl rfl (by decide) (kfa rfl fo29_1 rfl rfl) (ChOne.op rfl rfl (by decide) (kl1 rfl one3 rfl) (ChOne.op rfl rfl (by decide) (ok_index1 rfl Tryz.underlying161 one160 sz160 (vl rfl) (vl rfl) (by omega) (by omega) hkp) (ChOne.op rfl rfl (by decide) (ok_move rfl (vl rfl)) ?_)))))))))
 refine ChOne.turn _ rfl (by decide) (turn_callv _ rfl rfl (vl rfl) (hm _ _ _) ⟨ke rfl, trivial⟩ ((perm_at (j := 0) rfl).trans (List.Perm.cons _ ((perm_at (j := 0) rfl).trans (List.Perm.cons _ ((perm_at (j := 0) rfl).trans (List.Perm.cons _ (List.Perm.refl _)))))))) ?_
 refine ac ?_
 refine ac ?_
 refine wk6 4 5 7 8 9 45 rfl ?_
 refine Tr.cn rfl ?_ ?_ <;> intro h5 q5
 exact absurd h5 (by decide)
 refine ac ?_
 refine ac ?_
 refine co rfl (kc1 (w_ECheck (e := e2) hf2) rfl rfl) ?_
 refine ac ?_
 refine Tr.cn rfl ?_ ?_ <;> intro h6 q6
 refine ap ?_
 refine Tr.ret (Fin.then_ret (Fin.retX3 rfl (RVal.cell 3 rfl rfl agg32 sz32 rfl (Pr.le_refl _)) (RVal.cell 2 rfl rfl agg29 sz29 rfl (Pr.le_refl _)) (RVal.tmp rfl (Pr.le_refl _)) ?_))
 refine tup_le ⟨?_, ?_, ?_, trivial⟩
 · exact agg_le ⟨Pr.le_refl _, Pr.le_refl _, Pr.le_refl _, nil_slice 1, Pr.le_refl _, nil_slice 4, nil_slice 1, nil_slice 1, Pr.le_refl _, trivial⟩
 · exact agg_le ⟨Pr.le_refl _, Pr.le_refl _, Pr.le_refl _, Pr.le_refl _, Pr.le_refl _, Pr.le_refl _, Pr.le_refl _, nil_slice 15, trivial⟩
 · exact Pr.le_refl _
 exfalso; rw [if_neg (by rw [hce2]; decide)] at h6; exact absurd h6 (by decide)
theorem w_donezE {e e2 : Ept} {c b : Chg} {fk : Nat} {err : Int} (hf : e.fits) (hsm : e.small) (hce : eptB e = true) (hk : 1 ≤ c.kind ∧ c.kind ≤ 12) (hlean : leanB c = true) (hkp : kindsP[c.kind.toNat]? = some (fn (.func fk) [])) (he : err ≠ 0) (hm : ∀ (wb ob : Nat), FunD Tryz.prog fk [ptr wb 0] [resW wb ob c (back0 c), resO ob e (ints e.suites) (idns e.ids) (ints e.anchors) (ints e.hashes)] (int err) []) : Fun Tryz.prog 74 [agg (rowEp e), agg (rowChg c)] (tup [agg (rowEp zeroEp), agg (rowChg zeroChg), int err]) := by
 refine fo Tryz.func74 rfl ⟨rfl, rfl⟩ fun M0 w0 => (Tr.seq (Tr.regT (tp rfl (ok_box rfl (VL.le (vl rfl) (agg_cellsP _))) (tp rfl (ok_box rfl (VL.le (vl rfl) (agg_cellsP _))) ?_))))
 refine TO.alloc rfl rfl (by decide) rfl z32 zo32 (fun b1 => ?_)
 refine TO.alloc rfl rfl (by decide) rfl z29 zo29 (fun b2 => ?_)
 refine ap ?_
 refine ac ?_
 refine co rfl (kc1 (w_ECheck hf) rfl rfl) ?_
 refine ac ?_
 refine Tr.cn rfl ?_ ?_ <;> intro h1 q1
 exfalso; rw [if_pos hce] at h1; exact absurd h1 (by decide)
 refine ac ?_
 refine ac ?_
 refine Ch.cs 18 rfl ?_ ?_ <;> intro h2 q2
 exfalso; have := q2; omega
 refine ac ?_
 refine Ch.cs 23 rfl ?_ ?_ <;> intro h3 q3
 exfalso; have := q3; omega
 refine cy h3 rfl (ok_loadA rfl agg29 sz29 (vl rfl) rfl rfl) ?_
 refine cy h3 rfl (kc1 (w_lean (c := c)) rfl rfl) ?_
 refine ac ?_
 refine wk5 2 3 4 5 27 rfl ?_
 refine Tr.cn rfl ?_ ?_ <;> intro h4 q4
 rw [hlean] at h4; exact absurd h4 (by decide)
 refine ac ?_
 refine ap ?_
 refine tp rfl (kc1 (w_CopyEz hsm) rfl rfl) ?_
 refine TO.alloc rfl rfl (by decide) rfl z32 zo32 (fun b3 => ?_)
 refine ap ?_
 refine ap ?_
 refine TO.boxm rfl rfl (by decide) rfl (VL.le (vl rfl) (agg_cellsP _)) (fun b4 => ?_)
 refine ap ?_
 refine wk5 3 4 5 7 8 rfl (Tr.seq (Tr.seq (Tr.leC 0 (ptr b3 0 :: rowWt c (back0 c)) rfl ⟨Pr.le_refl _, Pr.le_refl _, Pr.le_refl _, Pr.le_refl _, Pr.le_refl _, Pr.le_refl _, Pr.le_refl _, Pr.le_refl _, Pr.le_refl _, Pr.le_refl _, Pr.le_refl _, Pr.le_refl _, Pr.le_refl _, Pr.le_refl _, Pr.le_refl _, Pr.le_refl _, nil_slice 15, trivial⟩ (Tr.regOne mixed 5 (by kernel_rfl) (ChOne.op rfl rfl (by decide) (kc0 (w_kinds) rfl) (ChOne.op rfl rfl (by decide) (kfa rfl fo29_1 rfl rfl) (ChOne.op rfl rfl (by decide) (kl1 rfl one3 rfl) (ChOne.op rfl rfl (by decide) (ok_index1 rfl Tryz.underlying161 one160 sz160 (vl rfl) (vl rfl) (by omega) (by omega) hkp) (ChOne.op rfl rfl (by decide) (ok_move rfl (vl rfl)) ?_)))))))))
 refine ChOne.turn _ rfl (by decide) (turn_callv _ rfl rfl (vl rfl) (hm _ _) ⟨ke rfl, trivial⟩ ((perm_at (j := 0) rfl).trans (List.Perm.cons _ ((perm_at (j := 0) rfl).trans (List.Perm.cons _ (List.Perm.refl _)))))) ?_
 refine ac ?_
 refine ac ?_
 refine wk6 4 5 7 8 9 45 rfl ?_
 refine Tr.cn rfl ?_ ?_ <;> intro h5 q5
 refine ap ?_
 refine Tr.ret (Fin.then_ret (Fin.retX3 rfl (RVal.cell 1 rfl rfl agg32 sz32 rfl (Pr.le_refl _)) (RVal.cell 0 rfl rfl agg29 sz29 rfl (Pr.le_refl _)) (RVal.tmp rfl (Pr.le_refl _)) ?_))
 refine tup_le ⟨?_, ?_, ?_, trivial⟩
 · exact agg_le ⟨Pr.le_refl _, Pr.le_refl _, Pr.le_refl _, nil_slice 1, Pr.le_refl _, nil_slice 4, nil_slice 1, nil_slice 1, Pr.le_refl _, trivial⟩
 · exact agg_le ⟨Pr.le_refl _, Pr.le_refl _, Pr.le_refl _, Pr.le_refl _, Pr.le_refl _, Pr.le_refl _, Pr.le_refl _, nil_slice 15, trivial⟩
 · exact Pr.le_refl _
 exfalso; have := q5; omega
theorem w_donezY {e e2 : Ept} {c b : Chg} {fk : Nat} {err : Int} (hf : e.fits) (hsm : e.small) (hce : eptB e = true) (hk : 1 ≤ c.kind ∧ c.kind ≤ 12) (hlean : leanB c = true) (hkp : kindsP[c.kind.toNat]? = some (fn (.func fk) [])) (hbk : b.idn.small) (hf2 : e2.fits) (hce2 : eptB e2 = true) (hm : ∀ (wb ob : Nat), FunD Tryz.prog fk [ptr wb 0] [resW wb ob c (back0 c), resO ob e (ints e.suites) (idns e.ids) (ints e.anchors) (ints e.hashes)] (int 0) [resW wb ob c b, cellsRes true ob 32 (rowEp e2)]) : Fun Tryz.prog 74 [agg (rowEp e), agg (rowChg c)] (tup [agg (rowEp e2), agg (rowChg b), int 0]) := by
 refine fo Tryz.func74 rfl ⟨rfl, rfl⟩ fun M0 w0 => (Tr.seq (Tr.regT (tp rfl (ok_box rfl (VL.le (vl rfl) (agg_cellsP _))) (tp rfl (ok_box rfl (VL.le (vl rfl) (agg_cellsP _))) ?_))))
 refine TO.alloc rfl rfl (by decide) rfl z32 zo32 (fun b1 => ?_)
 refine TO.alloc rfl rfl (by decide) rfl z29 zo29 (fun b2 => ?_)
 refine ap ?_
 refine ac ?_
 refine co rfl (kc1 (w_ECheck hf) rfl rfl) ?_
 refine ac ?_
 refine Tr.cn rfl ?_ ?_ <;> intro h1 q1
 exfalso; rw [if_pos hce] at h1; exact absurd h1 (by decide)
 refine ac ?_
 refine ac ?_
 refine Ch.cs 18 rfl ?_ ?_ <;> intro h2 q2
 exfalso; have := q2; omega
 refine ac ?_
 refine Ch.cs 23 rfl ?_ ?_ <;> intro h3 q3
 exfalso; have := q3; omega
 refine cy h3 rfl (ok_loadA rfl agg29 sz29 (vl rfl) rfl rfl) ?_
 refine cy h3 rfl (kc1 (w_lean (c := c)) rfl rfl) ?_
 refine ac ?_
 refine wk5 2 3 4 5 27 rfl ?_
 refine Tr.cn rfl ?_ ?_ <;> intro h4 q4
 rw [hlean] at h4; exact absurd h4 (by decide)
 refine ac ?_
 refine ap ?_
 refine tp rfl (kc1 (w_CopyEz hsm) rfl rfl) ?_
 refine TO.alloc rfl rfl (by decide) rfl z32 zo32 (fun b3 => ?_)
 refine ap ?_
 refine ap ?_
 refine TO.boxm rfl rfl (by decide) rfl (VL.le (vl rfl) (agg_cellsP _)) (fun b4 => ?_)
 refine ap ?_
 refine wk5 3 4 5 7 8 rfl (Tr.seq (Tr.seq (Tr.leC 0 (ptr b3 0 :: rowWt c (back0 c)) rfl ⟨Pr.le_refl _, Pr.le_refl _, Pr.le_refl _, Pr.le_refl _, Pr.le_refl _, Pr.le_refl _, Pr.le_refl _, Pr.le_refl _, Pr.le_refl _, Pr.le_refl _, Pr.le_refl _, Pr.le_refl _, Pr.le_refl _, Pr.le_refl _, Pr.le_refl _, Pr.le_refl _, nil_slice 15, trivial⟩ (Tr.regOne mixed 5 (by kernel_rfl) (ChOne.op rfl rfl (by decide) (kc0 (w_kinds) rfl) (ChOne.op rfl rfl (by decide) (kfa rfl fo29_1 rfl rfl) (ChOne.op rfl rfl (by decide) (kl1 rfl one3 rfl) (ChOne.op rfl rfl (by decide) (ok_index1 rfl Tryz.underlying161 one160 sz160 (vl rfl) (vl rfl) (by omega) (by omega) hkp) (ChOne.op rfl rfl (by decide) (ok_move rfl (vl rfl)) ?_)))))))))
 refine ChOne.turn _ rfl (by decide) (turn_callv _ rfl rfl (vl rfl) (hm _ _) ⟨ke rfl, trivial⟩ ((perm_at (j := 0) rfl).trans (List.Perm.cons _ ((perm_at (j := 0) rfl).trans (List.Perm.cons _ (List.Perm.refl _)))))) ?_
 refine ac ?_
 refine ac ?_
 refine wk6 4 5 7 8 9 45 rfl ?_
 refine Tr.cn rfl ?_ ?_ <;> intro h5 q5
 exact absurd h5 (by decide)
 refine ac ?_
 refine ac ?_
 refine co rfl (kc1 (w_ECheck (e := e2) hf2) rfl rfl) ?_
 refine ac ?_
 refine Tr.cn rfl ?_ ?_ <;> intro h6 q6
 exfalso; rw [if_pos hce2] at h6; exact absurd h6 (by decide)
 refine ac ?_
 refine Tr.seq (Tr.rx ?_)
 refine ay ?_
 refine xo rfl (fun _ => kc1 (w_CopyC (c := b) hbk) rfl rfl) ?_
 refine ay ?_
 refine Cx.nil ⟨by kernel_rfl, ?_⟩
 refine FinX.done al4 (Fin.go (wk3 4 5 6 rfl (Tr.ret (Fin.retX3 rfl (RVal.cell 3 rfl rfl agg32 sz32 rfl (Pr.le_refl _)) (RVal.cell 2 rfl rfl agg29 sz29 rfl (Pr.le_refl _)) (RVal.tmp rfl (Pr.le_refl _)) ?_))))
 refine tup_le ⟨?_, ?_, ?_, trivial⟩
 · exact Pr.le_refl _
 · exact Pr.le_refl _
 · exact Pr.le_refl _
theorem w_donezV {e e2 : Ept} {c b : Chg} {fk : Nat} {err : Int} (hf : e.fits) (hsm : e.small) (hce : eptB e = true) (hk : 1 ≤ c.kind ∧ c.kind ≤ 12) (hlean : leanB c = true) (hkp : kindsP[c.kind.toNat]? = some (fn (.func fk) [])) (hbk : b.idn.small) (hf2 : e2.fits) (hce2 : eptB e2 = false) (hm : ∀ (wb ob : Nat), FunD Tryz.prog fk [ptr wb 0] [resW wb ob c (back0 c), resO ob e (ints e.suites) (idns e.ids) (ints e.anchors) (ints e.hashes)] (int 0) [resW wb ob c b, cellsRes true ob 32 (rowEp e2)]) : Fun Tryz.prog 74 [agg (rowEp e), agg (rowChg c)] (tup [agg (rowEp zeroEp), agg (rowChg zeroChg), int 18]) := by
 refine fo Tryz.func74 rfl ⟨rfl, rfl⟩ fun M0 w0 => (Tr.seq (Tr.regT (tp rfl (ok_box rfl (VL.le (vl rfl) (agg_cellsP _))) (tp rfl (ok_box rfl (VL.le (vl rfl) (agg_cellsP _))) ?_))))
 refine TO.alloc rfl rfl (by decide) rfl z32 zo32 (fun b1 => ?_)
 refine TO.alloc rfl rfl (by decide) rfl z29 zo29 (fun b2 => ?_)
 refine ap ?_
 refine ac ?_
 refine co rfl (kc1 (w_ECheck hf) rfl rfl) ?_
 refine ac ?_
 refine Tr.cn rfl ?_ ?_ <;> intro h1 q1
 exfalso; rw [if_pos hce] at h1; exact absurd h1 (by decide)
 refine ac ?_
 refine ac ?_
 refine Ch.cs 18 rfl ?_ ?_ <;> intro h2 q2
 exfalso; have := q2; omega
 refine ac ?_
 refine Ch.cs 23 rfl ?_ ?_ <;> intro h3 q3
 exfalso; have := q3; omega
 refine cy h3 rfl (ok_loadA rfl agg29 sz29 (vl rfl) rfl rfl) ?_
 refine cy h3 rfl (kc1 (w_lean (c := c)) rfl rfl) ?_
 refine ac ?_
 refine wk5 2 3 4 5 27 rfl ?_
 refine Tr.cn rfl ?_ ?_ <;> intro h4 q4
 rw [hlean] at h4; exact absurd h4 (by decide)
 refine ac ?_
 refine ap ?_
 refine tp rfl (kc1 (w_CopyEz hsm) rfl rfl) ?_
 refine TO.alloc rfl rfl (by decide) rfl z32 zo32 (fun b3 => ?_)
 refine ap ?_
 refine ap ?_
 refine TO.boxm rfl rfl (by decide) rfl (VL.le (vl rfl) (agg_cellsP _)) (fun b4 => ?_)
 refine ap ?_
 refine wk5 3 4 5 7 8 rfl (Tr.seq (Tr.seq (Tr.leC 0 (ptr b3 0 :: rowWt c (back0 c)) rfl ⟨Pr.le_refl _, Pr.le_refl _, Pr.le_refl _, Pr.le_refl _, Pr.le_refl _, Pr.le_refl _, Pr.le_refl _, Pr.le_refl _, Pr.le_refl _, Pr.le_refl _, Pr.le_refl _, Pr.le_refl _, Pr.le_refl _, Pr.le_refl _, Pr.le_refl _, Pr.le_refl _, nil_slice 15, trivial⟩ (Tr.regOne mixed 5 (by kernel_rfl) (ChOne.op rfl rfl (by decide) (kc0 (w_kinds) rfl) (ChOne.op rfl rfl (by decide) (kfa rfl fo29_1 rfl rfl) (ChOne.op rfl rfl (by decide) (kl1 rfl one3 rfl) (ChOne.op rfl rfl (by decide) (ok_index1 rfl Tryz.underlying161 one160 sz160 (vl rfl) (vl rfl) (by omega) (by omega) hkp) (ChOne.op rfl rfl (by decide) (ok_move rfl (vl rfl)) ?_)))))))))
 refine ChOne.turn _ rfl (by decide) (turn_callv _ rfl rfl (vl rfl) (hm _ _) ⟨ke rfl, trivial⟩ ((perm_at (j := 0) rfl).trans (List.Perm.cons _ ((perm_at (j := 0) rfl).trans (List.Perm.cons _ (List.Perm.refl _)))))) ?_
 refine ac ?_
 refine ac ?_
 refine wk6 4 5 7 8 9 45 rfl ?_
 refine Tr.cn rfl ?_ ?_ <;> intro h5 q5
 exact absurd h5 (by decide)
 refine ac ?_
 refine ac ?_
 refine co rfl (kc1 (w_ECheck (e := e2) hf2) rfl rfl) ?_
 refine ac ?_
 refine Tr.cn rfl ?_ ?_ <;> intro h6 q6
 refine ap ?_
 refine Tr.ret (Fin.then_ret (Fin.retX3 rfl (RVal.cell 3 rfl rfl agg32 sz32 rfl (Pr.le_refl _)) (RVal.cell 2 rfl rfl agg29 sz29 rfl (Pr.le_refl _)) (RVal.tmp rfl (Pr.le_refl _)) ?_))
 refine tup_le ⟨?_, ?_, ?_, trivial⟩
 · exact agg_le ⟨Pr.le_refl _, Pr.le_refl _, Pr.le_refl _, nil_slice 1, Pr.le_refl _, nil_slice 4, nil_slice 1, nil_slice 1, Pr.le_refl _, trivial⟩
 · exact agg_le ⟨Pr.le_refl _, Pr.le_refl _, Pr.le_refl _, Pr.le_refl _, Pr.le_refl _, Pr.le_refl _, Pr.le_refl _, nil_slice 15, trivial⟩
 · exact Pr.le_refl _
 exfalso; rw [if_neg (by rw [hce2]; decide)] at h6; exact absurd h6 (by decide)
theorem w_done0 {e : Ept} {c : Chg} (hf : e.fits) (hce : eptB e = false) : Fun Tryz.prog 74 [agg (rowEp e), agg (rowChg c)] (tup [agg (rowEp zeroEp), agg (rowChg zeroChg), int 19]) := by
 refine fo Tryz.func74 rfl ⟨rfl, rfl⟩ fun M0 w0 => (Tr.seq (Tr.regT (tp rfl (ok_box rfl (VL.le (vl rfl) (agg_cellsP _))) (tp rfl (ok_box rfl (VL.le (vl rfl) (agg_cellsP _))) ?_))))
 refine TO.alloc rfl rfl (by decide) rfl z32 zo32 (fun b1 => ?_)
 refine TO.alloc rfl rfl (by decide) rfl z29 zo29 (fun b2 => ?_)
 refine ap ?_
 refine ac ?_
 refine co rfl (kc1 (w_ECheck hf) rfl rfl) ?_
 refine ac ?_
 refine Tr.cn rfl ?_ ?_ <;> intro h1 q1
 refine ap ?_
 refine Tr.ret (Fin.then_ret (Fin.retX3 rfl (RVal.cell 1 rfl rfl agg32 sz32 rfl (Pr.le_refl _)) (RVal.cell 0 rfl rfl agg29 sz29 rfl (Pr.le_refl _)) (RVal.tmp rfl (Pr.le_refl _)) ?_))
 refine tup_le ⟨?_, ?_, ?_, trivial⟩
 · exact agg_le ⟨Pr.le_refl _, Pr.le_refl _, Pr.le_refl _, nil_slice 1, Pr.le_refl _, nil_slice 4, nil_slice 1, nil_slice 1, Pr.le_refl _, trivial⟩
 · exact agg_le ⟨Pr.le_refl _, Pr.le_refl _, Pr.le_refl _, Pr.le_refl _, Pr.le_refl _, Pr.le_refl _, Pr.le_refl _, nil_slice 15, trivial⟩
 · exact Pr.le_refl _
 exfalso; rw [if_neg (by rw [hce]; decide)] at h1; exact absurd h1 (by decide)
theorem w_done1 {e : Ept} {c : Chg} (hf : e.fits) (hce : eptB e = true) (hk : ¬ ((1 ≤ c.kind ∧ c.kind ≤ 12) ∧ leanB c = true)) : Fun Tryz.prog 74 [agg (rowEp e), agg (rowChg c)] (tup [agg (rowEp zeroEp), agg (rowChg zeroChg), int 40]) := by
 refine fo Tryz.func74 rfl ⟨rfl, rfl⟩ fun M0 w0 => (Tr.seq (Tr.regT (tp rfl (ok_box rfl (VL.le (vl rfl) (agg_cellsP _))) (tp rfl (ok_box rfl (VL.le (vl rfl) (agg_cellsP _))) ?_))))
 refine TO.alloc rfl rfl (by decide) rfl z32 zo32 (fun b1 => ?_)
 refine TO.alloc rfl rfl (by decide) rfl z29 zo29 (fun b2 => ?_)
 refine ap ?_
 refine ac ?_
 refine co rfl (kc1 (w_ECheck hf) rfl rfl) ?_
 refine ac ?_
 refine Tr.cn rfl ?_ ?_ <;> intro h1 q1
 exfalso; rw [if_pos hce] at h1; exact absurd h1 (by decide)
 refine ac ?_
 refine ac ?_
 refine Ch.cs 18 rfl ?_ ?_ <;> intro h2 q2
 have hq18 := q2
 refine ac ?_
 refine wk5 2 3 4 5 27 rfl (Tr.cond rfl (fun _ => ?_) (fun h => nomatch h))
 refine Tr.seq (Tr.regT (tp rfl (ok_build (rows := []) rfl bl32 zo32 trivial rfl) (tp rfl (ok_build (rows := []) rfl bl29 zo29 trivial rfl) (TO.store_all 1 rfl rfl rfl (vl rfl) (VL.le (vl rfl) (agg_cellsP _)) rfl sz32 rfl rfl (TO.store_all 0 rfl rfl rfl (vl rfl) (VL.le (vl rfl) (agg_cellsP _)) rfl sz29 rfl rfl (tm rfl (TO.nil (Fin.go (Tr.ret (Fin.then_ret (Fin.retX3 rfl (RVal.cell 1 rfl rfl agg32 sz32 rfl (Pr.le_refl _)) (RVal.cell 0 rfl rfl agg29 sz29 rfl (Pr.le_refl _)) (RVal.tmp rfl (Pr.le_refl _)) ?_)))))))))))
 refine tup_le ⟨?_, ?_, ?_, trivial⟩
 · exact agg_le ⟨Pr.le_refl _, Pr.le_refl _, Pr.le_refl _, nil_slice 1, Pr.le_refl _, nil_slice 4, nil_slice 1, nil_slice 1, Pr.le_refl _, trivial⟩
 · exact agg_le ⟨Pr.le_refl _, Pr.le_refl _, Pr.le_refl _, Pr.le_refl _, Pr.le_refl _, Pr.le_refl _, Pr.le_refl _, nil_slice 15, trivial⟩
 · exact Pr.le_refl _
 refine ac ?_
 refine Ch.cs 23 rfl ?_ ?_ <;> intro h3 q3
 have hq23 := q3
 refine ac ?_
 refine wk5 2 3 4 5 27 rfl (Tr.cond rfl (fun _ => ?_) (fun h => nomatch h))
 refine Tr.seq (Tr.regT (tp rfl (ok_build (rows := []) rfl bl32 zo32 trivial rfl) (tp rfl (ok_build (rows := []) rfl bl29 zo29 trivial rfl) (TO.store_all 1 rfl rfl rfl (vl rfl) (VL.le (vl rfl) (agg_cellsP _)) rfl sz32 rfl rfl (TO.store_all 0 rfl rfl rfl (vl rfl) (VL.le (vl rfl) (agg_cellsP _)) rfl sz29 rfl rfl (tm rfl (TO.nil (Fin.go (Tr.ret (Fin.then_ret (Fin.retX3 rfl (RVal.cell 1 rfl rfl agg32 sz32 rfl (Pr.le_refl _)) (RVal.cell 0 rfl rfl agg29 sz29 rfl (Pr.le_refl _)) (RVal.tmp rfl (Pr.le_refl _)) ?_)))))))))))
 refine tup_le ⟨?_, ?_, ?_, trivial⟩
 · exact agg_le ⟨Pr.le_refl _, Pr.le_refl _, Pr.le_refl _, nil_slice 1, Pr.le_refl _, nil_slice 4, nil_slice 1, nil_slice 1, Pr.le_refl _, trivial⟩
 · exact agg_le ⟨Pr.le_refl _, Pr.le_refl _, Pr.le_refl _, Pr.le_refl _, Pr.le_refl _, Pr.le_refl _, Pr.le_refl _, nil_slice 15, trivial⟩
 · exact Pr.le_refl _
 have hq23 := q3
 refine cy h3 rfl (ok_loadA rfl agg29 sz29 (vl rfl) rfl rfl) ?_
 refine cy h3 rfl (kc1 (w_lean (c := c)) rfl rfl) ?_
 refine ac ?_
 refine wk5 2 3 4 5 27 rfl ?_
 refine Tr.cn rfl ?_ ?_ <;> intro h4 q4
 refine ap ?_
 refine Tr.ret (Fin.then_ret (Fin.retX3 rfl (RVal.cell 1 rfl rfl agg32 sz32 rfl (Pr.le_refl _)) (RVal.cell 0 rfl rfl agg29 sz29 rfl (Pr.le_refl _)) (RVal.tmp rfl (Pr.le_refl _)) ?_))
 refine tup_le ⟨?_, ?_, ?_, trivial⟩
 · exact agg_le ⟨Pr.le_refl _, Pr.le_refl _, Pr.le_refl _, nil_slice 1, Pr.le_refl _, nil_slice 4, nil_slice 1, nil_slice 1, Pr.le_refl _, trivial⟩
 · exact agg_le ⟨Pr.le_refl _, Pr.le_refl _, Pr.le_refl _, Pr.le_refl _, Pr.le_refl _, Pr.le_refl _, Pr.le_refl _, nil_slice 15, trivial⟩
 · exact Pr.le_refl _
 exfalso; apply hk; simp_all
end Go.Proofs.YtppeeogffbpcbaaGreat
