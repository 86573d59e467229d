/-
  Part 5 of the texts that prove this claim, merged.
-/
import Derived.Test.YtppeeogffbpcbaaGreatElAP4
set_option linter.all false
set_option maxRecDepth 40000
set_option maxHeartbeats 16000000
namespace Go.Proofs.YtppeeogffbpcbaaGreat
open Go Go.RowKit Cp
theorem eqv129 {d : Nat} {w : World} {x0 y0 : Int} {x1 y1 : Int} : (Op.equalIn (d + 2) 129 (.agg #[.int .i64 x0, .int .i64 x1]) (.agg #[.int .i64 y0, .int .i64 y1])).run Tryz.prog w = .ok (decide (x0 = y0 ∧ x1 = y1)) w := by
  have h := eqS (w := w) (d := d + 1) (xs := #[.int .i64 x0, .int .i64 x1]) (ys := #[.int .i64 y0, .int .i64 y1]) Tryz.underlying129 (by kernel_rfl) (eqF_cons (by decide) (part_leaf one3 rfl) (part_leaf one3 rfl) (eq_intL (d := d + 0) Tryz.underlying3) (eqF_cons (by decide) (part_leaf one3 rfl) (part_leaf one3 rfl) (eq_intL (d := d + 0) Tryz.underlying3) (eqF_nil)))
  refine h.trans (congrArg (fun b => Result.ok b w) ?_)
  rw [Bool.eq_iff_iff]; simp [and_assoc]
theorem ok_eq129 {E : Env} {I : Asn} {o : Oper} {u : TypeId} {x y : Operand} {x0 y0 : Int} {x1 y1 : Int} (ho : o.op = .binOp .eql 129 x y u) (hx : VL E x (agg [is (.int .i64 x0), is (.int .i64 x1)])) (hy : VL E y (agg [is (.int .i64 y0), is (.int .i64 y1)])) : OpOK Tryz.prog I o E (bool (decide (x0 = y0 ∧ x1 = y1))) :=
  ok_eqagg [.int .i64 x0, .int .i64 x1] [.int .i64 y0, .int .i64 y1] ho hx hy (by kernel_rfl) (fun w => by rw [show Op.equal 129 _ _ = Op.equalIn (9998 + 2) 129 _ _ from rfl]; exact eqv129)
deriving instance DecidableEq for Crt
deriving instance DecidableEq for Idn
deriving instance DecidableEq for Ept
deriving instance DecidableEq for Chg
theorem sameY {α : Type} {a b : List α} {k : Nat} {x y : α} (ha : a[k]? = some x) (hb : b[k]? = some y) (h : a.take k = b.take k) (e : x = y) : a.take (k + 1) = b.take (k + 1) := by
  rw [List.take_add_one, List.take_add_one, ha, hb, h, e]
theorem sameN {α : Type} {a b : List α} {k : Nat} {x y : α} (ha : a[k]? = some x) (hb : b[k]? = some y) (e : ¬ x = y) : ¬ a = b := by
  rintro rfl; rw [ha] at hb; cases hb; exact e rfl
theorem sameA {α : Type} {a b : List α} (hl : a.length = b.length) (h : a.take a.length = b.take a.length) : a = b := by
  rw [List.take_length, hl, List.take_length] at h; exact h

theorem w_SameInts {a b : List (Int)}  : Fun Tryz.prog 82 [ints a, ints b] (bool (decide (a = b))) := by
 refine fo Tryz.func82 rfl ⟨rfl, rfl⟩ fun M0 w0 => (Tr.lenm 0 rfl fun hlm_0 => (Tr.lenm 1 rfl fun hlm_1 => ?_))
 refine ac ?_
 refine ac ?_
 refine Tr.cn rfl ?_ ?_ <;> intro h1 q1
 have hne : ¬ a.length = b.length := by simp_all; omega
 refine ac ?_
 refine ac ?_
 · refine bool_eq ?_; symm; rw [decide_eq_false_iff_not]; rintro rfl; exact hne rfl
 have hll : a.length = b.length := by simp_all; omega
 refine ac ?_
 refine ac ?_
 refine Tr.block (Tr.loopw [(0, _), (1, _)] (kk2 rfl) (fun k : Nat => [(5, int ((k : Nat) : Int))]) (fun k : Nat => k ≤ (a).length ∧ (a.take k = b.take k)) (fun k : Nat => (a).length - k) 0 (⟨Nat.zero_le _, rfl⟩) ⟨ke rfl, trivial⟩ ?_)
 rintro k ⟨hle_k, hinv_k⟩
 refine ac ?_
 refine Tr.cn rfl ?_ ?_ <;> intro h2 q2
 have hk_k : k < (a).length := lt_of_dec h2
 obtain ⟨x, hx_k⟩ := at_ hk_k
 obtain ⟨y, hy⟩ := at_ (l := b) (k := k) (by omega)
 refine ac ?_
 refine ac ?_
 refine co rfl (ok_indexAddr rfl Tryz.underlying22 sz3 (vl rfl) (vl rfl) (by omega) (row_at hx_k)) ?_
 refine ac ?_
 refine co rfl (ok_indexAddr rfl Tryz.underlying22 sz3 (vl rfl) (vl rfl) (by omega) (row_at hy)) ?_
 refine ac ?_
 refine wk4 0 1 5 25 rfl ?_
 refine Tr.cn rfl ?_ ?_ <;> intro h3 q3
 refine ac ?_
 refine ac ?_
 · refine bool_eq ?_; symm; rw [decide_eq_false_iff_not]; refine sameN hx_k hy ?_; rintro rfl; simp_all
 refine ac ?_
 refine ac ?_
 exact Fin.fam_same (k + 1) ⟨⟨hk_k, sameY hx_k hy hinv_k (by simp_all)⟩, by omega⟩ ⟨⟨_, rfl, int_succ k⟩, ke rfl, ke rfl, trivial⟩
 have he_k : k = (a).length := by have := ge_of_dec h2; omega
 subst he_k
 refine ac ?_
 refine ac ?_
 refine ac ?_
 · refine bool_eq ?_; symm; rw [decide_eq_true_eq]; exact sameA hll hinv_k
theorem w_SameTexts {a b : List (List UInt8)}  : Fun Tryz.prog 220 [txts a, txts b] (bool (decide (a = b))) := by
 refine fo Tryz.func220 rfl ⟨rfl, rfl⟩ fun M0 w0 => (Tr.lenm 0 rfl fun hlm_0 => (Tr.lenm 1 rfl fun hlm_1 => ?_))
 refine ac ?_
 refine ac ?_
 refine Tr.cn rfl ?_ ?_ <;> intro h1 q1
 have hne : ¬ a.length = b.length := by simp_all; omega
 refine ac ?_
 refine ac ?_
 · refine bool_eq ?_; symm; rw [decide_eq_false_iff_not]; rintro rfl; exact hne rfl
 have hll : a.length = b.length := by simp_all; omega
 refine ac ?_
 refine ac ?_
 refine Tr.block (Tr.loopw [(0, _), (1, _)] (kk2 rfl) (fun k : Nat => [(5, int ((k : Nat) : Int))]) (fun k : Nat => k ≤ (a).length ∧ (a.take k = b.take k)) (fun k : Nat => (a).length - k) 0 (⟨Nat.zero_le _, rfl⟩) ⟨ke rfl, trivial⟩ ?_)
 rintro k ⟨hle_k, hinv_k⟩
 refine ac ?_
 refine Tr.cn rfl ?_ ?_ <;> intro h2 q2
 have hk_k : k < (a).length := lt_of_dec h2
 obtain ⟨x, hx_k⟩ := at_ hk_k
 obtain ⟨y, hy⟩ := at_ (l := b) (k := k) (by omega)
 refine ac ?_
 refine ac ?_
 refine co rfl (ok_indexAddr rfl Tryz.underlying74 sz9 (vl rfl) (vl rfl) (by omega) (row_at hx_k)) ?_
 refine ac ?_
 refine co rfl (ok_indexAddr rfl Tryz.underlying74 sz9 (vl rfl) (vl rfl) (by omega) (row_at hy)) ?_
 refine ac ?_
 refine wk4 0 1 5 25 rfl ?_
 refine Tr.cn rfl ?_ ?_ <;> intro h3 q3
 refine ac ?_
 refine ac ?_
 · refine bool_eq ?_; symm; rw [decide_eq_false_iff_not]; refine sameN hx_k hy ?_; rintro rfl; simp_all
 refine ac ?_
 refine ac ?_
 exact Fin.fam_same (k + 1) ⟨⟨hk_k, sameY hx_k hy hinv_k (by simp_all)⟩, by omega⟩ ⟨⟨_, rfl, int_succ k⟩, ke rfl, ke rfl, trivial⟩
 have he_k : k = (a).length := by have := ge_of_dec h2; omega
 subst he_k
 refine ac ?_
 refine ac ?_
 refine ac ?_
 · refine bool_eq ?_; symm; rw [decide_eq_true_eq]; exact sameA hll hinv_k
theorem w_R3Same {a b : Crt}  : Fun Tryz.prog 182 [agg (rowCr a), agg (rowCr b)] (bool (decide (a = b))) := by
 refine fo Tryz.func182 rfl ⟨rfl, rfl⟩ fun M0 w0 => ?_
 refine ac ?_
 refine ac ?_
 refine Ch.cs 10 rfl ?_ ?_ <;> intro h1 q1
 refine ac ?_
 refine Ch.cs 17 rfl ?_ ?_ <;> intro h2 q2
 refine ac ?_
 refine Ch.cs 24 rfl ?_ ?_ <;> intro h3 q3
 refine ac ?_
 refine cy h3 rfl (ok_eq24 rfl (vl rfl) (vl rfl)) ?_
 refine ac ?_
 refine Ch.cs 31 rfl ?_ ?_ <;> intro h4 q4
 refine ac ?_
 refine Ch.cs 38 rfl ?_ ?_ <;> intro h5 q5
 refine ac ?_
 refine cy h5 rfl (ok_eq24 rfl (vl rfl) (vl rfl)) ?_
 refine ac ?_
 refine Ch.cs 45 rfl ?_ ?_ <;> intro h6 q6
 refine ac ?_
 refine Ch.cs 52 rfl ?_ ?_ <;> intro h7 q7
 refine ac ?_
 refine Ch.cs 59 rfl ?_ ?_ <;> intro h8 q8
 refine ac ?_
 refine Ch.cs 66 rfl ?_ ?_ <;> intro h9 q9
 refine ac ?_
 refine Ch.cs 73 rfl ?_ ?_ <;> intro h10 q10
 refine ac ?_
 refine cy h10 rfl (kc2 (w_SameTexts) rfl rfl rfl) ?_
 refine ac ?_
 refine Ch.cs 80 rfl ?_ ?_ <;> intro h11 q11
 refine ac ?_
 refine cy h11 rfl (ok_eq129 rfl (vl rfl) (vl rfl)) ?_
 refine ac ?_
 refine wk1 4 rfl ?_
 refine ac ?_
 · refine bool_eq ?_; cases a; cases b; simp_all
 refine ac ?_
 refine wk1 4 rfl ?_
 refine ac ?_
 · refine bool_eq ?_; cases a; cases b; simp_all
 refine ac ?_
 refine wk1 4 rfl ?_
 refine ac ?_
 · refine bool_eq ?_; cases a; cases b; simp_all
 refine ac ?_
 refine wk1 4 rfl ?_
 refine ac ?_
 · refine bool_eq ?_; cases a; cases b; simp_all
 refine ac ?_
 refine wk1 4 rfl ?_
 refine ac ?_
 · refine bool_eq ?_; cases a; cases b; simp_all
 refine ac ?_
 refine wk1 4 rfl ?_
 refine ac ?_
 · refine bool_eq ?_; cases a; cases b; simp_all
 refine ac ?_
 refine wk1 4 rfl ?_
 refine ac ?_
 · refine bool_eq ?_; cases a; cases b; simp_all
 refine ac ?_
 refine wk1 4 rfl ?_
 refine ac ?_
 · refine bool_eq ?_; cases a; cases b; simp_all
 refine ac ?_
 refine wk1 4 rfl ?_
 refine ac ?_
 · refine bool_eq ?_; cases a; cases b; simp_all
 refine ac ?_
 refine wk1 4 rfl ?_
 refine ac ?_
 · refine bool_eq ?_; cases a; cases b; simp_all
 refine ac ?_
 refine wk1 4 rfl ?_
 refine ac ?_
 · refine bool_eq ?_; cases a; cases b; simp_all
 refine ac ?_
 refine wk1 4 rfl ?_
 refine ac ?_
 · refine bool_eq ?_; cases a; cases b; simp_all
theorem w_R3SameChain {a b : List (Crt)}  : Fun Tryz.prog 129 [certs a, certs b] (bool (decide (a = b))) := by
 refine fo Tryz.func129 rfl ⟨rfl, rfl⟩ fun M0 w0 => (Tr.lenm 0 rfl fun hlm_0 => (Tr.lenm 1 rfl fun hlm_1 => ?_))
 refine ac ?_
 refine ac ?_
 refine Tr.cn rfl ?_ ?_ <;> intro h1 q1
 have hne : ¬ a.length = b.length := by simp_all; omega
 refine ac ?_
 refine ac ?_
 · refine bool_eq ?_; symm; rw [decide_eq_false_iff_not]; rintro rfl; exact hne rfl
 have hll : a.length = b.length := by simp_all; omega
 refine ac ?_
 refine ac ?_
 refine Tr.block (Tr.loopw [(0, _), (1, _)] (kk2 rfl) (fun k : Nat => [(5, int ((k : Nat) : Int))]) (fun k : Nat => k ≤ (a).length ∧ (a.take k = b.take k)) (fun k : Nat => (a).length - k) 0 (⟨Nat.zero_le _, rfl⟩) ⟨ke rfl, trivial⟩ ?_)
 rintro k ⟨hle_k, hinv_k⟩
 refine ac ?_
 refine Tr.cn rfl ?_ ?_ <;> intro h2 q2
 have hk_k : k < (a).length := lt_of_dec h2
 obtain ⟨x, hx_k⟩ := at_ hk_k
 obtain ⟨y, hy⟩ := at_ (l := b) (k := k) (by omega)
 refine ac ?_
 refine ac ?_
 refine co rfl (ok_indexAddr rfl Tryz.underlying25 sz131 (vl rfl) (vl rfl) (by omega) (row_at hx_k)) ?_
 refine ac ?_
 refine co rfl (ok_indexAddr rfl Tryz.underlying25 sz131 (vl rfl) (vl rfl) (by omega) (row_at hy)) (co rfl (ok_loadA rfl agg131 sz131 (vl rfl) rfl rfl) (co rfl (kc2 (w_R3Same) rfl rfl rfl) ?_))
 refine ac ?_
 refine wk4 0 1 5 26 rfl ?_
 refine Tr.cn rfl ?_ ?_ <;> intro h3 q3
 refine ac ?_
 refine ac ?_
 · refine bool_eq ?_; symm; rw [decide_eq_false_iff_not]; refine sameN hx_k hy ?_; rintro rfl; simp_all
 refine ac ?_
 refine ac ?_
 exact Fin.fam_same (k + 1) ⟨⟨hk_k, sameY hx_k hy hinv_k (by simp_all)⟩, by omega⟩ ⟨⟨_, rfl, int_succ k⟩, ke rfl, ke rfl, trivial⟩
 have he_k : k = (a).length := by have := ge_of_dec h2; omega
 subst he_k
 refine ac ?_
 refine ac ?_
 refine ac ?_
 · refine bool_eq ?_; symm; rw [decide_eq_true_eq]; exact sameA hll hinv_k
theorem w_R9SameIds {a b : List (Idn)}  : Fun Tryz.prog 83 [idns a, idns b] (bool (decide (a = b))) := by
 refine fo Tryz.func83 rfl ⟨rfl, rfl⟩ fun M0 w0 => (Tr.lenm 0 rfl fun hlm_0 => (Tr.lenm 1 rfl fun hlm_1 => ?_))
 refine ac ?_
 refine ac ?_
 refine Tr.cn rfl ?_ ?_ <;> intro h1 q1
 have hne : ¬ a.length = b.length := by simp_all; omega
 refine ac ?_
 refine ac ?_
 · refine bool_eq ?_; symm; rw [decide_eq_false_iff_not]; rintro rfl; exact hne rfl
 have hll : a.length = b.length := by simp_all; omega
 refine ac ?_
 refine ac ?_
 refine Tr.block (Tr.loopw [(0, _), (1, _)] (kk2 rfl) (fun k : Nat => [(5, int ((k : Nat) : Int))]) (fun k : Nat => k ≤ (a).length ∧ (a.take k = b.take k)) (fun k : Nat => (a).length - k) 0 (⟨Nat.zero_le _, rfl⟩) ⟨ke rfl, trivial⟩ ?_)
 rintro k ⟨hle_k, hinv_k⟩
 refine ac ?_
 refine Tr.cn rfl ?_ ?_ <;> intro h2 q2
 have hk_k : k < (a).length := lt_of_dec h2
 obtain ⟨x, hx_k⟩ := at_ hk_k
 obtain ⟨y, hy⟩ := at_ (l := b) (k := k) (by omega)
 refine ac ?_
 refine ac ?_
 refine co rfl (ok_indexAddr rfl Tryz.underlying30 sz27 (vl rfl) (vl rfl) (by omega) (row_at hx_k)) ?_
 refine ac ?_
 refine co rfl (ok_indexAddr rfl Tryz.underlying30 sz27 (vl rfl) (vl rfl) (by omega) (row_at hy)) ?_
 refine ac ?_
 refine co rfl (ok_ne24 rfl (vl rfl) (vl rfl)) (cm rfl ?_)
 refine Ch.cs 28 rfl ?_ ?_ <;> intro h3 q3
 refine ac ?_
 refine wk4 0 1 5 54 rfl ?_
 refine ac ?_
 refine ac ?_
 · refine bool_eq ?_; symm; rw [decide_eq_false_iff_not]; refine sameN hx_k hy ?_; rintro rfl; simp_all
 refine ac ?_
 refine cy h3 rfl (ok_indexAddr rfl Tryz.underlying30 sz27 (vl rfl) (vl rfl) (by omega) (row_at hx_k)) ?_
 refine ac ?_
 refine cy h3 rfl (ok_indexAddr rfl Tryz.underlying30 sz27 (vl rfl) (vl rfl) (by omega) (row_at hy)) ?_
 refine ac ?_
 refine Ch.cs 41 rfl ?_ ?_ <;> intro h4 q4
 refine ac ?_
 refine wk4 0 1 5 54 rfl ?_
 refine ac ?_
 refine ac ?_
 · refine bool_eq ?_; symm; rw [decide_eq_false_iff_not]; refine sameN hx_k hy ?_; rintro rfl; simp_all
 refine ac ?_
 refine cy h4 rfl (ok_indexAddr rfl Tryz.underlying30 sz27 (vl rfl) (vl rfl) (by omega) (row_at hx_k)) ?_
 refine ac ?_
 refine cy h4 rfl (ok_indexAddr rfl Tryz.underlying30 sz27 (vl rfl) (vl rfl) (by omega) (row_at hy)) ?_
 refine ac ?_
 refine cy h4 rfl (kc2 (w_R3SameChain) rfl rfl rfl) ?_
 refine ac ?_
 refine wk4 0 1 5 54 rfl ?_
 refine Tr.cn rfl ?_ ?_ <;> intro h5 q5
 refine ac ?_
 refine ac ?_
 · refine bool_eq ?_; symm; rw [decide_eq_false_iff_not]; refine sameN hx_k hy ?_; rintro rfl; simp_all
 refine ac ?_
 refine ac ?_
 exact Fin.fam_same (k + 1) ⟨⟨hk_k, sameY hx_k hy hinv_k (by cases x; cases y; simp_all)⟩, by omega⟩ ⟨⟨_, rfl, int_succ k⟩, ke rfl, ke rfl, trivial⟩
 have he_k : k = (a).length := by have := ge_of_dec h2; omega
 subst he_k
 refine ac ?_
 refine ac ?_
 refine ac ?_
 · refine bool_eq ?_; symm; rw [decide_eq_true_eq]; exact sameA hll hinv_k
theorem w_R9Same {a b : Ept}  : Fun Tryz.prog 22 [agg (rowEp a), agg (rowEp b)] (bool (decide (a = b))) := by
 refine fo Tryz.func22 rfl ⟨rfl, rfl⟩ fun M0 w0 => ?_
 refine ac ?_
 refine ac ?_
 refine Ch.cs 10 rfl ?_ ?_ <;> intro h1 q1
 refine ac ?_
 refine Ch.cs 17 rfl ?_ ?_ <;> intro h2 q2
 refine ac ?_
 refine Ch.cs 24 rfl ?_ ?_ <;> intro h3 q3
 refine ac ?_
 refine cy h3 rfl (kc2 (w_SameInts) rfl rfl rfl) ?_
 refine ac ?_
 refine Ch.cs 31 rfl ?_ ?_ <;> intro h4 q4
 refine ac ?_
 refine Ch.cs 38 rfl ?_ ?_ <;> intro h5 q5
 refine ac ?_
 refine cy h5 rfl (kc2 (w_R9SameIds) rfl rfl rfl) ?_
 refine ac ?_
 refine Ch.cs 45 rfl ?_ ?_ <;> intro h6 q6
 refine ac ?_
 refine cy h6 rfl (kc2 (w_SameInts) rfl rfl rfl) ?_
 refine ac ?_
 refine Ch.cs 52 rfl ?_ ?_ <;> intro h7 q7
 refine ac ?_
 refine cy h7 rfl (kc2 (w_SameInts) rfl rfl rfl) ?_
 refine ac ?_
 refine Ch.cs 59 rfl ?_ ?_ <;> intro h8 q8
 refine ac ?_
 refine wk1 4 rfl ?_
 refine ac ?_
 · refine bool_eq ?_; cases a; cases b; simp_all [Bool.beq_eq_decide_eq]
 refine ac ?_
 refine wk1 4 rfl ?_
 refine ac ?_
 · refine bool_eq ?_; cases a; cases b; simp_all [Bool.beq_eq_decide_eq]
 refine ac ?_
 refine wk1 4 rfl ?_
 refine ac ?_
 · refine bool_eq ?_; cases a; cases b; simp_all [Bool.beq_eq_decide_eq]
 refine ac ?_
 refine wk1 4 rfl ?_
 refine ac ?_
 · refine bool_eq ?_; cases a; cases b; simp_all [Bool.beq_eq_decide_eq]
 refine ac ?_
 refine wk1 4 rfl ?_
 refine ac ?_
 · refine bool_eq ?_; cases a; cases b; simp_all [Bool.beq_eq_decide_eq]
 refine ac ?_
 refine wk1 4 rfl ?_
 refine ac ?_
 · refine bool_eq ?_; cases a; cases b; simp_all [Bool.beq_eq_decide_eq]
 refine ac ?_
 refine wk1 4 rfl ?_
 refine ac ?_
 · refine bool_eq ?_; cases a; cases b; simp_all [Bool.beq_eq_decide_eq]
 refine ac ?_
 refine wk1 4 rfl ?_
 refine ac ?_
 · refine bool_eq ?_; cases a; cases b; simp_all [Bool.beq_eq_decide_eq]
 refine ac ?_
 refine wk1 4 rfl ?_
 refine ac ?_
 · refine bool_eq ?_; cases a; cases b; simp_all [Bool.beq_eq_decide_eq]
end Go.Proofs.YtppeeogffbpcbaaGreat
namespace Go.Proofs.YtppeeogffbpcbaaGreat
open Go Go.RowKit Cp

theorem kinds12 {k : Int} (hk : 1 ≤ k ∧ k ≤ 12) : k = 1 ∨ k = 2 ∨ k = 3 ∨ k = 4 ∨ k = 5 ∨ k = 6 ∨ k = 7 ∨ k = 8 ∨ k = 9 ∨ k = 10 ∨ k = 11 ∨ k = 12 := by omega
theorem stepR_ne {e : Ept} {c : Chg} {f : Int} (hc : okCh c) (h : stepR e c = .error f) : f ≠ 0 := by
  rcases kinds12 hc.1 with hk | hk | hk | hk | hk | hk | hk | hk | hk | hk | hk | hk
  · rw [stepR_1 hk] at h; (repeat' (split at h)) <;> first | (injection h with h; omega) | (cases h; done)
  · rw [stepR_2 hk] at h; (repeat' (split at h)) <;> first | (injection h with h; omega) | (cases h; done)
  · rw [stepR_3 hk] at h; (repeat' (split at h)) <;> first | (injection h with h; omega) | (cases h; done)
  · rw [stepR_4 hk] at h; (repeat' (split at h)) <;> first | (injection h with h; omega) | (cases h; done)
  · rw [stepR_5 hk] at h; (repeat' (split at h)) <;> first | (injection h with h; omega) | (cases h; done)
  · rw [stepR_6 hk] at h; (repeat' (split at h)) <;> first | (injection h with h; omega) | (cases h; done)
  · rw [stepR_7 hk] at h; (repeat' (split at h)) <;> first | (injection h with h; omega) | (cases h; done)
  · rw [stepR_8 hk] at h; (repeat' (split at h)) <;> first | (injection h with h; omega) | (cases h; done)
  · rw [stepR_9 hk] at h; (repeat' (split at h)) <;> first | (injection h with h; omega) | (cases h; done)
  · rw [stepR_10 hk] at h; (repeat' (split at h)) <;> first | (injection h with h; omega) | (cases h; done)
  · rw [stepR_11 hk] at h; (repeat' (split at h)) <;> first | (injection h with h; omega) | (cases h; done)
  · rw [stepR_12 hk] at h; (repeat' (split at h)) <;> first | (injection h with h; omega) | (cases h; done)
theorem doneR_inv {e : Ept} {c : Chg} {x : Ept} {b : Chg} (h : doneR e c = (x, b, 0)) : EptOk e ∧ okCh c ∧ stepR e c = .ok (x, b) ∧ EptOk x := by
  unfold doneR at h
  split at h
  · cases h
  next h1 =>
  split at h
  · cases h
  next h2 =>
  have h1 : eptB e = true := by cases hh : eptB e with
    | true => rfl
    | false => exact absurd hh h1
  have h2 : okCh c := Classical.not_not.1 h2
  cases hs : stepR e c with
  | error f =>
    rw [hs] at h
    simp only [Prod.mk.injEq] at h
    exact absurd h.2.2 (stepR_ne h2 hs)
  | ok r =>
    obtain ⟨x', b'⟩ := r
    rw [hs] at h
    simp only at h
    split at h
    next h3 => simp only [Prod.mk.injEq, and_true] at h; obtain ⟨rfl, rfl⟩ := h; exact ⟨eptB_iff.1 h1, h2, rfl, eptB_iff.1 h3⟩
    · cases h
section
variable {α : Type} {p : α → Bool} {l : List α} {a : α} {i : Nat}
end
end Go.Proofs.YtppeeogffbpcbaaGreat
namespace Go.Proofs.YtppeeogffbpcbaaGreat
open Go Go.RowKit Cp

abbrev u8R : List Pr := [anyK .u8]
abbrev bts (m : Nat) : Pr := slice 1 (List.replicate m u8R)
abbrev bytesE (B : Nat) : Pr := Cp.ex fun m : Nat => fact (m ≤ B) (bts m)
abbrev anyB : Pr := Cp.ex fun b : Bool => bool b
abbrev rowQ (q : Pr) : List Pr := [anyK .i64, bytesE 1000, anyB, q]
abbrev elemsE (row : List Pr) : Pr := Cp.ex fun m : Nat => fact (m ≤ 20) (slice 4 (List.replicate m row))
abbrev depthE (D : Nat) : Pr := Cp.ex fun d : Int => fact (0 ≤ d ∧ d ≤ (D : Nat)) (int d)
theorem rep_at {r : List Pr} {m k : Nat} (h : k < m) : (List.replicate m r)[((k : Nat) : Int).toNat]? = some r := by rw [Int.toNat_natCast, List.getElem?_replicate, if_pos h]
theorem rep_one {r : List Pr} {m : Nat} : List.replicate m r ++ [r] = List.replicate (m + 1) r := by rw [List.replicate_succ']
theorem rep_add {r : List Pr} {m k : Nat} : List.replicate m r ++ List.replicate k r = List.replicate (m + k) r := by rw [List.replicate_append_replicate]
theorem LeL.refl : ∀ l : List Pr, LeL l l
  | [] => trivial
  | _ :: l => ⟨Pr.le_refl _, LeL.refl l⟩
/-- Rows that read less exactly. -/
theorem slice_le {sz : Nat} {rows rows' : List (List Pr)} (hl : rows.length = rows'.length) (h : ∀ (i : Nat) r r', rows[i]? = some r → rows'[i]? = some r' → r.length = r'.length ∧ ∀ (j : Nat) p p', r[j]? = some p → r'[j]? = some p' → Pr.le p p') : Pr.le (slice sz rows) (slice sz rows') := by
  rintro M w v ⟨a, cap, h1, h2, h3, h4, h5⟩
  refine ⟨a, cap, by rw [← hl]; exact h1, by rw [← hl]; exact h2, h3, h4, fun i row hr => ?_⟩
  have hi : i < rows.length := by rw [hl]; exact lt_of_at hr
  have hr0 := List.getElem?_eq_getElem hi
  obtain ⟨g1, g2⟩ := h i _ _ hr0 hr
  obtain ⟨k1, ad, k2, k3⟩ := h5 i _ hr0
  refine ⟨by rw [← g1]; exact k1, ad, k2, fun j p' hp' => ?_⟩
  have hj : j < rows[i].length := by rw [g1]; exact lt_of_at hp'
  have hp := List.getElem?_eq_getElem hj
  obtain ⟨u, c1, c2, c3, c4⟩ := k3 j _ hp
  exact ⟨u, c1, c2, c3, g2 j _ _ hp hp' _ _ _ c4⟩
theorem slice_rep {sz : Nat} {rows : List (List Pr)} {r : List Pr} (h : ∀ q ∈ rows, q.length = r.length ∧ ∀ (j : Nat) p p', q[j]? = some p → r[j]? = some p' → Pr.le p p') : Pr.le (slice sz rows) (slice sz (List.replicate rows.length r)) :=
  slice_le (by simp) fun i q q' hq hq' => by
    rw [List.getElem?_replicate, if_pos (lt_of_at hq)] at hq'
    cases hq'
    exact h q (List.mem_of_getElem? hq)
theorem bts_of {β : Type} {l : List β} {f : β → Int} : Pr.le (slice 1 (l.map fun x => [is (.int .u8 (f x))])) (bts l.length) := by
  have := slice_rep (sz := 1) (rows := l.map fun x => [is (.int .u8 (f x))]) (r := u8R) (by
    intro q hq
    obtain ⟨x, _, rfl⟩ := List.mem_map.1 hq
    refine ⟨rfl, fun j p p' hp hp' => ?_⟩
    cases j with
    | zero => simp at hp hp'; subst hp; subst hp'; exact is_anyK _ _
    | succ j => simp at hp)
  rwa [List.length_map] at this
theorem bytesE_in {B m : Nat} {p : Pr} (h : m ≤ B) (hp : Pr.le p (bts m)) : Pr.le p (bytesE B) := ex_in m (fact_in h hp)
/-- What an element is, cell by cell. -/
theorem Fun.rowQ {P : Program} {f : FuncId} {row : List Pr} {res : Pr} (h : ∀ (t : Int) (b : Nat) (n : Bool) (m : Nat), b ≤ 1000 → m ≤ 20 → Fun P f [agg [int t, bts b, bool n, slice 4 (List.replicate m row)]] res) : Fun P f [agg (rowQ (elemsE row))] res := by
  refine ⟨(h 0 0 false 0 (by omega) (by omega)).1, fun M w vs hb hv => ?_⟩
  match vs, hv with
  | [u0], hv1 =>
    obtain ⟨⟨cs, rfl, ho, hcs⟩, _⟩ := hv1
    match cs, hcs with
    | [c0, c1, c2, c3], hc =>
      obtain ⟨⟨t, h0⟩, ⟨b, hb1, h1⟩, ⟨n, h2⟩, ⟨m, hm1, h3⟩, _⟩ := hc
      exact (h t b n m hb1 hm1).2 M w _ hb ⟨⟨_, rfl, ho, h0, h1, h2, h3, trivial⟩, trivial⟩
theorem Fun.rowQ0 {P : Program} {f : FuncId} {res : Pr} (h : ∀ (t : Int) (b : Nat) (n : Bool), b ≤ 1000 → Fun P f [agg [int t, bts b, bool n, slice 4 []]] res) : Fun P f [agg [anyK .i64, bytesE 1000, anyB, slice 4 []]] res := by
  refine ⟨(h 0 0 false (by omega)).1, fun M w vs hb hv => ?_⟩
  match vs, hv with
  | [u0], hv1 =>
    obtain ⟨⟨cs, rfl, ho, hcs⟩, _⟩ := hv1
    match cs, hcs with
    | [c0, c1, c2, c3], hc =>
      obtain ⟨⟨t, h0⟩, ⟨b, hb1, h1⟩, ⟨n, h2⟩, h3, _⟩ := hc
      exact (h t b n hb1).2 M w _ hb ⟨⟨_, rfl, ho, h0, h1, h2, h3, trivial⟩, trivial⟩

theorem w_rtag {n : Int}  : Fun Tryz.prog 284 [int n] (bool (decide (1 ≤ n) && decide (n ≤ 255) && (n.tmod 32 != 31))) := by
 refine fo Tryz.func284 rfl ⟨rfl, rfl⟩ fun M0 w0 => ?_
 refine ac ?_
 refine ac ?_
 refine Ch.cs 5 rfl ?_ ?_ <;> intro h1 q1
 refine ac ?_
 refine Ch.cs 9 rfl ?_ ?_ <;> intro h2 q2
 refine cym h2 rfl (cy h2 rfl (ok_rem rfl (vl rfl) (vl rfl) (by omega)) ?_)
 refine ac ?_
 refine ac ?_
 · refine bool_eq ?_; simp_all
 refine ac ?_
 refine ac ?_
 · refine bool_eq ?_; simp_all; omega
 refine ac ?_
 refine ac ?_
 · refine bool_eq ?_; simp_all; omega
theorem w_rformed {t : Int} {b : Nat} {n : Bool} {m : Nat} {q : Pr}  (hb : b ≤ 1000) (hm : m ≤ 20) (ih : m = 0 ∨ Fun Tryz.prog 247 [agg (rowQ q)] (anyB)) : Fun Tryz.prog 247 [agg [int t, bts b, bool n, slice 4 (List.replicate m (rowQ q))]] (anyB) := by
 refine fo Tryz.func247 rfl ⟨rfl, rfl⟩ fun M0 w0 => ?_
 have hlr : (List.replicate m (rowQ q)).length = m := List.length_replicate
 have hlb : (List.replicate b u8R).length = b := List.length_replicate
 refine ac ?_
 refine ac ?_
 refine co rfl (kc1 (w_rtag) rfl rfl) ?_
 refine ac ?_
 refine Ch.cs 8 rfl ?_ ?_ <;> intro h1 q1
 refine ac ?_
 refine wk2 1 38 rfl ?_
 refine ac ?_
 refine ac ?_
 · exact ex_in _ (Pr.le_refl _)
 refine ac ?_
 refine cy h1 rfl (ok_quo rfl (vl rfl) (vl rfl) (by omega)) (cy h1 rfl (ok_rem rfl (vl rfl) (vl rfl) (by omega)) (cy h1 rfl (ki rfl rfl rfl rfl) (cy h1 rfl (ok_neb rfl Tryz.underlying4 (vl rfl) (vl rfl)) ?_)))
 refine ac ?_
 refine Ch.cs 18 rfl ?_ ?_ <;> intro h2 q2
 refine ac ?_
 refine wk2 1 38 rfl ?_
 refine ac ?_
 refine ac ?_
 · exact ex_in _ (Pr.le_refl _)
 refine ac ?_
 refine Ch.cs 21 rfl ?_ ?_ <;> intro h3 q3
 refine ac ?_
 refine cy h3 rfl (ok_len rfl Tryz.underlying198 (vl rfl)) ?_
 refine ac ?_
 refine Ch.cs 28 rfl ?_ ?_ <;> intro h4 q4
 refine ac ?_
 refine wk2 1 38 rfl ?_
 refine ac ?_
 refine ac ?_
 · exact ex_in _ (Pr.le_refl _)
 refine ac ?_
 refine Ch.cs 32 rfl ?_ ?_ <;> intro h5 q5
 refine ac ?_
 refine cy h5 rfl (ok_len rfl Tryz.underlying221 (vl rfl)) ?_
 refine ac ?_
 refine wk2 1 38 rfl ?_
 refine Tr.cn rfl ?_ ?_ <;> intro h6 q6
 refine ac ?_
 refine ac ?_
 · exact ex_in _ (Pr.le_refl _)
 refine ac ?_
 refine ac ?_
 refine Tr.block (Tr.loopw [(1, _)] ⟨ke rfl, trivial⟩ (fun k : Nat => [(3, int ((k : Nat) : Int))]) (fun k : Nat => k ≤ ((List.replicate m (rowQ q)).length)) (fun k : Nat => ((List.replicate m (rowQ q)).length) - k) 0 (Nat.zero_le _) ⟨ke rfl, trivial⟩ ?_)
 rintro k hle_k
 refine ac ?_
 refine co rfl (ok_len rfl Tryz.underlying221 (vl rfl)) ?_
 refine ac ?_
 refine Tr.cn rfl ?_ ?_ <;> intro h7 q7
 have hk_k : k < ((List.replicate m (rowQ q)).length) := lt_of_dec h7
 have hkm : k < m := by simpa using hk_k
 have ih2 := ih.resolve_left (by omega)
 refine ac ?_
 refine ap ?_
 refine tp rfl (ok_indexAddr rfl Tryz.underlying221 sz223 (vl rfl) (vl rfl) (by omega) (rep_at hkm)) (tp rfl (ok_loadA rfl agg223 sz223 (vl rfl) rfl rfl) (tp rfl (kc1 (ih2) rfl rfl) ?_))
 refine TO.ex 51 rfl (fun z51 => ?_)
 refine ap ?_
 refine wk3 1 3 52 rfl ?_
 refine Tr.cn rfl ?_ ?_ <;> intro h8 q8
 refine ac ?_
 refine ac ?_
 · exact ex_in _ (Pr.le_refl _)
 refine ac ?_
 refine ac ?_
 exact Fin.fam_same (k + 1) ⟨hk_k, by omega⟩ ⟨⟨_, rfl, int_succ k⟩, ke rfl, trivial⟩
 have he_k : k = ((List.replicate m (rowQ q)).length) := by have := ge_of_dec h7; omega
 refine ac ?_
 refine ac ?_
 refine ac ?_
 · exact ex_in _ (Pr.le_refl _)
 refine ac ?_
 refine wk2 1 38 rfl ?_
 refine ac ?_
 refine ac ?_
 refine Tr.block (Tr.loopw [(1, _)] ⟨ke rfl, trivial⟩ (fun k : Nat => [(3, int ((k : Nat) : Int))]) (fun k : Nat => k ≤ ((List.replicate m (rowQ q)).length)) (fun k : Nat => ((List.replicate m (rowQ q)).length) - k) 0 (Nat.zero_le _) ⟨ke rfl, trivial⟩ ?_)
 rintro k hle_k
 refine ac ?_
 refine co rfl (ok_len rfl Tryz.underlying221 (vl rfl)) ?_
 refine ac ?_
 refine Tr.cn rfl ?_ ?_ <;> intro h9 q9
 have hk_k : k < ((List.replicate m (rowQ q)).length) := lt_of_dec h9
 have hkm : k < m := by simpa using hk_k
 have ih2 := ih.resolve_left (by omega)
 refine ac ?_
 refine ap ?_
 refine tp rfl (ok_indexAddr rfl Tryz.underlying221 sz223 (vl rfl) (vl rfl) (by omega) (rep_at hkm)) (tp rfl (ok_loadA rfl agg223 sz223 (vl rfl) rfl rfl) (tp rfl (kc1 (ih2) rfl rfl) ?_))
 refine TO.ex 51 rfl (fun z51 => ?_)
 refine ap ?_
 refine wk3 1 3 52 rfl ?_
 refine Tr.cn rfl ?_ ?_ <;> intro h10 q10
 refine ac ?_
 refine ac ?_
 · exact ex_in _ (Pr.le_refl _)
 refine ac ?_
 refine ac ?_
 exact Fin.fam_same (k + 1) ⟨hk_k, by omega⟩ ⟨⟨_, rfl, int_succ k⟩, ke rfl, trivial⟩
 have he_k : k = ((List.replicate m (rowQ q)).length) := by have := ge_of_dec h9; omega
 refine ac ?_
 refine ac ?_
 refine ac ?_
 · exact ex_in _ (Pr.le_refl _)
 refine ac ?_
 refine Ch.cs 32 rfl ?_ ?_ <;> intro h11 q11
 refine ac ?_
 refine cy h11 rfl (ok_len rfl Tryz.underlying221 (vl rfl)) ?_
 refine ac ?_
 refine wk2 1 38 rfl ?_
 refine Tr.cn rfl ?_ ?_ <;> intro h12 q12
 refine ac ?_
 refine ac ?_
 · exact ex_in _ (Pr.le_refl _)
 refine ac ?_
 refine ac ?_
 refine Tr.block (Tr.loopw [(1, _)] ⟨ke rfl, trivial⟩ (fun k : Nat => [(3, int ((k : Nat) : Int))]) (fun k : Nat => k ≤ ((List.replicate m (rowQ q)).length)) (fun k : Nat => ((List.replicate m (rowQ q)).length) - k) 0 (Nat.zero_le _) ⟨ke rfl, trivial⟩ ?_)
 rintro k hle_k
 refine ac ?_
 refine co rfl (ok_len rfl Tryz.underlying221 (vl rfl)) ?_
 refine ac ?_
 refine Tr.cn rfl ?_ ?_ <;> intro h13 q13
 have hk_k : k < ((List.replicate m (rowQ q)).length) := lt_of_dec h13
 have hkm : k < m := by simpa using hk_k
 have ih2 := ih.resolve_left (by omega)
 refine ac ?_
 refine ap ?_
 refine tp rfl (ok_indexAddr rfl Tryz.underlying221 sz223 (vl rfl) (vl rfl) (by omega) (rep_at hkm)) (tp rfl (ok_loadA rfl agg223 sz223 (vl rfl) rfl rfl) (tp rfl (kc1 (ih2) rfl rfl) ?_))
 refine TO.ex 51 rfl (fun z51 => ?_)
 refine ap ?_
 refine wk3 1 3 52 rfl ?_
 refine Tr.cn rfl ?_ ?_ <;> intro h14 q14
 refine ac ?_
 refine ac ?_
 · exact ex_in _ (Pr.le_refl _)
 refine ac ?_
 refine ac ?_
 exact Fin.fam_same (k + 1) ⟨hk_k, by omega⟩ ⟨⟨_, rfl, int_succ k⟩, ke rfl, trivial⟩
 have he_k : k = ((List.replicate m (rowQ q)).length) := by have := ge_of_dec h13; omega
 refine ac ?_
 refine ac ?_
 refine ac ?_
 · exact ex_in _ (Pr.le_refl _)
 refine ac ?_
 refine wk2 1 38 rfl ?_
 refine ac ?_
 refine ac ?_
 refine Tr.block (Tr.loopw [(1, _)] ⟨ke rfl, trivial⟩ (fun k : Nat => [(3, int ((k : Nat) : Int))]) (fun k : Nat => k ≤ ((List.replicate m (rowQ q)).length)) (fun k : Nat => ((List.replicate m (rowQ q)).length) - k) 0 (Nat.zero_le _) ⟨ke rfl, trivial⟩ ?_)
 rintro k hle_k
 refine ac ?_
 refine co rfl (ok_len rfl Tryz.underlying221 (vl rfl)) ?_
 refine ac ?_
 refine Tr.cn rfl ?_ ?_ <;> intro h15 q15
 have hk_k : k < ((List.replicate m (rowQ q)).length) := lt_of_dec h15
 have hkm : k < m := by simpa using hk_k
 have ih2 := ih.resolve_left (by omega)
 refine ac ?_
 refine ap ?_
 refine tp rfl (ok_indexAddr rfl Tryz.underlying221 sz223 (vl rfl) (vl rfl) (by omega) (rep_at hkm)) (tp rfl (ok_loadA rfl agg223 sz223 (vl rfl) rfl rfl) (tp rfl (kc1 (ih2) rfl rfl) ?_))
 refine TO.ex 51 rfl (fun z51 => ?_)
 refine ap ?_
 refine wk3 1 3 52 rfl ?_
 refine Tr.cn rfl ?_ ?_ <;> intro h16 q16
 refine ac ?_
 refine ac ?_
 · exact ex_in _ (Pr.le_refl _)
 refine ac ?_
 refine ac ?_
 exact Fin.fam_same (k + 1) ⟨hk_k, by omega⟩ ⟨⟨_, rfl, int_succ k⟩, ke rfl, trivial⟩
 have he_k : k = ((List.replicate m (rowQ q)).length) := by have := ge_of_dec h15; omega
 refine ac ?_
 refine ac ?_
 refine ac ?_
 · exact ex_in _ (Pr.le_refl _)
theorem w_rdepth {t : Int} {b : Nat} {n : Bool} {m : Nat} {q : Pr} {D : Nat}  (hb : b ≤ 1000) (hm : m ≤ 20) (hD : D ≤ 1000) (ih : m = 0 ∨ Fun Tryz.prog 248 [agg (rowQ q)] (depthE D)) : Fun Tryz.prog 248 [agg [int t, bts b, bool n, slice 4 (List.replicate m (rowQ q))]] (depthE (D + 1)) := by
 refine fo Tryz.func248 rfl ⟨rfl, rfl⟩ fun M0 w0 => ?_
 have hlr : (List.replicate m (rowQ q)).length = m := List.length_replicate
 have hlb : (List.replicate b u8R).length = b := List.length_replicate
 refine ac ?_
 refine ac ?_
 refine ac ?_
 refine Tr.block (Tr.loopw [(1, _)] ⟨ke rfl, trivial⟩ (fun k : Nat => [(4, int ((k : Nat) : Int)), (3, depthE D)]) (fun k : Nat => k ≤ ((List.replicate m (rowQ q)).length)) (fun k : Nat => ((List.replicate m (rowQ q)).length) - k) 0 (Nat.zero_le _) ⟨ke rfl, ⟨_, rfl, ex_in 0 (fact_in (by omega) (Pr.le_refl _))⟩, trivial⟩ ?_)
 rintro k hle_k
 refine ac ?_
 refine co rfl (ok_len rfl Tryz.underlying221 (vl rfl)) ?_
 refine ac ?_
 refine Tr.cn rfl ?_ ?_ <;> intro h1 q1
 have hk_k : k < ((List.replicate m (rowQ q)).length) := lt_of_dec h1
 have hkm : k < m := by simpa using hk_k
 have ih2 := ih.resolve_left (by omega)
 refine ac ?_
 refine ap ?_
 refine TO.ex 12 rfl (fun z12 => TO.fact 12 rfl fun hz12 => ?_)
 refine ap ?_
 refine tp rfl (ok_indexAddr rfl Tryz.underlying221 sz223 (vl rfl) (vl rfl) (by omega) (rep_at hkm)) (tp rfl (ok_loadA rfl agg223 sz223 (vl rfl) rfl rfl) (tp rfl (kc1 (ih2) rfl rfl) ?_))
 refine TO.ex 18 rfl (fun z18 => TO.fact 18 rfl fun hz18 => ?_)
 refine tp rfl (ok_max rfl (vl rfl) (vl rfl)) ?_
 refine ap ?_
 refine wk3 1 3 4 rfl ?_
 refine ac ?_
 exact Fin.fam_same (k + 1) ⟨hk_k, by omega⟩ ⟨⟨_, rfl, int_succ k⟩, ⟨_, rfl, ex_in _ (fact_in (by omega) (Pr.le_refl _))⟩, ke rfl, trivial⟩
 have he_k : k = ((List.replicate m (rowQ q)).length) := by have := ge_of_dec h1; omega
 refine ac ?_
 refine ap ?_
 refine TO.ex 20 rfl (fun z20 => TO.fact 20 rfl fun hz20 => ?_)
 refine ap ?_
 refine ac ?_
 · exact ex_in _ (fact_in (by omega) (Pr.le_refl _))
/-- How many digits to the base 256. -/
def digC (n : Nat) : Nat := if h : n = 0 then 0 else 1 + digC (n / 256)
termination_by n
decreasing_by omega
theorem digC_zero : digC 0 = 0 := by unfold digC; simp
theorem digC_pos {n : Nat} (h : 0 < n) : digC n = 1 + digC (n / 256) := by conv => lhs; unfold digC; rw [dif_neg (by omega)]
theorem digC_le : ∀ (n : Nat), digC n ≤ n := by
  intro n
  induction n using Nat.strongRecOn with
  | _ n ih =>
    rcases Nat.eq_zero_or_pos n with h | h
    · subst h; rw [digC_zero]; omega
    · rw [digC_pos h]; have := ih (n / 256) (by omega); omega
def lenC (n : Nat) : Nat := if n < 128 then 1 else 1 + digC n
theorem lenC_le (n : Nat) : lenC n ≤ n + 1 := by unfold lenC; have := digC_le n; split <;> omega
theorem bts_one (k : Int) : Pr.le (slice 1 [[is (.int .u8 k)]]) (bts 1) := bts_of (l := [()]) (f := fun _ => k)

theorem w_rlength {n : Nat} (hn : n ≤ 100000000) : Fun Tryz.prog 285 [int ((n : Nat) : Int)] (bts (lenC n)) := by
 refine fo Tryz.func285 rfl ⟨rfl, rfl⟩ fun M0 w0 => ?_
 refine ac ?_
 refine ac ?_
 refine Tr.cn rfl ?_ ?_ <;> intro h1 q1
 refine ac ?_
 refine co rfl (ok_conv rfl Tryz.underlying3 Tryz.underlying5 (vl rfl)) (co rfl (ok_buildSlice (xs := [.tmp 7]) (rows := [u8R]) rfl rfl Tryz.underlying198 sz5 z5 rfl (by decide) ⟨⟨(by exact rfl), VL.le (vl rfl) (Pr.le_trans (is_anyK _ _) (one_cellsP _))⟩, trivial⟩ (by decide)) ?_)
 refine ac ?_
 refine ac ?_
 · refine Pr.le_trans (full_le _ _) (Pr.le_of_eq ?_); unfold lenC; rw [if_pos (by omega)]; rfl
 refine ac ?_
 refine ac ?_
 refine Tr.seq (Tr.block (Tr.addnil 5 1 (Tr.loopD2V1 [] trivial (fun (k : Nat) (acc : Nat) v => [(0, int ((k : Nat) : Int)), (3, andIs v (bts acc))]) (fun (k : Nat) (acc : Nat) v => Hp M0 w0 noS ([appRes 5 1 v])) (fun (k : Nat) (acc : Nat) => digC k + acc = digC n ∧ k ≤ n) (fun (k : Nat) (acc : Nat) => k) (n) (0) (.slice none 0 0) (⟨by omega, by omega⟩) ⟨ke rfl, ⟨_, rfl, own_nil rfl⟩, trivial⟩ (fun _ _ h => h) ?_)))
 rintro k acc v ⟨hk1, hk2⟩
 refine ac ?_
 refine Tr.cn rfl ?_ ?_ <;> intro h2 q2
 have hk0 : 0 < k := by have := Nrm.nrm h2; omega
 have hdg := digC_pos hk0
 have hle := digC_le n
 refine ac ?_
 refine ap ?_
 refine tp rfl (ok_rem rfl (vl rfl) (vl rfl) (by omega)) (tp rfl (ok_conv rfl Tryz.underlying3 Tryz.underlying5 (vl rfl)) (tp rfl (ok_buildSlice (xs := [.tmp 13]) (rows := [u8R]) rfl rfl Tryz.underlying198 sz5 z5 rfl (by decide) ⟨⟨(by exact rfl), VL.le (vl rfl) (Pr.le_trans (is_anyK _ _) (one_cellsP _))⟩, trivial⟩ (by decide)) ?_))
 refine tm rfl (TO.pad ?_)
 refine TO.efs 0 rfl rfl (by decide) (ef_append rfl rfl (by decide) rfl Tryz.underlying198 sz5 by5 z5 rfl (by decide) ⟨_, rfl, full_le _ _⟩ ⟨_, rfl, andIs_le _ _⟩ (by simp only [List.length_append, List.length_replicate, List.length_cons, List.length_nil]; unfold maxLen; omega) (by simp only [List.length_append, List.length_replicate, List.length_cons, List.length_nil]; omega) (appR_full (by exact List.Mem.head _) (vl rfl))) (fun v1 => ?_)
 refine ap ?_
 refine ac ?_
 refine co rfl (ok_quo rfl (vl rfl) (vl rfl) (by omega)) ?_
 refine ac ?_
 refine Fin.drop 1 ?_
 exact Fin.famD2V1 (k / 256) (acc + 1) v1 (⟨⟨by omega, by omega⟩, by omega⟩) ⟨⟨_, rfl, int_eq (by rw [Int.tdiv_eq_ediv_of_nonneg (by omega), wrap_in (by unfold InI; omega)]; omega)⟩, ⟨_, rfl, own_le (by rw [show ([u8R] : List (List Pr)) = List.replicate 1 u8R from rfl, rep_add, Nat.add_comm])⟩, trivial⟩ (fun _ _ h => h)
 have hk0 : k = 0 := by have := Nrm.nrm h2; omega
 subst hk0
 have hle := digC_le n
 rw [digC_zero] at hk1
 refine ac ?_
 refine ap ?_
 refine tp rfl (ok_len rfl Tryz.underlying198 ⟨_, rfl, andIs_le _ _⟩) (tp rfl (ki rfl rfl rfl rfl) (tp rfl (ok_conv rfl Tryz.underlying3 Tryz.underlying5 (vl rfl)) (tp rfl (ok_buildSlice (xs := [.tmp 22]) (rows := [u8R]) rfl rfl Tryz.underlying198 sz5 z5 rfl (by decide) ⟨⟨(by exact rfl), VL.le (vl rfl) (Pr.le_trans (is_anyK _ _) (one_cellsP _))⟩, trivial⟩ (by decide)) ?_)))
 refine tm rfl (TO.pad ?_)
 refine TO.efs 0 rfl rfl (by decide) (ef_append rfl rfl (by decide) rfl Tryz.underlying198 sz5 by5 z5 rfl (by decide) ⟨_, rfl, full_le _ _⟩ ⟨_, rfl, andIs_le _ _⟩ (by simp only [List.length_append, List.length_replicate, List.length_cons, List.length_nil]; unfold maxLen; omega) (by simp only [List.length_append, List.length_replicate, List.length_cons, List.length_nil]; omega) (appR_full (by exact List.Mem.head _) (vl rfl))) (fun v2 => ?_)
 refine ap ?_
 refine ac ?_
 · refine Pr.le_trans (andIs_le _ _) (Pr.le_of_eq ?_); unfold lenC; rw [if_neg (by omega), show ([u8R] : List (List Pr)) = List.replicate 1 u8R from rfl, rep_add, show acc = digC n by omega]
end Go.Proofs.YtppeeogffbpcbaaGreat
namespace Go.Proofs.YtppeeogffbpcbaaGreat
open Go Go.RowKit Cp
theorem w_rput {t : Int} {b : Nat} {n : Bool} {m : Nat} {q : Pr} {B : Nat}  (hb : b ≤ 1000) (hm : m ≤ 20) (hB : B ≤ 1000000) (ih : m = 0 ∨ Fun Tryz.prog 249 [agg (rowQ q)] (bytesE B)) : Fun Tryz.prog 249 [agg [int t, bts b, bool n, slice 4 (List.replicate m (rowQ q))]] (bytesE (2 * (1000 + 20 * B) + 2)) := by
 refine fo Tryz.func249 rfl ⟨rfl, rfl⟩ fun M0 w0 => ?_
 have hlr : (List.replicate m (rowQ q)).length = m := List.length_replicate
 have hlb : (List.replicate b u8R).length = b := List.length_replicate
 refine ac ?_
 refine ap ?_
 refine TO.pad ?_
 refine TO.efs 0 rfl rfl (by decide) (ef_append rfl rfl (by decide) rfl Tryz.underlying198 sz5 by5 z5 rfl (by decide) ⟨_, rfl, full_le _ _⟩ (vl rfl) (by simp only [List.length_append, List.length_replicate, List.length_cons, List.length_nil]; unfold maxLen; omega) (by simp only [List.length_append, List.length_replicate, List.length_cons, List.length_nil]; omega) (appR_full (by exact List.Mem.head _) (vl rfl))) (fun v1 => ?_)
 refine ap ?_
 refine ac ?_
 refine Tr.block (Tr.loopD2V1 [(1, _)] ⟨ke rfl, trivial⟩ (fun (k : Nat) (acc : Nat) v => [(4, int ((k : Nat) : Int)), (3, andIs v (bts acc))]) (fun (k : Nat) (acc : Nat) v => Hp M0 w0 noS ([appRes 5 1 v])) (fun (k : Nat) (acc : Nat) => k ≤ m ∧ acc ≤ b + k * B) (fun (k : Nat) (acc : Nat) => m - k) (0) (b) v1 (⟨by omega, by omega⟩) ⟨ke rfl, ⟨_, rfl, own_le (by simp)⟩, trivial⟩ (fun _ _ h => h) ?_)
 rintro k acc v ⟨hk1, hk2⟩
 have hkB : k * B ≤ 20 * B := Nat.mul_le_mul_right B (by omega)
 refine ac ?_
 refine co rfl (ok_len rfl Tryz.underlying221 (vl rfl)) ?_
 refine ac ?_
 refine Tr.cn rfl ?_ ?_ <;> intro h1 q1
 have hkm : k < m := by have := Nrm.nrm h1; rw [hlr] at this; omega
 have ih2 := ih.resolve_left (by omega)
 refine ac ?_
 refine ap ?_
 refine tp rfl (ok_indexAddr rfl Tryz.underlying221 sz223 (vl rfl) (vl rfl) (by omega) (rep_at hkm)) (tp rfl (ok_loadA rfl agg223 sz223 (vl rfl) rfl rfl) (tp rfl (kc1 (ih2) rfl rfl) ?_))
 refine TO.ex 22 rfl (fun z22 => TO.fact 22 rfl fun hz22 => ?_)
 refine TO.efs 0 rfl rfl (by decide) (ef_append rfl rfl (by decide) rfl Tryz.underlying198 sz5 by5 z5 rfl (by decide) ⟨_, rfl, andIs_le _ _⟩ (vl rfl) (by simp only [List.length_append, List.length_replicate, List.length_cons, List.length_nil]; unfold maxLen; omega) (by simp only [List.length_append, List.length_replicate, List.length_cons, List.length_nil]; omega) (appR_is (by exact List.Mem.head _) ⟨_, rfl, andIs_is _ _⟩)) (fun v2 => ?_)
 refine ap ?_
 refine wk3 1 3 4 rfl ?_
 refine ac ?_
 exact Fin.famD2V1 (k + 1) (acc + z22) v2 (⟨⟨by omega, by rw [Nat.succ_mul]; omega⟩, by omega⟩) ⟨⟨_, rfl, int_succ k⟩, ⟨_, rfl, own_le (by rw [rep_add])⟩, ke rfl, trivial⟩ (fun _ _ h => h)
 have hke : k = m := by have := Nrm.nrm h1; rw [hlr] at this; omega
 have hll := lenC_le acc
 refine ac ?_
 refine Tr.seq (Tr.pad (Tr.rx ?_))
 refine ay ?_
 refine xo rfl (fun _ => ok_conv rfl Tryz.underlying3 Tryz.underlying5 (vl rfl)) (xo rfl (fun _ => ok_buildSlice (xs := [.tmp 26]) (rows := [u8R]) rfl rfl Tryz.underlying198 sz5 z5 rfl (by decide) ⟨⟨(by exact rfl), VL.le (vl rfl) (Pr.le_trans (is_anyK _ _) (one_cellsP _))⟩, trivial⟩ (by decide)) ?_)
 refine xm rfl (xo rfl (fun _ => ok_len rfl Tryz.underlying198 ⟨_, rfl, andIs_le _ _⟩) ?_)
 refine xo rfl (fun _ => ok_call rfl (w_rlength (n := acc) (by omega)) ⟨⟨_, rfl, int_eq (by simp)⟩, trivial⟩) ?_
 refine Cx.ef 0 rfl rfl (by decide) (ef_append rfl rfl (by decide) rfl Tryz.underlying198 sz5 by5 z5 rfl (by decide) ⟨_, rfl, full_le _ _⟩ (vl rfl) (by simp only [List.length_append, List.length_replicate, List.length_cons, List.length_nil]; unfold maxLen; omega) (by simp only [List.length_append, List.length_replicate, List.length_cons, List.length_nil]; omega) (appR_full (by exact List.Mem.head _) (vl rfl))) ?_
 refine xm rfl ?_
 refine Cx.ef 0 rfl rfl (by decide) (ef_append rfl rfl (by decide) rfl Tryz.underlying198 sz5 by5 z5 rfl (by decide) (vl rfl) ⟨_, rfl, andIs_le _ _⟩ (by simp only [List.length_append, List.length_replicate, List.length_cons, List.length_nil]; unfold maxLen; omega) (by simp only [List.length_append, List.length_replicate, List.length_cons, List.length_nil]; omega) appR_slot) ?_
 refine Cx.ef 0 rfl rfl (by decide) (ef_move rfl rfl (by decide) rfl (vl rfl)) ?_
 refine Cx.nil ⟨by kernel_rfl, ?_⟩
 refine FinX.open_ 0 2 rfl rfl (fun v3 => ?_)
 refine FinX.done al2 (Fin.go (wk1 2 rfl ?_))
 refine ac ?_
 · exact bytesE_in (m := 1 + lenC acc + acc) (by have := lenC_le acc; omega) (Pr.le_trans (andIs_le _ _) (Pr.le_of_eq (by rw [show ([u8R] : List (List Pr)) = List.replicate 1 u8R from rfl, rep_add, rep_add])))
theorem w_rEncode {q : Pr} {D B : Nat} (hf : Fun Tryz.prog 247 [agg (rowQ q)] anyB) (hd : Fun Tryz.prog 248 [agg (rowQ q)] (depthE D)) (hp : Fun Tryz.prog 249 [agg (rowQ q)] (bytesE B)) : Fun Tryz.prog 201 [agg (rowQ q)] (tup [bytesE B, anyK .i64]) := by
 refine fo Tryz.func201 rfl ⟨rfl, rfl⟩ fun M0 w0 => ?_
 refine ac ?_
 refine ap ?_
 refine tp rfl (kc1 (hf) rfl rfl) ?_
 refine TO.ex 6 rfl (fun z6 => ?_)
 refine ap ?_
 refine Tr.cn rfl ?_ ?_ <;> intro h1 q1
 refine ac ?_
 refine Tr.ret (Fin.then_ret (Fin.ret2 rfl (OutW.bse _ _) rfl ?_ rfl ?_))
 · exact bytesE_in (m := 0) (by omega) (nil_slice 1)
 · exact is_anyK _ _
 refine ac ?_
 refine ap ?_
 refine tp rfl (kc1 (hd) rfl rfl) ?_
 refine TO.ex 9 rfl (fun z9 => TO.fact 9 rfl fun hz9 => ?_)
 refine ap ?_
 refine Tr.cn rfl ?_ ?_ <;> intro h2 q2
 refine ac ?_
 refine Tr.ret (Fin.then_ret (Fin.ret2 rfl (OutW.bse _ _) rfl ?_ rfl ?_))
 · exact bytesE_in (m := 0) (by omega) (nil_slice 1)
 · exact is_anyK _ _
 refine ac ?_
 refine ac ?_
 refine co rfl (kc1 (hp) rfl rfl) ?_
 refine ac ?_
 refine ap ?_
 refine TO.ex 13 rfl (fun z13 => TO.fact 13 rfl fun hz13 => ?_)
 refine tp rfl (ok_len rfl Tryz.underlying198 (vl rfl)) ?_
 refine ap ?_
 refine wk2 4 15 rfl ?_
 refine Tr.cn rfl ?_ ?_ <;> intro h3 q3
 refine ac ?_
 refine Tr.ret (Fin.then_ret (Fin.ret2 rfl (OutW.bse _ _) rfl ?_ rfl ?_))
 · exact bytesE_in (m := 0) (by omega) (nil_slice 1)
 · exact is_anyK _ _
 refine ac ?_
 refine ac ?_
 refine Tr.ret (Fin.ret2 rfl (OutW.bse _ _) rfl ?_ rfl ?_)
 · exact Pr.le_refl _
 · exact is_anyK _ _
theorem u8_zero : IntKind.u8.wrap 0 = 0 := rfl
def intMu (x h : Int) : Nat := (2 * x).toNat + (if 128 ≤ h then 1 else 0)
theorem int_step {x h : Int} {t : Nat} (h0 : 0 ≤ x) (hc : x ≠ 0 ∨ 128 ≤ h) (hi : t + intMu x h ≤ 400) : (0 ≤ x / 256 ∧ t + 1 + intMu (x / 256) (IntKind.u8.wrap x) ≤ 400) ∧ intMu (x / 256) (IntKind.u8.wrap x) < intMu x h := by
  have key : intMu (x / 256) (IntKind.u8.wrap x) < intMu x h := by
    unfold intMu
    by_cases hx : x = 0
    · subst hx
      rw [u8_zero, if_neg (by omega), if_pos (by omega)]; decide
    · have : (if 128 ≤ IntKind.u8.wrap x then 1 else 0) ≤ 1 := by split <;> omega
      have : 0 ≤ (if 128 ≤ h then 1 else 0) := by split <;> omega
      omega
  exact ⟨⟨by omega, by omega⟩, key⟩
theorem ok_shr8 {P : Program} {I : Asn} {E : Env} {o : Oper} {t u : TypeId} {x y : Operand} {m : Int} (ho : o.op = .binOp .shr t x y u) (hx : VL E x (int m)) (hy : VL E y (is (.int .u64 8))) (h0 : 0 ≤ m) : OpOK P I o E (int (m / 256)) :=
  OpOK.same fun M w a he _ => by
    have h1 : a.eval x = .int .i64 m := hx.ev he (by simp [ho, Op.operands])
    have h2 : a.eval y = .int .u64 8 := hy.ev he (by simp [ho, Op.operands])
    refine ⟨.int .i64 (m.fdiv 256), ?_, congrArg (Value.int .i64) (Int.fdiv_eq_ediv_of_nonneg m (by omega))⟩
    simp only [execOp, ho, h1, h2]
    simp [eqGuard, binOp, Op.shift, IntKind.bits]
abbrev q0 : Pr := slice 4 []

theorem w_rInt {n : Int} (hn : 0 ≤ n ∧ n ≤ 40000) : Fun Tryz.prog 252 [int n] (agg (rowQ q0)) := by
 refine fo Tryz.func252 rfl ⟨rfl, rfl⟩ fun M0 w0 => (Tr.seq (Tr.regT ?_))
 refine TO.alloc rfl rfl (by decide) rfl z223 zo223 (fun b1 => ?_)
 refine ap ?_
 refine ac ?_
 refine co rfl (ok_conv rfl Tryz.underlying3 Tryz.underlying5 (vl rfl)) ?_
 refine ac ?_
 refine ac ?_
 refine co rfl (ok_shr8 rfl (vl rfl) (vl rfl) (by omega)) ?_
 refine ac ?_
 refine Tr.block ?_
 refine Tr.loopD3V0 [(2, _)] ⟨ke rfl, trivial⟩ (fun (x : Int) (h : Int) (t : List Int) => [(4, int x), (3, slice 1 ((h :: t).map fun n => [is (.int .u8 n)]))]) (fun (x : Int) (h : Int) (t : List Int) => Hp M0 w0 noS ([cellsRes true b1 223 (([.int .i64 0, .slice none 0 0, .bool false, .slice none 0 0] : List Value).map is)])) (fun (x : Int) (h : Int) (t : List Int) => 0 ≤ x ∧ t.length + intMu x h ≤ 400) (fun (x : Int) (h : Int) (t : List Int) => intMu x h) (n / 256) (IntKind.u8.wrap n) ([])  (⟨by omega, by unfold intMu; simp only [List.length_nil]; split <;> omega⟩) ⟨ke rfl, ⟨_, rfl, Pr.le_trans (full_le _ _) (Pr.le_of_eq rfl)⟩, trivial⟩ (fun _ _ h => h) ?_
 rintro x h t  ⟨hx0, hmu⟩
 refine ac ?_
 refine Ch.cs 12 rfl ?_ ?_ <;> intro h1 q1
 refine ac ?_
 refine Ch.cs 16 rfl ?_ ?_ <;> intro h2 q2
 refine ac ?_
 refine wk4 2 3 4 35 rfl ?_
 refine ac ?_
 refine ap ?_
 refine tp rfl (ok_conv rfl Tryz.underlying3 Tryz.underlying5 (vl rfl)) ?_
 refine ap ?_
 refine TO.pad ?_
 refine TO.efs 0 rfl rfl (by decide) (ef_append rfl rfl (by decide) rfl Tryz.underlying198 sz5 by5 z5 rfl (by decide) ⟨_, rfl, full_le _ _⟩ (vl rfl) (by simp only [List.length_append, List.length_replicate, List.length_map, List.length_cons, List.length_nil]; unfold maxLen; omega) (by simp only [List.length_append, List.length_replicate, List.length_map, List.length_cons, List.length_nil]; omega) (appR_full (by exact List.Mem.head _) (vl rfl))) (fun v1 => ?_)
 refine ap ?_
 refine ac ?_
 refine co rfl (ok_shr8 rfl (vl rfl) (vl rfl) (by omega)) ?_
 refine ac ?_
 refine Fin.drop 0 (Fin.famD3V0 (x / 256) (IntKind.u8.wrap x) (h :: t)  ((int_step hx0 (by omega) hmu)) ⟨ke rfl, ⟨_, rfl, Pr.le_trans (andIs_le _ _) (Pr.le_of_eq rfl)⟩, ke rfl, trivial⟩ (fun _ _ h => h))
 refine ac ?_
 refine Ch.cs 19 rfl ?_ ?_ <;> intro h3 q3
 refine cym h3 rfl ?_
 refine cy h3 rfl (ok_indexAddr rfl Tryz.underlying198 sz5 (vl rfl) (vl rfl) (by omega) (row_at (k := 0) rfl)) ?_
 refine ac ?_
 refine Ch.cs 26 rfl ?_ ?_ <;> intro h4 q4
 refine ac ?_
 refine wk4 2 3 4 35 rfl ?_
 refine ac ?_
 refine ap ?_
 refine tp rfl (ok_conv rfl Tryz.underlying3 Tryz.underlying5 (vl rfl)) ?_
 refine ap ?_
 refine TO.pad ?_
 refine TO.efs 0 rfl rfl (by decide) (ef_append rfl rfl (by decide) rfl Tryz.underlying198 sz5 by5 z5 rfl (by decide) ⟨_, rfl, full_le _ _⟩ (vl rfl) (by simp only [List.length_append, List.length_replicate, List.length_map, List.length_cons, List.length_nil]; unfold maxLen; omega) (by simp only [List.length_append, List.length_replicate, List.length_map, List.length_cons, List.length_nil]; omega) (appR_full (by exact List.Mem.head _) (vl rfl))) (fun v2 => ?_)
 refine ap ?_
 refine ac ?_
 refine co rfl (ok_shr8 rfl (vl rfl) (vl rfl) (by omega)) ?_
 refine ac ?_
 refine Fin.drop 0 (Fin.famD3V0 (x / 256) (IntKind.u8.wrap x) (h :: t)  ((int_step hx0 (by omega) hmu)) ⟨ke rfl, ⟨_, rfl, Pr.le_trans (andIs_le _ _) (Pr.le_of_eq rfl)⟩, ke rfl, trivial⟩ (fun _ _ h => h))
 refine ac ?_
 refine Ch.cs 29 rfl ?_ ?_ <;> intro h5 q5
 refine cym h5 rfl ?_
 refine cy h5 rfl (ok_indexAddr rfl Tryz.underlying198 sz5 (vl rfl) (vl rfl) (by omega) (row_at (k := 0) rfl)) ?_
 refine ac ?_
 refine wk4 2 3 4 35 rfl ?_
 refine Tr.cn rfl ?_ ?_ <;> intro h6 q6
 have hc_ := h6
 refine ac ?_
 refine ap ?_
 refine tp rfl (ok_conv rfl Tryz.underlying3 Tryz.underlying5 (vl rfl)) ?_
 refine ap ?_
 refine TO.pad ?_
 refine TO.efs 0 rfl rfl (by decide) (ef_append rfl rfl (by decide) rfl Tryz.underlying198 sz5 by5 z5 rfl (by decide) ⟨_, rfl, full_le _ _⟩ (vl rfl) (by simp only [List.length_append, List.length_replicate, List.length_map, List.length_cons, List.length_nil]; unfold maxLen; omega) (by simp only [List.length_append, List.length_replicate, List.length_map, List.length_cons, List.length_nil]; omega) (appR_full (by exact List.Mem.head _) (vl rfl))) (fun v3 => ?_)
 refine ap ?_
 refine ac ?_
 refine co rfl (ok_shr8 rfl (vl rfl) (vl rfl) (by omega)) ?_
 refine ac ?_
 refine Fin.drop 0 (Fin.famD3V0 (x / 256) (IntKind.u8.wrap x) (h :: t)  ((int_step hx0 (by omega) hmu)) ⟨ke rfl, ⟨_, rfl, Pr.le_trans (andIs_le _ _) (Pr.le_of_eq rfl)⟩, ke rfl, trivial⟩ (fun _ _ h => h))
 have hc_ := h6
 refine ac ?_
 refine ap ?_
 refine Tr.ret (Fin.retX1 rfl (RVal.cell 0 rfl rfl agg223 sz223 rfl (Pr.le_refl _)) ?_)
 · exact agg_le ⟨is_anyK _ _, bytesE_in (m := (h :: t).length) (by simp only [List.length_cons]; omega) bts_of, ex_in _ (Pr.le_refl _), nil_slice 4, trivial⟩
 refine ac ?_
 refine wk4 2 3 4 35 rfl ?_
 refine ac ?_
 refine ap ?_
 refine Tr.ret (Fin.retX1 rfl (RVal.cell 0 rfl rfl agg223 sz223 rfl (Pr.le_refl _)) ?_)
 · exact agg_le ⟨is_anyK _ _, bytesE_in (m := (h :: t).length) (by simp only [List.length_cons]; omega) bts_of, ex_in _ (Pr.le_refl _), nil_slice 4, trivial⟩
 refine ac ?_
 refine Ch.cs 29 rfl ?_ ?_ <;> intro h7 q7
 refine cym h7 rfl ?_
 refine cy h7 rfl (ok_indexAddr rfl Tryz.underlying198 sz5 (vl rfl) (vl rfl) (by omega) (row_at (k := 0) rfl)) ?_
 refine ac ?_
 refine wk4 2 3 4 35 rfl ?_
 refine Tr.cn rfl ?_ ?_ <;> intro h8 q8
 have hc_ := h8
 refine ac ?_
 refine ap ?_
 refine tp rfl (ok_conv rfl Tryz.underlying3 Tryz.underlying5 (vl rfl)) ?_
 refine ap ?_
 refine TO.pad ?_
 refine TO.efs 0 rfl rfl (by decide) (ef_append rfl rfl (by decide) rfl Tryz.underlying198 sz5 by5 z5 rfl (by decide) ⟨_, rfl, full_le _ _⟩ (vl rfl) (by simp only [List.length_append, List.length_replicate, List.length_map, List.length_cons, List.length_nil]; unfold maxLen; omega) (by simp only [List.length_append, List.length_replicate, List.length_map, List.length_cons, List.length_nil]; omega) (appR_full (by exact List.Mem.head _) (vl rfl))) (fun v4 => ?_)
 refine ap ?_
 refine ac ?_
 refine co rfl (ok_shr8 rfl (vl rfl) (vl rfl) (by omega)) ?_
 refine ac ?_
 refine Fin.drop 0 (Fin.famD3V0 (x / 256) (IntKind.u8.wrap x) (h :: t)  ((int_step hx0 (by omega) hmu)) ⟨ke rfl, ⟨_, rfl, Pr.le_trans (andIs_le _ _) (Pr.le_of_eq rfl)⟩, ke rfl, trivial⟩ (fun _ _ h => h))
 have hc_ := h8
 refine ac ?_
 refine ap ?_
 refine Tr.ret (Fin.retX1 rfl (RVal.cell 0 rfl rfl agg223 sz223 rfl (Pr.le_refl _)) ?_)
 · exact agg_le ⟨is_anyK _ _, bytesE_in (m := (h :: t).length) (by simp only [List.length_cons]; omega) bts_of, ex_in _ (Pr.le_refl _), nil_slice 4, trivial⟩
 refine ac ?_
 refine wk4 2 3 4 35 rfl ?_
 refine ac ?_
 refine ap ?_
 refine Tr.ret (Fin.retX1 rfl (RVal.cell 0 rfl rfl agg223 sz223 rfl (Pr.le_refl _)) ?_)
 · exact agg_le ⟨is_anyK _ _, bytesE_in (m := (h :: t).length) (by simp only [List.length_cons]; omega) bts_of, ex_in _ (Pr.le_refl _), nil_slice 4, trivial⟩
 refine ac ?_
 refine Ch.cs 19 rfl ?_ ?_ <;> intro h9 q9
 refine cym h9 rfl ?_
 refine cy h9 rfl (ok_indexAddr rfl Tryz.underlying198 sz5 (vl rfl) (vl rfl) (by omega) (row_at (k := 0) rfl)) ?_
 refine ac ?_
 refine Ch.cs 26 rfl ?_ ?_ <;> intro h10 q10
 refine ac ?_
 refine wk4 2 3 4 35 rfl ?_
 refine ac ?_
 refine ap ?_
 refine tp rfl (ok_conv rfl Tryz.underlying3 Tryz.underlying5 (vl rfl)) ?_
 refine ap ?_
 refine TO.pad ?_
 refine TO.efs 0 rfl rfl (by decide) (ef_append rfl rfl (by decide) rfl Tryz.underlying198 sz5 by5 z5 rfl (by decide) ⟨_, rfl, full_le _ _⟩ (vl rfl) (by simp only [List.length_append, List.length_replicate, List.length_map, List.length_cons, List.length_nil]; unfold maxLen; omega) (by simp only [List.length_append, List.length_replicate, List.length_map, List.length_cons, List.length_nil]; omega) (appR_full (by exact List.Mem.head _) (vl rfl))) (fun v5 => ?_)
 refine ap ?_
 refine ac ?_
 refine co rfl (ok_shr8 rfl (vl rfl) (vl rfl) (by omega)) ?_
 refine ac ?_
 refine Fin.drop 0 (Fin.famD3V0 (x / 256) (IntKind.u8.wrap x) (h :: t)  ((int_step hx0 (by omega) hmu)) ⟨ke rfl, ⟨_, rfl, Pr.le_trans (andIs_le _ _) (Pr.le_of_eq rfl)⟩, ke rfl, trivial⟩ (fun _ _ h => h))
 refine ac ?_
 refine Ch.cs 29 rfl ?_ ?_ <;> intro h11 q11
 refine cym h11 rfl ?_
 refine cy h11 rfl (ok_indexAddr rfl Tryz.underlying198 sz5 (vl rfl) (vl rfl) (by omega) (row_at (k := 0) rfl)) ?_
 refine ac ?_
 refine wk4 2 3 4 35 rfl ?_
 refine Tr.cn rfl ?_ ?_ <;> intro h12 q12
 have hc_ := h12
 refine ac ?_
 refine ap ?_
 refine tp rfl (ok_conv rfl Tryz.underlying3 Tryz.underlying5 (vl rfl)) ?_
 refine ap ?_
 refine TO.pad ?_
 refine TO.efs 0 rfl rfl (by decide) (ef_append rfl rfl (by decide) rfl Tryz.underlying198 sz5 by5 z5 rfl (by decide) ⟨_, rfl, full_le _ _⟩ (vl rfl) (by simp only [List.length_append, List.length_replicate, List.length_map, List.length_cons, List.length_nil]; unfold maxLen; omega) (by simp only [List.length_append, List.length_replicate, List.length_map, List.length_cons, List.length_nil]; omega) (appR_full (by exact List.Mem.head _) (vl rfl))) (fun v6 => ?_)
 refine ap ?_
 refine ac ?_
 refine co rfl (ok_shr8 rfl (vl rfl) (vl rfl) (by omega)) ?_
 refine ac ?_
 refine Fin.drop 0 (Fin.famD3V0 (x / 256) (IntKind.u8.wrap x) (h :: t)  ((int_step hx0 (by omega) hmu)) ⟨ke rfl, ⟨_, rfl, Pr.le_trans (andIs_le _ _) (Pr.le_of_eq rfl)⟩, ke rfl, trivial⟩ (fun _ _ h => h))
 have hc_ := h12
 refine ac ?_
 refine ap ?_
 refine Tr.ret (Fin.retX1 rfl (RVal.cell 0 rfl rfl agg223 sz223 rfl (Pr.le_refl _)) ?_)
 · exact agg_le ⟨is_anyK _ _, bytesE_in (m := (h :: t).length) (by simp only [List.length_cons]; omega) bts_of, ex_in _ (Pr.le_refl _), nil_slice 4, trivial⟩
 refine ac ?_
 refine wk4 2 3 4 35 rfl ?_
 refine ac ?_
 refine ap ?_
 refine Tr.ret (Fin.retX1 rfl (RVal.cell 0 rfl rfl agg223 sz223 rfl (Pr.le_refl _)) ?_)
 · exact agg_le ⟨is_anyK _ _, bytesE_in (m := (h :: t).length) (by simp only [List.length_cons]; omega) bts_of, ex_in _ (Pr.le_refl _), nil_slice 4, trivial⟩
 refine ac ?_
 refine Ch.cs 29 rfl ?_ ?_ <;> intro h13 q13
 refine cym h13 rfl ?_
 refine cy h13 rfl (ok_indexAddr rfl Tryz.underlying198 sz5 (vl rfl) (vl rfl) (by omega) (row_at (k := 0) rfl)) ?_
 refine ac ?_
 refine wk4 2 3 4 35 rfl ?_
 refine Tr.cn rfl ?_ ?_ <;> intro h14 q14
 have hc_ := h14
 refine ac ?_
 refine ap ?_
 refine tp rfl (ok_conv rfl Tryz.underlying3 Tryz.underlying5 (vl rfl)) ?_
 refine ap ?_
 refine TO.pad ?_
 refine TO.efs 0 rfl rfl (by decide) (ef_append rfl rfl (by decide) rfl Tryz.underlying198 sz5 by5 z5 rfl (by decide) ⟨_, rfl, full_le _ _⟩ (vl rfl) (by simp only [List.length_append, List.length_replicate, List.length_map, List.length_cons, List.length_nil]; unfold maxLen; omega) (by simp only [List.length_append, List.length_replicate, List.length_map, List.length_cons, List.length_nil]; omega) (appR_full (by exact List.Mem.head _) (vl rfl))) (fun v7 => ?_)
 refine ap ?_
 refine ac ?_
 refine co rfl (ok_shr8 rfl (vl rfl) (vl rfl) (by omega)) ?_
 refine ac ?_
 refine Fin.drop 0 (Fin.famD3V0 (x / 256) (IntKind.u8.wrap x) (h :: t)  ((int_step hx0 (by omega) hmu)) ⟨ke rfl, ⟨_, rfl, Pr.le_trans (andIs_le _ _) (Pr.le_of_eq rfl)⟩, ke rfl, trivial⟩ (fun _ _ h => h))
 have hc_ := h14
 refine ac ?_
 refine ap ?_
 refine Tr.ret (Fin.retX1 rfl (RVal.cell 0 rfl rfl agg223 sz223 rfl (Pr.le_refl _)) ?_)
 · exact agg_le ⟨is_anyK _ _, bytesE_in (m := (h :: t).length) (by simp only [List.length_cons]; omega) bts_of, ex_in _ (Pr.le_refl _), nil_slice 4, trivial⟩
 refine ac ?_
 refine wk4 2 3 4 35 rfl ?_
 refine ac ?_
 refine ap ?_
 refine Tr.ret (Fin.retX1 rfl (RVal.cell 0 rfl rfl agg223 sz223 rfl (Pr.le_refl _)) ?_)
 · exact agg_le ⟨is_anyK _ _, bytesE_in (m := (h :: t).length) (by simp only [List.length_cons]; omega) bts_of, ex_in _ (Pr.le_refl _), nil_slice 4, trivial⟩
theorem w_rText {s : List UInt8} (hs : s.length ≤ 1000) : Fun Tryz.prog 250 [str s] (agg (rowQ q0)) := by
 refine fo Tryz.func250 rfl ⟨rfl, rfl⟩ fun M0 w0 => (Tr.seq (Tr.regT ?_))
 refine TO.alloc rfl rfl (by decide) rfl z223 zo223 (fun b1 => ?_)
 refine ap ?_
 refine ap ?_
 refine tp rfl (ok_bytes rfl Tryz.underlying9 Tryz.underlying198 Tryz.underlying5 (vl rfl) (by unfold maxLen; omega)) ?_
 refine ap ?_
 refine Tr.ret (Fin.retX1 rfl (RVal.cell 0 rfl rfl agg223 sz223 rfl (Pr.le_refl _)) ?_)
 · exact agg_le ⟨is_anyK _ _, bytesE_in (m := s.length) (by omega) (bts_of (f := fun c : UInt8 => ((c.toNat : Nat) : Int))), ex_in _ (Pr.le_refl _), nil_slice 4, trivial⟩
theorem w_rBool {b : Bool}  : Fun Tryz.prog 254 [bool b] (agg (rowQ q0)) := by
 refine fo Tryz.func254 rfl ⟨rfl, rfl⟩ fun M0 w0 => (Tr.seq (Tr.regT ?_))
 refine TO.alloc rfl rfl (by decide) rfl z223 zo223 (fun b1 => ?_)
 refine ap ?_
 refine ac ?_
 refine Tr.cn rfl ?_ ?_ <;> intro h1 q1
 refine ap ?_
 refine tp rfl (ok_build (rows := [(0, [_]), (1, [_])]) rfl bl223 zo223 ⟨⟨rfl, (VL.le (vl rfl) (one_cellsP _))⟩, ⟨⟨rfl, ⟨_, rfl, Pr.le_trans (full_le _ _) (one_cellsP _)⟩⟩, trivial⟩⟩ rfl) ?_
 refine ap ?_
 refine Tr.ret (Fin.then_ret (Fin.retX1 rfl (RVal.cell 0 rfl rfl agg223 sz223 rfl (Pr.le_refl _)) ?_))
 · exact agg_le ⟨is_anyK _ _, bytesE_in (m := 1) (by omega) (bts_one _), ex_in _ (Pr.le_refl _), nil_slice 4, trivial⟩
 refine ac ?_
 refine ap ?_
 refine tp rfl (ok_build (rows := [(0, [_]), (1, [_])]) rfl bl223 zo223 ⟨⟨rfl, (VL.le (vl rfl) (one_cellsP _))⟩, ⟨⟨rfl, ⟨_, rfl, Pr.le_trans (full_le _ _) (one_cellsP _)⟩⟩, trivial⟩⟩ rfl) ?_
 refine ap ?_
 refine Tr.ret (Fin.retX1 rfl (RVal.cell 0 rfl rfl agg223 sz223 rfl (Pr.le_refl _)) ?_)
 · exact agg_le ⟨is_anyK _ _, bytesE_in (m := 1) (by omega) (bts_one _), ex_in _ (Pr.le_refl _), nil_slice 4, trivial⟩
theorem w_rcopies {m : Nat} {q : Pr} [One q]  (hm : m ≤ 20) (ih : m = 0 ∨ Fun Tryz.prog 286 [q] q) : Fun Tryz.prog 286 [slice 4 (List.replicate m (rowQ q))] (slice 4 (List.replicate m (rowQ q))) := by
 refine Fun.of Tryz.func286 rfl rfl (by exact Nat.le_of_ble_eq_true rfl) fun M0 w0 => ?_
 have hlr : (List.replicate m (rowQ q)).length = m := List.length_replicate
 refine Tr.seq (Tr.reg0 (cm rfl (Ch.nil (Fin.go (Tr.seq (Tr.reg0 (cm rfl (Ch.nil (Fin.go (Tr.seq (Tr.seq (Tr.reg0 (cm rfl ?_)))))))))))))
 refine Ch.nil (Fin.go (Tr.block (Tr.addnil 223 4 (Tr.loopV1 [(0, _)] ⟨ke rfl, trivial⟩ (fun k v => [(4, int ((k : Nat) : Int)), (3, andIs v (slice 4 (List.replicate k (rowQ q))))]) (fun k v => Hp M0 w0 noS ([appRes 223 4 v])) (fun k : Nat => k ≤ ((List.replicate m (rowQ q)).length)) (fun k : Nat => ((List.replicate m (rowQ q)).length) - k) 0 (.slice none 0 0) (Nat.zero_le _) ⟨ke rfl, ⟨_, rfl, own_nil rfl⟩, trivial⟩ (fun _ _ h => h) ?_))))
 rintro k v hle_k
 refine Tr.seq (Tr.seq (Tr.reg0 (cm rfl (cm rfl (co rfl (ok_len rfl Tryz.underlying221 (vl rfl)) (co rfl (ki rfl rfl rfl rfl) (Ch.nil (Fin.go ?_))))))))
 refine Tr.cn rfl ?_ ?_ <;> intro h1 q1
 have hk_k : k < ((List.replicate m (rowQ q)).length) := lt_of_dec h1
 have hkm : k < m := by simpa using hk_k
 have ih2 := ih.resolve_left (by omega)
 refine Tr.skip (Fin.go (Tr.seq (Tr.block (Tr.seq (Tr.regT (tm rfl (tm rfl (tp rfl (ok_indexAddr rfl Tryz.underlying221 sz223 (vl rfl) (vl rfl) (by omega) (rep_at hkm)) (tp rfl (ok_loadA rfl agg223 sz223 (vl rfl) rfl rfl) ?_)))))))))
 refine TO.alloc rfl rfl (by decide) rfl z223 zo223 (fun b1 => ?_)
 refine TO.store_all 0 rfl rfl rfl (vl rfl) (VL.le (vl rfl) (agg_cellsP _)) rfl sz223 rfl rfl (TO.nil (Fin.go (Tr.seq (Tr.regT (tp rfl (ok_buildSlice (xs := []) (rows := []) rfl rfl Tryz.underlying198 sz5 z5 rfl (by decide) trivial (by decide)) (tp rfl (okp_fieldAddr rfl fo223_1 (vl rfl)) (TO.rd 0 rfl rfl rfl (by decide) (rd_load1 rfl one198 (vl rfl) rfl) ?_)))))))
 refine TO.ex 18 rfl (fun z18 => TO.fact 18 rfl fun hz18 => ?_)
 refine TO.pad ?_
 refine TO.efs 0 rfl rfl (by decide) (ef_append rfl rfl (by decide) rfl Tryz.underlying198 sz5 by5 z5 rfl (by decide) ⟨_, rfl, full_le _ _⟩ (vl rfl) (by simp only [List.length_append, List.length_replicate, List.length_cons, List.length_nil]; unfold maxLen; omega) (by simp only [List.length_append, List.length_replicate, List.length_cons, List.length_nil]; omega) (appR_full (by exact List.Mem.head _) (vl rfl))) (fun v1 => ?_)
 refine tp rfl (okp_fieldAddr rfl fo223_1 (vl rfl)) (TO.ef0 1 rfl rfl (ef_store rfl rfl (vl rfl) (VL.le (vl rfl) (one_cellsP _)) sz198 rfl (by exact Nat.le_of_ble_eq_true rfl) rfl) (TO.nil (Fin.go (wk4 0 3 4 5 rfl (Tr.seq (Tr.regT (tp rfl (okp_fieldAddr rfl fo223_3 (vl rfl)) (TO.rd 1 rfl rfl rfl (by decide) (rd_load1 rfl one221 (vl rfl) rfl) (tp rfl (ok_call rfl (ih2) ⟨ke rfl, trivial⟩) (tp rfl (okp_fieldAddr rfl fo223_3 (vl rfl)) (TO.ef0 1 rfl rfl (ef_store rfl rfl (vl rfl) (VL.le (vl rfl) (one_cellsP _)) sz221 rfl (by exact Nat.le_of_ble_eq_true rfl) rfl) (TO.nil (Fin.go (Tr.regT ?_))))))))))))))
 refine tm rfl (TO.rd 1 rfl rfl rfl (by decide) (rd_loadA rfl agg223 sz223 (vl rfl) rfl rfl) (tp rfl (ok_buildSlice (xs := [.tmp 26]) (rows := [rowQ q]) rfl rfl Tryz.underlying221 sz223 z223 rfl (by decide) ⟨⟨(by exact rfl), VL.le (vl rfl) (Pr.le_trans (agg_le (qs := rowQ q) ⟨Pr.le_refl _, bytesE_in (m := z18) (by omega) (Pr.le_trans (andIs_le _ _) (Pr.le_of_eq rfl)), Pr.le_refl _, Pr.le_refl _, trivial⟩) (agg_cellsP _))⟩, trivial⟩ (by decide)) ?_))
 refine TO.efs 2 rfl rfl (by decide) (ef_append rfl rfl (by decide) rfl Tryz.underlying221 sz223 by223 z223 rfl (by decide) ⟨_, rfl, andIs_le _ _⟩ ⟨_, rfl, full_le _ _⟩ (by simp only [List.length_append, List.length_replicate, List.length_cons, List.length_nil]; unfold maxLen; omega) (by simp only [List.length_append, List.length_replicate, List.length_cons, List.length_nil]; omega) (appR_is (by exact List.Mem.head _) ⟨_, rfl, andIs_is _ _⟩)) (fun v2 => ?_)
 refine tm rfl (TO.nil (Fin.block (Fin.go (Tr.drop 1 (Tr.reg0 (cm rfl (cad rfl rfl rfl rfl (by omega) (cm rfl (Ch.nil (Fin.drop 0 (Fin.famV1 (k + 1) v2 (⟨hk_k, by omega⟩) ⟨⟨_, rfl, int_succ k⟩, ⟨_, rfl, own_le (by rw [rep_one])⟩, ke rfl, trivial⟩ (fun _ _ h => h))))))))))))
 have he_k : k = ((List.replicate m (rowQ q)).length) := by have := ge_of_dec h1; omega
 refine Tr.exit (Fin.then_exit (Fin.then_exit (Fin.block_here (Fin.go (Tr.seq (Tr.reg0 (cm rfl (cm rfl (Ch.nil (Fin.go (Tr.ret (Fin.ret1 rfl (OutW.bse _ _) rfl ?_))))))))))))
 · exact Pr.le_trans (andIs_le _ _) (Pr.le_of_eq (by rw [he_k, hlr]))
theorem w_rList {m : Nat} {q : Pr}  (hm : m ≤ 20) (hc : Fun Tryz.prog 286 [slice 4 (List.replicate m (rowQ q))] (slice 4 (List.replicate m (rowQ q)))) : Fun Tryz.prog 251 [slice 4 (List.replicate m (rowQ q))] (agg (rowQ (elemsE (rowQ q)))) := by
 refine fo Tryz.func251 rfl ⟨rfl, rfl⟩ fun M0 w0 => (Tr.seq (Tr.regT ?_))
 refine TO.alloc rfl rfl (by decide) rfl z223 zo223 (fun b1 => ?_)
 refine ap ?_
 refine ap ?_
 refine tp rfl (kc1 (hc) rfl rfl) ?_
 refine ap ?_
 refine Tr.ret (Fin.retX1 rfl (RVal.cell 0 rfl rfl agg223 sz223 rfl (Pr.le_refl _)) ?_)
 · exact agg_le ⟨is_anyK _ _, bytesE_in (m := 0) (by omega) (nil_slice 1), ex_in _ (Pr.le_refl _), ex_in m (fact_in hm (Pr.le_refl _)), trivial⟩
end Go.Proofs.YtppeeogffbpcbaaGreat
namespace Go.Proofs.YtppeeogffbpcbaaGreat
open Go Go.RowKit Cp

structure Crt.vf (c : Crt) : Prop where
  s0 : 0 ≤ c.serial
  s1 : c.serial ≤ 1099511627776
  iss : named c.issuer = true
  sub : named c.subject = true
  nm : namesB c.names = true
  key : ofB c.kalg c.kbits 2 = true
  k0 : 0 ≤ c.keyId
  k1 : c.keyId ≤ 2147483648
  hash : ofB c.halg c.hbits 1 = true
  sk0 : 0 ≤ c.skey
  sk1 : c.skey ≤ 2147483648
  su0 : 0 ≤ c.ssum
  su1 : c.ssum < 4294967296
  f0 : 0 ≤ c.from_
  ft : c.from_ ≤ c.to_
  t1 : c.to_ ≤ 40000
  p0 : 0 ≤ c.path
  p1 : c.path ≤ 8
  ap : c.auth = true ∨ c.path = 0
theorem vf_of {c : Crt} (hv : validB c = true) : c.vf := by
  simp only [validB, keyB, sumB, Bool.and_eq_true, Bool.or_eq_true, decide_eq_true_eq, beq_iff_eq] at hv
  obtain ⟨⟨⟨⟨⟨⟨⟨h1, h2⟩, h3⟩, h4⟩, h5⟩, ⟨⟨⟨⟨h6, ⟨h7, h8⟩⟩, h9⟩, ⟨h10, h11⟩⟩, ⟨h12, h13⟩⟩⟩, ⟨⟨h14, h15⟩, h16⟩⟩, ⟨⟨h17, h18⟩, h19⟩⟩ := hv
  exact ⟨h1, h2, h3, h4, h5, h6, h7, h8, h9, h10, h11, h12, h13, h14, h15, h16, h17, h18, h19⟩
theorem of_vf {c : Crt} (h : c.vf) : validB c = true := by
  simp only [validB, keyB, sumB, Bool.and_eq_true, Bool.or_eq_true, decide_eq_true_eq, beq_iff_eq]
  exact ⟨⟨⟨⟨⟨⟨⟨h.s0, h.s1⟩, h.iss⟩, h.sub⟩, h.nm⟩, ⟨⟨⟨⟨h.key, ⟨h.k0, h.k1⟩⟩, h.hash⟩, ⟨h.sk0, h.sk1⟩⟩, ⟨h.su0, h.su1⟩⟩⟩, ⟨⟨h.f0, h.ft⟩, h.t1⟩⟩, ⟨⟨h.p0, h.p1⟩, h.ap⟩⟩
theorem of_iff {a b k : Int} (h : ofB a b k = true) : decide (strength a b > 0) = true ∧ (catOf a).kind = k := by
  unfold ofB at h; simpa using h


theorem name_at {l : List (List UInt8)} {k : Nat} {s : List UInt8} (h : nameAt l k = true) (hs : l[k]? = some s) : named s = true := by
  unfold nameAt at h; rw [hs] at h; simp at h; exact h.1
theorem name_lt {l : List (List UInt8)} {k : Nat} {s y : List UInt8} (h : nameAt l k = true) (hs : l[k]? = some s) (hy : l[k - 1]? = some y) (hk : 0 < k) : decide (Lib.compareBytes y s = -1) = true := by
  unfold nameAt at h; rw [hs, hy] at h; simp at h
  rcases h.2 with h2 | h2
  · omega
  · simpa using h2

theorem w_R3Check {c : Crt} (hv : validB c = true) : Fun Tryz.prog 159 [agg (rowCr c)] (int 0) := by
 refine fo Tryz.func159 rfl ⟨rfl, rfl⟩ fun M0 w0 => ?_
 obtain ⟨hs0, hs1, hiss, hsub, hnm, hkey, hk0, hk1, hhash, hsk0, hsk1, hsu0, hsu1, hf0, hft, ht1, hp0, hp1, hap⟩ := vf_of hv
 obtain ⟨hkey1, hkey2⟩ := of_iff hkey
 obtain ⟨hh1, hh2⟩ := of_iff hhash
 have hnm2 := hnm
 unfold namesB at hnm2
 rw [Bool.and_eq_true, allI_iff, decide_eq_true_eq] at hnm2
 obtain ⟨hall, hlen8⟩ := hnm2
 refine ac ?_
 refine ac ?_
 refine Ch.cs 7 rfl ?_ ?_ <;> intro h1 q1
 exfalso; have := q1; omega
 refine ac ?_
 refine Ch.cs 12 rfl ?_ ?_ <;> intro h2 q2
 exfalso; have := q2; omega
 refine ac ?_
 refine cy h2 rfl (kc1 (w_RName) rfl rfl) ?_
 refine ac ?_
 refine Ch.cs 18 rfl ?_ ?_ <;> intro h3 q3
 rw [hiss] at h3; exact absurd h3 (by decide)
 refine ac ?_
 refine cy h3 rfl (kc1 (w_RName) rfl rfl) ?_
 refine ac ?_
 refine Ch.cs 24 rfl ?_ ?_ <;> intro h4 q4
 rw [hsub] at h4; exact absurd h4 (by decide)
 refine ac ?_
 refine cy h4 rfl (kc1 (w_Signature) rfl rfl) ?_
 refine ac ?_
 refine Ch.cs 30 rfl ?_ ?_ <;> intro h5 q5
 rw [hkey1, hkey2] at h5; exact absurd h5 (by decide)
 refine ac ?_
 refine Ch.cs 35 rfl ?_ ?_ <;> intro h6 q6
 exfalso; have := q6; omega
 refine ac ?_
 refine wk2 1 39 rfl ?_
 refine Tr.cn rfl ?_ ?_ <;> intro h7 q7
 exfalso; have := q7; omega
 refine ac ?_
 refine ac ?_
 refine co rfl (kc1 (w_RValid) rfl rfl) ?_
 refine ac ?_
 refine Ch.cs 44 rfl ?_ ?_ <;> intro h8 q8
 rw [hh1] at h8; exact absurd h8 (by decide)
 refine ac ?_
 refine cy h8 rfl (kc1 (w_RKind) rfl rfl) ?_
 refine ac ?_
 refine Ch.cs 51 rfl ?_ ?_ <;> intro h9 q9
 rw [hh2] at h9; exact absurd h9 (by decide)
 refine ac ?_
 refine Ch.cs 56 rfl ?_ ?_ <;> intro h10 q10
 exfalso; have := q10; omega
 refine ac ?_
 refine Ch.cs 63 rfl ?_ ?_ <;> intro h11 q11
 exfalso; have := q11; omega
 refine ac ?_
 refine wk2 1 67 rfl ?_
 refine Tr.cn rfl ?_ ?_ <;> intro h12 q12
 exfalso; have := q12; omega
 refine ac ?_
 refine ac ?_
 refine Ch.cs 71 rfl ?_ ?_ <;> intro h13 q13
 exfalso; have := q13; omega
 refine ac ?_
 refine Ch.cs 76 rfl ?_ ?_ <;> intro h14 q14
 exfalso; have := q14; omega
 refine ac ?_
 refine Ch.cs 80 rfl ?_ ?_ <;> intro h15 q15
 refine ac ?_
 refine Ch.cs 86 rfl ?_ ?_ <;> intro h16 q16
 exfalso; have := q16; simp_all
 refine ac ?_
 refine wk2 1 91 rfl ?_
 refine Tr.cn rfl ?_ ?_ <;> intro h17 q17
 exfalso; have := q17; omega
 refine ac ?_
 refine ac ?_
 refine Tr.block (Tr.loopw [(1, _)] ⟨ke rfl, trivial⟩ (fun k : Nat => [(3, int ((k : Nat) : Int))]) (fun k : Nat => k ≤ (c.names).length) (fun k : Nat => (c.names).length - k) 0 (Nat.zero_le _) ⟨ke rfl, trivial⟩ ?_)
 rintro k hle_k
 refine ac ?_
 refine Tr.cn rfl ?_ ?_ <;> intro h18 q18
 have hk_k : k < (c.names).length := lt_of_dec h18
 obtain ⟨s, hx_k⟩ := at_ hk_k
 have hat := hall k (by omega)
 have hna := name_at hat hx_k
 refine ac ?_
 refine ac ?_
 refine co rfl (ok_indexAddr rfl Tryz.underlying74 sz9 (vl rfl) (vl rfl) (by omega) (row_at hx_k)) (co rfl (kl1 rfl one9 rfl) (co rfl (kc1 (w_RName) rfl rfl) ?_))
 refine ac ?_
 refine Ch.cs 106 rfl ?_ ?_ <;> intro h19 q19
 exfalso; rw [hna] at h19; exact absurd h19 (by decide)
 refine ac ?_
 refine Ch.cs 109 rfl ?_ ?_ <;> intro h20 q20
 have hk00 : 0 < k := by simpa using h20
 obtain ⟨y, hy⟩ := at_ (l := c.names) (k := k - 1) (by omega)
 have hlt := name_lt hat hx_k hy hk00
 refine ac ?_
 refine cy h20 rfl (ok_indexAddr rfl Tryz.underlying74 sz9 (vl rfl) (vl rfl) (by omega) (by rw [show ((k : Nat) : Int) - 1 = ((k - 1 : Nat) : Int) by omega]; exact row_at hy)) ?_
 refine ac ?_
 refine cy h20 rfl (ok_indexAddr rfl Tryz.underlying74 sz9 (vl rfl) (vl rfl) (by omega) (row_at hx_k)) (cy h20 rfl (kl1 rfl one9 rfl) (cy h20 rfl (ok_ges rfl (vl rfl) (vl rfl)) ?_))
 refine ac ?_
 refine wk3 1 3 123 rfl ?_
 refine Tr.cn rfl ?_ ?_ <;> intro h21 q21
 exfalso; rw [hlt] at h21; exact absurd h21 (by decide)
 refine ac ?_
 refine ac ?_
 exact Fin.fam_same (k + 1) ⟨hk_k, by omega⟩ ⟨⟨_, rfl, int_succ k⟩, ke rfl, trivial⟩
 refine ac ?_
 refine wk3 1 3 123 rfl ?_
 refine ac ?_
 refine ac ?_
 exact Fin.fam_same (k + 1) ⟨hk_k, by omega⟩ ⟨⟨_, rfl, int_succ k⟩, ke rfl, trivial⟩
 have he_k : k = (c.names).length := by have := ge_of_dec h18; omega
 refine ac ?_
 refine ac ?_
 refine Ch.cs 128 rfl ?_ ?_ <;> intro h22 q22
 exfalso; have := q22; omega
 refine ac ?_
 refine Ch.cs 134 rfl ?_ ?_ <;> intro h23 q23
 exfalso; have := q23; omega
 refine ac ?_
 refine Ch.cs 140 rfl ?_ ?_ <;> intro h24 q24
 exfalso; have := q24; omega
 refine ac ?_
 refine wk1 145 rfl ?_
 refine Tr.cn rfl ?_ ?_ <;> intro h25 q25
 exfalso; have := q25; omega
 refine ac ?_
 refine ac ?_
 refine ac ?_
 · exact Pr.le_refl _
 refine ac ?_
 refine wk2 1 91 rfl ?_
 refine Tr.cn rfl ?_ ?_ <;> intro h26 q26
 exfalso; have := q26; omega
 refine ac ?_
 refine ac ?_
 refine Tr.block (Tr.loopw [(1, _)] ⟨ke rfl, trivial⟩ (fun k : Nat => [(3, int ((k : Nat) : Int))]) (fun k : Nat => k ≤ (c.names).length) (fun k : Nat => (c.names).length - k) 0 (Nat.zero_le _) ⟨ke rfl, trivial⟩ ?_)
 rintro k hle_k
 refine ac ?_
 refine Tr.cn rfl ?_ ?_ <;> intro h27 q27
 have hk_k : k < (c.names).length := lt_of_dec h27
 obtain ⟨s, hx_k⟩ := at_ hk_k
 have hat := hall k (by omega)
 have hna := name_at hat hx_k
 refine ac ?_
 refine ac ?_
 refine co rfl (ok_indexAddr rfl Tryz.underlying74 sz9 (vl rfl) (vl rfl) (by omega) (row_at hx_k)) (co rfl (kl1 rfl one9 rfl) (co rfl (kc1 (w_RName) rfl rfl) ?_))
 refine ac ?_
 refine Ch.cs 106 rfl ?_ ?_ <;> intro h28 q28
 exfalso; rw [hna] at h28; exact absurd h28 (by decide)
 refine ac ?_
 refine Ch.cs 109 rfl ?_ ?_ <;> intro h29 q29
 have hk00 : 0 < k := by simpa using h29
 obtain ⟨y, hy⟩ := at_ (l := c.names) (k := k - 1) (by omega)
 have hlt := name_lt hat hx_k hy hk00
 refine ac ?_
 refine cy h29 rfl (ok_indexAddr rfl Tryz.underlying74 sz9 (vl rfl) (vl rfl) (by omega) (by rw [show ((k : Nat) : Int) - 1 = ((k - 1 : Nat) : Int) by omega]; exact row_at hy)) ?_
 refine ac ?_
 refine cy h29 rfl (ok_indexAddr rfl Tryz.underlying74 sz9 (vl rfl) (vl rfl) (by omega) (row_at hx_k)) (cy h29 rfl (kl1 rfl one9 rfl) (cy h29 rfl (ok_ges rfl (vl rfl) (vl rfl)) ?_))
 refine ac ?_
 refine wk3 1 3 123 rfl ?_
 refine Tr.cn rfl ?_ ?_ <;> intro h30 q30
 exfalso; rw [hlt] at h30; exact absurd h30 (by decide)
 refine ac ?_
 refine ac ?_
 exact Fin.fam_same (k + 1) ⟨hk_k, by omega⟩ ⟨⟨_, rfl, int_succ k⟩, ke rfl, trivial⟩
 refine ac ?_
 refine wk3 1 3 123 rfl ?_
 refine ac ?_
 refine ac ?_
 exact Fin.fam_same (k + 1) ⟨hk_k, by omega⟩ ⟨⟨_, rfl, int_succ k⟩, ke rfl, trivial⟩
 have he_k : k = (c.names).length := by have := ge_of_dec h27; omega
 refine ac ?_
 refine ac ?_
 refine Ch.cs 128 rfl ?_ ?_ <;> intro h31 q31
 exfalso; have := q31; omega
 refine ac ?_
 refine Ch.cs 134 rfl ?_ ?_ <;> intro h32 q32
 exfalso; have := q32; omega
 refine ac ?_
 refine Ch.cs 140 rfl ?_ ?_ <;> intro h33 q33
 exfalso; have := q33; omega
 refine ac ?_
 refine wk1 145 rfl ?_
 refine Tr.cn rfl ?_ ?_ <;> intro h34 q34
 exfalso; have := q34; omega
 refine ac ?_
 refine ac ?_
 refine ac ?_
 · exact Pr.le_refl _
end Go.Proofs.YtppeeogffbpcbaaGreat
namespace Go.Proofs.YtppeeogffbpcbaaGreat
open Go Go.RowKit Cp

abbrev u32R : Pr := Cp.ex fun n : Int => fact (0 ≤ n ∧ n < 4294967296) (is (.int .u32 n))
abbrev sumE : Pr := Cp.ex fun n : Int => fact (0 ≤ n ∧ n < 4294967296) (int n)
theorem u32_any : Pr.le u32R (anyK .u32) := fun _ _ _ ⟨n, _, h⟩ => ⟨n, h⟩
section
variable {P : Program} {I : Asn} {E : Env} {o : Oper}
theorem ok_convK {s t : TypeId} {x : Operand} {k k' : IntKind} (ho : o.op = .convert s t x) (hs : P.underlying s = some (.int k)) (ht : P.underlying t = some (.int k')) (hx : VL E x (anyK k)) : OpOK P I o E (anyK k') :=
  OpOK.same fun M w a he _ => by
    obtain ⟨n, h1⟩ := hx.ev he (by simp [ho, Op.operands])
    have h1 : a.eval x = .int k n := h1
    refine ⟨.int k' (k'.wrap n), ?_, _, rfl⟩
    simp [execOp, ho, h1, convert, run_underlying hs, run_underlying ht, Conv.intToInt, Sem.run_bind]
theorem ok_mulU {t u : TypeId} {x y : Operand} (ho : o.op = .binOp .mul t x y u) (hx : VL E x (anyK .u32)) (hy : VL E y (anyK .u32)) : OpOK P I o E u32R :=
  OpOK.same fun M w a he _ => by
    obtain ⟨m, h1⟩ := hx.ev he (by simp [ho, Op.operands])
    obtain ⟨n, h2⟩ := hy.ev he (by simp [ho, Op.operands])
    have h1 : a.eval x = .int .u32 m := h1
    have h2 : a.eval y = .int .u32 n := h2
    refine ⟨.int .u32 (IntKind.u32.wrap (m * n)), by simp [execOp, ho, h1, h2, eqGuard, binOp, Op.intArith], _, ?_, rfl⟩
    rw [IntKind.wrap_u32]; omega
theorem ok_conv32 {s t : TypeId} {x : Operand} (ho : o.op = .convert s t x) (hs : P.underlying s = some (.int .u32)) (ht : P.underlying t = some (.int .i64)) (hx : VL E x u32R) : OpOK P I o E sumE :=
  OpOK.same fun M w a he _ => by
    obtain ⟨n, hn, h1⟩ := hx.ev he (by simp [ho, Op.operands])
    have h1 : a.eval x = .int .u32 n := h1
    refine ⟨.int .i64 (IntKind.i64.wrap n), ?_, n, hn, by rw [wrap_in (by unfold InI; omega)]; rfl⟩
    simp [execOp, ho, h1, convert, run_underlying hs, run_underlying ht, Conv.intToInt, Sem.run_bind]
end
theorem Fun.elemsE {P : Program} {f : FuncId} {row : List Pr} (h : ∀ m, m ≤ 20 → Fun P f [slice 4 (List.replicate m row)] (slice 4 (List.replicate m row))) : Fun P f [Go.Proofs.YtppeeogffbpcbaaGreat.elemsE row] (Go.Proofs.YtppeeogffbpcbaaGreat.elemsE row) := by
  refine ⟨(h 0 (by omega)).1, fun M w vs hb hv => ?_⟩
  match vs, hv with
  | [u0], hv1 =>
    obtain ⟨⟨m, hm, h0⟩, _⟩ := hv1
    exact ((h m hm).2 M w [u0] hb ⟨h0, trivial⟩).mono fun e w' ⟨v, h1, h2, h3⟩ => ⟨v, h1, ⟨m, hm, h2⟩, h3⟩
theorem Fun.bytesE {P : Program} {f : FuncId} {B : Nat} {res : Pr} (h : ∀ m, m ≤ B → Fun P f [bts m] res) : Fun P f [Go.Proofs.YtppeeogffbpcbaaGreat.bytesE B] res := by
  refine ⟨(h 0 (by omega)).1, fun M w vs hb hv => ?_⟩
  match vs, hv with
  | [u0], hv1 =>
    obtain ⟨⟨m, hm, h0⟩, _⟩ := hv1
    exact (h m hm).2 M w [u0] hb ⟨h0, trivial⟩
abbrev qA1 : Pr := elemsE (rowQ q0)
abbrev qA2 : Pr := elemsE (rowQ qA1)
theorem q0_le : Pr.le q0 qA1 := ex_in 0 (fact_in (by omega) (Pr.le_refl _))
theorem rc0 : Fun Tryz.prog 286 [q0] q0 := w_rcopies (m := 0) (q := q0) (by omega) (.inl rfl)
theorem rc1 (m : Nat) (hm : m ≤ 20) : Fun Tryz.prog 286 [slice 4 (List.replicate m (rowQ q0))] (slice 4 (List.replicate m (rowQ q0))) := w_rcopies hm (.inr rc0)
theorem rc2 (m : Nat) (hm : m ≤ 20) : Fun Tryz.prog 286 [slice 4 (List.replicate m (rowQ qA1))] (slice 4 (List.replicate m (rowQ qA1))) := w_rcopies hm (.inr (Fun.elemsE rc1))
theorem rf0 : Fun Tryz.prog 247 [agg (rowQ q0)] anyB := Fun.rowQ0 fun t b n hb => w_rformed (m := 0) (q := q0) hb (by omega) (.inl rfl)
theorem rf1 : Fun Tryz.prog 247 [agg (rowQ qA1)] anyB := Fun.rowQ fun t b n m hb hm => w_rformed hb hm (.inr rf0)
theorem rf2 : Fun Tryz.prog 247 [agg (rowQ qA2)] anyB := Fun.rowQ fun t b n m hb hm => w_rformed hb hm (.inr rf1)
theorem rd0 : Fun Tryz.prog 248 [agg (rowQ q0)] (depthE 1) := Fun.rowQ0 fun t b n hb => w_rdepth (m := 0) (q := q0) (D := 0) hb (by omega) (by omega) (.inl rfl)
theorem rd1 : Fun Tryz.prog 248 [agg (rowQ qA1)] (depthE 2) := Fun.rowQ fun t b n m hb hm => w_rdepth hb hm (by omega) (.inr rd0)
theorem rd2 : Fun Tryz.prog 248 [agg (rowQ qA2)] (depthE 3) := Fun.rowQ fun t b n m hb hm => w_rdepth hb hm (by omega) (.inr rd1)
theorem rp0 : Fun Tryz.prog 249 [agg (rowQ q0)] (bytesE 2002) := Fun.rowQ0 fun t b n hb => w_rput (m := 0) (q := q0) (B := 0) hb (by omega) (by omega) (.inl rfl)
theorem rp1 : Fun Tryz.prog 249 [agg (rowQ qA1)] (bytesE 82082) := Fun.rowQ fun t b n m hb hm => w_rput (B := 2002) hb hm (by omega) (.inr rp0)
theorem rp2 : Fun Tryz.prog 249 [agg (rowQ qA2)] (bytesE 3285282) := Fun.rowQ fun t b n m hb hm => w_rput (B := 82082) hb hm (by omega) (.inr rp1)
theorem rE2 : Fun Tryz.prog 201 [agg (rowQ qA2)] (tup [bytesE 3285282, anyK .i64]) := w_rEncode rf2 rd2 rp2
/-- Its numbers are small. -/
structure Crt.tiny (c : Crt) : Prop where
  serial : c.serial ≤ 40000
  keyId : c.keyId ≤ 40000
  kalg : 0 ≤ c.kalg ∧ c.kalg ≤ 40000
  kbits : 0 ≤ c.kbits ∧ c.kbits ≤ 40000
  halg : 0 ≤ c.halg ∧ c.halg ≤ 40000
  hbits : 0 ≤ c.hbits ∧ c.hbits ≤ 40000
theorem named_len {s : List UInt8} (h : named s = true) : s.length ≤ 32 := by unfold named at h; simp at h; omega

theorem w_R3use {a b : Int} (ha : 0 ≤ a ∧ a ≤ 40000) (hb : 0 ≤ b ∧ b ≤ 40000) : Fun Tryz.prog 253 [agg [int a, int b]] (agg (rowQ qA1)) := by
 refine fo Tryz.func253 rfl ⟨rfl, rfl⟩ fun M0 w0 => (Tr.seq (Tr.regT (tp rfl (ok_box rfl (VL.le (vl rfl) (agg_cellsP _))) ?_)))
 refine TO.alloc rfl rfl (by decide) rfl z223 zo223 (fun b1 => ?_)
 refine ap ?_
 refine Tr.seq (Tr.rx ?_)
 refine ay ?_
 refine xo rfl (fun _ => kc1 (w_rInt ha) rfl rfl) ?_
 refine ay ?_
 refine xo rfl (fun _ => kc1 (w_rInt hb) rfl rfl) (xo rfl (fun _ => ok_buildSlice (xs := [.tmp 5, .tmp 8]) (rows := [_, _]) rfl rfl Tryz.underlying221 sz223 z223 rfl (by decide) ⟨⟨(by exact rfl), (VL.le (vl rfl) (agg_cellsP _))⟩, ⟨⟨(by exact rfl), (VL.le (vl rfl) (agg_cellsP _))⟩, trivial⟩⟩ (by decide)) ?_)
 refine xo rfl (fun _ => ok_call rfl (w_rList (m := 2) (q := q0) (by omega) (rc1 _ (by omega))) ⟨⟨_, rfl, full_le _ _⟩, trivial⟩) ?_
 refine Cx.ef0 0 rfl rfl (ef_store rfl rfl (vl rfl) (VL.le (vl rfl) (agg_cellsP _)) sz223 rfl (by exact Nat.le_of_ble_eq_true rfl) rfl) ?_
 refine Cx.nil ⟨by kernel_rfl, ?_⟩
 refine FinX.done al1 (Fin.go (Tr.ret (Fin.retX1 rfl (RVal.cell 0 rfl rfl agg223 sz223 rfl (Pr.le_refl _)) ?_)))
 · exact Pr.le_refl _
theorem w_R3body {c : Crt} (hv : validB c = true) (ht : c.tiny) : Fun Tryz.prog 202 [agg (rowCr c)] (agg (rowQ qA2)) := by
 refine fo Tryz.func202 rfl ⟨rfl, rfl⟩ fun M0 w0 => ?_
 obtain ⟨hs0, hs1, hiss, hsub, hnm, hkey, hk0, hk1, hhash, hsk0, hsk1, hsu0, hsu1, hf0, hft, ht1, hp0, hp1, hap⟩ := vf_of hv
 obtain ⟨g1, g2, g3, g4, g5, g6⟩ := ht
 have hnm2 := hnm
 unfold namesB at hnm2
 rw [Bool.and_eq_true, allI_iff, decide_eq_true_eq] at hnm2
 obtain ⟨hall, hlen8⟩ := hnm2
 have hli := named_len hiss
 have hlj := named_len hsub
 refine Tr.seq (Tr.regT (tp rfl (ok_box rfl (VL.le (vl rfl) (agg_cellsP _))) ?_))
 refine TO.alloc rfl rfl (by decide) rfl z223 zo223 (fun b1 => ?_)
 refine ap ?_
 refine ac ?_
 refine ac ?_
 refine Tr.block (Tr.addnil 223 4 (Tr.loopV1 [(1, _), (2, _)] ⟨ke rfl, ke rfl, trivial⟩ (fun k v => [(4, int ((k : Nat) : Int)), (3, andIs v (slice 4 (List.replicate k (rowQ q0))))]) (fun k v => Hp M0 w0 noS ([appRes 223 4 v, cellsRes true b1 223 (([.int .i64 0, .slice none 0 0, .bool false, .slice none 0 0] : List Value).map is)])) (fun k : Nat => k ≤ (c.names).length) (fun k : Nat => (c.names).length - k) 0 (.slice none 0 0) (Nat.zero_le _) ⟨ke rfl, ⟨_, rfl, own_nil rfl⟩, trivial⟩ (fun _ _ h => h) ?_))
 rintro k v hle_k
 refine ac ?_
 refine Tr.cn rfl ?_ ?_ <;> intro h1 q1
 have hk_k : k < (c.names).length := lt_of_dec h1
 obtain ⟨s, hx_k⟩ := at_ hk_k
 have hsn := named_len (name_at (hall k (by omega)) hx_k)
 refine ac ?_
 refine ap ?_
 refine tp rfl (ok_indexAddr rfl Tryz.underlying74 sz9 (vl rfl) (vl rfl) (by omega) (by exact row_at (by assumption))) ?_
 refine tp rfl (kl1 rfl one9 rfl) (tp rfl (kc1 (w_rText (by omega)) rfl rfl) (tp rfl (ok_buildSlice (xs := [.tmp 18]) (rows := [_]) rfl rfl Tryz.underlying221 sz223 z223 rfl (by decide) ⟨⟨(by exact rfl), (VL.le (vl rfl) (agg_cellsP _))⟩, trivial⟩ (by decide)) ?_))
 refine TO.efs 0 rfl rfl (by decide) (ef_append rfl rfl (by decide) rfl Tryz.underlying221 sz223 by223 z223 rfl (by decide) ⟨_, rfl, andIs_le _ _⟩ ⟨_, rfl, full_le _ _⟩ (by simp only [List.length_append, List.length_replicate, List.length_cons, List.length_nil]; unfold maxLen; omega) (by simp only [List.length_append, List.length_replicate, List.length_cons, List.length_nil]; omega) (appR_is (by exact List.Mem.head _) ⟨_, rfl, andIs_is _ _⟩)) (fun v1 => ?_)
 refine ap ?_
 refine wk4 1 2 3 4 rfl ?_
 refine ac ?_
 exact Fin.famV1 (k + 1) v1 (⟨hk_k, by omega⟩) ⟨⟨_, rfl, int_succ k⟩, ⟨_, rfl, own_le (by rw [rep_one])⟩, ke rfl, ke rfl, trivial⟩ (fun _ _ h => h)
 have he_k : k = (c.names).length := by have := ge_of_dec h1; omega
 refine ac ?_
 refine Tr.seq (Tr.rx ?_)
 refine ay ?_
 refine xo rfl (fun _ => kc1 (w_rInt (by omega)) rfl rfl) ?_
 refine ay ?_
 refine xo rfl (fun _ => kc1 (w_rText (by omega)) rfl rfl) ?_
 refine ay ?_
 refine xo rfl (fun _ => kc1 (w_rText (by omega)) rfl rfl) ?_
 refine ay ?_
 refine xo rfl (fun _ => kc1 (w_R3use g3 g4) rfl rfl) ?_
 refine ay ?_
 refine xo rfl (fun _ => kc1 (w_rInt (by omega)) rfl rfl) ?_
 refine ay ?_
 refine xo rfl (fun _ => kc1 (w_R3use g5 g6) rfl rfl) ?_
 refine ay ?_
 refine xo rfl (fun _ => kc1 (w_rInt (by omega)) rfl rfl) ?_
 refine ay ?_
 refine xo rfl (fun _ => kc1 (w_rInt (by omega)) rfl rfl) ?_
 refine ay ?_
 refine xo rfl (fun _ => kc1 (w_rBool) rfl rfl) ?_
 refine ay ?_
 refine xo rfl (fun _ => kc1 (w_rInt (by omega)) rfl rfl) (xm rfl ?_)
 refine xo rfl (fun _ => ok_call rfl (w_rList (m := c.names.length) (q := q0) (by omega) (rc1 _ (by omega))) ⟨⟨_, rfl, Pr.le_trans (andIs_le _ _) (Pr.le_of_eq (by rw [he_k]))⟩, trivial⟩) ?_
 refine xo rfl (fun _ => ok_buildSlice (xs := [.tmp 23, .tmp 26, .tmp 29, .tmp 32, .tmp 35, .tmp 38, .tmp 41, .tmp 44, .tmp 47, .tmp 50, .tmp 52]) (rows := [rowQ qA1, rowQ qA1, rowQ qA1, rowQ qA1, rowQ qA1, rowQ qA1, rowQ qA1, rowQ qA1, rowQ qA1, rowQ qA1, rowQ qA1]) rfl rfl Tryz.underlying221 sz223 z223 rfl (by decide) ⟨⟨(by exact rfl), VL.le (vl rfl) (Pr.le_trans (agg_le (qs := rowQ qA1) ⟨Pr.le_refl _, Pr.le_refl _, Pr.le_refl _, q0_le, trivial⟩) (agg_cellsP _))⟩, ⟨⟨(by exact rfl), VL.le (vl rfl) (Pr.le_trans (agg_le (qs := rowQ qA1) ⟨Pr.le_refl _, Pr.le_refl _, Pr.le_refl _, q0_le, trivial⟩) (agg_cellsP _))⟩, ⟨⟨(by exact rfl), VL.le (vl rfl) (Pr.le_trans (agg_le (qs := rowQ qA1) ⟨Pr.le_refl _, Pr.le_refl _, Pr.le_refl _, q0_le, trivial⟩) (agg_cellsP _))⟩, ⟨⟨(by exact rfl), VL.le (vl rfl) (agg_cellsP _)⟩, ⟨⟨(by exact rfl), VL.le (vl rfl) (Pr.le_trans (agg_le (qs := rowQ qA1) ⟨Pr.le_refl _, Pr.le_refl _, Pr.le_refl _, q0_le, trivial⟩) (agg_cellsP _))⟩, ⟨⟨(by exact rfl), VL.le (vl rfl) (agg_cellsP _)⟩, ⟨⟨(by exact rfl), VL.le (vl rfl) (Pr.le_trans (agg_le (qs := rowQ qA1) ⟨Pr.le_refl _, Pr.le_refl _, Pr.le_refl _, q0_le, trivial⟩) (agg_cellsP _))⟩, ⟨⟨(by exact rfl), VL.le (vl rfl) (Pr.le_trans (agg_le (qs := rowQ qA1) ⟨Pr.le_refl _, Pr.le_refl _, Pr.le_refl _, q0_le, trivial⟩) (agg_cellsP _))⟩, ⟨⟨(by exact rfl), VL.le (vl rfl) (Pr.le_trans (agg_le (qs := rowQ qA1) ⟨Pr.le_refl _, Pr.le_refl _, Pr.le_refl _, q0_le, trivial⟩) (agg_cellsP _))⟩, ⟨⟨(by exact rfl), VL.le (vl rfl) (Pr.le_trans (agg_le (qs := rowQ qA1) ⟨Pr.le_refl _, Pr.le_refl _, Pr.le_refl _, q0_le, trivial⟩) (agg_cellsP _))⟩, ⟨⟨(by exact rfl), VL.le (vl rfl) (agg_cellsP _)⟩, trivial⟩⟩⟩⟩⟩⟩⟩⟩⟩⟩⟩ (by decide)) ?_
 refine xo rfl (fun _ => ok_call rfl (w_rList (m := 11) (q := qA1) (by omega) (rc2 _ (by omega))) ⟨⟨_, rfl, full_le _ _⟩, trivial⟩) ?_
 refine Cx.ef0 1 rfl rfl (ef_store rfl rfl (vl rfl) (VL.le (vl rfl) (agg_cellsP _)) sz223 rfl (by exact Nat.le_of_ble_eq_true rfl) rfl) ?_
 refine Cx.nil ⟨by kernel_rfl, ?_⟩
 refine FinX.done al2 (Fin.go (wk1 2 rfl (Tr.ret (Fin.retX1 rfl (RVal.cell 1 rfl rfl agg223 sz223 rfl (Pr.le_refl _)) ?_))))
 · exact Pr.le_refl _
theorem w_R3Bytes {c : Crt} (hv : validB c = true) (ht : c.tiny) : Fun Tryz.prog 160 [agg (rowCr c)] (tup [bytesE 3285282, anyK .i64]) := by
 refine fo Tryz.func160 rfl ⟨rfl, rfl⟩ fun M0 w0 => ?_
 refine ac ?_
 refine ac ?_
 refine co rfl (kc1 (w_R3Check hv) rfl rfl) ?_
 refine ac ?_
 refine Tr.cn rfl ?_ ?_ <;> intro h1 q1
 exact absurd h1 (by decide)
 refine ac ?_
 refine ac ?_
 refine co rfl (kc1 (w_R3body hv ht) rfl rfl) (co rfl (kc1 (rE2) rfl rfl) ?_)
 refine ac ?_
 refine Tr.ret (Fin.ret2 rfl (OutW.bse _ _) rfl ?_ rfl ?_)
 · exact Pr.le_refl _
 · exact Pr.le_refl _
theorem w_R3Sum {m : Nat} (hm : m ≤ 100000000) : Fun Tryz.prog 161 [bts m] (sumE) := by
 refine fo Tryz.func161 rfl ⟨rfl, rfl⟩ fun M0 w0 => ?_
 have hlr : (List.replicate m u8R).length = m := List.length_replicate
 refine ac ?_
 refine ac ?_
 refine ac ?_
 refine Tr.block (Tr.loopw [(0, _)] ⟨ke rfl, trivial⟩ (fun k : Nat => [(4, int ((k : Nat) : Int)), (3, u32R)]) (fun k : Nat => k ≤ ((List.replicate m u8R).length)) (fun k : Nat => ((List.replicate m u8R).length) - k) 0 (Nat.zero_le _) ⟨ke rfl, ⟨_, rfl, ex_in _ (fact_in (by omega) (Pr.le_refl _))⟩, trivial⟩ ?_)
 rintro k hle_k
 refine ac ?_
 refine co rfl (ok_len rfl Tryz.underlying198 (vl rfl)) ?_
 refine ac ?_
 refine Tr.cn rfl ?_ ?_ <;> intro h1 q1
 have hk_k : k < ((List.replicate m u8R).length) := lt_of_dec h1
 have hkm : k < m := by simpa using hk_k
 refine ac ?_
 refine ac ?_
 refine co rfl (ok_indexAddr rfl Tryz.underlying198 sz5 (vl rfl) (vl rfl) (by omega) (rep_at hkm)) (co rfl (kl1 rfl one5 rfl) (co rfl (ok_convK rfl Tryz.underlying5 Tryz.underlying225 (vl rfl)) (co rfl (ok_bits (by decide) rfl (VL.le (vl rfl) u32_any) (vl rfl)) (co rfl (ok_mulU rfl (vl rfl) (VL.le (vl rfl) (is_anyK _ _))) ?_))))
 refine ac ?_
 refine wk3 0 3 4 rfl ?_
 refine ac ?_
 exact Fin.fam_same (k + 1) ⟨hk_k, by omega⟩ ⟨⟨_, rfl, int_succ k⟩, ke rfl, ke rfl, trivial⟩
 have he_k : k = ((List.replicate m u8R).length) := by have := ge_of_dec h1; omega
 refine ac ?_
 refine ac ?_
 refine co rfl (ok_conv32 rfl Tryz.underlying225 Tryz.underlying3 (vl rfl)) ?_
 refine ac ?_
 refine ac ?_
 · exact Pr.le_refl _
theorem w_R3Copy {c : Crt} (hn : c.names.length ≤ 1000) : Fun Tryz.prog 158 [agg (rowCr c)] (agg (rowCr c)) := by
 refine fo Tryz.func158 rfl ⟨rfl, rfl⟩ fun M0 w0 => (Tr.seq (Tr.regT ?_))
 refine TO.boxm rfl rfl (by decide) rfl (VL.le (vl rfl) (agg_cellsP _)) (fun b1 => ?_)
 refine TO.alloc rfl rfl (by decide) rfl z131 zo131 (fun b2 => ?_)
 refine ap ?_
 refine ap ?_
 refine TO.pad ?_
 refine TO.efs 0 rfl rfl (by decide) (ef_append rfl rfl (by decide) rfl Tryz.underlying74 sz9 by9 z9 rfl (by decide) ⟨_, rfl, full_le _ _⟩ (vl rfl) (by simp only [List.length_append, List.length_map, List.length_nil]; unfold maxLen; omega) (by simp only [List.length_append, List.length_map, List.length_nil]; omega) (appR_full (by exact List.Mem.head _) (vl rfl))) (fun v1 => ?_)
 refine ap ?_
 refine ap ?_
 refine Tr.drop 2 (Tr.ret (Fin.retX1 rfl (RVal.cell 1 rfl rfl agg131 sz131 rfl (Pr.le_refl _)) ?_))
 · exact agg_le ⟨Pr.le_refl _, Pr.le_refl _, Pr.le_refl _, Pr.le_refl _, Pr.le_refl _, Pr.le_refl _, Pr.le_refl _, Pr.le_refl _, Pr.le_refl _, Pr.le_refl _, Pr.le_refl _, Pr.le_refl _, Pr.le_trans (andIs_le _ _) (Pr.le_of_eq (by simp)), Pr.le_refl _, Pr.le_refl _, trivial⟩
abbrev sealed (c : Crt) (key s : Int) : Crt := ⟨c.serial, c.issuer, c.subject, c.kalg, c.kbits, c.keyId, c.halg, c.hbits, c.from_, c.to_, c.auth, c.path, c.names, key, s⟩

theorem w_R3Sign {c : Crt} {key : Int} (hv : validB (sealed c 0 0) = true) (ht : (sealed c 0 0).tiny) (hk : 0 ≤ key ∧ key ≤ 2147483648) : Fun Tryz.prog 111 [agg (rowCr c), int key] (Cp.ex fun s : Int => fact (0 ≤ s ∧ s < 4294967296) (tup [agg (rowCr (sealed c key s)), int 0])) := by
 refine fo Tryz.func111 rfl ⟨rfl, rfl⟩ fun M0 w0 => ?_
 have hnn : c.names.length ≤ 1000 := by have := (vf_of hv).nm; unfold namesB at this; simp at this; omega
 refine Tr.seq (Tr.regT ?_)
 refine TO.boxm rfl rfl (by decide) rfl (VL.le (vl rfl) (agg_cellsP _)) (fun b1 => ?_)
 refine TO.alloc rfl rfl (by decide) rfl z131 zo131 (fun b2 => ?_)
 refine ap ?_
 refine ap ?_
 refine tp rfl (kc1 (w_R3Copy (c := c) hnn) rfl rfl) ?_
 refine ap ?_
 refine ap ?_
 refine ac ?_
 refine co rfl (kc1 (w_R3Check (c := sealed c 0 0) hv) rfl rfl) ?_
 refine ac ?_
 refine Ch.cs 15 rfl ?_ ?_ <;> intro h1 q1
 exact absurd h1 (by decide)
 refine ac ?_
 refine Ch.cs 19 rfl ?_ ?_ <;> intro h2 q2
 exfalso; have := q2; omega
 refine ac ?_
 refine wk4 1 2 4 22 rfl ?_
 refine Tr.cn rfl ?_ ?_ <;> intro h3 q3
 exfalso; have := q3; omega
 refine ac ?_
 refine ac ?_
 refine co rfl (kc1 (w_R3Bytes (c := sealed c 0 0) hv ht) rfl rfl) ?_
 refine ac ?_
 refine ap ?_
 refine tp rfl (kc1 (Fun.bytesE fun m hm => w_R3Sum (by omega)) rfl rfl) ?_
 refine TO.ex 31 rfl (fun z31 => TO.fact 31 rfl fun hz31 => ?_)
 refine ap ?_
 refine wk2 2 4 rfl ?_
 refine ap ?_
 refine Tr.drop 1 (Tr.ret (Fin.retX2 rfl (RVal.cell 0 rfl rfl agg131 sz131 rfl (Pr.le_refl _)) (RVal.tmp rfl (Pr.le_refl _)) ?_))
 · exact ex_in z31 (fact_in hz31 (Pr.le_refl _))
end Go.Proofs.YtppeeogffbpcbaaGreat
namespace Go.Proofs.YtppeeogffbpcbaaGreat
open Go Go.RowKit Cp

abbrev leafC (name : List UInt8) (a b id to key s : Int) : Crt := ⟨id, [114, 111, 111, 116], name, a, b, id, 3, 0, 0, to, false, 0, [name], key, s⟩
abbrev leafI (name : List UInt8) (a b id to key s : Int) : Idn := ⟨a, b, id, [leafC name a b id to key s]⟩
abbrev leafE (name : List UInt8) (a b id to key : Int) : Pr := Cp.ex fun s : Int => fact (0 ≤ s ∧ s < 4294967296) (agg (rowId (leafI name a b id to key s)))
theorem w_RSA   : Fun Tryz.prog 66 [] (agg [int 5, int 2048]) := by
 refine fo Tryz.func66 rfl ⟨rfl, rfl⟩ fun M0 w0 => (Tr.seq (Tr.regT ?_))
 refine TO.alloc rfl rfl (by decide) rfl z24 zo24 (fun b1 => ?_)
 refine ap ?_
 refine ap ?_
 refine Tr.ret (Fin.retX1 rfl (RVal.cell 0 rfl rfl agg24 sz24 rfl (Pr.le_refl _)) ?_)
 · exact Pr.le_refl _
theorem w_EC   : Fun Tryz.prog 73 [] (agg [int 7, int 256]) := by
 refine fo Tryz.func73 rfl ⟨rfl, rfl⟩ fun M0 w0 => (Tr.seq (Tr.regT ?_))
 refine TO.alloc rfl rfl (by decide) rfl z24 zo24 (fun b1 => ?_)
 refine ap ?_
 refine ap ?_
 refine Tr.ret (Fin.retX1 rfl (RVal.cell 0 rfl rfl agg24 sz24 rfl (Pr.le_refl _)) ?_)
 · exact Pr.le_refl _
theorem w_Leaf {name : List UInt8} {a b id to key : Int} (hv : validB (leafC name a b id to 0 0) = true) (ht : (leafC name a b id to 0 0).tiny) (hk : 0 ≤ key ∧ key ≤ 2147483648) : Fun Tryz.prog 65 [str name, agg [int a, int b], int id, int key, int to] (leafE name a b id to key) := by
 refine fo Tryz.func65 rfl ⟨rfl, rfl⟩ fun M0 w0 => (Tr.seq (Tr.regT (tp rfl (ok_box rfl (VL.le (vl rfl) (agg_cellsP _))) ?_)))
 refine TO.alloc rfl rfl (by decide) rfl z27 zo27 (fun b1 => ?_)
 refine ap ?_
 refine ap ?_
 refine tp rfl (ok_build (rows := [(0, [_]), (1, [_]), (2, [_]), (3, _), (4, [_]), (5, _), (7, [_]), (10, [_])]) rfl bl131 zo131 ⟨⟨rfl, (VL.le (vl rfl) (one_cellsP _))⟩, ⟨⟨rfl, (VL.le (vl rfl) (one_cellsP _))⟩, ⟨⟨rfl, (VL.le (vl rfl) (one_cellsP _))⟩, ⟨⟨rfl, (VL.le (vl rfl) (agg_cellsP _))⟩, ⟨⟨rfl, (VL.le (vl rfl) (one_cellsP _))⟩, ⟨⟨rfl, (VL.le (vl rfl) (agg_cellsP _))⟩, ⟨⟨rfl, (VL.le (vl rfl) (one_cellsP _))⟩, ⟨⟨rfl, ⟨_, rfl, Pr.le_trans (full_le _ _) (one_cellsP _)⟩⟩, trivial⟩⟩⟩⟩⟩⟩⟩⟩ rfl) (TO.re 20 (agg (rowCr (leafC name a b id to 0 0))) rfl (Pr.le_of_eq rfl) ?_)
 refine TO.alloc rfl rfl (by decide) rfl z131 zo131 (fun b2 => ?_)
 refine ap ?_
 refine wk5 2 3 6 10 11 rfl ?_
 refine ap ?_
 refine tp rfl (kc2 (w_R3Sign (c := leafC name a b id to 0 0) hv ht hk) rfl rfl rfl) ?_
 refine TO.ex 24 rfl (fun z24 => TO.fact 24 rfl fun hz24 => ?_)
 refine ap ?_
 refine ap ?_
 refine tp rfl (ok_build (rows := [(0, _), (1, [_]), (2, [_])]) rfl bl27 zo27 ⟨⟨rfl, (VL.le (vl rfl) (agg_cellsP _))⟩, ⟨⟨rfl, (VL.le (vl rfl) (one_cellsP _))⟩, ⟨⟨rfl, ⟨_, rfl, Pr.le_trans (full_le _ _) (one_cellsP _)⟩⟩, trivial⟩⟩⟩ rfl) ?_
 refine ap ?_
 refine Tr.drop 0 (wk1 10 rfl (Tr.ret (Fin.retX1 rfl (RVal.cell 0 rfl rfl agg27 sz27 rfl (Pr.le_refl _)) ?_)))
 · exact ex_in z24 (fact_in hz24 (Pr.le_refl _))
/-- Some text of a list. -/
def wordOf (s : DS) (l : List (List UInt8)) : List UInt8 := (l[(s.val l.length).toNat]?).getD []

theorem w_DWordE {b : Nat} {s : DS} {l : List (List UInt8)} (hl : l ≠ []) (hl2 : l.length ≤ 1000000000) : FunM Tryz.prog 68 [ptr b 0, txts l] (str (wordOf s l)) (diceS b s) (fun _ => diceS b s.adv) := by
 refine FunM.of Tryz.func68 rfl rfl (by exact Nat.le_of_ble_eq_true rfl) fun M0 w0 S rs M1 w1 => ?_
 have hl0 : 1 ≤ (l.length : Int) := by have := List.length_pos_iff.2 hl; omega
 have hv := s.val_in hl0
 obtain ⟨x, hx⟩ := at_ (l := l) (k := (s.val l.length).toNat) (by omega)
 refine ac ?_
 refine ap ?_
 refine TO.efc 0 rfl rfl (by decide) (ef_callc rfl rfl (by decide) rfl (w_DNext (by omega) (by omega)) ⟨ke rfl, ke rfl, trivial⟩) (tp rfl (ok_indexAddr rfl Tryz.underlying74 sz9 (vl rfl) (vl rfl) (by omega) (row_atI hx)) ?_)
 refine ap ?_
 refine Tr.ret (Fin.retY1 [] rfl (RVal.tmp rfl (Pr.le_refl _)) ?_ (fun _ _ _ _ => rfl))
 · refine Pr.le_of_eq ?_; unfold wordOf; rw [hx]; rfl
end Go.Proofs.YtppeeogffbpcbaaGreat
namespace Go.Proofs.YtppeeogffbpcbaaGreat
open Go Go.RowKit Cp

end Go.Proofs.YtppeeogffbpcbaaGreat
namespace Go.Proofs.YtppeeogffbpcbaaGreat
open Go Go.RowKit Cp

def nameL : List (List UInt8) := [[97, 112, 112], [100, 98], [119, 101, 98]]
def optS : List (List Int) := [[10, 8, 2], [8, 2], [2, 10, 8, 3]]
def sOpt (i : Int) : List Int := (optS[i.toNat]?).getD []
theorem sopt_at {i : Int} (h : 0 ≤ i ∧ i < 3) : (optS.map fun l => [ints l])[i.toNat]? = some [ints (sOpt i)] := by
  have hl : i.toNat < optS.length := by show i.toNat < 3; omega
  unfold sOpt
  rw [List.getElem?_map, List.getElem?_eq_getElem hl]; rfl
theorem sopt_mem {i : Int} (h : 0 ≤ i ∧ i < 3) : sOpt i ∈ optS := by
  have hl : i.toNat < optS.length := by show i.toNat < 3; omega
  unfold sOpt
  rw [List.getElem?_eq_getElem hl]; exact List.getElem_mem hl
/-- What such an endpoint is. -/
structure SndE (i : Nat) (e : Ept) : Prop where
  name : nameL[i]? = some e.name
  least : e.least = 1
  most : e.most = 3 ∨ e.most = 4
  suites : e.suites ∈ optS ∨ ∃ l ∈ optS, e.suites = 14 :: l
  ids : ∃ s : Int, (0 ≤ s ∧ s < 4294967296) ∧ e.ids = [leafI e.name 5 2048 (100 + (i : Nat)) 901 1 s]
  anchors : e.anchors = [1]
  hashes : e.hashes = [2, 3]
def SndL (es : List Ept) : Prop := ∀ (i : Nat) e, es[i]? = some e → SndE i e
theorem snd_snoc {es : List Ept} {e : Ept} (h : SndL es) (he : SndE es.length e) : SndL (es ++ [e]) := by
  intro i x hx
  rcases Nat.lt_or_ge i es.length with hi | hi
  · rw [List.getElem?_append_left hi] at hx; exact h i x hx
  · rcases Nat.eq_or_lt_of_le hi with hi | hi
    · subst hi; rw [List.getElem?_append_right (Nat.le_refl _), Nat.sub_self] at hx; simp at hx; subst hx; exact he
    · rw [List.getElem?_eq_none (by simp; omega)] at hx; cases hx
theorem leaf_ok {nm : List UInt8} {k : Nat} (h : nameL[k]? = some nm) {s : Int} (hs : 0 ≤ s ∧ s < 4294967296) {key : Int} (hk : 0 ≤ key ∧ key ≤ 2) : validB (leafC nm 5 2048 (100 + (k : Nat)) 901 key s) = true := by
  have hlt : k < 3 := lt_of_at h
  have hn : named nm = true := by
    have hm := List.mem_of_getElem? h
    revert hm; unfold nameL; intro hm; simp at hm
    rcases hm with rfl | rfl | rfl <;> decide
  refine of_vf ⟨?_, ?_, by show named [114, 111, 111, 116] = true; decide, hn, ?_, by show ofB 5 2048 2 = true; decide +kernel, ?_, ?_, by show ofB 3 0 1 = true; decide +kernel, hk.1, ?_, hs.1, hs.2, by show (0 : Int) ≤ 0; omega, by show (0 : Int) ≤ 901; omega, by show (901 : Int) ≤ 40000; omega, by show (0 : Int) ≤ 0; omega, by show (0 : Int) ≤ 8; omega, .inr rfl⟩
  · show 0 ≤ (100 : Int) + (k : Nat); omega
  · show (100 : Int) + (k : Nat) ≤ _; omega
  · show namesB [nm] = true
    unfold namesB; rw [Bool.and_eq_true]; refine ⟨allI_iff.2 fun j hj => ?_, by simp⟩
    have : j = 0 := by simp at hj; omega
    subst this; unfold nameAt; simp [hn]
  · show 0 ≤ (100 : Int) + (k : Nat); omega
  · show (100 : Int) + (k : Nat) ≤ _; omega
  · show key ≤ _; omega
theorem leaf_tiny {nm : List UInt8} {k : Nat} (h : k < 3) : (leafC nm 5 2048 (100 + (k : Nat)) 901 0 0).tiny :=
  ⟨by show (100 : Int) + (k : Nat) ≤ 40000; omega, by show (100 : Int) + (k : Nat) ≤ 40000; omega, ⟨by show (0 : Int) ≤ 5; omega, by show (5 : Int) ≤ 40000; omega⟩, ⟨by show (0 : Int) ≤ 2048; omega, by show (2048 : Int) ≤ 40000; omega⟩, ⟨by show (0 : Int) ≤ 3; omega, by show (3 : Int) ≤ 40000; omega⟩, ⟨by show (0 : Int) ≤ 0; omega, by show (0 : Int) ≤ 40000; omega⟩⟩
theorem take_get {β : Type} {l : List β} {n k : Nat} {x : β} (h : (l.take n)[k]? = some x) : l[k]? = some x := by
  have hlt := lt_of_at h
  rw [List.length_take] at hlt
  rw [List.getElem?_take, if_pos (by omega)] at h; exact h
theorem sopt_len (i : Int) : (sOpt i).length ≤ 4 := by
  unfold sOpt
  cases h : optS[i.toNat]? with
  | none => show 0 ≤ 4; omega
  | some l =>
    have hm := List.mem_of_getElem? h
    show l.length ≤ 4
    unfold optS at hm; simp at hm
    rcases hm with rfl | rfl | rfl <;> simp
theorem of_334 (s : DS) : s.of [3, 3, 4] = 3 ∨ s.of [3, 3, 4] = 4 := by have := s.of_mem (l := [3, 3, 4]) (by simp); simp at this; exact this
end Go.Proofs.YtppeeogffbpcbaaGreat
namespace Go.Proofs.YtppeeogffbpcbaaGreat
open Go Go.RowKit Cp

abbrev sndS : List (List Int) := optS ++ optS.map (14 :: ·)
theorem sndE_suites {i : Nat} {e : Ept} (h : SndE i e) : e.suites ∈ sndS := by
  rcases h.suites with h | ⟨l, h, h2⟩
  · exact List.mem_append_left _ h
  · rw [h2]; exact List.mem_append_right _ (List.mem_map_of_mem h)
theorem sndS_ok : ∀ l ∈ sndS, suitesB l = true ∧ l.length ≤ 5 := by decide +kernel
theorem name_ok : ∀ n ∈ nameL, wordB n = true ∧ n.length ≤ 3 := by decide +kernel
theorem hash_ok : [2, 3].all hashB = true := by decide +kernel
theorem of_rsa2 : ofB 5 2048 2 = true := by decide +kernel
theorem leaf_idB {nm : List UInt8} {k : Nat} {id : Int} (h : nameL[k]? = some nm) (hid : id = 100 + (k : Nat)) {s : Int} (hs : 0 ≤ s ∧ s < 4294967296) : idB (leafI nm 5 2048 id 901 1 s) = true := by
  subst hid
  have hk : k < 3 := lt_of_at h
  have hv := leaf_ok h hs (key := 1) (by omega)
  have hk2 : keyB (100 + (k : Nat)) = true := by unfold keyB; simp; omega
  unfold idB showsB; simp only [of_rsa2, hk2, List.all_cons, List.all_nil, hv]; simp
theorem sndE_ok {i : Nat} {e : Ept} (h : SndE i e) : EptOk e := by
  have hn := name_ok _ (List.mem_of_getElem? h.name)
  have hs := sndS_ok _ (sndE_suites h)
  obtain ⟨s, hs1, hs2⟩ := h.ids
  have hm := h.most; have hl := h.least
  refine ⟨hn.1, by omega, by omega, by omega, hs.1, by rw [hs2]; simp, by rw [h.anchors]; simp, by rw [h.anchors]; decide, by rw [h.hashes]; decide, ?_, by rw [h.anchors]; decide, by rw [h.hashes]; exact hash_ok⟩
  rw [hs2]; simp only [List.all_cons, List.all_nil, leaf_idB h.name rfl hs1, Bool.and_self]
theorem sndE_fits {i : Nat} {e : Ept} (h : SndE i e) : e.fits := by
  have hn := name_ok _ (List.mem_of_getElem? h.name)
  obtain ⟨s, hs1, hs2⟩ := h.ids
  refine ⟨by unfold maxLen; omega, fun x hx c hc => ?_⟩
  rw [hs2] at hx; simp at hx; subst hx; simp at hc; subst hc
  exact ⟨by show 4 ≤ maxLen; unfold maxLen; omega, by show e.name.length ≤ maxLen; unfold maxLen; omega, fun n hn2 => by simp at hn2; subst hn2; unfold maxLen; omega⟩
theorem sndE_small {i : Nat} {e : Ept} (h : SndE i e) : e.small := by
  have hs := sndS_ok _ (sndE_suites h)
  obtain ⟨s, hs1, hs2⟩ := h.ids
  refine ⟨by omega, by rw [h.anchors]; simp, by rw [h.hashes]; simp, by rw [hs2]; simp, fun x hx => ?_⟩
  rw [hs2] at hx; simp at hx; subst hx
  exact ⟨by simp, fun c hc => by simp at hc; subst hc; simp⟩
theorem id0_fits : zeroId.fits := fun c hc => by cases hc
end Go.Proofs.YtppeeogffbpcbaaGreat
namespace Go.Proofs.YtppeeogffbpcbaaGreat
open Go Go.RowKit Cp

theorem leafV {nm : List UInt8} (h : nm ∈ nameL) {a b id key s : Int} (hab : (a = 5 ∧ b = 2048) ∨ (a = 7 ∧ b = 256)) (hid : 0 ≤ id ∧ id ≤ 1000) (hs : 0 ≤ s ∧ s < 4294967296) (hk : 0 ≤ key ∧ key ≤ 2) : validB (leafC nm a b id 901 key s) = true := by
  have hn : named nm = true := by
    revert h; unfold nameL; intro hm; simp at hm
    rcases hm with rfl | rfl | rfl <;> decide
  have hof : ofB a b 2 = true := by rcases hab with ⟨rfl, rfl⟩ | ⟨rfl, rfl⟩ <;> decide +kernel
  refine of_vf ⟨?_, ?_, by show named [114, 111, 111, 116] = true; decide, hn, ?_, hof, ?_, ?_, by show ofB 3 0 1 = true; decide +kernel, hk.1, ?_, hs.1, hs.2, by show (0 : Int) ≤ 0; omega, by show (0 : Int) ≤ 901; omega, by show (901 : Int) ≤ 40000; omega, by show (0 : Int) ≤ 0; omega, by show (0 : Int) ≤ 8; omega, .inr rfl⟩
  · show 0 ≤ id; omega
  · show id ≤ _; omega
  · show namesB [nm] = true
    unfold namesB; rw [Bool.and_eq_true]; refine ⟨allI_iff.2 fun j hj => ?_, by simp⟩
    have : j = 0 := by simp at hj; omega
    subst this; unfold nameAt; simp [hn]
  · show 0 ≤ id; omega
  · show id ≤ _; omega
  · show key ≤ _; omega
theorem leafT {nm : List UInt8} {a b id : Int} (hab : (a = 5 ∧ b = 2048) ∨ (a = 7 ∧ b = 256)) (hid : 0 ≤ id ∧ id ≤ 1000) : (leafC nm a b id 901 0 0).tiny :=
  ⟨by show id ≤ 40000; omega, by show id ≤ 40000; omega, ⟨by show (0 : Int) ≤ a; omega, by show a ≤ 40000; omega⟩, ⟨by show (0 : Int) ≤ b; omega, by show b ≤ 40000; omega⟩, ⟨by show (0 : Int) ≤ 3; omega, by show (3 : Int) ≤ 40000; omega⟩, ⟨by show (0 : Int) ≤ 0; omega, by show (0 : Int) ≤ 40000; omega⟩⟩
/-- A change of one of these endpoints. -/
structure AnyP (es : List Ept) (c : Chg) : Prop where
  lo : 0 ≤ c.endpoint
  hi : c.endpoint < (es.length : Nat)
  kind : 1 ≤ c.kind ∧ c.kind ≤ 12
  fits : c.idn.fits
  small : c.idn.small
abbrev sumP (nm : List UInt8) (a b id to key : Int) : Pr := Cp.ex fun s : Int => fact (0 ≤ s ∧ s < 4294967296) (certs [leafC nm a b id to key s])
theorem leafF {nm : List UInt8} (h : nm ∈ nameL) {a b id key s : Int} : (leafI nm a b id 901 key s).fits ∧ (leafI nm a b id 901 key s).small := by
  have hn := (name_ok _ h).2
  refine ⟨fun c hc => ?_, ⟨by simp, fun c hc => by simp at hc; subst hc; simp⟩⟩
  simp at hc; subst hc
  exact ⟨by show 4 ≤ maxLen; unfold maxLen; omega, by show nm.length ≤ maxLen; unfold maxLen; omega, fun n hn2 => by simp at hn2; subst hn2; unfold maxLen; omega⟩

end Go.Proofs.YtppeeogffbpcbaaGreat
namespace Go.Proofs.YtppeeogffbpcbaaGreat
open Go Go.RowKit Cp

/-- Of some size. -/
structure Ept.sz (e : Ept) (n : Nat) : Prop where
  name : e.name.length ≤ maxLen
  suites : e.suites.length ≤ n
  anchors : e.anchors.length ≤ n
  hashes : e.hashes.length ≤ n
  idl : e.ids.length ≤ n
  ids : ∀ x ∈ e.ids, x.fits ∧ x.small
theorem Ept.sz.fits {e : Ept} {n : Nat} (h : e.sz n) : e.fits := ⟨h.name, fun x hx => (h.ids x hx).1⟩
theorem Ept.sz.small {e : Ept} {n : Nat} (h : e.sz n) (hn : n ≤ 1000000) : e.small := ⟨by have := h.suites; omega, by have := h.anchors; omega, by have := h.hashes; omega, by have := h.idl; omega, fun x hx => (h.ids x hx).2⟩
theorem Ept.sz.le {e : Ept} {n m : Nat} (h : e.sz n) (hn : n ≤ m) : e.sz m := ⟨h.name, Nat.le_trans h.suites hn, Nat.le_trans h.anchors hn, Nat.le_trans h.hashes hn, Nat.le_trans h.idl hn, h.ids⟩
theorem sndE_sz {i : Nat} {e : Ept} (h : SndE i e) : e.sz 5 := by
  have hs := sndS_ok _ (sndE_suites h)
  have h1 := sndE_fits h; have h2 := sndE_small h
  obtain ⟨s, hs1, hs2⟩ := h.ids
  exact ⟨h1.name, hs.2, by rw [h.anchors]; simp, by rw [h.hashes]; simp, by rw [hs2]; simp, fun x hx => ⟨h1.ids x hx, h2.ids x hx⟩⟩
theorem len_ins {α : Type} {l : List α} {a : α} {i : Nat} : (l.take i ++ [a] ++ l.drop i).length ≤ l.length + 1 := by simp [List.length_take, List.length_drop]; omega
theorem len_del {α : Type} {l : List α} {i : Nat} : (l.eraseIdx i).length ≤ l.length := by rw [List.length_eraseIdx]; split <;> omega
theorem id0_fs : zeroId.fits ∧ zeroId.small := ⟨id0_fits, id0_small⟩
theorem mem_ins {P : Idn → Prop} {l : List Idn} {x : Idn} {i : Nat} (h : ∀ y ∈ l, P y) (hx : P x) : ∀ y ∈ l.take i ++ [x] ++ l.drop i, P y := by
  intro y hy
  simp only [List.mem_append, List.mem_cons, List.not_mem_nil, or_false] at hy
  rcases hy with (hy | rfl) | hy
  · exact h y (List.mem_of_mem_take hy)
  · exact hx
  · exact h y (List.mem_of_mem_drop hy)
theorem sz_step {e : Ept} {c : Chg} {x : Ept} {b : Chg} {n : Nat} (hc : okCh c) (h : stepR e c = .ok (x, b)) (hs : e.sz n) (hi : c.idn.fits ∧ c.idn.small) : x.sz (n + 1) ∧ b.idn.fits ∧ b.idn.small := by
  have h1 := hs.suites; have h2 := hs.anchors; have h3 := hs.hashes; have h4 := hs.idl
  rcases kinds12 hc.1 with hk | hk | hk | hk | hk | hk | hk | hk | hk | hk | hk | hk
  · rw [stepR_1 hk] at h; (repeat' (split at h)) <;> first | (cases h; done) | (injection h with h; obtain ⟨rfl, rfl⟩ := Prod.mk.inj h; exact ⟨⟨hs.name, Nat.le_trans len_ins (by omega), Nat.le_trans h2 (by omega), Nat.le_trans h3 (by omega), Nat.le_trans h4 (by omega), hs.ids⟩, id0_fs⟩)
  · rw [stepR_2 hk] at h; (repeat' (split at h)) <;> first | (cases h; done) | (injection h with h; obtain ⟨rfl, rfl⟩ := Prod.mk.inj h; exact ⟨⟨hs.name, Nat.le_trans len_del (by omega), Nat.le_trans h2 (by omega), Nat.le_trans h3 (by omega), Nat.le_trans h4 (by omega), hs.ids⟩, id0_fs⟩)
  · rw [stepR_3 hk] at h; (repeat' (split at h)) <;> first | (cases h; done) | (injection h with h; obtain ⟨rfl, rfl⟩ := Prod.mk.inj h; exact ⟨⟨hs.name, Nat.le_trans h1 (by omega), Nat.le_trans h2 (by omega), Nat.le_trans h3 (by omega), Nat.le_trans h4 (by omega), hs.ids⟩, id0_fs⟩)
  · rw [stepR_4 hk] at h; (repeat' (split at h)) <;> first | (cases h; done) | (injection h with h; obtain ⟨rfl, rfl⟩ := Prod.mk.inj h; exact ⟨⟨hs.name, Nat.le_trans h1 (by omega), Nat.le_trans h2 (by omega), Nat.le_trans h3 (by omega), Nat.le_trans h4 (by omega), hs.ids⟩, id0_fs⟩)
  · rw [stepR_5 hk] at h; (repeat' (split at h)) <;> first | (cases h; done) | (injection h with h; obtain ⟨rfl, rfl⟩ := Prod.mk.inj h; exact ⟨⟨hs.name, Nat.le_trans h1 (by omega), Nat.le_trans h2 (by omega), Nat.le_trans h3 (by omega), Nat.le_trans len_ins (by omega), mem_ins hs.ids hi⟩, id0_fs⟩)
  · rw [stepR_6 hk] at h; (repeat' (split at h)) <;> first | (cases h; done) | (injection h with h; obtain ⟨rfl, rfl⟩ := Prod.mk.inj h; exact ⟨⟨hs.name, Nat.le_trans h1 (by omega), Nat.le_trans h2 (by omega), Nat.le_trans h3 (by omega), Nat.le_trans len_del (by omega), fun y hy => hs.ids y (List.mem_of_mem_eraseIdx hy)⟩, hs.ids _ (List.mem_of_getElem? (by assumption))⟩)
  · rw [stepR_7 hk] at h; (repeat' (split at h)) <;> first | (cases h; done) | (injection h with h; obtain ⟨rfl, rfl⟩ := Prod.mk.inj h; exact ⟨⟨hs.name, Nat.le_trans h1 (by omega), Nat.le_trans len_ins (by omega), Nat.le_trans h3 (by omega), Nat.le_trans h4 (by omega), hs.ids⟩, id0_fs⟩)
  · rw [stepR_8 hk] at h; (repeat' (split at h)) <;> first | (cases h; done) | (injection h with h; obtain ⟨rfl, rfl⟩ := Prod.mk.inj h; exact ⟨⟨hs.name, Nat.le_trans h1 (by omega), Nat.le_trans len_del (by omega), Nat.le_trans h3 (by omega), Nat.le_trans h4 (by omega), hs.ids⟩, id0_fs⟩)
  · rw [stepR_9 hk] at h; (repeat' (split at h)) <;> first | (cases h; done) | (injection h with h; obtain ⟨rfl, rfl⟩ := Prod.mk.inj h; exact ⟨⟨hs.name, Nat.le_trans h1 (by omega), Nat.le_trans h2 (by omega), Nat.le_trans len_ins (by omega), Nat.le_trans h4 (by omega), hs.ids⟩, id0_fs⟩)
  · rw [stepR_10 hk] at h; (repeat' (split at h)) <;> first | (cases h; done) | (injection h with h; obtain ⟨rfl, rfl⟩ := Prod.mk.inj h; exact ⟨⟨hs.name, Nat.le_trans h1 (by omega), Nat.le_trans h2 (by omega), Nat.le_trans len_del (by omega), Nat.le_trans h4 (by omega), hs.ids⟩, id0_fs⟩)
  · rw [stepR_11 hk] at h; (repeat' (split at h)) <;> first | (cases h; done) | (injection h with h; obtain ⟨rfl, rfl⟩ := Prod.mk.inj h; exact ⟨⟨hs.name, Nat.le_trans h1 (by omega), Nat.le_trans h2 (by omega), Nat.le_trans h3 (by omega), Nat.le_trans h4 (by omega), hs.ids⟩, id0_fs⟩)
  · rw [stepR_12 hk] at h; (repeat' (split at h)) <;> first | (cases h; done) | (injection h with h; obtain ⟨rfl, rfl⟩ := Prod.mk.inj h; exact ⟨⟨hs.name, Nat.le_trans h1 (by omega), Nat.le_trans h2 (by omega), Nat.le_trans h3 (by omega), Nat.le_trans h4 (by omega), hs.ids⟩, id0_fs⟩)

theorem sz_done {e : Ept} {c : Chg} {x : Ept} {b : Chg} {n : Nat} (h : doneR e c = (x, b, 0)) (hs : e.sz n) (hi : c.idn.fits ∧ c.idn.small) : x.sz (n + 1) ∧ b.idn.fits ∧ b.idn.small := by
  obtain ⟨_, h2, h3, _⟩ := doneR_inv h
  exact sz_step h2 h3 hs hi
end Go.Proofs.YtppeeogffbpcbaaGreat
namespace Go.Proofs.YtppeeogffbpcbaaGreat
open Go Go.RowKit Cp

end Go.Proofs.YtppeeogffbpcbaaGreat
namespace Go.Proofs.YtppeeogffbpcbaaGreat
open Go Go.RowKit Cp
theorem w_SEqI {a b : List (Int)}  : Fun Tryz.prog 138 [ints a, ints b] (bool (decide (a = b))) := by
 refine fo Tryz.func138 rfl ⟨rfl, rfl⟩ fun M0 w0 => (Tr.lenm 0 rfl fun hlm_0 => (Tr.lenm 1 rfl fun hlm_1 => ?_))
 refine ac ?_
 refine ac ?_
 refine Tr.cn rfl ?_ ?_ <;> intro h1 q1
 have hne : ¬ a.length = b.length := by simp_all; omega
 refine ac ?_
 refine ac ?_
 · refine bool_eq ?_; symm; rw [decide_eq_false_iff_not]; rintro rfl; exact hne rfl
 have hll : a.length = b.length := by simp_all; omega
 refine ac ?_
 refine ac ?_
 refine Tr.block (Tr.loopw [(0, _), (1, _), (12, _)] (kk3 rfl) (fun k : Nat => [(13, int ((k : Nat) : Int))]) (fun k : Nat => k ≤ (a).length ∧ (a.take k = b.take k)) (fun k : Nat => (a).length - k) 0 (⟨Nat.zero_le _, rfl⟩) ⟨ke rfl, trivial⟩ ?_)
 rintro k ⟨hle_k, hinv_k⟩
 refine ac ?_
 refine Tr.seq ?_
 refine Tr.cn rfl ?_ ?_ <;> intro h2 q2
 have hk_k : k < (a).length := lt_of_dec h2
 obtain ⟨x, hx_k⟩ := at_ hk_k
 obtain ⟨y, hy⟩ := at_ (l := b) (k := k) (by omega)
 refine ac ?_
 refine ac ?_
 refine ac ?_
 refine co rfl (ok_indexAddr rfl Tryz.underlying22 sz3 (vl rfl) (vl rfl) (by omega) (row_at hx_k)) ?_
 refine ac ?_
 refine co rfl (ok_indexAddr rfl Tryz.underlying22 sz3 (vl rfl) (vl rfl) (by omega) (row_at hy)) ?_
 refine ac ?_
 refine wk5 0 1 12 13 24 rfl ?_
 refine Tr.cn rfl ?_ ?_ <;> intro h3 q3
 refine ac ?_
 refine ac ?_
 · refine bool_eq ?_; symm; rw [decide_eq_false_iff_not]; refine sameN hx_k hy ?_; rintro rfl; simp_all
 refine ac ?_
 refine ac ?_
 exact Fin.fam_same (k + 1) ⟨⟨hk_k, sameY hx_k hy hinv_k (by simp_all)⟩, by omega⟩ ⟨⟨_, rfl, int_succ k⟩, ke rfl, ke rfl, ke rfl, trivial⟩
 have he_k : k = (a).length := by have := ge_of_dec h2; omega
 subst he_k
 refine ac ?_
 refine ac ?_
 refine ac ?_
 · refine bool_eq ?_; symm; rw [decide_eq_true_eq]; exact sameA hll hinv_k
theorem w_SEqT {a b : List (List UInt8)}  : Fun Tryz.prog 131 [txts a, txts b] (bool (decide (a = b))) := by
 refine fo Tryz.func131 rfl ⟨rfl, rfl⟩ fun M0 w0 => (Tr.lenm 0 rfl fun hlm_0 => (Tr.lenm 1 rfl fun hlm_1 => ?_))
 refine ac ?_
 refine ac ?_
 refine Tr.cn rfl ?_ ?_ <;> intro h1 q1
 have hne : ¬ a.length = b.length := by simp_all; omega
 refine ac ?_
 refine ac ?_
 · refine bool_eq ?_; symm; rw [decide_eq_false_iff_not]; rintro rfl; exact hne rfl
 have hll : a.length = b.length := by simp_all; omega
 refine ac ?_
 refine ac ?_
 refine Tr.block (Tr.loopw [(0, _), (1, _), (12, _)] (kk3 rfl) (fun k : Nat => [(13, int ((k : Nat) : Int))]) (fun k : Nat => k ≤ (a).length ∧ (a.take k = b.take k)) (fun k : Nat => (a).length - k) 0 (⟨Nat.zero_le _, rfl⟩) ⟨ke rfl, trivial⟩ ?_)
 rintro k ⟨hle_k, hinv_k⟩
 refine ac ?_
 refine Tr.seq ?_
 refine Tr.cn rfl ?_ ?_ <;> intro h2 q2
 have hk_k : k < (a).length := lt_of_dec h2
 obtain ⟨x, hx_k⟩ := at_ hk_k
 obtain ⟨y, hy⟩ := at_ (l := b) (k := k) (by omega)
 refine ac ?_
 refine ac ?_
 refine ac ?_
 refine co rfl (ok_indexAddr rfl Tryz.underlying74 sz9 (vl rfl) (vl rfl) (by omega) (row_at hx_k)) ?_
 refine ac ?_
 refine co rfl (ok_indexAddr rfl Tryz.underlying74 sz9 (vl rfl) (vl rfl) (by omega) (row_at hy)) ?_
 refine ac ?_
 refine wk5 0 1 12 13 24 rfl ?_
 refine Tr.cn rfl ?_ ?_ <;> intro h3 q3
 refine ac ?_
 refine ac ?_
 · refine bool_eq ?_; symm; rw [decide_eq_false_iff_not]; refine sameN hx_k hy ?_; rintro rfl; simp_all
 refine ac ?_
 refine ac ?_
 exact Fin.fam_same (k + 1) ⟨⟨hk_k, sameY hx_k hy hinv_k (by simp_all)⟩, by omega⟩ ⟨⟨_, rfl, int_succ k⟩, ke rfl, ke rfl, ke rfl, trivial⟩
 have he_k : k = (a).length := by have := ge_of_dec h2; omega
 subst he_k
 refine ac ?_
 refine ac ?_
 refine ac ?_
 · refine bool_eq ?_; symm; rw [decide_eq_true_eq]; exact sameA hll hinv_k
abbrev epts (l : List Ept) : Pr := slice 9 (l.map rowEp)

theorem w_CSame {a b : Crt}  : Fun Tryz.prog 137 [agg (rowCr a), agg (rowCr b)] (bool (decide (a = b))) := by
 refine fo Tryz.func137 rfl ⟨rfl, rfl⟩ fun M0 w0 => ?_
 refine ac ?_
 refine wk2 2 3 rfl (Tr.cutk [2, 3] [(5, bool (decide (a.serial = b.serial ∧ a.issuer = b.issuer ∧ a.subject = b.subject ∧ a.names = b.names)))] (True) ?_ (fun h1 => ?_))
 refine ac ?_
 refine Ch.cs 12 rfl ?_ ?_ <;> intro h2 q2
 refine ac ?_
 refine Ch.cs 19 rfl ?_ ?_ <;> intro h3 q3
 refine ac ?_
 refine Ch.cs 26 rfl ?_ ?_ <;> intro h4 q4
 refine ac ?_
 refine cy h4 rfl (kc2 (w_SEqT) rfl rfl rfl) ?_
 refine ac ?_
 exact Fin.fam_same () (by simp_all) ⟨⟨_, rfl, bool_eq (by simp_all)⟩, ke rfl, ke rfl, trivial⟩
 refine ac ?_
 exact Fin.fam_same () (by simp_all) ⟨⟨_, rfl, bool_eq (by simp_all)⟩, ke rfl, ke rfl, trivial⟩
 refine ac ?_
 exact Fin.fam_same () (by simp_all) ⟨⟨_, rfl, bool_eq (by simp_all)⟩, ke rfl, ke rfl, trivial⟩
 refine ac ?_
 exact Fin.fam_same () (by simp_all) ⟨⟨_, rfl, bool_eq (by simp_all)⟩, ke rfl, ke rfl, trivial⟩
 refine wk3 2 3 5 rfl (Tr.cutk [2, 3, 5] [(6, bool (decide (a.kalg = b.kalg ∧ a.kbits = b.kbits ∧ a.keyId = b.keyId ∧ a.halg = b.halg ∧ a.hbits = b.hbits ∧ a.skey = b.skey ∧ a.ssum = b.ssum)))] (True) ?_ (fun h5 => ?_))
 refine ac ?_
 refine co rfl (ok_eq24 rfl (vl rfl) (vl rfl)) (cm rfl ?_)
 refine Ch.cs 38 rfl ?_ ?_ <;> intro h6 q6
 refine ac ?_
 refine Ch.cs 45 rfl ?_ ?_ <;> intro h7 q7
 refine ac ?_
 refine cy h7 rfl (ok_eq24 rfl (vl rfl) (vl rfl)) ?_
 refine ac ?_
 refine Ch.cs 52 rfl ?_ ?_ <;> intro h8 q8
 refine ac ?_
 refine cy h8 rfl (ok_eq129 rfl (vl rfl) (vl rfl)) ?_
 refine ac ?_
 exact Fin.fam_same () (by simp_all) ⟨⟨_, rfl, bool_eq (by simp_all)⟩, ke rfl, ke rfl, ke rfl, trivial⟩
 refine ac ?_
 exact Fin.fam_same () (by simp_all) ⟨⟨_, rfl, bool_eq (by simp_all)⟩, ke rfl, ke rfl, ke rfl, trivial⟩
 refine ac ?_
 exact Fin.fam_same () (by simp_all) ⟨⟨_, rfl, bool_eq (by simp_all)⟩, ke rfl, ke rfl, ke rfl, trivial⟩
 refine ac ?_
 exact Fin.fam_same () (by simp_all) ⟨⟨_, rfl, bool_eq (by simp_all)⟩, ke rfl, ke rfl, ke rfl, trivial⟩
 refine ac ?_
 refine Ch.cs 60 rfl ?_ ?_ <;> intro h9 q9
 refine ac ?_
 refine Ch.cs 63 rfl ?_ ?_ <;> intro h10 q10
 refine ac ?_
 refine Ch.cs 70 rfl ?_ ?_ <;> intro h11 q11
 refine ac ?_
 refine Ch.cs 77 rfl ?_ ?_ <;> intro h12 q12
 refine ac ?_
 refine Ch.cs 84 rfl ?_ ?_ <;> intro h13 q13
 refine ac ?_
 refine wk1 4 rfl ?_
 refine ac ?_
 · refine bool_eq ?_; cases a; cases b; simp_all [Bool.beq_eq_decide_eq]
 refine ac ?_
 refine wk1 4 rfl ?_
 refine ac ?_
 · refine bool_eq ?_; cases a; cases b; simp_all [Bool.beq_eq_decide_eq]
 refine ac ?_
 refine wk1 4 rfl ?_
 refine ac ?_
 · refine bool_eq ?_; cases a; cases b; simp_all [Bool.beq_eq_decide_eq]
 refine ac ?_
 refine wk1 4 rfl ?_
 refine ac ?_
 · refine bool_eq ?_; cases a; cases b; simp_all [Bool.beq_eq_decide_eq]
 refine ac ?_
 refine wk1 4 rfl ?_
 refine ac ?_
 · refine bool_eq ?_; cases a; cases b; simp_all [Bool.beq_eq_decide_eq]
 refine ac ?_
 refine wk1 4 rfl ?_
 refine ac ?_
 · refine bool_eq ?_; cases a; cases b; simp_all [Bool.beq_eq_decide_eq]
theorem e_CSame : Entry Tryz.prog 137 := ⟨_, Tryz.func137, rfl, rfl⟩
theorem w_EqFC {a b : List Crt}  : Fun Tryz.prog 85 [certs a, certs b, clo Tryz.prog (fun p : Crt × Crt => [agg (rowCr p.1), agg (rowCr p.2)]) (fun p => bool (decide (p.1 = p.2)))] (bool (decide (a = b))) := by
 refine fo Tryz.func85 rfl ⟨rfl, rfl⟩ fun M0 w0 => (Tr.lenm 0 rfl fun hlm_0 => (Tr.lenm 1 rfl fun hlm_1 => ?_))
 refine ac ?_
 refine ac ?_
 refine Tr.cn rfl ?_ ?_ <;> intro h1 q1
 have hne : ¬ a.length = b.length := by simp_all; omega
 refine ac ?_
 refine ac ?_
 · refine bool_eq ?_; symm; rw [decide_eq_false_iff_not]; rintro rfl; exact hne rfl
 have hll : a.length = b.length := by simp_all; omega
 refine ac ?_
 refine ac ?_
 refine Tr.block (Tr.loopw [(1, _), (2, _), (15, _), (16, _)] (kk4 rfl) (fun k : Nat => [(17, int ((k : Nat) : Int))]) (fun k : Nat => k ≤ (a).length ∧ (a.take k = b.take k)) (fun k : Nat => (a).length - k) 0 (⟨Nat.zero_le _, rfl⟩) ⟨ke rfl, trivial⟩ ?_)
 rintro k ⟨hle_k, hinv_k⟩
 refine ac ?_
 refine Tr.seq ?_
 refine Tr.cn rfl ?_ ?_ <;> intro h2 q2
 have hk_k : k < (a).length := lt_of_dec h2
 obtain ⟨x, hx_k⟩ := at_ hk_k
 obtain ⟨y, hy⟩ := at_ (l := b) (k := k) (by omega)
 refine ac ?_
 refine ao ?_
 refine tp rfl (ok_indexAddr rfl Tryz.underlying25 sz131 (vl rfl) (vl rfl) (by omega) (row_at hx_k)) (tp rfl (ok_loadA rfl agg131 sz131 (vl rfl) rfl rfl) ?_)
 refine TO.alloc rfl rfl (by decide) rfl z131 zo131 (fun b1 => ?_)
 refine tm rfl ?_
 refine sf 0 8 ⟨rfl, rfl, rfl⟩ rfl rfl rfl rfl ?_
 refine ao ?_
 refine ao ?_
 refine tp rfl (ok_indexAddr rfl Tryz.underlying25 sz131 (vl rfl) (vl rfl) (by omega) (row_at hy)) (tp rfl (ok_loadA rfl agg131 sz131 (vl rfl) rfl rfl) ?_)
 refine TO.alloc rfl rfl (by decide) rfl z131 zo131 (fun b2 => ?_)
 refine sf 0 9 ⟨rfl, rfl, rfl⟩ rfl rfl rfl rfl ?_
 refine ao ?_
 refine wk7 1 2 8 9 15 16 17 rfl ?_
 refine ac ?_
 refine co rfl (ok_callc (x, y) rfl (vl rfl) ⟨ke rfl, ke rfl, trivial⟩) ?_
 refine ac ?_
 refine Tr.cn rfl ?_ ?_ <;> intro h3 q3
 refine ac ?_
 refine ac ?_
 · refine bool_eq ?_; symm; rw [decide_eq_false_iff_not]; refine sameN hx_k hy ?_; rintro rfl; simp_all
 refine ac ?_
 refine ac ?_
 exact Fin.fam_same (k + 1) ⟨⟨hk_k, sameY hx_k hy hinv_k (by simp_all)⟩, by omega⟩ ⟨⟨_, rfl, int_succ k⟩, ke rfl, ke rfl, ke rfl, ke rfl, trivial⟩
 have he_k : k = (a).length := by have := ge_of_dec h2; omega
 subst he_k
 refine ac ?_
 refine ac ?_
 refine ac ?_
 · refine bool_eq ?_; symm; rw [decide_eq_true_eq]; exact sameA hll hinv_k
theorem w_ES1 {a b : Idn}  : Fun Tryz.prog 136 [agg (rowId a), agg (rowId b)] (bool (decide (a = b))) := by
 refine fo Tryz.func136 rfl ⟨rfl, rfl⟩ fun M0 w0 => ?_
 refine ac ?_
 refine ac ?_
 refine co rfl (ok_eq24 rfl (vl rfl) (vl rfl)) (cm rfl ?_)
 refine Ch.cs 10 rfl ?_ ?_ <;> intro h1 q1
 refine ac ?_
 refine Ch.cs 17 rfl ?_ ?_ <;> intro h2 q2
 refine ac ?_
 refine cy h2 rfl (ok_call rfl (w_EqFC) ⟨ke rfl, ke rfl, ⟨_, rfl, fn_le_clo (dom := fun p : Crt × Crt => [agg (rowCr p.1), agg (rowCr p.2)]) (res := fun p => bool (decide (p.1 = p.2))) e_CSame (fun p => w_CSame (a := p.1) (b := p.2))⟩, trivial⟩) ?_
 refine ac ?_
 refine wk1 4 rfl ?_
 refine ac ?_
 · refine bool_eq ?_; cases a; cases b; simp_all [Bool.beq_eq_decide_eq]
 refine ac ?_
 refine wk1 4 rfl ?_
 refine ac ?_
 · refine bool_eq ?_; cases a; cases b; simp_all [Bool.beq_eq_decide_eq]
 refine ac ?_
 refine wk1 4 rfl ?_
 refine ac ?_
 · refine bool_eq ?_; cases a; cases b; simp_all [Bool.beq_eq_decide_eq]
theorem e_ES1 : Entry Tryz.prog 136 := ⟨_, Tryz.func136, rfl, rfl⟩
theorem w_EqFN {a b : List Idn}  : Fun Tryz.prog 139 [idns a, idns b, clo Tryz.prog (fun p : Idn × Idn => [agg (rowId p.1), agg (rowId p.2)]) (fun p => bool (decide (p.1 = p.2)))] (bool (decide (a = b))) := by
 refine fo Tryz.func139 rfl ⟨rfl, rfl⟩ fun M0 w0 => (Tr.lenm 0 rfl fun hlm_0 => (Tr.lenm 1 rfl fun hlm_1 => ?_))
 refine ac ?_
 refine ac ?_
 refine Tr.cn rfl ?_ ?_ <;> intro h1 q1
 have hne : ¬ a.length = b.length := by simp_all; omega
 refine ac ?_
 refine ac ?_
 · refine bool_eq ?_; symm; rw [decide_eq_false_iff_not]; rintro rfl; exact hne rfl
 have hll : a.length = b.length := by simp_all; omega
 refine ac ?_
 refine ac ?_
 refine Tr.block (Tr.loopw [(1, _), (2, _), (15, _), (16, _)] (kk4 rfl) (fun k : Nat => [(17, int ((k : Nat) : Int))]) (fun k : Nat => k ≤ (a).length ∧ (a.take k = b.take k)) (fun k : Nat => (a).length - k) 0 (⟨Nat.zero_le _, rfl⟩) ⟨ke rfl, trivial⟩ ?_)
 rintro k ⟨hle_k, hinv_k⟩
 refine ac ?_
 refine Tr.seq ?_
 refine Tr.cn rfl ?_ ?_ <;> intro h2 q2
 have hk_k : k < (a).length := lt_of_dec h2
 obtain ⟨x, hx_k⟩ := at_ hk_k
 obtain ⟨y, hy⟩ := at_ (l := b) (k := k) (by omega)
 refine ac ?_
 refine ao ?_
 refine tp rfl (ok_indexAddr rfl Tryz.underlying30 sz27 (vl rfl) (vl rfl) (by omega) (row_at hx_k)) (tp rfl (ok_loadA rfl agg27 sz27 (vl rfl) rfl rfl) ?_)
 refine TO.alloc rfl rfl (by decide) rfl z27 zo27 (fun b1 => ?_)
 refine tm rfl ?_
 refine sf 0 8 ⟨rfl, rfl, rfl⟩ rfl rfl rfl rfl ?_
 refine ao ?_
 refine ao ?_
 refine tp rfl (ok_indexAddr rfl Tryz.underlying30 sz27 (vl rfl) (vl rfl) (by omega) (row_at hy)) (tp rfl (ok_loadA rfl agg27 sz27 (vl rfl) rfl rfl) ?_)
 refine TO.alloc rfl rfl (by decide) rfl z27 zo27 (fun b2 => ?_)
 refine sf 0 9 ⟨rfl, rfl, rfl⟩ rfl rfl rfl rfl ?_
 refine ao ?_
 refine wk7 1 2 8 9 15 16 17 rfl ?_
 refine ac ?_
 refine co rfl (ok_callc (x, y) rfl (vl rfl) ⟨ke rfl, ke rfl, trivial⟩) ?_
 refine ac ?_
 refine Tr.cn rfl ?_ ?_ <;> intro h3 q3
 refine ac ?_
 refine ac ?_
 · refine bool_eq ?_; symm; rw [decide_eq_false_iff_not]; refine sameN hx_k hy ?_; rintro rfl; simp_all
 refine ac ?_
 refine ac ?_
 exact Fin.fam_same (k + 1) ⟨⟨hk_k, sameY hx_k hy hinv_k (by simp_all)⟩, by omega⟩ ⟨⟨_, rfl, int_succ k⟩, ke rfl, ke rfl, ke rfl, ke rfl, trivial⟩
 have he_k : k = (a).length := by have := ge_of_dec h2; omega
 subst he_k
 refine ac ?_
 refine ac ?_
 refine ac ?_
 · refine bool_eq ?_; symm; rw [decide_eq_true_eq]; exact sameA hll hinv_k
theorem w_ESame {a b : Ept}  : Fun Tryz.prog 91 [agg (rowEp a), agg (rowEp b)] (bool (decide (a = b))) := by
 refine fo Tryz.func91 rfl ⟨rfl, rfl⟩ fun M0 w0 => ?_
 refine ac ?_
 refine ac ?_
 refine wk3 2 3 5 rfl (Tr.cutk [2, 3, 5] [(6, bool (decide (a.suites = b.suites ∧ a.anchors = b.anchors ∧ a.hashes = b.hashes)))] (True) ?_ (fun h1 => ?_))
 refine ac ?_
 refine co rfl (kc2 (w_SEqI) rfl rfl rfl) (cm rfl ?_)
 refine Ch.cs 12 rfl ?_ ?_ <;> intro h2 q2
 refine ac ?_
 refine cy h2 rfl (kc2 (w_SEqI) rfl rfl rfl) ?_
 refine ac ?_
 refine Ch.cs 19 rfl ?_ ?_ <;> intro h3 q3
 refine ac ?_
 refine cy h3 rfl (kc2 (w_SEqI) rfl rfl rfl) ?_
 refine ac ?_
 exact Fin.fam_same () (by simp_all) ⟨⟨_, rfl, bool_eq (by simp_all)⟩, ke rfl, ke rfl, ke rfl, trivial⟩
 refine ac ?_
 exact Fin.fam_same () (by simp_all) ⟨⟨_, rfl, bool_eq (by simp_all)⟩, ke rfl, ke rfl, ke rfl, trivial⟩
 refine ac ?_
 exact Fin.fam_same () (by simp_all) ⟨⟨_, rfl, bool_eq (by simp_all)⟩, ke rfl, ke rfl, ke rfl, trivial⟩
 refine ac ?_
 refine Ch.cs 31 rfl ?_ ?_ <;> intro h4 q4
 refine ac ?_
 refine Ch.cs 38 rfl ?_ ?_ <;> intro h5 q5
 refine ac ?_
 refine Ch.cs 45 rfl ?_ ?_ <;> intro h6 q6
 refine ac ?_
 refine Ch.cs 52 rfl ?_ ?_ <;> intro h7 q7
 refine ac ?_
 refine Ch.cs 59 rfl ?_ ?_ <;> intro h8 q8
 refine ac ?_
 refine Ch.cs 62 rfl ?_ ?_ <;> intro h9 q9
 refine ac ?_
 refine cy h9 rfl (ok_call rfl (w_EqFN) ⟨ke rfl, ke rfl, ⟨_, rfl, fn_le_clo (dom := fun p : Idn × Idn => [agg (rowId p.1), agg (rowId p.2)]) (res := fun p => bool (decide (p.1 = p.2))) e_ES1 (fun p => w_ES1 (a := p.1) (b := p.2))⟩, trivial⟩) ?_
 refine ac ?_
 refine wk1 4 rfl ?_
 refine ac ?_
 · refine bool_eq ?_; cases a; cases b; simp_all [Bool.beq_eq_decide_eq]
 refine ac ?_
 refine wk1 4 rfl ?_
 refine ac ?_
 · refine bool_eq ?_; cases a; cases b; simp_all [Bool.beq_eq_decide_eq]
 refine ac ?_
 refine wk1 4 rfl ?_
 refine ac ?_
 · refine bool_eq ?_; cases a; cases b; simp_all [Bool.beq_eq_decide_eq]
 refine ac ?_
 refine wk1 4 rfl ?_
 refine ac ?_
 · refine bool_eq ?_; cases a; cases b; simp_all [Bool.beq_eq_decide_eq]
 refine ac ?_
 refine wk1 4 rfl ?_
 refine ac ?_
 · refine bool_eq ?_; cases a; cases b; simp_all [Bool.beq_eq_decide_eq]
 refine ac ?_
 refine wk1 4 rfl ?_
 refine ac ?_
 · refine bool_eq ?_; cases a; cases b; simp_all [Bool.beq_eq_decide_eq]
 refine ac ?_
 refine wk1 4 rfl ?_
 refine ac ?_
 · refine bool_eq ?_; cases a; cases b; simp_all [Bool.beq_eq_decide_eq]
theorem e_ESame : Entry Tryz.prog 91 := ⟨_, Tryz.func91, rfl, rfl⟩
theorem w_EqFE {a b : List Ept}  : Fun Tryz.prog 90 [epts a, epts b, clo Tryz.prog (fun p : Ept × Ept => [agg (rowEp p.1), agg (rowEp p.2)]) (fun p => bool (decide (p.1 = p.2)))] (bool (decide (a = b))) := by
 refine fo Tryz.func90 rfl ⟨rfl, rfl⟩ fun M0 w0 => (Tr.lenm 0 rfl fun hlm_0 => (Tr.lenm 1 rfl fun hlm_1 => ?_))
 refine ac ?_
 refine ac ?_
 refine Tr.cn rfl ?_ ?_ <;> intro h1 q1
 have hne : ¬ a.length = b.length := by simp_all; omega
 refine ac ?_
 refine ac ?_
 · refine bool_eq ?_; symm; rw [decide_eq_false_iff_not]; rintro rfl; exact hne rfl
 have hll : a.length = b.length := by simp_all; omega
 refine ac ?_
 refine ac ?_
 refine Tr.block (Tr.loopw [(1, _), (2, _), (15, _), (16, _)] (kk4 rfl) (fun k : Nat => [(17, int ((k : Nat) : Int))]) (fun k : Nat => k ≤ (a).length ∧ (a.take k = b.take k)) (fun k : Nat => (a).length - k) 0 (⟨Nat.zero_le _, rfl⟩) ⟨ke rfl, trivial⟩ ?_)
 rintro k ⟨hle_k, hinv_k⟩
 refine ac ?_
 refine Tr.seq ?_
 refine Tr.cn rfl ?_ ?_ <;> intro h2 q2
 have hk_k : k < (a).length := lt_of_dec h2
 obtain ⟨x, hx_k⟩ := at_ hk_k
 obtain ⟨y, hy⟩ := at_ (l := b) (k := k) (by omega)
 refine ac ?_
 refine ao ?_
 refine tp rfl (ok_indexAddr rfl Tryz.underlying37 sz32 (vl rfl) (vl rfl) (by omega) (row_at hx_k)) (tp rfl (ok_loadA rfl agg32 sz32 (vl rfl) rfl rfl) ?_)
 refine TO.alloc rfl rfl (by decide) rfl z32 zo32 (fun b1 => ?_)
 refine tm rfl ?_
 refine sf 0 8 ⟨rfl, rfl, rfl⟩ rfl rfl rfl rfl ?_
 refine ao ?_
 refine ao ?_
 refine tp rfl (ok_indexAddr rfl Tryz.underlying37 sz32 (vl rfl) (vl rfl) (by omega) (row_at hy)) (tp rfl (ok_loadA rfl agg32 sz32 (vl rfl) rfl rfl) ?_)
 refine TO.alloc rfl rfl (by decide) rfl z32 zo32 (fun b2 => ?_)
 refine sf 0 9 ⟨rfl, rfl, rfl⟩ rfl rfl rfl rfl ?_
 refine ao ?_
 refine wk7 1 2 8 9 15 16 17 rfl ?_
 refine ac ?_
 refine co rfl (ok_callc (x, y) rfl (vl rfl) ⟨ke rfl, ke rfl, trivial⟩) ?_
 refine ac ?_
 refine Tr.cn rfl ?_ ?_ <;> intro h3 q3
 refine ac ?_
 refine ac ?_
 · refine bool_eq ?_; symm; rw [decide_eq_false_iff_not]; refine sameN hx_k hy ?_; rintro rfl; simp_all
 refine ac ?_
 refine ac ?_
 exact Fin.fam_same (k + 1) ⟨⟨hk_k, sameY hx_k hy hinv_k (by simp_all)⟩, by omega⟩ ⟨⟨_, rfl, int_succ k⟩, ke rfl, ke rfl, ke rfl, ke rfl, trivial⟩
 have he_k : k = (a).length := by have := ge_of_dec h2; omega
 subst he_k
 refine ac ?_
 refine ac ?_
 refine ac ?_
 · refine bool_eq ?_; symm; rw [decide_eq_true_eq]; exact sameA hll hinv_k
end Go.Proofs.YtppeeogffbpcbaaGreat
namespace Go.Proofs.YtppeeogffbpcbaaGreat
open Go Go.RowKit Cp

/-- A link of an item. -/
structure Lnk where
  alg : Int
  bits : Int
  day : Int
  deriving DecidableEq
abbrev rowL (x : Lnk) : List Pr := [int x.alg, int x.bits, int x.day]
abbrev lnks (l : List Lnk) : Pr := slice 3 (l.map rowL)
/-- An item. -/
structure Itm where
  name : List UInt8
  kind : Int
  purpose : Int
  links : List Lnk
  until_ : Int
  deriving DecidableEq
abbrev rowIt (x : Itm) : List Pr := [str x.name, int x.kind, int x.purpose, lnks x.links, int x.until_]
abbrev itms (l : List Itm) : Pr := slice 5 (l.map rowIt)
/-- An edge. -/
structure Edg where
  client : Int
  server : Int
  deriving DecidableEq
abbrev rowG (x : Edg) : List Pr := [int x.client, int x.server]
abbrev edgs (l : List Edg) : Pr := slice 2 (l.map rowG)
abbrev zeroL : Lnk := ⟨0, 0, 0⟩
abbrev zeroG : Edg := ⟨0, 0⟩
def linkAt (l : List Lnk) (i : Nat) : Bool := decide (strength (l[i]?.getD zeroL).alg (l[i]?.getD zeroL).bits > 0) && decide (0 ≤ (l[i]?.getD zeroL).day) && decide ((l[i]?.getD zeroL).day ≤ 40000) && (decide (i = 0) || decide ((l[i - 1]?.getD zeroL).day < (l[i]?.getD zeroL).day))
def itemB (x : Itm) : Bool := (named x.name && decide (x.kind = 1 ∨ x.kind = 2) && decide (1 ≤ x.purpose) && decide (x.purpose ≤ 4) && decide (1 ≤ x.links.length) && decide (x.links.length ≤ 8)) && allI (linkAt x.links) x.links.length && (decide ((x.links[0]?.getD zeroL).day ≤ x.until_) && decide (x.until_ ≤ 40000))
structure ItmOk (x : Itm) : Prop where
  name : named x.name = true
  kind : x.kind = 1 ∨ x.kind = 2
  p1 : 1 ≤ x.purpose
  p4 : x.purpose ≤ 4
  l1 : 1 ≤ x.links.length
  l8 : x.links.length ≤ 8
  lnk : ∀ j, j < x.links.length → linkAt x.links j = true
  u0 : (x.links[0]?.getD zeroL).day ≤ x.until_
  u1 : x.until_ ≤ 40000
theorem item_iff {x : Itm} : itemB x = true ↔ ItmOk x := by
  unfold itemB
  simp only [Bool.and_eq_true, decide_eq_true_eq, allI_iff]
  exact ⟨fun ⟨⟨⟨⟨⟨⟨⟨h1, h2⟩, h3⟩, h4⟩, h5⟩, h6⟩, h7⟩, h8, h9⟩ => ⟨h1, h2, h3, h4, h5, h6, h7, h8, h9⟩, fun h => ⟨⟨⟨⟨⟨⟨⟨h.name, h.kind⟩, h.p1⟩, h.p4⟩, h.l1⟩, h.l8⟩, h.lnk⟩, h.u0, h.u1⟩⟩
def edgeAt (n : Nat) (l : List Edg) (i : Nat) : Bool := (decide (0 ≤ (l[i]?.getD zeroG).client ∧ (l[i]?.getD zeroG).client < n) && decide (0 ≤ (l[i]?.getD zeroG).server ∧ (l[i]?.getD zeroG).server < n) && decide ((l[i]?.getD zeroG).client ≠ (l[i]?.getD zeroG).server)) && (decide (i = 0) || decide ((l[i - 1]?.getD zeroG).client < (l[i]?.getD zeroG).client ∨ ((l[i - 1]?.getD zeroG).client = (l[i]?.getD zeroG).client ∧ (l[i - 1]?.getD zeroG).server < (l[i]?.getD zeroG).server)))
def edgesB (n : Nat) (l : List Edg) : Bool := allI (edgeAt n l) l.length && decide (l.length ≤ 40)

theorem w_LtCheck {x : Itm} (hx : x.name.length ≤ maxLen) : Fun Tryz.prog 134 [agg (rowIt x)] (int (if itemB x then 0 else 30)) := by
 refine fo Tryz.func134 rfl ⟨rfl, rfl⟩ fun M0 w0 => ?_
 refine ac ?_
 refine wk1 1 rfl (Tr.cutk [1] [(3, bool (decide (x.kind = 1 ∨ x.kind = 2)))] (True) ?_ (fun h1 => ?_))
 refine ac ?_
 refine Ch.cs 9 rfl ?_ ?_ <;> intro h2 q2
 refine ac ?_
 exact Fin.fam_same () trivial ⟨⟨_, rfl, bool_eq (by simp_all [Bool.beq_eq_decide_eq])⟩, ke rfl, trivial⟩
 refine ac ?_
 exact Fin.fam_same () trivial ⟨⟨_, rfl, bool_eq (by simp_all [Bool.beq_eq_decide_eq])⟩, ke rfl, trivial⟩
 refine wk2 1 3 rfl (Tr.cutk [1] [] ((named x.name = true ∧ (x.kind = 1 ∨ x.kind = 2) ∧ 1 ≤ x.purpose ∧ x.purpose ≤ 4) ∧ 1 ≤ x.links.length ∧ x.links.length ≤ 8) ?_ (fun hpre => ?_))
 refine ac ?_
 refine co rfl (kc1 (w_Named hx) rfl rfl) ?_
 refine ac ?_
 refine Ch.cs 18 rfl ?_ ?_ <;> intro h4 q4
 refine ac ?_
 refine wk2 1 43 rfl ?_
 refine ac ?_
 refine ac ?_
 · refine int_eq (if_neg (fun hv => ?_)).symm; have ok := item_iff.1 hv; have o1 := ok.name; have o2 := ok.kind; have o3 := ok.p1; have o4 := ok.p4; have o5 := ok.l1; have o6 := ok.l8; have o7 := ok.u0; have o8 := ok.u1; (simp_all)
 refine ac ?_
 refine Ch.cs 22 rfl ?_ ?_ <;> intro h5 q5
 refine ac ?_
 refine wk2 1 43 rfl ?_
 refine ac ?_
 refine ac ?_
 · refine int_eq (if_neg (fun hv => ?_)).symm; have ok := item_iff.1 hv; have o1 := ok.name; have o2 := ok.kind; have o3 := ok.p1; have o4 := ok.p4; have o5 := ok.l1; have o6 := ok.l8; have o7 := ok.u0; have o8 := ok.u1; (omega)
 refine ac ?_
 refine Ch.cs 27 rfl ?_ ?_ <;> intro h6 q6
 refine ac ?_
 refine wk2 1 43 rfl ?_
 refine ac ?_
 refine ac ?_
 · refine int_eq (if_neg (fun hv => ?_)).symm; have ok := item_iff.1 hv; have o1 := ok.name; have o2 := ok.kind; have o3 := ok.p1; have o4 := ok.p4; have o5 := ok.l1; have o6 := ok.l8; have o7 := ok.u0; have o8 := ok.u1; (omega)
 refine ac ?_
 refine Ch.cs 32 rfl ?_ ?_ <;> intro h7 q7
 refine ac ?_
 refine wk2 1 43 rfl ?_
 refine ac ?_
 refine ac ?_
 · refine int_eq (if_neg (fun hv => ?_)).symm; have ok := item_iff.1 hv; have o1 := ok.name; have o2 := ok.kind; have o3 := ok.p1; have o4 := ok.p4; have o5 := ok.l1; have o6 := ok.l8; have o7 := ok.u0; have o8 := ok.u1; (omega)
 refine ac ?_
 refine Ch.cs 38 rfl ?_ ?_ <;> intro h8 q8
 refine ac ?_
 refine wk2 1 43 rfl ?_
 refine ac ?_
 refine ac ?_
 · refine int_eq (if_neg (fun hv => ?_)).symm; have ok := item_iff.1 hv; have o1 := ok.name; have o2 := ok.kind; have o3 := ok.p1; have o4 := ok.p4; have o5 := ok.l1; have o6 := ok.l8; have o7 := ok.u0; have o8 := ok.u1; (omega)
 refine ac ?_
 refine wk2 1 43 rfl ?_
 refine Tr.cn rfl ?_ ?_ <;> intro h9 q9
 refine ac ?_
 refine ac ?_
 · refine int_eq (if_neg (fun hv => ?_)).symm; have ok := item_iff.1 hv; have o1 := ok.name; have o2 := ok.kind; have o3 := ok.p1; have o4 := ok.p4; have o5 := ok.l1; have o6 := ok.l8; have o7 := ok.u0; have o8 := ok.u1; (omega)
 refine Tr.skip (Fin.fam_same () ⟨⟨by simp_all, by simp_all, by omega, by omega⟩, by omega, by omega⟩ ⟨ke rfl, trivial⟩)
 obtain ⟨⟨hq1, hq2, hq3, hq4⟩, hq5, hq6⟩ := hpre
 obtain ⟨c0, hc0⟩ := at_ (l := x.links) (k := 0) (by omega)
 have hg0 := getD_at (d := zeroL) hc0
 refine ac ?_
 refine Tr.block (Tr.loopw [(1, _), (45, _), (46, _)] (kk3 rfl) (fun k : Nat => [(47, int ((k : Nat) : Int))]) (fun k : Nat => k ≤ (x.links).length ∧ (∀ j, j < k → linkAt x.links j = true)) (fun k : Nat => (x.links).length - k) 0 (⟨Nat.zero_le _, fun j hj => absurd hj (by omega)⟩) ⟨ke rfl, trivial⟩ ?_)
 rintro k ⟨hle_k, hinv_k⟩
 refine ac ?_
 refine Tr.seq ?_
 refine Tr.cn rfl ?_ ?_ <;> intro h10 q10
 have hk_k : k < (x.links).length := lt_of_dec h10
 obtain ⟨c, hx_k⟩ := at_ hk_k
 have hg := getD_at (d := zeroL) hx_k
 refine ac ?_
 refine ao ?_
 refine tp rfl (ok_indexAddr rfl Tryz.underlying105 sz152 (vl rfl) (vl rfl) (by omega) (row_at hx_k)) (tp rfl (ok_loadA rfl agg152 sz152 (vl rfl) rfl rfl) ?_)
 refine TO.alloc rfl rfl (by decide) rfl z152 zo152 (fun b1 => ?_)
 refine tm rfl ?_
 refine sf 0 5 ⟨rfl, rfl, rfl⟩ rfl rfl rfl rfl ?_
 refine ao ?_
 refine ac ?_
 refine co rfl (kc1 (w_Valid) rfl rfl) ?_
 refine ac ?_
 refine Ch.cs 56 rfl ?_ ?_ <;> intro h11 q11
 refine ac ?_
 refine wk5 1 45 46 47 81 rfl ?_
 refine ac ?_
 refine ac ?_
 · refine int_eq (if_neg (fun hv => ?_)).symm; have ok := item_iff.1 hv; have o1 := ok.name; have o2 := ok.kind; have o3 := ok.p1; have o4 := ok.p4; have o5 := ok.l1; have o6 := ok.l8; have o7 := ok.u0; have o8 := ok.u1; (have h_ := ok.lnk k (by omega); unfold linkAt at h_; rw [hg] at h_; simp_all; omega)
 refine ac ?_
 refine Ch.cs 61 rfl ?_ ?_ <;> intro h12 q12
 refine ac ?_
 refine wk5 1 45 46 47 81 rfl ?_
 refine ac ?_
 refine ac ?_
 · refine int_eq (if_neg (fun hv => ?_)).symm; have ok := item_iff.1 hv; have o1 := ok.name; have o2 := ok.kind; have o3 := ok.p1; have o4 := ok.p4; have o5 := ok.l1; have o6 := ok.l8; have o7 := ok.u0; have o8 := ok.u1; (have h_ := ok.lnk k (by omega); unfold linkAt at h_; rw [hg] at h_; simp_all; omega)
 refine ac ?_
 refine Ch.cs 66 rfl ?_ ?_ <;> intro h13 q13
 refine ac ?_
 refine wk5 1 45 46 47 81 rfl ?_
 refine ac ?_
 refine ac ?_
 · refine int_eq (if_neg (fun hv => ?_)).symm; have ok := item_iff.1 hv; have o1 := ok.name; have o2 := ok.kind; have o3 := ok.p1; have o4 := ok.p4; have o5 := ok.l1; have o6 := ok.l8; have o7 := ok.u0; have o8 := ok.u1; (have h_ := ok.lnk k (by omega); unfold linkAt at h_; rw [hg] at h_; simp_all; omega)
 refine ac ?_
 refine Ch.cs 69 rfl ?_ ?_ <;> intro h14 q14
 have hk0 : 0 < k := by simpa using h14
 obtain ⟨y, hy⟩ := at_ (l := x.links) (k := k - 1) (by omega)
 have hgy := getD_at (d := zeroL) hy
 refine ac ?_
 refine cy h14 rfl (ok_indexAddr rfl Tryz.underlying105 sz152 (vl rfl) (vl rfl) (by omega) (by rw [show ((k : Nat) : Int) - 1 = ((k - 1 : Nat) : Int) by omega]; exact row_at hy)) ?_
 refine ac ?_
 refine wk5 1 45 46 47 81 rfl ?_
 refine Tr.cn rfl ?_ ?_ <;> intro h15 q15
 refine ac ?_
 refine ac ?_
 · refine int_eq (if_neg (fun hv => ?_)).symm; have ok := item_iff.1 hv; have o1 := ok.name; have o2 := ok.kind; have o3 := ok.p1; have o4 := ok.p4; have o5 := ok.l1; have o6 := ok.l8; have o7 := ok.u0; have o8 := ok.u1; (have h_ := ok.lnk k (by omega); unfold linkAt at h_; rw [hg, hgy] at h_; simp_all; omega)
 refine ac ?_
 refine ac ?_
 exact Fin.fam_same (k + 1) ⟨⟨hk_k, allI_step hinv_k (by unfold linkAt; rw [hg, hgy]; simp_all)⟩, by omega⟩ ⟨⟨_, rfl, int_succ k⟩, ke rfl, ke rfl, ke rfl, trivial⟩
 have hk00 : ¬ 0 < k := by simpa using h14
 refine ac ?_
 refine wk5 1 45 46 47 81 rfl ?_
 refine ac ?_
 refine ac ?_
 exact Fin.fam_same (k + 1) ⟨⟨hk_k, allI_step hinv_k (by unfold linkAt; rw [hg]; simp_all)⟩, by omega⟩ ⟨⟨_, rfl, int_succ k⟩, ke rfl, ke rfl, ke rfl, trivial⟩
 have he_k : k = (x.links).length := by have := ge_of_dec h10; omega
 subst he_k
 refine ac ?_
 refine ac ?_
 refine co rfl (ok_indexAddr rfl Tryz.underlying105 sz152 (vl rfl) (vl rfl) (by omega) (row_at (k := 0) hc0)) ?_
 refine ac ?_
 refine Ch.cs 91 rfl ?_ ?_ <;> intro h16 q16
 refine ac ?_
 refine wk1 95 rfl ?_
 refine ac ?_
 refine ac ?_
 · refine int_eq (if_neg (fun hv => ?_)).symm; have ok := item_iff.1 hv; have o1 := ok.name; have o2 := ok.kind; have o3 := ok.p1; have o4 := ok.p4; have o5 := ok.l1; have o6 := ok.l8; have o7 := ok.u0; have o8 := ok.u1; (simp_all; omega)
 refine ac ?_
 refine wk1 95 rfl ?_
 refine Tr.cn rfl ?_ ?_ <;> intro h17 q17
 refine ac ?_
 refine ac ?_
 · refine int_eq (if_neg (fun hv => ?_)).symm; have ok := item_iff.1 hv; have o1 := ok.name; have o2 := ok.kind; have o3 := ok.p1; have o4 := ok.p4; have o5 := ok.l1; have o6 := ok.l8; have o7 := ok.u0; have o8 := ok.u1; (omega)
 refine ac ?_
 refine ac ?_
 refine ac ?_
 · refine int_eq (if_pos (item_iff.2 ⟨hq1, hq2, hq3, hq4, hq5, hq6, hinv_k, by rw [hg0]; omega, by omega⟩)).symm
theorem w_linked {l : List Edg} {n : Nat}  : Fun Tryz.prog 135 [edgs l, int ((n : Nat) : Int)] (bool (edgesB n l)) := by
 refine Fun.of Tryz.func135 rfl rfl (by exact Nat.le_of_ble_eq_true rfl) fun M0 w0 => ?_
 refine Tr.lenm 0 rfl fun hlm_0 => (Tr.seq (Tr.reg0 (cm rfl (Ch.nil (Fin.go (Tr.seq (Tr.seq (Tr.reg0 (cm rfl (co rfl (ok_lenm rfl Tryz.underlying38 (vl rfl)) (cm rfl (Ch.nil (Fin.go (Tr.block ?_))))))))))))))
 refine Tr.loopw [(0, _), (1, _), (7, _), (8, _)] (kk4 rfl) (fun k : Nat => [(9, int ((k : Nat) : Int))]) (fun k : Nat => k ≤ (l).length ∧ (∀ j, j < k → edgeAt n l j = true)) (fun k : Nat => (l).length - k) 0 (⟨Nat.zero_le _, fun j hj => absurd hj (by omega)⟩) ⟨ke rfl, trivial⟩ ?_
 rintro k ⟨hle_k, hinv_k⟩
 refine Tr.seq (Tr.reg0 (co rfl (ki rfl rfl rfl rfl) (Ch.nil (Fin.go (Tr.seq ?_)))))
 refine Tr.cn rfl ?_ ?_ <;> intro h1 q1
 have hk_k : k < (l).length := lt_of_dec h1
 obtain ⟨c, hx_k⟩ := at_ hk_k
 have hg := getD_at (d := zeroG) hx_k
 refine Tr.skip (Fin.go (Tr.seq (Tr.block (Tr.seq (Tr.regT (tm rfl (tp rfl (ok_indexAddr rfl Tryz.underlying38 sz80 (vl rfl) (vl rfl) (by omega) (row_at hx_k)) (tp rfl (ok_loadA rfl agg80 sz80 (vl rfl) rfl rfl) ?_))))))))
 refine TO.alloc rfl rfl (by decide) rfl z80 zo80 (fun b1 => ?_)
 refine tm rfl (TO.store_all 0 rfl rfl rfl (vl rfl) (VL.le (vl rfl) (agg_cellsP _)) rfl sz80 rfl rfl (TO.freeze 0 6 rfl rfl (TO.nil (Fin.go (Tr.seq (Tr.seq (Tr.reg0 (co rfl (kfa rfl fo80_0 rfl rfl) (co rfl (kl1 rfl one3 rfl) (co rfl (ki rfl rfl rfl rfl) (cm rfl ?_)))))))))))
 refine Ch.cs 17 rfl ?_ ?_ <;> intro h2 q2
 iterate 4 refine cnf h2 rfl ?_
 refine co rfl (kpt rfl rfl h2 rfl) (cm rfl (cnd rfl rfl (cnd rfl rfl (cnd rfl rfl (co rfl (kpt rfl rfl rfl rfl) (cm rfl ?_))))))
 iterate 4 refine cnd rfl rfl ?_
 refine co rfl (kpt rfl rfl rfl rfl) (cm rfl ?_)
 iterate 5 refine cnd rfl rfl ?_
 refine co rfl (kpt rfl rfl rfl rfl) (Ch.nil (Fin.go (wk8 0 1 5 6 7 8 9 40 rfl (Tr.cond rfl (fun _ => ?_) (fun h => nomatch h)))))
 refine Tr.seq (Tr.reg0 (cm rfl (Ch.nil (Fin.go (Tr.ret (Fin.then_ret (Fin.block_ret (Fin.then_ret (Fin.then_ret (Fin.block_ret (Fin.then_ret (Fin.ret1 rfl (OutW.bse _ _) rfl ?_))))))))))))
 · refine bool_eq ?_; unfold edgesB; rw [allI_hit (p := edgeAt n l) (k := k) (by omega) (by unfold edgeAt; rw [hg]; simp_all; omega)]; rfl
 refine cy h2 rfl (kfa rfl fo80_0 rfl rfl) (cy h2 rfl (kl1 rfl one3 rfl) (cym h2 rfl (cy h2 rfl (ki rfl rfl rfl rfl) (co rfl (kpf rfl rfl h2 rfl) (cm rfl ?_)))))
 refine Ch.cs 23 rfl ?_ ?_ <;> intro h3 q3
 refine cnf h3 rfl (cnf h3 rfl (cnf h3 rfl (co rfl (kpt rfl rfl h3 rfl) (cm rfl ?_))))
 iterate 4 refine cnd rfl rfl ?_
 refine co rfl (kpt rfl rfl rfl rfl) (cm rfl ?_)
 iterate 5 refine cnd rfl rfl ?_
 refine co rfl (kpt rfl rfl rfl rfl) (Ch.nil (Fin.go (wk8 0 1 5 6 7 8 9 40 rfl (Tr.cond rfl (fun _ => ?_) (fun h => nomatch h)))))
 refine Tr.seq (Tr.reg0 (cm rfl (Ch.nil (Fin.go (Tr.ret (Fin.then_ret (Fin.block_ret (Fin.then_ret (Fin.then_ret (Fin.block_ret (Fin.then_ret (Fin.ret1 rfl (OutW.bse _ _) rfl ?_))))))))))))
 · refine bool_eq ?_; unfold edgesB; rw [allI_hit (p := edgeAt n l) (k := k) (by omega) (by unfold edgeAt; rw [hg]; simp_all; omega)]; rfl
 refine cy h3 rfl (kfa rfl fo80_1 rfl rfl) (cy h3 rfl (kl1 rfl one3 rfl) (cy h3 rfl (ki rfl rfl rfl rfl) (co rfl (kpf rfl rfl h3 rfl) (cm rfl ?_))))
 refine Ch.cs 28 rfl ?_ ?_ <;> intro h4 q4
 iterate 4 refine cnf h4 rfl ?_
 refine co rfl (kpt rfl rfl h4 rfl) (cm rfl ?_)
 iterate 5 refine cnd rfl rfl ?_
 refine co rfl (kpt rfl rfl rfl rfl) (Ch.nil (Fin.go (wk8 0 1 5 6 7 8 9 40 rfl (Tr.cond rfl (fun _ => ?_) (fun h => nomatch h)))))
 refine Tr.seq (Tr.reg0 (cm rfl (Ch.nil (Fin.go (Tr.ret (Fin.then_ret (Fin.block_ret (Fin.then_ret (Fin.then_ret (Fin.block_ret (Fin.then_ret (Fin.ret1 rfl (OutW.bse _ _) rfl ?_))))))))))))
 · refine bool_eq ?_; unfold edgesB; rw [allI_hit (p := edgeAt n l) (k := k) (by omega) (by unfold edgeAt; rw [hg]; simp_all; omega)]; rfl
 refine cy h4 rfl (kfa rfl fo80_1 rfl rfl) (cy h4 rfl (kl1 rfl one3 rfl) (cym h4 rfl (cy h4 rfl (ki rfl rfl rfl rfl) (co rfl (kpf rfl rfl h4 rfl) (cm rfl ?_)))))
 refine Ch.cs 34 rfl ?_ ?_ <;> intro h5 q5
 iterate 5 refine cnf h5 rfl ?_
 refine co rfl (kpt rfl rfl h5 rfl) (Ch.nil (Fin.go (wk8 0 1 5 6 7 8 9 40 rfl (Tr.cond rfl (fun _ => ?_) (fun h => nomatch h)))))
 refine Tr.seq (Tr.reg0 (cm rfl (Ch.nil (Fin.go (Tr.ret (Fin.then_ret (Fin.block_ret (Fin.then_ret (Fin.then_ret (Fin.block_ret (Fin.then_ret (Fin.ret1 rfl (OutW.bse _ _) rfl ?_))))))))))))
 · refine bool_eq ?_; unfold edgesB; rw [allI_hit (p := edgeAt n l) (k := k) (by omega) (by unfold edgeAt; rw [hg]; simp_all; omega)]; rfl
 refine cy h5 rfl (kfa rfl fo80_0 rfl rfl) (cy h5 rfl (kl1 rfl one3 rfl) (cy h5 rfl (kfa rfl fo80_1 rfl rfl) (cy h5 rfl (kl1 rfl one3 rfl) (cy h5 rfl (ki rfl rfl rfl rfl) (co rfl (kpf rfl rfl h5 rfl) (Ch.nil (Fin.go (wk8 0 1 5 6 7 8 9 40 rfl ?_))))))))
 refine Tr.cn rfl ?_ ?_ <;> intro h6 q6
 refine Tr.seq (Tr.reg0 (cm rfl (Ch.nil (Fin.go (Tr.ret (Fin.then_ret (Fin.block_ret (Fin.then_ret (Fin.then_ret (Fin.block_ret (Fin.then_ret (Fin.ret1 rfl (OutW.bse _ _) rfl ?_))))))))))))
 · refine bool_eq ?_; unfold edgesB; rw [allI_hit (p := edgeAt n l) (k := k) (by omega) (by unfold edgeAt; rw [hg]; simp_all)]; rfl
 refine Tr.skip (Fin.go (Tr.seq (Tr.reg1 mixed (by kernel_rfl) (cm rfl (co rfl (ki rfl rfl rfl rfl) (cm rfl ?_))))))
 refine Ch.cs 43 rfl ?_ ?_ <;> intro h7 q7
 have hk0 : 0 < k := by simpa using h7
 obtain ⟨y, hy⟩ := at_ (l := l) (k := k - 1) (by omega)
 have hgy := getD_at (d := zeroG) hy
 refine cym h7 rfl (cym h7 rfl ?_)
 refine cy h7 rfl (ok_sub rfl (vl rfl) (vl rfl) ?hin) ?_; case hin => unfold InI; omega
 refine cy h7 rfl (ok_indexAddr rfl Tryz.underlying38 sz80 (vl rfl) (vl rfl) (by omega) (by rw [show ((k : Nat) : Int) - 1 = ((k - 1 : Nat) : Int) by omega]; exact row_at hy)) ?_
 refine cy h7 rfl (kfa rfl fo80_0 rfl rfl) (cy h7 rfl (kl1 rfl one3 rfl) (cy h7 rfl (kfa rfl fo80_0 rfl rfl) (cy h7 rfl (kl1 rfl one3 rfl) (cy h7 rfl (ki rfl rfl rfl rfl) (cym h7 rfl ?_)))))
 refine Ch.cs 53 rfl ?_ ?_ <;> intro h8 q8
 iterate 10 refine cnf h8 rfl ?_
 iterate 9 refine cu rfl ?_
 refine cnf h8 rfl (cy h7 rfl (kpt rfl rfl h8 rfl) (co rfl (kpt rfl rfl h7 rfl) (Ch.nil (Fin.go (wk6 0 1 7 8 9 75 rfl (Tr.cond rfl (fun _ => ?_) (fun h => nomatch h)))))))
 refine Tr.seq (Tr.reg0 (cm rfl (Ch.nil (Fin.go (Tr.ret (Fin.block_ret (Fin.then_ret (Fin.then_ret (Fin.block_ret (Fin.then_ret (Fin.ret1 rfl (OutW.bse _ _) rfl ?_)))))))))))
 · refine bool_eq ?_; unfold edgesB; rw [allI_hit (p := edgeAt n l) (k := k) (by omega) (by unfold edgeAt; rw [hg, hgy]; simp_all; omega)]; rfl
 refine cym h8 rfl (cym h8 rfl ?_)
 refine cy h8 rfl (ok_sub rfl (vl rfl) (vl rfl) ?hin) ?_; case hin => unfold InI; omega
 refine cy h8 rfl (ok_indexAddr rfl Tryz.underlying38 sz80 (vl rfl) (vl rfl) (by omega) (by rw [show ((k : Nat) : Int) - 1 = ((k - 1 : Nat) : Int) by omega]; exact row_at hy)) ?_
 refine cy h8 rfl (kfa rfl fo80_0 rfl rfl) (cy h8 rfl (kl1 rfl one3 rfl) (cy h8 rfl (kfa rfl fo80_0 rfl rfl) (cy h8 rfl (kl1 rfl one3 rfl) (cy h8 rfl (ki rfl rfl rfl rfl) (cym h8 rfl ?_)))))
 refine Ch.cs 63 rfl ?_ ?_ <;> intro h9 q9
 refine cym h9 rfl (cym h9 rfl ?_)
 refine cy h9 rfl (ok_sub rfl (vl rfl) (vl rfl) ?hin) ?_; case hin => unfold InI; omega
 refine cy h9 rfl (ok_indexAddr rfl Tryz.underlying38 sz80 (vl rfl) (vl rfl) (by omega) (by rw [show ((k : Nat) : Int) - 1 = ((k - 1 : Nat) : Int) by omega]; exact row_at hy)) ?_
 refine cy h9 rfl (kfa rfl fo80_1 rfl rfl) (cy h9 rfl (kl1 rfl one3 rfl) (cy h9 rfl (kfa rfl fo80_1 rfl rfl) (cy h9 rfl (kl1 rfl one3 rfl) (cy h9 rfl (ki rfl rfl rfl rfl) (cy h8 rfl (kpt rfl rfl h9 rfl) (cy h7 rfl (kpf rfl rfl h8 rfl) (co rfl (kpt rfl rfl h7 rfl) (Ch.nil (Fin.go (wk6 0 1 7 8 9 75 rfl ?_))))))))))
 refine Tr.cn rfl ?_ ?_ <;> intro h10 q10
 refine Tr.seq (Tr.reg0 (cm rfl (Ch.nil (Fin.go (Tr.ret (Fin.block_ret (Fin.then_ret (Fin.then_ret (Fin.block_ret (Fin.then_ret (Fin.ret1 rfl (OutW.bse _ _) rfl ?_)))))))))))
 · refine bool_eq ?_; unfold edgesB; rw [allI_hit (p := edgeAt n l) (k := k) (by omega) (by unfold edgeAt; rw [hg, hgy]; simp_all; omega)]; rfl
 refine Tr.skip (Fin.block (Fin.go (Tr.reg0 (cad rfl rfl rfl rfl (by omega) (cm rfl (Ch.nil ?_))))))
 exact Fin.fam_same (k + 1) ⟨⟨hk_k, allI_step hinv_k (by unfold edgeAt; rw [hg, hgy]; simp_all)⟩, by omega⟩ ⟨⟨_, rfl, int_succ k⟩, ke rfl, ke rfl, ke rfl, ke rfl, trivial⟩
 iterate 9 refine cnt h9 rfl ?_
 refine cy h8 rfl (kpf rfl rfl h9 rfl) (cy h7 rfl (kpf rfl rfl h8 rfl) (co rfl (kpt rfl rfl h7 rfl) (Ch.nil (Fin.go (wk6 0 1 7 8 9 75 rfl (Tr.cond rfl (fun h => nomatch h) (fun _ => ?_)))))))
 refine Tr.skip (Fin.block (Fin.go (Tr.reg0 (cad rfl rfl rfl rfl (by omega) (cm rfl (Ch.nil ?_))))))
 exact Fin.fam_same (k + 1) ⟨⟨hk_k, allI_step hinv_k (by unfold edgeAt; rw [hg, hgy]; simp_all; omega)⟩, by omega⟩ ⟨⟨_, rfl, int_succ k⟩, ke rfl, ke rfl, ke rfl, ke rfl, trivial⟩
 have hk00 : ¬ 0 < k := by simpa using h7
 iterate 10 refine cnt h7 rfl ?_
 iterate 20 refine cu rfl ?_
 refine cnt h7 rfl (co rfl (kpf rfl rfl h7 rfl) (Ch.nil (Fin.go (wk6 0 1 7 8 9 75 rfl (Tr.cond rfl (fun h => nomatch h) (fun _ => ?_))))))
 refine Tr.skip (Fin.block (Fin.go (Tr.reg0 (cad rfl rfl rfl rfl (by omega) (cm rfl (Ch.nil ?_))))))
 exact Fin.fam_same (k + 1) ⟨⟨hk_k, allI_step hinv_k (by unfold edgeAt; rw [hg]; simp_all)⟩, by omega⟩ ⟨⟨_, rfl, int_succ k⟩, ke rfl, ke rfl, ke rfl, ke rfl, trivial⟩
 have he_k : k = (l).length := by have := ge_of_dec h1; omega
 subst he_k
 refine Tr.exit (Fin.then_exit (Fin.then_exit (Fin.block_here (Fin.go (Tr.seq (Tr.reg0 (cm rfl (co rfl (ok_lenm rfl Tryz.underlying38 (vl rfl)) (co rfl (ki rfl rfl rfl rfl) (cm rfl (Ch.nil (Fin.go (Tr.ret (Fin.ret1 rfl (OutW.bse _ _) rfl ?_))))))))))))))
 · refine bool_eq ?_; unfold edgesB; rw [allI_end hinv_k, Bool.true_and, decide_eq_decide]; omega
end Go.Proofs.YtppeeogffbpcbaaGreat
namespace Go.Proofs.YtppeeogffbpcbaaGreat
open Go Go.RowKit Cp

end Go.Proofs.YtppeeogffbpcbaaGreat
namespace Go.Proofs.YtppeeogffbpcbaaGreat
open Go Go.RowKit Cp

end Go.Proofs.YtppeeogffbpcbaaGreat
namespace Go.Proofs.YtppeeogffbpcbaaGreat
open Go Go.RowKit Cp

/-- An estate. -/
structure Est where
  eps : List Ept
  edges : List Edg
  items : List Itm
  deriving DecidableEq
abbrev rowSt (e : Est) : List Pr := [epts e.eps, edgs e.edges, itms e.items]
abbrev zeroSt : Est := ⟨[], [], []⟩
structure Est.fits (e : Est) : Prop where
  eps : ∀ x ∈ e.eps, x.fits ∧ x.small
  items : ∀ x ∈ e.items, x.name.length ≤ maxLen
  le : e.eps.length ≤ 1000000000000
  lg : e.edges.length ≤ 1000000000000
  li : e.items.length ≤ 1000000000000
def epAt (l : List Ept) (i : Nat) : Bool := eptB (l[i]?.getD zeroEp) && (decide (i = 0) || decide (Lib.compareBytes (l[i - 1]?.getD zeroEp).name (l[i]?.getD zeroEp).name = -1))
def estB (e : Est) : Bool := (allI (epAt e.eps) e.eps.length && decide (e.eps.length ≤ 16)) && edgesB e.eps.length e.edges && (e.items.all itemB && decide (e.items.length ≤ 30))
structure EstOk (e : Est) : Prop where
  ep : ∀ j, j < e.eps.length → epAt e.eps j = true
  e16 : e.eps.length ≤ 16
  ed : ∀ j, j < e.edges.length → edgeAt e.eps.length e.edges j = true
  e40 : e.edges.length ≤ 40
  it : e.items.all itemB = true
  i30 : e.items.length ≤ 30
theorem est_iff {e : Est} : estB e = true ↔ EstOk e := by
  unfold estB edgesB
  simp only [Bool.and_eq_true, decide_eq_true_eq, allI_iff]
  exact ⟨fun ⟨⟨⟨h1, h2⟩, h3, h4⟩, h5, h6⟩ => ⟨h1, h2, h3, h4, h5, h6⟩, fun h => ⟨⟨⟨h.ep, h.e16⟩, h.ed, h.e40⟩, h.it, h.i30⟩⟩
theorem est_edges {e : Est} (h : EstOk e) : edgesB e.eps.length e.edges = true := by unfold edgesB; simp only [Bool.and_eq_true, decide_eq_true_eq, allI_iff]; exact ⟨h.ed, h.e40⟩

theorem w_XCk1 {x : Itm} (hx : x.name.length ≤ maxLen) : Fun Tryz.prog 133 [agg (rowIt x)] (bool (!itemB x)) := by
 refine fo Tryz.func133 rfl ⟨rfl, rfl⟩ fun M0 w0 => ?_
 refine ac ?_
 refine ac ?_
 refine co rfl (kc1 (w_LtCheck hx) rfl rfl) ?_
 refine ac ?_
 refine ac ?_
 · refine bool_eq ?_; cases h_ : itemB x <;> simp_all
theorem e_XCk1 : Entry Tryz.prog 133 := ⟨_, Tryz.func133, rfl, rfl⟩
theorem w_IdxIt {α : Type} {g : α → Itm} {l : List α} {p : α → Bool}  : Fun Tryz.prog 183 [slice 5 (l.map fun x => rowIt (g x)), clo Tryz.prog (fun x : α => [agg (rowIt (g x))]) (fun x => bool (p x))] (int (idx p l)) := by
 refine fo Tryz.func183 rfl ⟨rfl, rfl⟩ fun M0 w0 => (Tr.lenm 0 rfl fun hlm_0 => ?_)
 refine ac ?_
 refine ac ?_
 refine Tr.block (Tr.loopw [(0, _), (1, _), (7, _)] (kk3 rfl) (fun k : Nat => [(8, int ((k : Nat) : Int))]) (fun k : Nat => k ≤ (l).length ∧ (∀ j y, j < k → l[j]? = some y → p y = false)) (fun k : Nat => (l).length - k) 0 (⟨Nat.zero_le _, fun j y hj => absurd hj (by omega)⟩) ⟨ke rfl, trivial⟩ ?_)
 rintro k ⟨hle_k, hinv_k⟩
 refine ac ?_
 refine Tr.seq ?_
 refine Tr.cn rfl ?_ ?_ <;> intro h1 q1
 have hk_k : k < (l).length := lt_of_dec h1
 obtain ⟨x, hx_k⟩ := at_ hk_k
 refine ac ?_
 refine ac ?_
 refine ac ?_
 refine co rfl (ok_indexAddr rfl Tryz.underlying39 sz107 (vl rfl) (vl rfl) (by omega) (by exact row_at (by assumption))) ?_
 refine co rfl (ok_loadA rfl agg107 sz107 (vl rfl) rfl rfl) (co rfl (ok_callc x rfl (vl rfl) ⟨ke rfl, trivial⟩) ?_)
 refine ac ?_
 refine Tr.cn rfl ?_ ?_ <;> intro h2 q2
 refine ac ?_
 refine wk1 4 rfl ?_
 refine ac ?_
 · exact int_eq (idx_found hx_k (by assumption) hinv_k)
 refine ac ?_
 refine ac ?_
 exact Fin.fam_same (k + 1) ⟨⟨hk_k, step_no hx_k (by assumption) hinv_k⟩, by omega⟩ ⟨⟨_, rfl, int_succ k⟩, ke rfl, ke rfl, ke rfl, trivial⟩
 have he_k : k = (l).length := by have := ge_of_dec h1; omega
 subst he_k
 refine ac ?_
 refine ac ?_
 refine ac ?_
 · exact int_eq (idx_none hinv_k)
theorem w_IdxEp {α : Type} {g : α → Ept} {l : List α} {p : α → Bool}  : Fun Tryz.prog 100 [slice 9 (l.map fun x => rowEp (g x)), clo Tryz.prog (fun x : α => [agg (rowEp (g x))]) (fun x => bool (p x))] (int (idx p l)) := by
 refine fo Tryz.func100 rfl ⟨rfl, rfl⟩ fun M0 w0 => (Tr.lenm 0 rfl fun hlm_0 => ?_)
 refine ac ?_
 refine ac ?_
 refine Tr.block (Tr.loopw [(0, _), (1, _), (7, _)] (kk3 rfl) (fun k : Nat => [(8, int ((k : Nat) : Int))]) (fun k : Nat => k ≤ (l).length ∧ (∀ j y, j < k → l[j]? = some y → p y = false)) (fun k : Nat => (l).length - k) 0 (⟨Nat.zero_le _, fun j y hj => absurd hj (by omega)⟩) ⟨ke rfl, trivial⟩ ?_)
 rintro k ⟨hle_k, hinv_k⟩
 refine ac ?_
 refine Tr.seq ?_
 refine Tr.cn rfl ?_ ?_ <;> intro h1 q1
 have hk_k : k < (l).length := lt_of_dec h1
 obtain ⟨x, hx_k⟩ := at_ hk_k
 refine ac ?_
 refine ac ?_
 refine ac ?_
 refine co rfl (ok_indexAddr rfl Tryz.underlying37 sz32 (vl rfl) (vl rfl) (by omega) (by exact row_at (by assumption))) ?_
 refine co rfl (ok_loadA rfl agg32 sz32 (vl rfl) rfl rfl) (co rfl (ok_callc x rfl (vl rfl) ⟨ke rfl, trivial⟩) ?_)
 refine ac ?_
 refine Tr.cn rfl ?_ ?_ <;> intro h2 q2
 refine ac ?_
 refine wk1 4 rfl ?_
 refine ac ?_
 · exact int_eq (idx_found hx_k (by assumption) hinv_k)
 refine ac ?_
 refine ac ?_
 exact Fin.fam_same (k + 1) ⟨⟨hk_k, step_no hx_k (by assumption) hinv_k⟩, by omega⟩ ⟨⟨_, rfl, int_succ k⟩, ke rfl, ke rfl, ke rfl, trivial⟩
 have he_k : k = (l).length := by have := ge_of_dec h1; omega
 subst he_k
 refine ac ?_
 refine ac ?_
 refine ac ?_
 · exact int_eq (idx_none hinv_k)
theorem w_HasIt {α : Type} {g : α → Itm} {l : List α} {p : α → Bool}  : Fun Tryz.prog 132 [slice 5 (l.map fun x => rowIt (g x)), clo Tryz.prog (fun x : α => [agg (rowIt (g x))]) (fun x => bool (p x))] (bool (l.any p)) := by
 refine fo Tryz.func132 rfl ⟨rfl, rfl⟩ fun M0 w0 => ?_
 refine ac ?_
 refine ac ?_
 refine co rfl (kc2 (w_IdxIt) rfl rfl rfl) ?_
 refine ac ?_
 refine ac ?_
 · exact bool_eq (idx_any p l)
theorem items_rows {l : List Itm} (h : ∀ x ∈ l, x.name.length ≤ maxLen) : ∃ m : List {x : Itm // x.name.length ≤ maxLen}, (m.map fun x => rowIt x.1) = l.map rowIt ∧ (m.any fun x => !itemB x.1) = !l.all itemB := by
  refine ⟨l.attach.map fun x => ⟨x.1, h x.1 x.2⟩, ?_, ?_⟩
  · rw [List.map_map]; exact List.attach_map_val (f := rowIt) ▸ rfl
  · rw [← any_not, List.any_map]
    show (l.attach.any fun x => !itemB x.1) = _
    rw [Bool.eq_iff_iff]; simp

theorem w_XCheck {e : Est} (hf : e.fits) : Fun Tryz.prog 87 [agg (rowSt e)] (int (if estB e then 0 else 31)) := by
 refine fo Tryz.func87 rfl ⟨rfl, rfl⟩ fun M0 w0 => ?_
 have hl1 := hf.le
 have hl2 := hf.lg
 have hl3 := hf.li
 obtain ⟨mi, hmi1, hmi2⟩ := items_rows hf.items
 refine ac ?_
 refine ac ?_
 refine Tr.block (Tr.loopw [(1, _), (7, _), (8, _)] (kk3 rfl) (fun k : Nat => [(9, int ((k : Nat) : Int))]) (fun k : Nat => k ≤ (e.eps).length ∧ (∀ j, j < k → epAt e.eps j = true)) (fun k : Nat => (e.eps).length - k) 0 (⟨Nat.zero_le _, fun j hj => absurd hj (by omega)⟩) ⟨ke rfl, trivial⟩ ?_)
 rintro k ⟨hle_k, hinv_k⟩
 refine ac ?_
 refine Tr.seq ?_
 refine Tr.cn rfl ?_ ?_ <;> intro h1 q1
 have hk_k : k < (e.eps).length := lt_of_dec h1
 obtain ⟨x, hx_k⟩ := at_ hk_k
 have hg := getD_at (d := zeroEp) hx_k
 have hxf := hf.eps x (List.mem_of_getElem? hx_k)
 refine ac ?_
 refine ao ?_
 refine tp rfl (ok_indexAddr rfl Tryz.underlying37 sz32 (vl rfl) (vl rfl) (by omega) (row_at hx_k)) (tp rfl (ok_loadA rfl agg32 sz32 (vl rfl) rfl rfl) ?_)
 refine TO.alloc rfl rfl (by decide) rfl z32 zo32 (fun b1 => ?_)
 refine tm rfl ?_
 refine sf 0 4 ⟨rfl, rfl, rfl⟩ rfl rfl rfl rfl ?_
 refine ao ?_
 refine ac ?_
 refine co rfl (kc1 (w_ECheck hxf.1) rfl rfl) ?_
 refine ac ?_
 refine Ch.cs 17 rfl ?_ ?_ <;> intro h2 q2
 refine ac ?_
 refine wk5 1 7 8 9 32 rfl ?_
 refine ac ?_
 refine ac ?_
 · refine int_eq (if_neg (fun hv => ?_)).symm; have ok := est_iff.1 hv; (have h_ := ok.ep k (by omega); unfold epAt at h_; rw [hg] at h_; simp_all)
 refine ac ?_
 refine Ch.cs 20 rfl ?_ ?_ <;> intro h3 q3
 have hk0 : 0 < k := by simpa using h3
 obtain ⟨y, hy⟩ := at_ (l := e.eps) (k := k - 1) (by omega)
 have hgy := getD_at (d := zeroEp) hy
 refine ac ?_
 refine cy h3 rfl (ok_indexAddr rfl Tryz.underlying37 sz32 (vl rfl) (vl rfl) (by omega) (by rw [show ((k : Nat) : Int) - 1 = ((k - 1 : Nat) : Int) by omega]; exact row_at hy)) ?_
 refine ac ?_
 refine cy h3 rfl (ok_ges rfl (vl rfl) (vl rfl)) ?_
 refine ac ?_
 refine wk5 1 7 8 9 32 rfl ?_
 refine Tr.cn rfl ?_ ?_ <;> intro h4 q4
 refine ac ?_
 refine ac ?_
 · refine int_eq (if_neg (fun hv => ?_)).symm; have ok := est_iff.1 hv; (have h_ := ok.ep k (by omega); unfold epAt at h_; rw [hg, hgy] at h_; simp_all)
 refine ac ?_
 refine ac ?_
 exact Fin.fam_same (k + 1) ⟨⟨hk_k, allI_step hinv_k (by unfold epAt; rw [hg, hgy]; simp_all)⟩, by omega⟩ ⟨⟨_, rfl, int_succ k⟩, ke rfl, ke rfl, ke rfl, trivial⟩
 have hk00 : ¬ 0 < k := by simpa using h3
 refine ac ?_
 refine wk5 1 7 8 9 32 rfl ?_
 refine ac ?_
 refine ac ?_
 exact Fin.fam_same (k + 1) ⟨⟨hk_k, allI_step hinv_k (by unfold epAt; rw [hg]; simp_all)⟩, by omega⟩ ⟨⟨_, rfl, int_succ k⟩, ke rfl, ke rfl, ke rfl, trivial⟩
 have he_k : k = (e.eps).length := by have := ge_of_dec h1; omega
 subst he_k
 have hinv_e := hinv_k
 refine ac ?_
 refine ac ?_
 refine co rfl (ok_call rfl (w_HasIt (g := fun x : {x : Itm // x.name.length ≤ maxLen} => x.1) (l := mi) (p := fun x => !itemB x.1)) ⟨⟨_, rfl, Pr.le_of_eq (by rw [hmi1])⟩, ⟨_, rfl, fn_le_clo (dom := fun x : {x : Itm // x.name.length ≤ maxLen} => [agg (rowIt x.1)]) (res := fun x => bool (!itemB x.1)) e_XCk1 (fun x => w_XCk1 x.2)⟩, trivial⟩) ?_
 refine ac ?_
 refine ac ?_
 refine Ch.cs 38 rfl ?_ ?_ <;> intro h5 q5
 refine ac ?_
 refine wk1 58 rfl ?_
 refine ac ?_
 refine ac ?_
 · refine int_eq (if_neg (fun hv => ?_)).symm; have ok := est_iff.1 hv; (have o1 := ok.e16; have o2 := ok.e40; have o3 := ok.i30; have o4 := ok.it; have o5 := est_edges ok; simp_all)
 refine ac ?_
 refine Ch.cs 44 rfl ?_ ?_ <;> intro h6 q6
 refine ac ?_
 refine wk1 58 rfl ?_
 refine ac ?_
 refine ac ?_
 · refine int_eq (if_neg (fun hv => ?_)).symm; have ok := est_iff.1 hv; (have o1 := ok.e16; have o2 := ok.e40; have o3 := ok.i30; have o4 := ok.it; have o5 := est_edges ok; omega)
 refine ac ?_
 refine Ch.cs 50 rfl ?_ ?_ <;> intro h7 q7
 refine ac ?_
 refine wk1 58 rfl ?_
 refine ac ?_
 refine ac ?_
 · refine int_eq (if_neg (fun hv => ?_)).symm; have ok := est_iff.1 hv; (have o1 := ok.e16; have o2 := ok.e40; have o3 := ok.i30; have o4 := ok.it; have o5 := est_edges ok; omega)
 refine ac ?_
 refine cy h7 rfl (kc2 (w_linked (l := e.edges) (n := e.eps.length)) rfl rfl rfl) ?_
 refine ac ?_
 refine wk1 58 rfl ?_
 refine Tr.cn rfl ?_ ?_ <;> intro h8 q8
 refine ac ?_
 refine ac ?_
 · refine int_eq (if_neg (fun hv => ?_)).symm; have ok := est_iff.1 hv; (have o1 := ok.e16; have o2 := ok.e40; have o3 := ok.i30; have o4 := ok.it; have o5 := est_edges ok; simp_all)
 refine ac ?_
 refine ac ?_
 refine ac ?_
 · refine int_eq (if_pos ?_).symm; unfold estB; simp_all [allI_iff]; omega
end Go.Proofs.YtppeeogffbpcbaaGreat
namespace Go.Proofs.YtppeeogffbpcbaaGreat
open Go Go.RowKit Cp
theorem eqv80 {d : Nat} {w : World} {x0 y0 : Int} {x1 y1 : Int} : (Op.equalIn (d + 2) 80 (.agg #[.int .i64 x0, .int .i64 x1]) (.agg #[.int .i64 y0, .int .i64 y1])).run Tryz.prog w = .ok (decide (x0 = y0 ∧ x1 = y1)) w := by
  have h := eqS (w := w) (d := d + 1) (xs := #[.int .i64 x0, .int .i64 x1]) (ys := #[.int .i64 y0, .int .i64 y1]) Tryz.underlying80 (by kernel_rfl) (eqF_cons (by decide) (part_leaf one3 rfl) (part_leaf one3 rfl) (eq_intL (d := d + 0) Tryz.underlying3) (eqF_cons (by decide) (part_leaf one3 rfl) (part_leaf one3 rfl) (eq_intL (d := d + 0) Tryz.underlying3) (eqF_nil)))
  refine h.trans (congrArg (fun b => Result.ok b w) ?_)
  rw [Bool.eq_iff_iff]; simp [and_assoc]
theorem ok_ne80 {E : Env} {I : Asn} {o : Oper} {u : TypeId} {x y : Operand} {x0 y0 : Int} {x1 y1 : Int} (ho : o.op = .binOp .neq 80 x y u) (hx : VL E x (agg [is (.int .i64 x0), is (.int .i64 x1)])) (hy : VL E y (agg [is (.int .i64 y0), is (.int .i64 y1)])) : OpOK Tryz.prog I o E (bool (!decide (x0 = y0 ∧ x1 = y1))) :=
  ok_neagg [.int .i64 x0, .int .i64 x1] [.int .i64 y0, .int .i64 y1] ho hx hy (by kernel_rfl) (fun w => by rw [show Op.equal 80 _ _ = Op.equalIn (9998 + 2) 80 _ _ from rfl]; exact eqv80)
theorem eqv152 {d : Nat} {w : World} {x0 y0 : Int} {x1 y1 : Int} {x2 y2 : Int} : (Op.equalIn (d + 3) 152 (.agg #[.int .i64 x0, .int .i64 x1, .int .i64 x2]) (.agg #[.int .i64 y0, .int .i64 y1, .int .i64 y2])).run Tryz.prog w = .ok (decide (x0 = y0 ∧ x1 = y1 ∧ x2 = y2)) w := by
  have h := eqS (w := w) (d := d + 2) (xs := #[.int .i64 x0, .int .i64 x1, .int .i64 x2]) (ys := #[.int .i64 y0, .int .i64 y1, .int .i64 y2]) Tryz.underlying152 (by kernel_rfl) (eqF_cons (by decide) (part_agg agg24 sz24 rfl) (part_agg agg24 sz24 rfl) (eqv24 (d := d + 0) (w := w)) (eqF_cons (by decide) (part_leaf one3 rfl) (part_leaf one3 rfl) (eq_intL (d := d + 1) Tryz.underlying3) (eqF_nil)))
  refine h.trans (congrArg (fun b => Result.ok b w) ?_)
  rw [Bool.eq_iff_iff]; simp [and_assoc]
theorem ok_ne152 {E : Env} {I : Asn} {o : Oper} {u : TypeId} {x y : Operand} {x0 y0 : Int} {x1 y1 : Int} {x2 y2 : Int} (ho : o.op = .binOp .neq 152 x y u) (hx : VL E x (agg [is (.int .i64 x0), is (.int .i64 x1), is (.int .i64 x2)])) (hy : VL E y (agg [is (.int .i64 y0), is (.int .i64 y1), is (.int .i64 y2)])) : OpOK Tryz.prog I o E (bool (!decide (x0 = y0 ∧ x1 = y1 ∧ x2 = y2))) :=
  ok_neagg [.int .i64 x0, .int .i64 x1, .int .i64 x2] [.int .i64 y0, .int .i64 y1, .int .i64 y2] ho hx hy (by kernel_rfl) (fun w => by rw [show Op.equal 152 _ _ = Op.equalIn (9997 + 3) 152 _ _ from rfl]; exact eqv152)
theorem w_SEqG {a b : List (Edg)}  : Fun Tryz.prog 92 [edgs a, edgs b] (bool (decide (a = b))) := by
 refine fo Tryz.func92 rfl ⟨rfl, rfl⟩ fun M0 w0 => (Tr.lenm 0 rfl fun hlm_0 => (Tr.lenm 1 rfl fun hlm_1 => ?_))
 refine ac ?_
 refine ac ?_
 refine Tr.cn rfl ?_ ?_ <;> intro h1 q1
 have hne : ¬ a.length = b.length := by simp_all; omega
 refine ac ?_
 refine ac ?_
 · refine bool_eq ?_; symm; rw [decide_eq_false_iff_not]; rintro rfl; exact hne rfl
 have hll : a.length = b.length := by simp_all; omega
 refine ac ?_
 refine ac ?_
 refine Tr.block (Tr.loopw [(0, _), (1, _), (12, _)] (kk3 rfl) (fun k : Nat => [(13, int ((k : Nat) : Int))]) (fun k : Nat => k ≤ (a).length ∧ (a.take k = b.take k)) (fun k : Nat => (a).length - k) 0 (⟨Nat.zero_le _, rfl⟩) ⟨ke rfl, trivial⟩ ?_)
 rintro k ⟨hle_k, hinv_k⟩
 refine ac ?_
 refine Tr.seq ?_
 refine Tr.cn rfl ?_ ?_ <;> intro h2 q2
 have hk_k : k < (a).length := lt_of_dec h2
 obtain ⟨x, hx_k⟩ := at_ hk_k
 obtain ⟨y, hy⟩ := at_ (l := b) (k := k) (by omega)
 refine ac ?_
 refine ac ?_
 refine ac ?_
 refine co rfl (ok_indexAddr rfl Tryz.underlying38 sz80 (vl rfl) (vl rfl) (by omega) (row_at hx_k)) ?_
 refine ac ?_
 refine co rfl (ok_indexAddr rfl Tryz.underlying38 sz80 (vl rfl) (vl rfl) (by omega) (row_at hy)) (co rfl (ok_loadA rfl agg80 sz80 (vl rfl) rfl rfl) (co rfl (ok_ne80 rfl (vl rfl) (vl rfl)) ?_))
 refine ac ?_
 refine wk5 0 1 12 13 24 rfl ?_
 refine Tr.cn rfl ?_ ?_ <;> intro h3 q3
 refine ac ?_
 refine ac ?_
 · refine bool_eq ?_; symm; rw [decide_eq_false_iff_not]; refine sameN hx_k hy ?_; rintro rfl; simp_all
 refine ac ?_
 refine ac ?_
 exact Fin.fam_same (k + 1) ⟨⟨hk_k, sameY hx_k hy hinv_k (by cases x; cases y; simp_all)⟩, by omega⟩ ⟨⟨_, rfl, int_succ k⟩, ke rfl, ke rfl, ke rfl, trivial⟩
 have he_k : k = (a).length := by have := ge_of_dec h2; omega
 subst he_k
 refine ac ?_
 refine ac ?_
 refine ac ?_
 · refine bool_eq ?_; symm; rw [decide_eq_true_eq]; exact sameA hll hinv_k
theorem w_SEqL {a b : List (Lnk)}  : Fun Tryz.prog 140 [lnks a, lnks b] (bool (decide (a = b))) := by
 refine fo Tryz.func140 rfl ⟨rfl, rfl⟩ fun M0 w0 => (Tr.lenm 0 rfl fun hlm_0 => (Tr.lenm 1 rfl fun hlm_1 => ?_))
 refine ac ?_
 refine ac ?_
 refine Tr.cn rfl ?_ ?_ <;> intro h1 q1
 have hne : ¬ a.length = b.length := by simp_all; omega
 refine ac ?_
 refine ac ?_
 · refine bool_eq ?_; symm; rw [decide_eq_false_iff_not]; rintro rfl; exact hne rfl
 have hll : a.length = b.length := by simp_all; omega
 refine ac ?_
 refine ac ?_
 refine Tr.block (Tr.loopw [(0, _), (1, _), (12, _)] (kk3 rfl) (fun k : Nat => [(13, int ((k : Nat) : Int))]) (fun k : Nat => k ≤ (a).length ∧ (a.take k = b.take k)) (fun k : Nat => (a).length - k) 0 (⟨Nat.zero_le _, rfl⟩) ⟨ke rfl, trivial⟩ ?_)
 rintro k ⟨hle_k, hinv_k⟩
 refine ac ?_
 refine Tr.seq ?_
 refine Tr.cn rfl ?_ ?_ <;> intro h2 q2
 have hk_k : k < (a).length := lt_of_dec h2
 obtain ⟨x, hx_k⟩ := at_ hk_k
 obtain ⟨y, hy⟩ := at_ (l := b) (k := k) (by omega)
 refine ac ?_
 refine ac ?_
 refine ac ?_
 refine co rfl (ok_indexAddr rfl Tryz.underlying105 sz152 (vl rfl) (vl rfl) (by omega) (row_at hx_k)) ?_
 refine ac ?_
 refine co rfl (ok_indexAddr rfl Tryz.underlying105 sz152 (vl rfl) (vl rfl) (by omega) (row_at hy)) (co rfl (ok_loadA rfl agg152 sz152 (vl rfl) rfl rfl) (co rfl (ok_ne152 rfl (vl rfl) (vl rfl)) ?_))
 refine ac ?_
 refine wk5 0 1 12 13 24 rfl ?_
 refine Tr.cn rfl ?_ ?_ <;> intro h3 q3
 refine ac ?_
 refine ac ?_
 · refine bool_eq ?_; symm; rw [decide_eq_false_iff_not]; refine sameN hx_k hy ?_; rintro rfl; simp_all
 refine ac ?_
 refine ac ?_
 exact Fin.fam_same (k + 1) ⟨⟨hk_k, sameY hx_k hy hinv_k (by cases x; cases y; simp_all)⟩, by omega⟩ ⟨⟨_, rfl, int_succ k⟩, ke rfl, ke rfl, ke rfl, trivial⟩
 have he_k : k = (a).length := by have := ge_of_dec h2; omega
 subst he_k
 refine ac ?_
 refine ac ?_
 refine ac ?_
 · refine bool_eq ?_; symm; rw [decide_eq_true_eq]; exact sameA hll hinv_k
theorem w_sameItem {a b : Itm}  : Fun Tryz.prog 94 [agg (rowIt a), agg (rowIt b)] (bool (decide (a = b))) := by
 refine fo Tryz.func94 rfl ⟨rfl, rfl⟩ fun M0 w0 => ?_
 refine ac ?_
 refine ac ?_
 refine Ch.cs 10 rfl ?_ ?_ <;> intro h1 q1
 refine ac ?_
 refine Ch.cs 17 rfl ?_ ?_ <;> intro h2 q2
 refine ac ?_
 refine Ch.cs 24 rfl ?_ ?_ <;> intro h3 q3
 refine ac ?_
 refine Ch.cs 31 rfl ?_ ?_ <;> intro h4 q4
 refine ac ?_
 refine cy h4 rfl (kc2 (w_SEqL) rfl rfl rfl) ?_
 refine ac ?_
 refine wk1 4 rfl ?_
 refine ac ?_
 · refine bool_eq ?_; cases a; cases b; simp_all [Bool.beq_eq_decide_eq]
 refine ac ?_
 refine wk1 4 rfl ?_
 refine ac ?_
 · refine bool_eq ?_; cases a; cases b; simp_all [Bool.beq_eq_decide_eq]
 refine ac ?_
 refine wk1 4 rfl ?_
 refine ac ?_
 · refine bool_eq ?_; cases a; cases b; simp_all [Bool.beq_eq_decide_eq]
 refine ac ?_
 refine wk1 4 rfl ?_
 refine ac ?_
 · refine bool_eq ?_; cases a; cases b; simp_all [Bool.beq_eq_decide_eq]
 refine ac ?_
 refine wk1 4 rfl ?_
 refine ac ?_
 · refine bool_eq ?_; cases a; cases b; simp_all [Bool.beq_eq_decide_eq]
theorem e_sameItem : Entry Tryz.prog 94 := ⟨_, Tryz.func94, rfl, rfl⟩
theorem w_EqFIt {a b : List Itm}  : Fun Tryz.prog 93 [itms a, itms b, clo Tryz.prog (fun p : Itm × Itm => [agg (rowIt p.1), agg (rowIt p.2)]) (fun p => bool (decide (p.1 = p.2)))] (bool (decide (a = b))) := by
 refine fo Tryz.func93 rfl ⟨rfl, rfl⟩ fun M0 w0 => (Tr.lenm 0 rfl fun hlm_0 => (Tr.lenm 1 rfl fun hlm_1 => ?_))
 refine ac ?_
 refine ac ?_
 refine Tr.cn rfl ?_ ?_ <;> intro h1 q1
 have hne : ¬ a.length = b.length := by simp_all; omega
 refine ac ?_
 refine ac ?_
 · refine bool_eq ?_; symm; rw [decide_eq_false_iff_not]; rintro rfl; exact hne rfl
 have hll : a.length = b.length := by simp_all; omega
 refine ac ?_
 refine ac ?_
 refine Tr.block (Tr.loopw [(1, _), (2, _), (15, _), (16, _)] (kk4 rfl) (fun k : Nat => [(17, int ((k : Nat) : Int))]) (fun k : Nat => k ≤ (a).length ∧ (a.take k = b.take k)) (fun k : Nat => (a).length - k) 0 (⟨Nat.zero_le _, rfl⟩) ⟨ke rfl, trivial⟩ ?_)
 rintro k ⟨hle_k, hinv_k⟩
 refine ac ?_
 refine Tr.seq ?_
 refine Tr.cn rfl ?_ ?_ <;> intro h2 q2
 have hk_k : k < (a).length := lt_of_dec h2
 obtain ⟨x, hx_k⟩ := at_ hk_k
 obtain ⟨y, hy⟩ := at_ (l := b) (k := k) (by omega)
 refine ac ?_
 refine ao ?_
 refine tp rfl (ok_indexAddr rfl Tryz.underlying39 sz107 (vl rfl) (vl rfl) (by omega) (row_at hx_k)) (tp rfl (ok_loadA rfl agg107 sz107 (vl rfl) rfl rfl) ?_)
 refine TO.alloc rfl rfl (by decide) rfl z107 zo107 (fun b1 => ?_)
 refine tm rfl ?_
 refine sf 0 8 ⟨rfl, rfl, rfl⟩ rfl rfl rfl rfl ?_
 refine ao ?_
 refine ao ?_
 refine tp rfl (ok_indexAddr rfl Tryz.underlying39 sz107 (vl rfl) (vl rfl) (by omega) (row_at hy)) (tp rfl (ok_loadA rfl agg107 sz107 (vl rfl) rfl rfl) ?_)
 refine TO.alloc rfl rfl (by decide) rfl z107 zo107 (fun b2 => ?_)
 refine sf 0 9 ⟨rfl, rfl, rfl⟩ rfl rfl rfl rfl ?_
 refine ao ?_
 refine wk7 1 2 8 9 15 16 17 rfl ?_
 refine ac ?_
 refine co rfl (ok_callc (x, y) rfl (vl rfl) ⟨ke rfl, ke rfl, trivial⟩) ?_
 refine ac ?_
 refine Tr.cn rfl ?_ ?_ <;> intro h3 q3
 refine ac ?_
 refine ac ?_
 · refine bool_eq ?_; symm; rw [decide_eq_false_iff_not]; refine sameN hx_k hy ?_; rintro rfl; simp_all
 refine ac ?_
 refine ac ?_
 exact Fin.fam_same (k + 1) ⟨⟨hk_k, sameY hx_k hy hinv_k (by simp_all)⟩, by omega⟩ ⟨⟨_, rfl, int_succ k⟩, ke rfl, ke rfl, ke rfl, ke rfl, trivial⟩
 have he_k : k = (a).length := by have := ge_of_dec h2; omega
 subst he_k
 refine ac ?_
 refine ac ?_
 refine ac ?_
 · refine bool_eq ?_; symm; rw [decide_eq_true_eq]; exact sameA hll hinv_k
theorem w_EsSame {a b : Est}  : Fun Tryz.prog 32 [agg (rowSt a), agg (rowSt b)] (bool (decide (a = b))) := by
 refine fo Tryz.func32 rfl ⟨rfl, rfl⟩ fun M0 w0 => ?_
 refine ac ?_
 refine ac ?_
 refine co rfl (ok_call rfl (w_EqFE) ⟨ke rfl, ke rfl, ⟨_, rfl, fn_le_clo (dom := fun p : Ept × Ept => [agg (rowEp p.1), agg (rowEp p.2)]) (res := fun p => bool (decide (p.1 = p.2))) e_ESame (fun p => w_ESame (a := p.1) (b := p.2))⟩, trivial⟩) ?_
 refine cm rfl ?_
 refine Ch.cs 10 rfl ?_ ?_ <;> intro h1 q1
 refine ac ?_
 refine cy h1 rfl (kc2 (w_SEqG) rfl rfl rfl) ?_
 refine ac ?_
 refine Ch.cs 17 rfl ?_ ?_ <;> intro h2 q2
 refine ac ?_
 refine cy h2 rfl (ok_call rfl (w_EqFIt) ⟨ke rfl, ke rfl, ⟨_, rfl, fn_le_clo (dom := fun p : Itm × Itm => [agg (rowIt p.1), agg (rowIt p.2)]) (res := fun p => bool (decide (p.1 = p.2))) e_sameItem (fun p => w_sameItem (a := p.1) (b := p.2))⟩, trivial⟩) ?_
 refine ac ?_
 refine wk1 4 rfl ?_
 refine ac ?_
 · refine bool_eq ?_; cases a; cases b; simp_all [Bool.beq_eq_decide_eq]
 refine ac ?_
 refine wk1 4 rfl ?_
 refine ac ?_
 · refine bool_eq ?_; cases a; cases b; simp_all [Bool.beq_eq_decide_eq]
 refine ac ?_
 refine wk1 4 rfl ?_
 refine ac ?_
 · refine bool_eq ?_; cases a; cases b; simp_all [Bool.beq_eq_decide_eq]
theorem w_R25SameItem {a b : Itm} (hl : a.links.length ≤ 1000000000000) : Fun Tryz.prog 95 [agg (rowIt a), agg (rowIt b)] (bool (decide (a = b))) := by
 refine fo Tryz.func95 rfl ⟨rfl, rfl⟩ fun M0 w0 => ?_
 refine ac ?_
 refine ac ?_
 refine Ch.cs 11 rfl ?_ ?_ <;> intro h1 q1
 refine ac ?_
 refine wk3 2 3 40 rfl ?_
 refine ac ?_
 refine ac ?_
 · refine bool_eq ?_; symm; rw [decide_eq_false_iff_not]; rintro rfl; simp_all
 refine ac ?_
 refine Ch.cs 18 rfl ?_ ?_ <;> intro h2 q2
 refine ac ?_
 refine wk3 2 3 40 rfl ?_
 refine ac ?_
 refine ac ?_
 · refine bool_eq ?_; symm; rw [decide_eq_false_iff_not]; rintro rfl; simp_all
 refine ac ?_
 refine Ch.cs 25 rfl ?_ ?_ <;> intro h3 q3
 refine ac ?_
 refine wk3 2 3 40 rfl ?_
 refine ac ?_
 refine ac ?_
 · refine bool_eq ?_; symm; rw [decide_eq_false_iff_not]; rintro rfl; simp_all
 refine ac ?_
 refine Ch.cs 32 rfl ?_ ?_ <;> intro h4 q4
 refine ac ?_
 refine wk3 2 3 40 rfl ?_
 refine ac ?_
 refine ac ?_
 · refine bool_eq ?_; symm; rw [decide_eq_false_iff_not]; rintro rfl; simp_all
 refine ac ?_
 refine wk3 2 3 40 rfl ?_
 refine Tr.cn rfl ?_ ?_ <;> intro h5 q5
 refine ac ?_
 refine ac ?_
 · refine bool_eq ?_; symm; rw [decide_eq_false_iff_not]; rintro rfl; simp_all
 have hll : a.links.length = b.links.length := by simp_all; omega
 refine ac ?_
 refine ac ?_
 refine Tr.block (Tr.loopw [(2, _), (3, _), (43, _)] (kk3 rfl) (fun k : Nat => [(44, int ((k : Nat) : Int))]) (fun k : Nat => k ≤ (a.links).length ∧ (a.links.take k = b.links.take k)) (fun k : Nat => (a.links).length - k) 0 (⟨Nat.zero_le _, rfl⟩) ⟨ke rfl, trivial⟩ ?_)
 rintro k ⟨hle_k, hinv_k⟩
 refine ac ?_
 refine Tr.seq ?_
 refine Tr.cn rfl ?_ ?_ <;> intro h6 q6
 have hk_k : k < (a.links).length := lt_of_dec h6
 obtain ⟨x, hx_k⟩ := at_ hk_k
 obtain ⟨y, hy⟩ := at_ (l := b.links) (k := k) (by omega)
 refine ac ?_
 refine ac ?_
 refine ac ?_
 refine co rfl (ok_indexAddr rfl Tryz.underlying105 sz152 (vl rfl) (vl rfl) (by omega) (row_at hx_k)) ?_
 refine ac ?_
 refine co rfl (ok_indexAddr rfl Tryz.underlying105 sz152 (vl rfl) (vl rfl) (by omega) (row_at hy)) (co rfl (ok_loadA rfl agg152 sz152 (vl rfl) rfl rfl) (co rfl (ok_ne152 rfl (vl rfl) (vl rfl)) ?_))
 refine ac ?_
 refine wk5 2 3 43 44 57 rfl ?_
 refine Tr.cn rfl ?_ ?_ <;> intro h7 q7
 refine ac ?_
 refine ac ?_
 · refine bool_eq ?_; symm; rw [decide_eq_false_iff_not]; rintro rfl; simp_all
 refine ac ?_
 refine ac ?_
 exact Fin.fam_same (k + 1) ⟨⟨hk_k, sameY hx_k hy hinv_k (by cases x; cases y; simp_all)⟩, by omega⟩ ⟨⟨_, rfl, int_succ k⟩, ke rfl, ke rfl, ke rfl, trivial⟩
 have he_k : k = (a.links).length := by have := ge_of_dec h6; omega
 subst he_k
 refine ac ?_
 refine ac ?_
 refine ac ?_
 · refine bool_eq ?_; have hnn := sameA hll hinv_k; clear hinv_k hll hl; cases a; cases b; simp_all
theorem w_R25Same {a b : Est} (hl1 : a.eps.length ≤ 1000000000000) (hl2 : a.edges.length ≤ 1000000000000) (hl3 : a.items.length ≤ 1000000000000) (hli : ∀ x ∈ a.items, x.links.length ≤ 1000000000000) : Fun Tryz.prog 34 [agg (rowSt a), agg (rowSt b)] (bool (decide (a = b))) := by
 refine fo Tryz.func34 rfl ⟨rfl, rfl⟩ fun M0 w0 => ?_
 refine ac ?_
 refine ac ?_
 refine Ch.cs 15 rfl ?_ ?_ <;> intro h1 q1
 refine ac ?_
 refine wk3 2 3 32 rfl ?_
 refine ac ?_
 refine ac ?_
 · refine bool_eq ?_; symm; rw [decide_eq_false_iff_not]; rintro rfl; simp_all
 refine ac ?_
 refine Ch.cs 24 rfl ?_ ?_ <;> intro h2 q2
 refine ac ?_
 refine wk3 2 3 32 rfl ?_
 refine ac ?_
 refine ac ?_
 · refine bool_eq ?_; symm; rw [decide_eq_false_iff_not]; rintro rfl; simp_all
 refine ac ?_
 refine wk3 2 3 32 rfl ?_
 refine Tr.cn rfl ?_ ?_ <;> intro h3 q3
 refine ac ?_
 refine ac ?_
 · refine bool_eq ?_; symm; rw [decide_eq_false_iff_not]; rintro rfl; simp_all
 have hll : a.eps.length = b.eps.length ∧ a.edges.length = b.edges.length ∧ a.items.length = b.items.length := by simp_all; omega
 obtain ⟨hle_, hlg_, hlj_⟩ := hll
 refine ac ?_
 refine ac ?_
 refine Tr.block (Tr.loopw [(2, _), (3, _), (35, _)] (kk3 rfl) (fun k : Nat => [(36, int ((k : Nat) : Int))]) (fun k : Nat => k ≤ (a.eps).length ∧ (a.eps.take k = b.eps.take k)) (fun k : Nat => (a.eps).length - k) 0 (⟨Nat.zero_le _, rfl⟩) ⟨ke rfl, trivial⟩ ?_)
 rintro k ⟨hle_k, hinv_k⟩
 refine ac ?_
 refine Tr.seq ?_
 refine Tr.cn rfl ?_ ?_ <;> intro h4 q4
 have hk_k : k < (a.eps).length := lt_of_dec h4
 obtain ⟨x, hx_k⟩ := at_ hk_k
 obtain ⟨y, hy⟩ := at_ (l := b.eps) (k := k) (by omega)
 refine ac ?_
 refine ac ?_
 refine ac ?_
 refine co rfl (ok_indexAddr rfl Tryz.underlying37 sz32 (vl rfl) (vl rfl) (by omega) (row_at hx_k)) ?_
 refine ac ?_
 refine co rfl (ok_indexAddr rfl Tryz.underlying37 sz32 (vl rfl) (vl rfl) (by omega) (row_at hy)) (co rfl (ok_loadA rfl agg32 sz32 (vl rfl) rfl rfl) (co rfl (kc2 (w_R9Same) rfl rfl rfl) ?_))
 refine ac ?_
 refine wk5 2 3 35 36 50 rfl ?_
 refine Tr.cn rfl ?_ ?_ <;> intro h5 q5
 refine ac ?_
 refine ac ?_
 · refine bool_eq ?_; symm; rw [decide_eq_false_iff_not]; rintro rfl; simp_all
 refine ac ?_
 refine ac ?_
 exact Fin.fam_same (k + 1) ⟨⟨hk_k, sameY hx_k hy hinv_k (by simp_all)⟩, by omega⟩ ⟨⟨_, rfl, int_succ k⟩, ke rfl, ke rfl, ke rfl, trivial⟩
 have he_k : k = (a.eps).length := by have := ge_of_dec h4; omega
 subst he_k
 have hnk := sameA (by omega) hinv_k
 refine ac ?_
 refine ac ?_
 refine Tr.block (Tr.loopw [(2, _), (3, _), (54, _)] (kk3 rfl) (fun m : Nat => [(55, int ((m : Nat) : Int))]) (fun m : Nat => m ≤ (a.edges).length ∧ (a.edges.take m = b.edges.take m)) (fun m : Nat => (a.edges).length - m) 0 (⟨Nat.zero_le _, rfl⟩) ⟨ke rfl, trivial⟩ ?_)
 rintro m ⟨hle_m, hinv_m⟩
 refine ac ?_
 refine Tr.seq ?_
 refine Tr.cn rfl ?_ ?_ <;> intro h6 q6
 have hk_m : m < (a.edges).length := lt_of_dec h6
 obtain ⟨x, hx_m⟩ := at_ hk_m
 obtain ⟨y, hy⟩ := at_ (l := b.edges) (k := m) (by omega)
 refine ac ?_
 refine ac ?_
 refine ac ?_
 refine co rfl (ok_indexAddr rfl Tryz.underlying38 sz80 (vl rfl) (vl rfl) (by omega) (row_at hx_m)) ?_
 refine ac ?_
 refine co rfl (ok_indexAddr rfl Tryz.underlying38 sz80 (vl rfl) (vl rfl) (by omega) (row_at hy)) (co rfl (ok_loadA rfl agg80 sz80 (vl rfl) rfl rfl) (co rfl (ok_ne80 rfl (vl rfl) (vl rfl)) ?_))
 refine ac ?_
 refine wk5 2 3 54 55 68 rfl ?_
 refine Tr.cn rfl ?_ ?_ <;> intro h7 q7
 refine ac ?_
 refine ac ?_
 · refine bool_eq ?_; symm; rw [decide_eq_false_iff_not]; rintro rfl; simp_all
 refine ac ?_
 refine ac ?_
 exact Fin.fam_same (m + 1) ⟨⟨hk_m, sameY hx_m hy hinv_m (by cases x; cases y; simp_all)⟩, by omega⟩ ⟨⟨_, rfl, int_succ m⟩, ke rfl, ke rfl, ke rfl, trivial⟩
 have he_m : m = (a.edges).length := by have := ge_of_dec h6; omega
 subst he_m
 have hnm := sameA (by omega) hinv_m
 refine ac ?_
 refine ac ?_
 refine Tr.block (Tr.loopw [(2, _), (3, _), (72, _)] (kk3 rfl) (fun o : Nat => [(73, int ((o : Nat) : Int))]) (fun o : Nat => o ≤ (a.items).length ∧ (a.items.take o = b.items.take o)) (fun o : Nat => (a.items).length - o) 0 (⟨Nat.zero_le _, rfl⟩) ⟨ke rfl, trivial⟩ ?_)
 rintro o ⟨hle_o, hinv_o⟩
 refine ac ?_
 refine Tr.seq ?_
 refine Tr.cn rfl ?_ ?_ <;> intro h8 q8
 have hk_o : o < (a.items).length := lt_of_dec h8
 obtain ⟨x, hx_o⟩ := at_ hk_o
 obtain ⟨y, hy⟩ := at_ (l := b.items) (k := o) (by omega)
 have hxl := hli x (List.mem_of_getElem? hx_o)
 refine ac ?_
 refine ac ?_
 refine ac ?_
 refine co rfl (ok_indexAddr rfl Tryz.underlying39 sz107 (vl rfl) (vl rfl) (by omega) (row_at hx_o)) ?_
 refine ac ?_
 refine co rfl (ok_indexAddr rfl Tryz.underlying39 sz107 (vl rfl) (vl rfl) (by omega) (row_at hy)) (co rfl (ok_loadA rfl agg107 sz107 (vl rfl) rfl rfl) (co rfl (kc2 (w_R25SameItem hxl) rfl rfl rfl) ?_))
 refine ac ?_
 refine wk5 2 3 72 73 87 rfl ?_
 refine Tr.cn rfl ?_ ?_ <;> intro h9 q9
 refine ac ?_
 refine ac ?_
 · refine bool_eq ?_; symm; rw [decide_eq_false_iff_not]; rintro rfl; simp_all
 refine ac ?_
 refine ac ?_
 exact Fin.fam_same (o + 1) ⟨⟨hk_o, sameY hx_o hy hinv_o (by simp_all)⟩, by omega⟩ ⟨⟨_, rfl, int_succ o⟩, ke rfl, ke rfl, ke rfl, trivial⟩
 have he_o : o = (a.items).length := by have := ge_of_dec h8; omega
 subst he_o
 have hno := sameA (by omega) hinv_o
 refine ac ?_
 refine ac ?_
 refine ac ?_
 · refine bool_eq ?_; clear hinv_o; cases a; cases b; simp_all
def nameIs (n : List UInt8) (x : Ept) : Bool := decide (x.name = n)
def idxN (n : List UInt8) (l : List Ept) : Int := idx (nameIs n) l

theorem w_EsIdx1 {x : Ept} {n : List UInt8}  : Fun Tryz.prog 101 [agg (rowEp x), ref [str n]] (bool (nameIs n x)) := by
 refine fo Tryz.func101 rfl ⟨rfl, rfl⟩ fun M0 w0 => ?_
 refine ac ?_
 refine ac ?_
 refine ac ?_
 · exact Pr.le_refl _
theorem e_EsIdx1 : Entry Tryz.prog 101 := ⟨_, Tryz.func101, rfl, rfl⟩
theorem w_EsIndex {e : Est} {n : List UInt8}  : Fun Tryz.prog 44 [agg (rowSt e), str n] (tup [int (max (idxN n e.eps) 0), bool (decide (0 ≤ idxN n e.eps))]) := by
 refine fo Tryz.func44 rfl ⟨rfl, rfl⟩ fun M0 w0 => ?_
 refine ac ?_
 refine ac ?_
 refine co rfl (ok_call rfl (w_IdxEp (g := fun x : Ept => x) (l := e.eps) (p := nameIs n)) ⟨ke rfl, ⟨_, rfl, fn_le_clo (dom := fun x : Ept => [agg (rowEp x)]) (res := fun x => bool (nameIs n x)) e_EsIdx1 (fun x => w_EsIdx1 (n := n) (x := x))⟩, trivial⟩) ?_
 refine ac ?_
 refine ac ?_
 refine co rfl (ok_max rfl (vl rfl) (vl rfl)) ?_
 refine ac ?_
 refine wk2 4 5 rfl (Tr.ret (Fin.ret2 rfl (OutW.bse _ _) rfl ?_ rfl ?_))
 · exact Pr.le_refl _
 · exact bool_eq (by unfold idxN; simp)
def setAt (n : Int) (l : List Int) (i : Nat) : Bool := decide (0 ≤ l[i]?.getD 0) && decide (l[i]?.getD 0 < n) && (decide (i = 0) || decide (l[i - 1]?.getD 0 < l[i]?.getD 0))
/-- A set: ascending, below n. -/
def setB (n : Int) (l : List Int) : Bool := allI (setAt n l) l.length

theorem w_mvHas {l : List Int} {v : Int}  : Fun Tryz.prog 47 [ints l, int v] (bool (l.any fun x => v == x)) := by
 refine fo Tryz.func47 rfl ⟨rfl, rfl⟩ fun M0 w0 => (Tr.lenm 0 rfl fun hlm_0 => ?_)
 refine ac ?_
 refine ac ?_
 refine Tr.block (Tr.loopw [(1, _), (7, _), (8, _)] (kk3 rfl) (fun k : Nat => [(9, int ((k : Nat) : Int))]) (fun k : Nat => k ≤ (l).length ∧ ((l.take k).any (fun x => v == x) = false)) (fun k : Nat => (l).length - k) 0 (⟨Nat.zero_le _, rfl⟩) ⟨ke rfl, trivial⟩ ?_)
 rintro k ⟨hle_k, hinv_k⟩
 refine ac ?_
 refine Tr.seq ?_
 refine Tr.cn rfl ?_ ?_ <;> intro h1 q1
 have hk_k : k < (l).length := lt_of_dec h1
 obtain ⟨x, hx_k⟩ := at_ hk_k
 refine ac ?_
 refine Tr.seq (Tr.block (Tr.seq (Tr.reg0 (co rfl (ok_indexAddr rfl Tryz.underlying22 sz3 (vl rfl) (vl rfl) (by omega) (row_at hx_k)) ?_))))
 refine ac ?_
 refine ac ?_
 refine Tr.cn rfl ?_ ?_ <;> intro h2 q2
 refine ac ?_
 refine ac ?_
 · refine bool_eq ?_; symm; rw [List.any_eq_true]; exact ⟨_, List.mem_of_getElem? hx_k, by simp_all⟩
 refine ac ?_
 refine ac ?_
 exact Fin.fam_same (k + 1) ⟨⟨hk_k, (by rw [List.take_add_one, hx_k, List.any_append, hinv_k]; simp; omega)⟩, by omega⟩ ⟨⟨_, rfl, int_succ k⟩, ke rfl, ke rfl, ke rfl, trivial⟩
 have he_k : k = (l).length := by have := ge_of_dec h1; omega
 subst he_k
 refine ac ?_
 refine ac ?_
 refine ac ?_
 · refine bool_eq ?_; rw [List.take_length] at hinv_k; exact hinv_k.symm
end Go.Proofs.YtppeeogffbpcbaaGreat
namespace Go.Proofs.YtppeeogffbpcbaaGreat
open Go Go.RowKit Cp

/-- An estate of some size. -/
structure Est.sz (e : Est) (n : Nat) : Prop where
  eps : ∀ x ∈ e.eps, x.sz n
  items : ∀ x ∈ e.items, x.name.length ≤ maxLen ∧ x.links.length ≤ 1000000
  le : e.eps.length ≤ 1000000
  lg : e.edges.length ≤ 1000000
  li : e.items.length ≤ 1000000
theorem Est.sz.fits {e : Est} {n : Nat} (h : e.sz n) (hn : n ≤ 1000000) : e.fits :=
  ⟨fun x hx => ⟨(h.eps x hx).fits, (h.eps x hx).small hn⟩, fun x hx => (h.items x hx).1, by have := h.le; omega, by have := h.lg; omega, by have := h.li; omega⟩
theorem Est.sz.le_ {e : Est} {n m : Nat} (h : e.sz n) (hn : n ≤ m) : e.sz m := ⟨fun x hx => (h.eps x hx).le hn, h.items, h.le, h.lg, h.li⟩
theorem snocT {β γ : Type} {f : β → γ} {l : List β} {k : Nat} {x : β} (h : l[k]? = some x) : (l.take k).map f ++ [f x] = (l.take (k + 1)).map f := by rw [List.take_add_one, h, List.map_append]; rfl

theorem w_EsCopyV {e : Est} {n : Nat} (hz : e.sz n) (hn : n ≤ 1000000) : FunV Tryz.prog 88 [agg (rowSt e)] (fun x => agg [is x, edgs e.edges, itms e.items]) (fun x => [oweRes 32 9 (e.eps.map rowEp) x]) := by
 refine FunV.of Tryz.func88 rfl rfl (by exact Nat.le_of_ble_eq_true rfl) fun M0 w0 S rs M1 w1 => ?_
 have hl1 := hz.le
 have hl2 := hz.lg
 have hl3 := hz.li
 refine Tr.seq (Tr.regT (tp rfl (ok_box rfl (VL.le (vl rfl) (agg_cellsP _))) ?_))
 refine TO.alloc rfl rfl (by decide) rfl z41 zo41 (fun b1 => ?_)
 refine ao ?_
 refine ao ?_
 refine tp rfl (ok_appF rfl Tryz.underlying38 sz80 by80 z80 rfl (by decide) (vl rfl) (vl rfl) (by simp only [List.length_map, List.length_append, List.length_cons, List.length_nil, List.length_take]; unfold maxLen; omega) (by simp only [List.length_map, List.length_append, List.length_cons, List.length_nil, List.length_take]; omega)) ?_
 refine tp rfl (ok_build (rows := [(1, [_])]) rfl bl41 zo41 ⟨⟨rfl, (VL.le (vl rfl) (one_cellsP _))⟩, trivial⟩ rfl) ?_
 refine TO.alloc rfl rfl (by decide) rfl z41 zo41 (fun b2 => ?_)
 refine TO.store_all 0 rfl rfl rfl (vl rfl) (VL.le (vl rfl) (agg_cellsP _)) rfl sz41 rfl rfl ?_
 refine ao ?_
 refine ac ?_
 refine wk6 1 2 3 14 15 16 rfl (Tr.block (Tr.reC 0 [andIs (.slice none 0 0) (lens ((e.eps.take 0).map rowEp).length), edgs e.edges, is (.slice none 0 0)] rfl ⟨lens_nil rfl, Pr.le_of_eq rfl, Pr.le_refl _, trivial⟩ (Tr.addown 32 9 (Tr.loopV1 [(1, _), (2, _), (3, _), (14, _), (15, _)] ⟨ke rfl, ke rfl, ke rfl, ke rfl, ke rfl, trivial⟩ (fun k v => [(16, int ((k : Nat) : Int))]) (fun k v => Hp M0 w0 S (ownRes 32 9 ((e.eps.take k).map rowEp) v :: cellsRes true b2 41 [andIs v (lens ((e.eps.take k).map rowEp).length), edgs e.edges, is (.slice none 0 0)] :: cellsRes true b1 41 (([.slice none 0 0, .slice none 0 0, .slice none 0 0] : List Value).map is) :: extRes M1 w1 :: rs)) (fun k : Nat => k ≤ (e.eps).length) (fun k : Nat => (e.eps).length - k) 0 (.slice none 0 0) (Nat.zero_le _) ⟨ke rfl, trivial⟩ (fun _ _ h => h) ?_))))
 rintro k v hle_k
 refine ac ?_
 refine Tr.seq ?_
 refine Tr.cn rfl ?_ ?_ <;> intro h1 q1
 have hk_k : k < (e.eps).length := lt_of_dec h1
 obtain ⟨x, hx_k⟩ := at_ hk_k
 have hxs := (hz.eps x (List.mem_of_getElem? hx_k)).small hn
 refine ac ?_
 refine Tr.seq (Tr.block (Tr.seq (Tr.regT (tp rfl (ok_indexAddr rfl Tryz.underlying37 sz32 (vl rfl) (vl rfl) (by omega) (by exact row_at (by assumption))) ?_))))
 refine tp rfl (ok_loadA rfl agg32 sz32 (vl rfl) rfl rfl) ?_
 refine TO.alloc rfl rfl (by decide) rfl z32 zo32 (fun b3 => ?_)
 refine sf 0 5 ⟨rfl, rfl, rfl⟩ rfl rfl rfl rfl ?_
 refine ao ?_
 refine Tr.pad (Tr.rx ?_)
 refine ax ?_
 refine xo rfl (fun _ => kc1 (w_CopyEz hxs) rfl rfl) (xo rfl (fun _ => ok_buildSlice (xs := [.tmp 23]) (rows := [_]) rfl rfl Tryz.underlying37 sz32 z32 rfl (by decide) ⟨⟨(by exact rfl), (VL.le (vl rfl) (agg_cellsP _))⟩, trivial⟩ (by decide)) ?_)
 refine Cx.ef 1 rfl rfl (by decide) (ef_appmut rfl rfl (by decide) rfl Tryz.underlying37 sz32 by32 z32 rfl (by decide) (by decide) (vl rfl) ⟨_, rfl, full_le _ _⟩ (map_rows fun _ => rfl) (Nat.zero_lt_succ _) (by simp only [List.length_map, List.length_take, List.length_cons, List.length_nil]; unfold maxLen; omega) (by simp only [List.length_map, List.length_take, List.length_cons, List.length_nil]; omega)) ?_
 refine xo rfl (fun _ => okp_fieldAddr rfl fo41_0 (vl rfl)) (Cx.ef0 2 rfl rfl (ef_storeS rfl rfl rfl (vl rfl) rfl sz37 (by exact Nat.le_of_ble_eq_true rfl)) ?_)
 refine Cx.nil ⟨by kernel_rfl, ?_⟩
 refine FinX.open2 1 2 25 rfl rfl (by decide) rfl (fun v1 => ?_)
 refine FinX.done al5 ?_
 refine ac ?_
 refine Tr.drop 0 (wk6 1 2 3 14 15 16 rfl ?_)
 refine ac ?_
 refine Fin.reC 1 [andIs v1 (lens ((e.eps.take (k + 1)).map rowEp).length), edgs e.edges, is (.slice none 0 0)] rfl ⟨lens_le (by simp only [List.length_map, List.length_append, List.length_take, List.length_cons, List.length_nil]; omega), Pr.le_refl _, Pr.le_refl _, trivial⟩ ?_
 rw [snocT (f := rowEp) hx_k]
 exact Fin.famV1 (k + 1) v1 (⟨hk_k, by omega⟩) ⟨⟨_, rfl, int_succ k⟩, ke rfl, ke rfl, ke rfl, ke rfl, ke rfl, trivial⟩ (fun _ _ h => h)
 have he_k : k = (e.eps).length := by have := ge_of_dec h1; omega
 subst he_k
 rw [List.take_length]
 refine ac ?_
 refine ac ?_
 refine Tr.block (Tr.reC 1 [andIs v (lens (e.eps.map rowEp).length), edgs e.edges, andIs (.slice none 0 0) (itms (e.items.take 0))] rfl ⟨Pr.le_refl _, Pr.le_refl _, own_nil rfl, trivial⟩ (Tr.addnil 107 5 (Tr.loopV1 [(2, _), (3, _), (29, _), (30, _)] ⟨ke rfl, ke rfl, ke rfl, ke rfl, trivial⟩ (fun m u => [(31, int ((m : Nat) : Int))]) (fun m u => Hp M0 w0 S (appRes 107 5 u :: ownRes 32 9 (e.eps.map rowEp) v :: cellsRes true b2 41 [andIs v (lens (e.eps.map rowEp).length), edgs e.edges, andIs u (itms (e.items.take m))] :: cellsRes true b1 41 (([.slice none 0 0, .slice none 0 0, .slice none 0 0] : List Value).map is) :: extRes M1 w1 :: rs)) (fun m : Nat => m ≤ (e.items).length) (fun m : Nat => (e.items).length - m) 0 (.slice none 0 0) (Nat.zero_le _) ⟨ke rfl, trivial⟩ (fun _ _ h => h) ?_)))
 rintro m u hle_m
 refine ac ?_
 refine Tr.seq ?_
 refine Tr.cn rfl ?_ ?_ <;> intro h2 q2
 have hk_m : m < (e.items).length := lt_of_dec h2
 obtain ⟨y, hx_m⟩ := at_ hk_m
 have hyl := (hz.items y (List.mem_of_getElem? hx_m)).2
 refine ac ?_
 refine Tr.seq (Tr.block (Tr.seq (Tr.regT (tp rfl (ok_indexAddr rfl Tryz.underlying39 sz107 (vl rfl) (vl rfl) (by omega) (by exact row_at (by assumption))) ?_))))
 refine tp rfl (ok_loadA rfl agg107 sz107 (vl rfl) rfl rfl) ?_
 refine TO.alloc rfl rfl (by decide) rfl z107 zo107 (fun b4 => ?_)
 refine TO.store_all 0 rfl rfl rfl (vl rfl) (VL.le (vl rfl) (agg_cellsP _)) rfl sz107 rfl rfl ?_
 refine ao ?_
 refine ao ?_
 refine tp rfl (ok_appF rfl Tryz.underlying105 sz152 by152 z152 rfl (by decide) (vl rfl) (vl rfl) (by simp only [List.length_map, List.length_append, List.length_cons, List.length_nil, List.length_take]; unfold maxLen; omega) (by simp only [List.length_map, List.length_append, List.length_cons, List.length_nil, List.length_take]; omega)) ?_
 refine tp rfl (okp_fieldAddr rfl fo107_3 (vl rfl)) (TO.ef0 0 rfl rfl (ef_store rfl rfl (vl rfl) (VL.le (vl rfl) (one_cellsP _)) sz105 rfl (by exact Nat.le_of_ble_eq_true rfl) rfl) ?_)
 refine ao ?_
 refine wk6 2 3 7 29 30 31 rfl ?_
 refine ao ?_
 refine TO.efs 1 rfl rfl (by decide) (ef_append rfl rfl (by decide) rfl Tryz.underlying39 sz107 by107 z107 rfl (by decide) ⟨_, rfl, andIs_le _ _⟩ ⟨_, rfl, full_le _ _⟩ (by simp only [List.length_map, List.length_append, List.length_cons, List.length_nil, List.length_take]; unfold maxLen; omega) (by simp only [List.length_map, List.length_append, List.length_cons, List.length_nil, List.length_take]; omega) (appR_is (by exact List.Mem.head _) ⟨_, rfl, andIs_is _ _⟩)) (fun v2 => ?_)
 refine tp rfl (okp_fieldAddr rfl fo41_2 (vl rfl)) (TO.ef0 3 rfl rfl (ef_store rfl rfl (vl rfl) (VL.le (vl rfl) (one_cellsP _)) sz39 rfl (by exact Nat.le_of_ble_eq_true rfl) rfl) ?_)
 refine ao ?_
 refine Tr.drop 0 ?_
 refine ac ?_
 refine Fin.reC 2 [andIs v (lens (e.eps.map rowEp).length), edgs e.edges, andIs v2 (itms (e.items.take (m + 1)))] rfl ⟨Pr.le_refl _, Pr.le_refl _, own_le (snocT (f := rowIt) hx_m), trivial⟩ (Fin.famV1 (m + 1) v2 (⟨hk_m, by omega⟩) ⟨⟨_, rfl, int_succ m⟩, ke rfl, ke rfl, ke rfl, ke rfl, trivial⟩ (fun _ _ h => h))
 have he_m : m = (e.items).length := by have := ge_of_dec h2; omega
 subst he_m
 refine ac ?_
 refine ao ?_
 refine TO.store_all 3 rfl rfl rfl (vl rfl) (VL.le (vl rfl) (agg_cellsP _)) rfl sz41 rfl rfl ?_
 refine ao ?_
 refine Tr.ret (Fin.toOwe 1 rfl (Fin.drop 0 (Fin.drop 1 (Fin.swap01 (Fin.retV v [_] rfl (RVal.cell 0 rfl rfl agg41 sz41 rfl (Pr.le_refl _)) ?_ (List.Perm.refl _))))))
 · exact agg_le ⟨andIs_is _ _, Pr.le_refl _, Pr.le_trans (andIs_le _ _) (Pr.le_of_eq (by rw [List.take_length])), trivial⟩
/-- What a change makes of endpoints. -/
def apE (l : List Ept) (c : Chg) : List Ept × Int :=
  if c.endpoint < 0 ∨ ((l.length : Nat) : Int) ≤ c.endpoint then (l, 40)
  else match l[c.endpoint.toNat]? with
    | none => (l, 40)
    | some x => if (doneR x c).2.2 = 0 then (l.set c.endpoint.toNat (doneR x c).1, 0) else (l, (doneR x c).2.2)
theorem apE_bad {l : List Ept} {c : Chg} (h : c.endpoint < 0 ∨ ((l.length : Nat) : Int) ≤ c.endpoint) : apE l c = (l, 40) := if_pos h
theorem apE_at {l : List Ept} {c : Chg} {x : Ept} (h : ¬ (c.endpoint < 0 ∨ ((l.length : Nat) : Int) ≤ c.endpoint)) (hx : l[c.endpoint.toNat]? = some x) : apE l c = if (doneR x c).2.2 = 0 then (l.set c.endpoint.toNat (doneR x c).1, 0) else (l, (doneR x c).2.2) := by
  unfold apE; rw [if_neg h, hx]

theorem w_Esapply {l : List Ept} {c : Chg} {n eb : Nat} {v : Value} {p1 p2 : Pr} (hz : ∀ x ∈ l, x.sz n) (hn : n ≤ 900000) (hl : l.length ≤ 1000000) (hc : c.idn.fits ∧ c.idn.small) : FunD Tryz.prog 89 [ptr eb 0, agg (rowChg c)] [cellsRes true eb 41 [is v, p1, p2], oweRes 32 9 (l.map rowEp) v] (int (apE l c).2) [cellsRes true eb 41 [is v, p1, p2], oweRes 32 9 ((apE l c).1.map rowEp) v] := by
 refine FunD.of Tryz.func89 rfl rfl (by exact Nat.le_of_ble_eq_true rfl) fun M0 w0 S rs M1 w1 => (Tr.seq ?_)
 have hml : (l.map rowEp).length = l.length := List.length_map _
 refine ac ?_
 refine ac ?_
 refine Ch.cs 10 rfl ?_ ?_ <;> intro h1 q1
 refine ac ?_
 refine wk3 0 3 19 rfl ?_
 refine ac ?_
 refine Tr.ret (Fin.then_ret ?_)
 rw [apE_bad (l := l) (c := c) (by omega)]
 refine Fin.retD rfl (RVal.tmp rfl (Pr.le_refl _)) ?_ (List.Perm.refl _)
 · exact Pr.le_refl _
 refine ac ?_
 refine cy h1 rfl (ok_rd 1 rfl (rd_lenW rfl Tryz.underlying37 (vl rfl))) ?_
 refine ac ?_
 refine wk3 0 3 19 rfl ?_
 refine Tr.cn rfl ?_ ?_ <;> intro h2 q2
 have hA := apE_bad (l := l) (c := c) (by omega)
 refine ac ?_
 refine Tr.ret (Fin.then_ret ?_)
 rw [hA]
 refine Fin.retD rfl (RVal.tmp rfl (Pr.le_refl _)) ?_ (List.Perm.refl _)
 · exact Pr.le_refl _
 obtain ⟨x, hx⟩ := at_ (l := l) (k := c.endpoint.toNat) (by omega)
 have hA := apE_at (l := l) (c := c) (by omega) hx
 have hlt := lt_of_at hx
 refine ac ?_
 refine Tr.seq (Tr.pad (Tr.rx ?_))
 refine ax ?_
 refine xrd 2 rfl rfl (rd_elp rfl Tryz.underlying37 sz32 (vl rfl) (vl rfl) (by omega) (by rw [List.length_map]; omega)) ?_
 refine xrd 2 rfl rfl (rd_elload rfl agg32 sz32 (vl rfl) (map_rows fun _ => rfl) (by rw [List.getElem?_map, hx]; rfl)) ?_
 refine xo rfl (fun _ => ok_loadA rfl agg29 sz29 (vl rfl) rfl rfl) ?_
 refine xo rfl (fun _ => kc2 (w_Apply24 (hz x (List.mem_of_getElem? hx)).fits ((hz x (List.mem_of_getElem? hx)).small (by omega)) hc.1 hc.2) rfl rfl rfl) ?_
 refine ax ?_
 refine Cx.ef 0 rfl rfl (by decide) (ef_allocX rfl rfl (by decide) rfl z32 zo32) (Cx.ef0 0 rfl rfl (ef_storeX rfl rfl rfl rfl (VL.le (vl rfl) (agg_cellsP _)) sz32 rfl rfl) (xm rfl ?_))
 refine Cx.nil ⟨by kernel_rfl, ?_⟩
 refine FinX.open_ 0 5 rfl rfl (fun v1 => ?_)
 refine FinX.done al4 (Fin.opn 5 0 _ rfl rfl (fun _ => rfl) (fun b1 => ?_))
 refine Fin.go (wk4 0 3 5 6 rfl ?_)
 refine ac ?_
 refine Tr.cn rfl ?_ ?_ <;> intro h3 q3
 rw [if_pos (by have := q3; omega)] at hA
 refine Tr.rx ?_
 refine ax ?_
 refine xrd 2 rfl rfl (rd_elp rfl Tryz.underlying37 sz32 (vl rfl) (vl rfl) (by omega) (by rw [List.length_map]; omega)) ?_
 refine Cx.ef0 2 rfl rfl (ef_elstore rfl rfl (vl rfl) (VL.le (vl rfl) (agg_cellsP _)) sz32 rfl (map_rows fun _ => rfl) (by rw [List.getElem?_map, hx]; rfl) (by decide) (show _ = (l.set c.endpoint.toNat (doneR x c).1).map rowEp by rw [List.map_set]; rfl)) ?_
 refine Cx.nil ⟨by kernel_rfl, ?_⟩
 refine FinX.done al4 (Fin.go (Tr.drop 0 (wk1 6 rfl ?_)))
 refine ac ?_
 refine Tr.ret ?_
 rw [hA]
 refine Fin.retD rfl (RVal.tmp rfl (Pr.le_refl _)) ?_ (List.Perm.refl _)
 · refine int_eq ?_; simp_all
 rw [if_neg (by have := q3; omega)] at hA
 refine ac ?_
 refine Tr.drop 0 ?_
 refine ac ?_
 refine Tr.ret ?_
 rw [hA]
 refine Fin.retD rfl (RVal.tmp rfl (Pr.le_refl _)) ?_ (List.Perm.refl _)
 · exact Pr.le_refl _
end Go.Proofs.YtppeeogffbpcbaaGreat
namespace Go.Proofs.YtppeeogffbpcbaaGreat
open Go Go.RowKit Cp

/-- What changes, one after the other, make of endpoints. -/
def runE (l : List Chg) : List Int → List Ept → List Ept × Int
  | [], eps => (eps, 0)
  | i :: s, eps => match l[i.toNat]? with
    | none => (eps, 0)
    | some c => if (apE eps c).2 = 0 then runE l s (apE eps c).1 else (eps, (apE eps c).2)
/-- The state of a set. -/
def stE (e : Est) (l : List Chg) (s : List Int) : Est × Int :=
  if estB e = false then (zeroSt, 31)
  else if 24 < l.length then (zeroSt, 3)
  else if setB l.length s = false then (zeroSt, 46)
  else if (runE l s e.eps).2 = 0 then (⟨(runE l s e.eps).1, e.edges, e.items⟩, 0) else (zeroSt, (runE l s e.eps).2)
theorem runE_step {l : List Chg} {s : List Int} {eps : List Ept} {k : Nat} {i : Int} {c : Chg} (hi : s[k]? = some i) (hc : l[i.toNat]? = some c) : runE l (s.drop k) eps = if (apE eps c).2 = 0 then runE l (s.drop (k + 1)) (apE eps c).1 else (eps, (apE eps c).2) := by
  have hk := lt_of_at hi
  rw [List.drop_eq_getElem_cons hk]
  rw [List.getElem?_eq_getElem hk] at hi; cases hi
  rw [runE]; rw [hc]
theorem apE_len (l : List Ept) (c : Chg) : (apE l c).1.length = l.length := by
  unfold apE; split
  · rfl
  · split
    · rfl
    · split
      · exact List.length_set
      · rfl
theorem apE_sz {l : List Ept} {c : Chg} {n : Nat} (hz : ∀ x ∈ l, x.sz n) (hi : c.idn.fits ∧ c.idn.small) : ∀ x ∈ (apE l c).1, x.sz (n + 1) := by
  have hz1 : ∀ x ∈ l, x.sz (n + 1) := fun x hx => (hz x hx).le (by omega)
  unfold apE; split
  · exact hz1
  · split
    · exact hz1
    next x hx =>
    split
    next h0 =>
      intro y hy
      rcases List.mem_or_eq_of_mem_set hy with hy | hy
      · exact hz1 y hy
      · subst hy
        exact (sz_done (b := (doneR x c).2.1) (by rw [← h0]) (hz x (List.mem_of_getElem? hx)) hi).1
    · exact hz1
def lastS (s : List Int) (k : Nat) : Int := if k = 0 then -1 else s[k - 1]?.getD 0
theorem lastS_succ {s : List Int} {k : Nat} {i : Int} (h : s[k]? = some i) : lastS s (k + 1) = i := by unfold lastS; rw [if_neg (by omega), Nat.add_sub_cancel, h]; rfl
theorem setAt_last {n : Int} {s : List Int} {k : Nat} {i : Int} (h : ∀ j, j < k → setAt n s j = true) (hi : s[k]? = some i) : setAt n s k = !(decide (i ≤ lastS s k) || decide (n ≤ i)) := by
  have hk := lt_of_at hi
  unfold setAt lastS
  rw [hi, Option.getD_some]
  rcases Nat.eq_zero_or_pos k with hz | hz
  · subst hz; rw [Bool.eq_iff_iff]; simp; omega
  · have h1 := h (k - 1) (by omega)
    unfold setAt at h1
    simp only [Bool.and_eq_true, decide_eq_true_eq] at h1
    rw [if_neg (by omega), Bool.eq_iff_iff]; simp; omega
theorem set_bad {n : Int} {s : List Int} {k : Nat} {i : Int} (h : ∀ j, j < k → setAt n s j = true) (hi : s[k]? = some i) (hb : i ≤ lastS s k ∨ n ≤ i) : setB n s = false :=
  allI_hit (p := setAt n s) (k := k) (lt_of_at hi) (by rw [setAt_last h hi]; simp; omega)
theorem set_ge {n : Int} {s : List Int} (h : ∀ j, j < s.length → setAt n s j = true) : ∀ j, j < s.length → (j : Int) ≤ s[j]?.getD 0
  | 0, hj => by have := h 0 hj; unfold setAt at this; simp at this; simp; omega
  | j + 1, hj => by
    have h1 := set_ge h j (by omega)
    have := h (j + 1) hj
    unfold setAt at this
    simp only [Bool.and_eq_true, Bool.or_eq_true, decide_eq_true_eq, Nat.add_sub_cancel] at this
    omega
theorem set_len {n : Nat} {s : List Int} (h : setB n s = true) : s.length ≤ n := by
  unfold setB at h; rw [allI_iff] at h
  rcases Nat.eq_zero_or_pos s.length with hz | hz
  · omega
  · have h1 := set_ge h (s.length - 1) (by omega)
    have h2 := h (s.length - 1) (by omega)
    unfold setAt at h2
    simp only [Bool.and_eq_true, decide_eq_true_eq] at h2
    omega
theorem set_mem {n : Nat} {s : List Int} (h : setB n s = true) {k : Nat} {i : Int} (hi : s[k]? = some i) : 0 ≤ i ∧ i < n := by
  unfold setB at h; rw [allI_iff] at h
  have h2 := h k (lt_of_at hi)
  unfold setAt at h2
  rw [hi] at h2
  simp only [Option.getD_some, Bool.and_eq_true, decide_eq_true_eq] at h2
  exact h2.1

theorem w_EsState {e : Est} {l : List Chg} {s : List Int} {n : Nat} (hz : e.sz n) (hn : n ≤ 800000) (hc : ∀ c ∈ l, c.idn.fits ∧ c.idn.small) : Fun Tryz.prog 31 [agg (rowSt e), slice 8 (l.map rowChg), ints s] (tup [agg (rowSt (stE e l s).1), int (stE e l s).2]) := by
 refine fo Tryz.func31 rfl ⟨rfl, rfl⟩ fun M0 w0 => (Tr.lenm 1 rfl fun hlm_1 => (Tr.lenm 2 rfl fun hlm_2 => (Tr.seq (Tr.regT (tp rfl (ok_box rfl (VL.le (vl rfl) (agg_cellsP _))) ?_)))))
 refine TO.alloc rfl rfl (by decide) rfl z41 zo41 (fun b1 => ?_)
 refine ap ?_
 refine ac ?_
 refine co rfl (kc1 (w_XCheck (hz.fits (by omega))) rfl rfl) ?_
 refine ac ?_
 refine Tr.cn rfl ?_ ?_ <;> intro h1 q1
 have hA : stE e l s = (zeroSt, 31) := if_pos (by have := q1; cases h_ : estB e <;> simp_all)
 refine ap ?_
 refine Tr.ret (Fin.block_ret (Fin.then_ret (Fin.retX2 rfl (RVal.cell 0 rfl rfl agg41 sz41 rfl (Pr.le_refl _)) (RVal.tmp rfl (Pr.le_refl _)) ?_)))
 refine tup_le ⟨?_, ?_, trivial⟩
 · rw [hA]; exact agg_le ⟨nil_slice 9, nil_slice 2, nil_slice 5, trivial⟩
 · exact int_eq (by rw [hA])
 have hok : estB e = true := by have := q1; cases h_ : estB e <;> simp_all
 refine ac ?_
 refine Tr.cn rfl ?_ ?_ <;> intro h2 q2
 have hA : stE e l s = (zeroSt, 3) := by unfold stE; rw [if_neg (by simp [hok]), if_pos (by have := q2; omega)]
 refine ap ?_
 refine wk2 6 7 rfl (Tr.ret (Fin.block_ret (Fin.then_ret (Fin.retX2 rfl (RVal.cell 0 rfl rfl agg41 sz41 rfl (Pr.le_refl _)) (RVal.tmp rfl (Pr.le_refl _)) ?_))))
 refine tup_le ⟨?_, ?_, trivial⟩
 · rw [hA]; exact agg_le ⟨nil_slice 9, nil_slice 2, nil_slice 5, trivial⟩
 · exact int_eq (by rw [hA])
 have hl24 : l.length ≤ 24 := by have := q2; omega
 refine ac ?_
 refine ac ?_
 refine ac ?_
 refine wk8 1 2 3 6 8 25 26 27 rfl (Tr.block (Tr.loopw [(1, _), (2, _), (3, _), (6, _), (25, _), (26, _)] (kk6 rfl) (fun k : Nat => [(27, int ((k : Nat) : Int)), (8, int (lastS s k))]) (fun k : Nat => k ≤ (s).length ∧ (∀ j, j < k → setAt l.length s j = true)) (fun k : Nat => (s).length - k) 0 (⟨Nat.zero_le _, fun j hj => absurd hj (by omega)⟩) ⟨ke rfl, ⟨_, rfl, int_eq rfl⟩, trivial⟩ ?_))
 rintro k ⟨hle_k, hinv_k⟩
 refine ac ?_
 refine Tr.seq ?_
 refine Tr.cn rfl ?_ ?_ <;> intro h3 q3
 have hk_k : k < (s).length := lt_of_dec h3
 obtain ⟨i, hx_k⟩ := at_ hk_k
 have hsl := setAt_last hinv_k hx_k
 refine ac ?_
 refine Tr.seq (Tr.block (Tr.seq (Tr.reg0 (co rfl (ok_indexAddr rfl Tryz.underlying59 sz3 (vl rfl) (vl rfl) (by omega) (row_at hx_k)) ?_))))
 refine ac ?_
 refine ac ?_
 refine Ch.cs 34 rfl ?_ ?_ <;> intro h4 q4
 refine ac ?_
 refine wk9 1 2 3 6 10 25 26 27 39 rfl (Tr.cond rfl (fun _ => ?_) (fun h => nomatch h))
 refine Tr.seq (Tr.regT (tp rfl (ok_build (rows := []) rfl bl41 zo41 trivial rfl) (TO.store_all 0 rfl rfl rfl (vl rfl) (VL.le (vl rfl) (agg_cellsP _)) rfl sz41 rfl rfl (tm rfl (TO.nil (Fin.go (Tr.ret (Fin.then_ret (Fin.block_ret (Fin.then_ret (Fin.then_ret (Fin.block_ret (Fin.then_ret (Fin.retX2 rfl (RVal.cell 0 rfl rfl agg41 sz41 rfl (Pr.le_refl _)) (RVal.tmp rfl (Pr.le_refl _)) ?_))))))))))))))
 refine tup_le ⟨?_, ?_, trivial⟩
 · rw [(show stE e l s = (zeroSt, 46) by unfold stE; rw [if_neg (by simp [hok]), if_neg (by omega), if_pos (set_bad hinv_k hx_k (by omega))])]; exact agg_le ⟨nil_slice 9, nil_slice 2, nil_slice 5, trivial⟩
 · exact int_eq (by rw [(show stE e l s = (zeroSt, 46) by unfold stE; rw [if_neg (by simp [hok]), if_neg (by omega), if_pos (set_bad hinv_k hx_k (by omega))])])
 refine ac ?_
 refine wk9 1 2 3 6 10 25 26 27 39 rfl ?_
 refine Tr.cn rfl ?_ ?_ <;> intro h5 q5
 refine ap ?_
 refine Tr.ret (Fin.then_ret (Fin.block_ret (Fin.then_ret (Fin.then_ret (Fin.block_ret (Fin.then_ret (Fin.retX2 rfl (RVal.cell 0 rfl rfl agg41 sz41 rfl (Pr.le_refl _)) (RVal.tmp rfl (Pr.le_refl _)) ?_)))))))
 refine tup_le ⟨?_, ?_, trivial⟩
 · rw [(show stE e l s = (zeroSt, 46) by unfold stE; rw [if_neg (by simp [hok]), if_neg (by omega), if_pos (set_bad hinv_k hx_k (by omega))])]; exact agg_le ⟨nil_slice 9, nil_slice 2, nil_slice 5, trivial⟩
 · exact int_eq (by rw [(show stE e l s = (zeroSt, 46) by unfold stE; rw [if_neg (by simp [hok]), if_neg (by omega), if_pos (set_bad hinv_k hx_k (by omega))])])
 refine ac ?_
 refine ac ?_
 refine ac ?_
 exact Fin.fam_same (k + 1) ⟨⟨hk_k, allI_step hinv_k (by rw [hsl]; simp; omega)⟩, by omega⟩ ⟨⟨_, rfl, int_succ k⟩, ⟨_, rfl, int_eq (by rw [lastS_succ hx_k])⟩, ke rfl, ke rfl, ke rfl, ke rfl, ke rfl, ke rfl, trivial⟩
 have he_k : k = (s).length := by have := ge_of_dec h3; omega
 subst he_k
 have hsb : setB l.length s = true := allI_iff.2 hinv_k
 have hsn := set_len hsb
 have hel := hz.le
 refine ac ?_
 refine ap ?_
 refine TO.callV rfl rfl (by decide) rfl (w_EsCopyV hz (by omega)) ⟨ke rfl, trivial⟩ (fun v1 => ?_)
 refine TO.alloc rfl rfl (by decide) rfl z41 zo41 (fun b2 => ?_)
 refine ap ?_
 refine ac ?_
 refine wk6 1 6 11 45 46 47 rfl (Tr.block (Tr.loopD2V0 [(1, _), (6, _), (11, _), (45, _), (46, _)] ⟨ke rfl, ke rfl, ke rfl, ke rfl, ke rfl, trivial⟩ (fun (m : Nat) (eps : List Ept) => [(47, int ((m : Nat) : Int))]) (fun (m : Nat) (eps : List Ept) => Hp M0 w0 noS ([cellsRes true b2 41 [is v1, edgs e.edges, itms e.items], oweRes 32 9 (eps.map rowEp) v1, cellsRes true b1 41 (([.slice none 0 0, .slice none 0 0, .slice none 0 0] : List Value).map is)])) (fun (m : Nat) (eps : List Ept) => m ≤ s.length ∧ (∀ x ∈ eps, x.sz (n + m)) ∧ eps.length = e.eps.length ∧ runE l (s.drop m) eps = runE l s e.eps) (fun (m : Nat) (eps : List Ept) => s.length - m) (0) (e.eps)  (⟨Nat.zero_le _, hz.eps, rfl, rfl⟩) ⟨ke rfl, trivial⟩ (fun _ _ h => h) ?_))
 rintro m eps  ⟨hm1, hse, hm3, hm4⟩
 refine ac ?_
 refine Tr.seq ?_
 refine Tr.cn rfl ?_ ?_ <;> intro h6 q6
 have hmm : m < s.length := by have := Nrm.nrm h6; omega
 obtain ⟨i, hx_m⟩ := at_ hmm
 have him := set_mem hsb hx_m
 obtain ⟨c, hcc⟩ := at_ (l := l) (k := i.toNat) (by omega)
 have hci := hc c (List.mem_of_getElem? hcc)
 have hst := runE_step (eps := eps) hx_m hcc
 rw [hm4] at hst
 refine ac ?_
 refine Tr.seq (Tr.block (Tr.seq (Tr.reg0 (co rfl (ok_indexAddr rfl Tryz.underlying59 sz3 (vl rfl) (vl rfl) (by omega) (row_at hx_m)) ?_))))
 refine ac ?_
 refine ap ?_
 refine tp rfl (ok_indexAddr rfl Tryz.underlying47 sz29 (vl rfl) (vl rfl) (by omega) (row_atI (f := rowChg) hcc)) (tp rfl (ok_loadA rfl agg29 sz29 (vl rfl) rfl rfl) ?_)
 refine TO.callD _ rfl rfl (by decide) rfl (w_Esapply (l := eps) (c := c) hse (by omega) (by omega) hci) ⟨ke rfl, ke rfl, trivial⟩ ((perm_at (j := 0) rfl).trans (List.Perm.cons _ ((perm_at (j := 0) rfl).trans (List.Perm.cons _ (List.Perm.refl _))))) ?_
 refine ap ?_
 refine wk7 1 6 11 14 45 46 47 rfl ?_
 refine ac ?_
 refine Tr.cn rfl ?_ ?_ <;> intro h7 q7
 have h0_ : ¬ (apE eps c).2 = 0 := by have := q7; omega
 rw [if_neg h0_] at hst
 have hA : stE e l s = (zeroSt, (apE eps c).2) := by unfold stE; rw [if_neg (by simp [hok]), if_neg (by omega), if_neg (by simp [hsb]), hst]; exact if_neg h0_
 refine ap ?_
 refine Tr.ret (Fin.block_ret (Fin.then_ret (Fin.then_ret (Fin.block_ret (Fin.then_ret (Fin.retX2 rfl (RVal.cell 2 rfl rfl agg41 sz41 rfl (Pr.le_refl _)) (RVal.tmp rfl (Pr.le_refl _)) ?_))))))
 refine tup_le ⟨?_, ?_, trivial⟩
 · rw [hA]; exact agg_le ⟨nil_slice 9, nil_slice 2, nil_slice 5, trivial⟩
 · exact int_eq (by rw [hA])
 have h0_ := q7
 refine ac ?_
 refine ac ?_
 exact Fin.famD2V0 (m + 1) ((apE eps c).1)  (⟨⟨by omega, by have := apE_sz (c := c) hse hci; rw [show n + (m + 1) = n + m + 1 by omega]; exact this, by rw [apE_len]; exact hm3, by rw [hst, if_pos (by omega)]⟩, by omega⟩) ⟨⟨_, rfl, int_succ m⟩, ke rfl, ke rfl, ke rfl, ke rfl, ke rfl, trivial⟩ (fun _ _ h => h)
 obtain rfl : m = s.length := by have := Nrm.nrm h6; omega
 rw [List.drop_length] at hm4
 have hA : stE e l s = (⟨eps, e.edges, e.items⟩, 0) := by unfold stE; rw [if_neg (by simp [hok]), if_neg (by omega), if_neg (by simp [hsb]), ← hm4]; exact if_pos rfl
 refine ac ?_
 refine Tr.seq (Tr.frzWC 0 1 0 rfl rfl (by decide) rfl (Pr.le_refl _) (map_rows fun _ => rfl) ?_)
 refine ap ?_
 refine Tr.ret (Fin.retX2 rfl (RVal.cell 2 rfl rfl agg41 sz41 rfl (Pr.le_refl _)) (RVal.tmp rfl (Pr.le_refl _)) ?_)
 refine tup_le ⟨?_, ?_, trivial⟩
 · rw [hA]; exact Pr.le_refl _
 · exact int_eq (by rw [hA])
end Go.Proofs.YtppeeogffbpcbaaGreat
namespace Go.Proofs.YtppeeogffbpcbaaGreat
open Go Go.RowKit Cp

theorem set0 : setB ((1 : Nat) : Int) [0] = true := by decide
/-- One change of an estate. -/
def stp (e : Est) (c : Chg) : Est × Int := if (apE e.eps c).2 = 0 then (⟨(apE e.eps c).1, e.edges, e.items⟩, 0) else (zeroSt, (apE e.eps c).2)
def aplE (e : Est) (c : Chg) : Est × Int := if estB e = false then (zeroSt, 31) else stp e c
theorem runE_one (c : Chg) (eps : List Ept) : runE [c] [0] eps = if (apE eps c).2 = 0 then ((apE eps c).1, 0) else (eps, (apE eps c).2) := rfl
theorem st_one (e : Est) (c : Chg) : stE e [c] [0] = aplE e c := by
  unfold stE aplE
  by_cases h : estB e = false
  · rw [if_pos h, if_pos h]
  · rw [if_neg h, if_neg h, if_neg (by simp), if_neg (by show ¬ setB ((1 : Nat) : Int) [0] = false; rw [set0]; decide), runE_one]
    unfold stp
    by_cases h2 : (apE e.eps c).2 = 0
    · rw [if_pos h2, if_pos rfl, if_pos h2]
    · rw [if_neg h2, if_neg h2, if_neg h2]
theorem w_EsApply {e : Est} {c : Chg} {n : Nat} (hz : e.sz n) (hn : n ≤ 800000) (hci : c.idn.fits ∧ c.idn.small) : Fun Tryz.prog 33 [agg (rowSt e), agg (rowChg c)] (tup [agg (rowSt (aplE e c).1), int (aplE e c).2]) := by
 refine fo Tryz.func33 rfl ⟨rfl, rfl⟩ fun M0 w0 => (Tr.seq (Tr.regT (tp rfl (ok_box rfl (VL.le (vl rfl) (agg_cellsP _))) (tp rfl (ok_box rfl (VL.le (vl rfl) (agg_cellsP _))) ?_))))
 refine TO.alloc rfl rfl (by decide) rfl z41 zo41 (fun b1 => ?_)
 refine ap ?_
 refine ap ?_
 refine tp rfl (ok_call rfl (w_EsState (e := e) (l := [c]) (s := [0]) hz hn (fun x hx => by simp at hx; subst hx; exact hci)) ⟨ke rfl, ⟨_, rfl, Pr.le_trans (full_le _ _) (Pr.le_of_eq (show _ = slice 8 (([c] : List Chg).map rowChg) from rfl))⟩, ⟨_, rfl, Pr.le_trans (full_le _ _) (Pr.le_of_eq (show _ = ints [0] from rfl))⟩, trivial⟩) ?_
 refine ap ?_
 refine Tr.ret (Fin.retX2 rfl (RVal.cell 0 rfl rfl agg41 sz41 rfl (Pr.le_refl _)) (RVal.tmp rfl (Pr.le_refl _)) ?_)
 refine tup_le ⟨?_, ?_, trivial⟩
 · rw [← st_one]; exact Pr.le_refl _
 · exact int_eq (by rw [st_one])
end Go.Proofs.YtppeeogffbpcbaaGreat
